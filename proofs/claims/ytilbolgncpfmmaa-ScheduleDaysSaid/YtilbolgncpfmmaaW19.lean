/- The walk of the law ScheduleDays, for this seat. -/
import Derived.Test.YtilbolgncpfmmaaW17
import Derived.Test.YtilbolgncpfmmaaPlainF
namespace Go.Proofs.Ytilbolgncpfmmaa
open Go.RowKit Px

set_option maxRecDepth 20000 in
set_option maxHeartbeats 4000000 in
theorem p15 (ps : List (Int × Int)) (d : Int) : PCalls Try.prog 15 [dPs ps, dI d] (.d (dB true)) := by
  obtain ⟨gr, hgr⟩ : ∃ g, g = grtP ps := ⟨_, rfl⟩
  have c1 := p51 ps
  rw [← hgr] at c1
  have bN : ∀ (o1 o2 : Operand) (x y : Bool) (w : World), (eqGuard .neq 4 o1 o2 (.bool x) (.bool y) >>= fun _ => binOp .neq 4 (.bool x) (.bool y)).run Try.prog w = .ok (.bool (x != y)) w := fun o1 o2 x y w => by cases x <;> cases y <;> simp [eqGuard, binOp, go_sem, run_equal_bool w 4 _ _ Try.underlying4]
  refine pcalls_of_pw Try.func15 rfl Try.ntmps15 Try.results15 (by simp) fun B w0 => ?_
  cases gr
  rotate_left
  · refine pw_seq ?_; refine pw_region ?_; refine yAd rfl ?_; refine yQ ?_; refine pw_seq ?_; refine pw_seq ?_; refine pw_region ?_; refine yMd rfl ?_; refine yC (c1) rfl rfl ?_; refine yMd rfl ?_; refine yO rfl ?_; refine yO rfl ?_
    refine yO rfl ?_; refine yPd rfl rfl ?_; refine yMd rfl ?_; refine yO rfl ?_; refine yO rfl ?_; refine yO rfl ?_; refine yPd rfl rfl ?_; refine yQ ?_; refine pw_ct rfl ?_; refine pw_seq ?_; refine pw_region ?_
    refine yC (p43) rfl rfl ?_; refine yAd rfl ?_; refine yQ ?_; refine pw_ret ?_; refine q_then_ret ?_
    exact q_ret _ (.tmp rfl .nil) rfl
  refine pw_seq ?_; refine pw_region ?_; refine yAd rfl ?_; refine yQ ?_; refine pw_seq ?_; refine pw_seq ?_; refine pw_region ?_; refine yMd rfl ?_; refine yC (c1) rfl rfl ?_; refine yMd rfl ?_; refine yMd rfl ?_; refine yN rfl ?_
  refine yB rfl rfl rfl rfl ?_; refine yVd rfl rfl ?_; refine yMd rfl ?_
  by_cases hl : ps.length > 60
  · have h1 : decide (((ps.map dP).length : Int) > 60) = true := by simp; omega
    rw [h1]
    refine yO rfl ?_; refine yO rfl ?_; refine yO rfl ?_; refine yPd rfl rfl ?_; refine yQ ?_; refine pw_ct rfl ?_; refine pw_seq ?_; refine pw_region ?_; refine yC (p43) rfl rfl ?_; refine yAd rfl ?_; refine yQ ?_; refine pw_ret ?_
    refine q_then_ret ?_
    exact q_ret _ (.tmp rfl .nil) rfl
  have h1 : decide (((ps.map dP).length : Int) > 60) = false := by simp; omega
  rw [h1]
  obtain ⟨c, hc⟩ : ∃ f, f = sChk ps := ⟨_, rfl⟩
  have d9 := p44 ps
  rw [← hc] at d9
  refine yMd rfl ?_; refine yC (d9) rfl rfl ?_; refine yB rfl rfl rfl rfl ?_; refine yVd rfl rfl ?_; refine yQ ?_; refine q_then ?_
  by_cases hc0 : c = 0
  rotate_left
  · have hc1 : (c != 0) = true := by simpa using hc0
    rw [hc1]
    refine pw_ct rfl ?_; refine pw_seq ?_; refine pw_region ?_; refine yC (p43) rfl rfl ?_; refine yAd rfl ?_; refine yQ ?_; refine pw_ret ?_; refine q_then_ret ?_
    exact q_ret _ (.tmp rfl .nil) rfl
  subst hc0
  obtain ⟨⟨f1, f2, f3⟩, hf⟩ : ∃ f, f = fdR ps d := ⟨_, rfl⟩
  obtain ⟨⟨n1, n2, n3⟩, hn⟩ : ∃ f, f = nxR ps d := ⟨_, rfl⟩
  have d1 := p52 ps d
  have d3 := p54 ps d
  rw [← hf] at d1
  rw [← hn] at d3
  obtain ⟨rfl, rfl, hin, hf2, hcn, hf1, hn1, hn2⟩ := days_all hc.symm hf hn
  have hlen := sChk_len hc.symm
  refine pw_cf rfl ?_; refine pw_skip ?_; refine pw_seq ?_; refine pw_region ?_; refine yMd rfl ?_; refine yMd rfl ?_; refine yC (d1) rfl rfl ?_; refine yMp rfl ?_; refine yX rfl rfl ?_; refine yX rfl rfl ?_; refine yX rfl rfl ?_
  refine yAd rfl ?_; refine yAd rfl ?_; refine yAd rfl ?_; refine yQ ?_; refine pw_seq ?_; refine pw_region ?_; refine yMd rfl ?_; refine yMd rfl ?_; refine yC (d3) rfl rfl ?_; refine yMp rfl ?_; refine yX rfl rfl ?_
  refine yX rfl rfl ?_; refine yX rfl rfl ?_; refine yAd rfl ?_; refine yAd rfl ?_; refine yAd rfl ?_; refine yQ ?_; refine pw_seq ?_; refine pw_region ?_; refine yAd rfl ?_; refine yQ ?_; refine pw_seq ?_; refine pw_seq ?_
  refine pw_region ?_; refine yMd rfl ?_; refine yN rfl ?_; refine yMd rfl ?_; refine yQ ?_; refine pw_block ?_
  refine pw_loop (fun j : Nat => ⟨156, [(0, .d (dPs ps)), (1, .d (dI d)), (5, .d (dI f1)), (6, .d (dB f2)), (7, .d (dI 0)), (8, .d (dI n1)), (9, .d (dB n2)), (10, .d (dI 0)), (11, .d (dI (cnI d ps j))), (42, .d (dPs ps)), (43, .d (dI ps.length)), (44, .d (dI j))], [], []⟩) (fun j => j ≤ ps.length) (fun j => ps.length - j) 0 (Nat.zero_le _) ⟨rfl, ⟨.refl _, .refl _, .refl _, .refl _, .refl _, .refl _, .refl _, .refl _, .refl _, .refl _, .of_eq ?_, .refl _, trivial⟩, trivial, trivial, rfl⟩ ?_
  · exact congrArg (fun n : Nat => SV.d (dI n)) (by simp)
  intro j hj
  have hcj := cnI_le d ps j
  obtain ⟨cj, hcj2⟩ : ∃ c, c = cnI d ps j := ⟨_, rfl⟩
  rw [← hcj2] at hcj ⊢
  have hcs : cnI d ps (j + 1) = cj + (if fIn d (getP ps j) then 1 else 0) := by rw [cnI, ← hcj2]
  refine pw_seq ?_; refine pw_region ?_; refine yB rfl rfl rfl rfl ?_; refine yQ ?_; refine pw_seq ?_
  refine pw_cond rfl (fun h => ?_) (fun h => ?_)
  · simp at h
    have hij := hin j h
    obtain ⟨⟨x, y⟩, hp⟩ : ∃ p, p = getP ps j := ⟨_, rfl⟩
    have gj := getP_at (ps := ps) (i := j) h
    rw [← hp] at gj hij hcs
    have ej := ix dP ps j j (x, y) rfl gj
    have hw1 := wrapI ((j : Int) + 1) (by omega)
    have hw2 := wrapI (cj + 1) (by omega)
    refine pw_skip ?_; refine pw_seq ?_; refine pw_block ?_; refine pw_seq ?_; refine pw_region ?_; refine yMd rfl ?_; refine yW ej (by omega) rfl rfl ?_; refine yLs (ys := [_, _]) rfl rfl rfl ?_; refine yZ (cs := [_, _]) rfl rfl ?_
    refine yAd rfl ?_; refine yS (cs' := [_, _]) rfl rfl rfl rfl rfl ?_; refine yQ ?_; refine pw_seq ?_; refine pw_region ?_; refine yFb rfl ?_; refine yLd rfl rfl rfl ?_; refine yMd rfl ?_; refine yB rfl rfl rfl rfl ?_
    refine yMd rfl ?_
    cases b1 : decide (x ≤ d)
    · have hno : fIn d (x, y) = false := by simp only [fIn, b1, Bool.false_and]
      rw [hno] at hcs
      refine yO rfl ?_; refine yO rfl ?_; refine yO rfl ?_; refine yO rfl ?_; refine yVd rfl rfl ?_; refine yQ ?_; refine pw_cf rfl ?_; refine pw_skip ?_; refine pw_region ?_; refine yB rfl rfl rfl rfl ?_; refine yMd rfl ?_; refine yQ ?_
      refine q_then ?_
      refine ⟨j + 1, by omega, by omega, rfl, ⟨.refl _, .refl _, .refl _, .refl _, .refl _, .refl _, .refl _, .refl _, .of_eq ?_, .refl _, .refl _, .of_eq ?_, trivial⟩, trivial, trivial, rfl⟩
      · exact congrArg (fun n => SV.d (dI n)) (by rw [hcs]; simp)
      · exact congrArg (fun n => SV.d (dI n)) (by rw [hw1]; simp)
    · refine yMd rfl ?_; refine yFb rfl ?_; refine yLd rfl rfl rfl ?_; refine yB rfl rfl rfl rfl ?_; refine yPd rfl rfl ?_; refine yQ ?_; refine q_then ?_
      cases b2 : decide (d < y)
      · have hno : fIn d (x, y) = false := by simp only [fIn, b2, Bool.and_false]
        rw [hno] at hcs
        refine pw_cf rfl ?_; refine pw_skip ?_; refine pw_region ?_; refine yB rfl rfl rfl rfl ?_; refine yMd rfl ?_; refine yQ ?_; refine q_then ?_
        refine ⟨j + 1, by omega, by omega, rfl, ⟨.refl _, .refl _, .refl _, .refl _, .refl _, .refl _, .refl _, .refl _, .of_eq ?_, .refl _, .refl _, .of_eq ?_, trivial⟩, trivial, trivial, rfl⟩
        · exact congrArg (fun n => SV.d (dI n)) (by rw [hcs]; simp)
        · exact congrArg (fun n => SV.d (dI n)) (by rw [hw1]; simp)
      · have hyes : fIn d (x, y) = true := by simp only [fIn, b1, b2, Bool.and_self]
        rw [hyes] at hcs
        obtain ⟨rfl, rfl, rfl, rfl⟩ := hij hyes
        have e1 : ((j : Int) != (j : Int)) = false := by simp
        have e2 : (n1 != n1) = false := by simp
        refine pw_ct rfl ?_; refine pw_seq ?_; refine pw_region ?_; refine yMd rfl ?_; refine yB rfl rfl rfl rfl ?_; refine yAd rfl ?_; refine yQ ?_; refine pw_seq ?_; refine pw_region ?_; refine yMd rfl ?_; refine yU rfl rfl rfl ?_
        refine yMd rfl ?_; refine yMd rfl ?_; refine yMd rfl ?_; refine yB rfl rfl rfl rfl ?_; refine yVd rfl rfl ?_; refine yMd rfl ?_
        rw [e1]
        refine yMd rfl ?_; refine yU rfl rfl rfl ?_; refine yVd rfl rfl ?_; refine yMd rfl ?_; refine yMd rfl ?_; refine yFb rfl ?_; refine yLd rfl rfl rfl ?_; refine yB rfl rfl rfl rfl ?_; refine yVd rfl rfl ?_; refine yQ ?_
        refine q_then ?_
        rw [e2]
        refine pw_cf rfl ?_; refine pw_skip ?_; refine pw_region ?_; refine yB rfl rfl rfl rfl ?_; refine yMd rfl ?_; refine yQ ?_; refine q_then ?_
        refine ⟨j + 1, by omega, by omega, rfl, ⟨.refl _, .refl _, .refl _, .refl _, .refl _, .refl _, .refl _, .refl _, .of_eq ?_, .refl _, .refl _, .of_eq ?_, trivial⟩, trivial, trivial, rfl⟩
        · exact congrArg (fun n => SV.d (dI n)) (by rw [hcs, hw2]; simp)
        · exact congrArg (fun n => SV.d (dI n)) (by rw [hw1]; simp)
  · simp at h
    obtain rfl : j = ps.length := by omega
    rw [← hcj2] at hcn
    obtain ⟨⟨x, y⟩, hp⟩ : ∃ p, p = getP ps 0 := ⟨_, rfl⟩
    obtain ⟨⟨x', y'⟩, hp'⟩ : ∃ p, p = getP ps (ps.length - 1) := ⟨_, rfl⟩
    have g0 := getP_at (ps := ps) (i := 0) (by omega)
    have g1 := getP_at (ps := ps) (i := ps.length - 1) (by omega)
    rw [← hp] at g0 hf2 hn1 hn2
    rw [← hp'] at g1 hf2
    have e0 := ix dP ps 0 0 (x, y) rfl g0
    have hw : IntKind.i64.wrap (((ps.map dP).length : Int) - 1) = ((ps.length - 1 : Nat) : Int) := by rw [List.length_map, wrapI _ (by omega)]; omega
    have e1 := ix dP ps (IntKind.i64.wrap (((ps.map dP).length : Int) - 1)) (ps.length - 1) (x', y') hw g1
    refine pw_exit ?_; refine pw_seq ?_; refine pw_region ?_; refine yMd rfl ?_; refine yW e0 (by omega) rfl rfl ?_; refine yFr rfl rfl ?_; refine yLr rfl rfl ?_; refine yMd rfl ?_; refine yB rfl rfl rfl rfl ?_; refine yMd rfl ?_
    cases b1 : decide (x ≤ d)
    · rw [b1, Bool.false_and] at hf2
      subst hf2
      obtain rfl := hf1 rfl
      have hcj0 : cj = 0 := hcn
      subst hcj0
      have hdx : d < x := by have := of_decide_eq_false b1; omega
      have b3 : decide (d < x) = true := decide_eq_true hdx
      obtain ⟨rfl, rfl⟩ := hn1 hdx
      have e2 : (n1 == n1) = true := by simp
      refine yO rfl ?_; refine yO rfl ?_; refine yO rfl ?_; refine yO rfl ?_; refine yO rfl ?_; refine yO rfl ?_; refine yO rfl ?_; refine yO rfl ?_; refine yO rfl ?_; refine yVd rfl rfl ?_; refine yAd rfl ?_; refine yQ ?_
      refine pw_seq ?_; refine pw_seq ?_; refine pw_region ?_; refine yMd rfl ?_; refine yB rfl rfl rfl rfl ?_; refine yMd rfl ?_; refine yMd rfl ?_; refine yB rfl rfl rfl rfl ?_; refine yVd rfl rfl ?_; refine yMd rfl ?_
      refine yMd rfl ?_; refine yMd rfl ?_; refine yBr (vx := .bool false) (vy := .bool false) (u := .bool false) (bN _ _ false false) rfl rfl rfl ?_; refine yVd rfl rfl ?_; refine yMd rfl ?_; refine yMd rfl ?_; refine yMd rfl ?_
      refine yO rfl ?_; refine yO rfl ?_; refine yVd rfl rfl ?_; refine yVd rfl rfl ?_; refine yMd rfl ?_; refine yMd rfl ?_; refine yU rfl rfl rfl ?_; refine yMd rfl ?_; refine yMd rfl ?_; refine yB rfl rfl rfl rfl ?_; refine yMd rfl ?_
      refine yMd rfl ?_; refine yB rfl rfl rfl rfl ?_; refine yVd rfl rfl ?_; refine yPd rfl rfl ?_; refine yVd rfl rfl ?_; refine yQ ?_; refine pw_cf rfl ?_; refine pw_skip ?_; refine pw_seq ?_; refine pw_seq ?_; refine pw_region ?_
      refine yMd rfl ?_; refine yMd rfl ?_; refine yW e0 (by omega) rfl rfl ?_; refine yFr rfl rfl ?_; refine yLr rfl rfl ?_; refine yB rfl rfl rfl rfl ?_; refine yQ ?_; refine q_then ?_
      rw [b3]
      refine pw_ct rfl ?_; refine pw_seq ?_; refine pw_region ?_; refine yMd rfl ?_; refine yMd rfl ?_; refine yMd rfl ?_; refine yMd rfl ?_; refine yW e0 (by omega) rfl rfl ?_; refine yFr rfl rfl ?_; refine yLr rfl rfl ?_
      refine yB rfl rfl rfl rfl ?_; refine yPd rfl rfl ?_; refine yMd rfl ?_
      rw [e2]
      refine yC (p43) rfl rfl ?_; refine yPd rfl rfl ?_; refine yAd rfl ?_; refine yQ ?_; refine pw_ret ?_; refine q_then_ret ?_
      exact q_ret _ (.tmp rfl .nil) rfl
    · have hdx : ¬ d < x := by have := of_decide_eq_true b1; omega
      have b3 : decide (d < x) = false := decide_eq_false hdx
      have i1 : ¬ IntKind.i64.wrap (((ps.map dP).length : Int) - 1) < 0 := by rw [hw]; omega
      refine yMd rfl ?_; refine yMd rfl ?_; refine yMd rfl ?_; refine yN rfl ?_; refine yB rfl rfl rfl rfl ?_; refine yW e1 (by omega) rfl rfl ?_; refine yFr rfl rfl ?_; refine yLr rfl rfl ?_; refine yB rfl rfl rfl rfl ?_
      refine yPd rfl rfl ?_; refine yAd rfl ?_; refine yQ ?_; refine pw_seq ?_; refine pw_seq ?_; refine pw_region ?_; refine yMd rfl ?_; refine yB rfl rfl rfl rfl ?_; refine yMd rfl ?_; refine yMd rfl ?_; refine yB rfl rfl rfl rfl ?_
      refine yVd rfl rfl ?_; refine yMd rfl ?_; refine yMd rfl ?_; refine yMd rfl ?_
      cases b2 : decide (d < y')
      · rw [b1, b2, Bool.true_and] at hf2
        subst hf2
        obtain rfl := hf1 rfl
        have hcj0 : cj = 0 := hcn
        subst hcj0
        obtain ⟨rfl, rfl⟩ := hn2 hdx rfl
        refine yBr (vx := .bool false) (vy := .bool false) (u := .bool false) (bN _ _ false false) rfl rfl rfl ?_; refine yVd rfl rfl ?_; refine yMd rfl ?_; refine yMd rfl ?_; refine yMd rfl ?_; refine yO rfl ?_; refine yO rfl ?_
        refine yVd rfl rfl ?_; refine yVd rfl rfl ?_; refine yMd rfl ?_; refine yMd rfl ?_; refine yU rfl rfl rfl ?_; refine yMd rfl ?_; refine yMd rfl ?_; refine yB rfl rfl rfl rfl ?_; refine yMd rfl ?_; refine yMd rfl ?_
        refine yB rfl rfl rfl rfl ?_; refine yVd rfl rfl ?_; refine yPd rfl rfl ?_; refine yVd rfl rfl ?_; refine yQ ?_; refine pw_cf rfl ?_; refine pw_skip ?_; refine pw_seq ?_; refine pw_seq ?_; refine pw_region ?_; refine yMd rfl ?_
        refine yMd rfl ?_; refine yW e0 (by omega) rfl rfl ?_; refine yFr rfl rfl ?_; refine yLr rfl rfl ?_; refine yB rfl rfl rfl rfl ?_; refine yQ ?_; refine q_then ?_
        rw [b3]
        refine pw_cf rfl ?_; refine pw_skip ?_; refine pw_seq ?_; refine pw_region ?_; refine yMd rfl ?_; refine yMd rfl ?_; refine yMd rfl ?_; refine yU rfl rfl rfl ?_; refine yMd rfl ?_; refine yMd rfl ?_; refine yB rfl rfl rfl rfl ?_
        refine yPd rfl rfl ?_; refine yVd rfl rfl ?_; refine yMd rfl ?_; refine yC (p43) rfl rfl ?_; refine yPd rfl rfl ?_; refine yAd rfl ?_; refine yQ ?_; refine pw_ret ?_
        exact q_ret _ (.tmp rfl .nil) rfl
      · rw [b1, b2, Bool.true_and] at hf2
        subst hf2
        have hcj0 : cj = 1 := hcn
        subst hcj0
        refine yBr (vx := .bool true) (vy := .bool true) (u := .bool false) (bN _ _ true true) rfl rfl rfl ?_; refine yVd rfl rfl ?_; refine yMd rfl ?_; refine yMd rfl ?_; refine yMd rfl ?_; refine yMd rfl ?_; refine yB rfl rfl rfl rfl ?_
        refine yPd rfl rfl ?_; refine yVd rfl rfl ?_; refine yMd rfl ?_; refine yMd rfl ?_; refine yU rfl rfl rfl ?_; refine yMd rfl ?_; refine yO rfl ?_; refine yO rfl ?_; refine yO rfl ?_; refine yO rfl ?_; refine yO rfl ?_
        refine yO rfl ?_; refine yVd rfl rfl ?_; refine yVd rfl rfl ?_; refine yQ ?_; refine pw_cf rfl ?_; refine pw_skip ?_; refine pw_seq ?_; refine pw_seq ?_; refine pw_region ?_; refine yMd rfl ?_; refine yMd rfl ?_
        refine yW e0 (by omega) rfl rfl ?_; refine yFr rfl rfl ?_; refine yLr rfl rfl ?_; refine yB rfl rfl rfl rfl ?_; refine yQ ?_; refine q_then ?_
        rw [b3]
        refine pw_cf rfl ?_; refine pw_skip ?_; refine pw_seq ?_; refine pw_region ?_; refine yMd rfl ?_; refine yMd rfl ?_; refine yO rfl ?_; refine yO rfl ?_; refine yO rfl ?_; refine yO rfl ?_; refine yO rfl ?_; refine yO rfl ?_
        refine yPd rfl rfl ?_; refine yMd rfl ?_; refine yC (p43) rfl rfl ?_; refine yPd rfl rfl ?_; refine yAd rfl ?_; refine yQ ?_; refine pw_ret ?_
        exact q_ret _ (.tmp rfl .nil) rfl
theorem days_law (ps : List (Int × Int)) (d : Int) (w : World) (v : Value) (hv : DRep (fun _ _ => True) w v (dPs ps)) : Calls Try.prog 15 #[v, .int .i64 d] w fun e w' => e = .returned (.bool true) ∧ Below w.heap.size w w' :=
  calls_of_true (p15 ps d) w [v, .int .i64 d] rfl fun i v' x hv' hx => by
    match i, hv', hx with
    | 0, hv', hx => cases hv'; cases hx; exact hv
    | 1, hv', hx => cases hv'; cases hx; exact .val _ rfl
    | i + 2, hv', hx => simp at hv'
end Go.Proofs.Ytilbolgncpfmmaa
