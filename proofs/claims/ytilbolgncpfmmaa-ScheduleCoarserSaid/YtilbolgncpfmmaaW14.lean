/- The walk of the law ScheduleCoarser, for this seat. -/
import Derived.Test.YtilbolgncpfmmaaW13
import Derived.Test.YtilbolgncpfmmaaPlainC
namespace Go.Proofs.Ytilbolgncpfmmaa
open Go.RowKit Px

theorem coarse_all {a b m s k : Int} (hm : 1 ≤ m) (hm4 : m ≤ 400) (hk : 1 ≤ k) (hk2 : k ≤ 12) : (bE a b m s ≠ 0 → bE a b (k * m) s = bE a b m s ∨ bE a b m s = 4) ∧
    (bE a b m s = 0 → bE a b (k * m) s = 0 ∧ (bL a b (k * m) s).length ≤ (bL a b m s).length ∧ (bL a b m s).length ≤ 400 ∧ ∀ j, j < (bL a b (k * m) s).length →
      (bL a b m s).any (fun q => q.2 == (getP (bL a b (k * m) s) j).2) = true ∧ (bL a b m s).any (fun q => q.1 == (getP (bL a b (k * m) s) j).1) = true) := by
  have k1 : 1 ≤ k * m := by have : 1 * 1 ≤ k * m := Int.mul_le_mul hk hm (by omega) (by omega); omega
  have k2 : k * m ≤ 4800 := by have : k * m ≤ 12 * 400 := Int.mul_le_mul hk2 hm4 (by omega) (by omega); omega
  have hsck : sck (sRight a b) (k * m) s = sck (sRight a b) m s := by
    unfold sck
    rw [if_neg (show ¬ (k * m < 1 ∨ 4800 < k * m) by omega), if_neg (show ¬ (m < 1 ∨ 4800 < m) by omega)]
  refine ⟨fun h => ?_, fun h => ?_⟩
  · by_cases h0 : sck (sRight a b) m s = 0
    · refine .inr ?_
      rw [bE, if_pos h0] at h ⊢
      split at h
      · rw [if_pos (by assumption)]
      · exact absurd rfl h
    · refine .inl ?_
      rw [bE, bE, hsck, if_neg h0, if_neg h0]
  · obtain ⟨B1, L1⟩ := blt_of h
    have hlen := inR_mul_len B1.st B1.va B1.vb B1.m1 hk
    have h0 : sck (sRight a b) m s = 0 := sck_of ⟨B1.va, B1.vb, B1.ab, B1.m1, B1.m2, B1.st⟩
    have f1 := B1.few
    have hf : bE a b (k * m) s = 0 := by rw [bE, hsck, if_pos h0, if_neg (by omega)]
    obtain ⟨B2, L2⟩ := blt_of hf
    have e1 := (blt_chk B1).2
    have e2 := (blt_chk B2).2
    rw [L1, L2]
    exact ⟨hf, by omega, by omega, fun j hj => coarse_mem B1 hk j hj⟩

set_option maxRecDepth 20000 in
set_option maxHeartbeats 4000000 in
theorem p11 (a b m s t : Int) (ht : 0 ≤ t ∧ t ≤ 255) : PCalls Try.prog 11 [.agg [dI a, dI b], dI m, dI s, .val (.int .u8 t)] (.d (dB true)) := by
  obtain ⟨k, hk⟩ : ∃ k, k = IntKind.i64.wrap (1 + (IntKind.i64.wrap t).tmod 12) := ⟨_, rfl⟩
  have hk12 : 1 ≤ k ∧ k ≤ 12 := by
    rw [wrapI t (by omega), Int.tmod_eq_emod_of_nonneg ht.1, wrapI _ (by omega)] at hk
    omega
  refine pcalls_of_pw Try.func11 rfl Try.ntmps11 Try.results11 (by simp) fun B w0 => ?_
  refine pw_seq ?_; refine pw_region ?_; refine yK (cs := [_, _]) rfl rfl ?_; refine yAd rfl ?_; refine yQ ?_; refine pw_seq ?_; refine pw_region ?_; refine yMd rfl ?_; refine yJ rfl ?_; refine yB rfl rfl rfl rfl ?_
  refine yB rfl rfl rfl rfl ?_; refine yAd rfl ?_; refine yQ ?_; refine pw_seq ?_; refine pw_seq ?_; refine pw_region ?_; refine yMd rfl ?_; refine yB rfl rfl rfl rfl ?_; refine yMd rfl ?_
  rw [← hk]
  by_cases hm : m < 1
  · have h1 : decide (m < 1) = true := decide_eq_true hm
    rw [h1]
    refine yO rfl ?_; refine yO rfl ?_; refine yPd rfl rfl ?_; refine yQ ?_; refine pw_ct rfl ?_; refine pw_seq ?_; refine pw_region ?_; refine yC (p43) rfl rfl ?_; refine yAd rfl ?_; refine yQ ?_; refine pw_ret ?_; refine q_then_ret ?_
    exact q_ret _ (.tmp rfl .nil) rfl
  have h1 : decide (m < 1) = false := decide_eq_false hm
  rw [h1]
  refine yMd rfl ?_; refine yB rfl rfl rfl rfl ?_; refine yVd rfl rfl ?_; refine yQ ?_; refine q_then ?_
  by_cases hm2 : m > 400
  · have h2 : decide (m > 400) = true := decide_eq_true hm2
    rw [h2]
    refine pw_ct rfl ?_; refine pw_seq ?_; refine pw_region ?_; refine yC (p43) rfl rfl ?_; refine yAd rfl ?_; refine yQ ?_; refine pw_ret ?_; refine q_then_ret ?_
    exact q_ret _ (.tmp rfl .nil) rfl
  have h2 : decide (m > 400) = false := decide_eq_false hm2
  rw [h2]
  obtain ⟨hE, hF⟩ := coarse_all (a := a) (b := b) (s := s) (m := m) (k := k) (by omega) (by omega) hk12.1 hk12.2
  have k3 : k * m ≤ 12 * 400 := Int.mul_le_mul hk12.2 (by omega) (by omega) (by omega)
  have k4 : 0 ≤ k * m := Int.mul_nonneg (by omega) (by omega)
  have k2 : k * m ≤ 4800 ∧ 0 ≤ k * m := ⟨by omega, k4⟩
  have c1 := p40 a b m s
  have c2 : PCalls Try.prog 40 [.agg (dP (a, b)), dI (IntKind.i64.wrap (k * m)), dI s] (.tup [dPs (bL a b (k * m) s), dI (bE a b (k * m) s)]) := by
    rw [wrapI _ (by omega)]; exact p40 a b (k * m) s
  obtain ⟨e, he⟩ : ∃ e, e = bE a b m s := ⟨_, rfl⟩
  obtain ⟨f, hf⟩ : ∃ e, e = bE a b (k * m) s := ⟨_, rfl⟩
  obtain ⟨l, hl⟩ : ∃ e, e = bL a b m s := ⟨_, rfl⟩
  obtain ⟨l', hl'⟩ : ∃ e, e = bL a b (k * m) s := ⟨_, rfl⟩
  rw [← he, ← hl] at c1
  rw [← hf, ← hl'] at c2
  rw [← he, ← hf] at hE hF
  rw [← hl, ← hl'] at hF
  clear he hf hl hl'
  refine pw_cf rfl ?_; refine pw_skip ?_; refine pw_seq ?_; refine pw_region ?_; refine yLa (ys := [_, _]) rfl rfl rfl rfl ?_; refine yMd rfl ?_; refine yMd rfl ?_; refine yC (c1) rfl rfl ?_; refine yMp rfl ?_; refine yX rfl rfl ?_
  refine yX rfl rfl ?_; refine yAd rfl ?_; refine yAd rfl ?_; refine yQ ?_; refine pw_seq ?_; refine pw_region ?_; refine yLa (ys := [_, _]) rfl rfl rfl rfl ?_; refine yMd rfl ?_; refine yMd rfl ?_; refine yB rfl rfl rfl rfl ?_
  refine yMd rfl ?_; refine yC (c2) rfl rfl ?_; refine yMp rfl ?_; refine yX rfl rfl ?_; refine yX rfl rfl ?_; refine yAd rfl ?_; refine yAd rfl ?_; refine yQ ?_; refine pw_seq ?_; refine pw_seq ?_; refine pw_region ?_
  refine yMd rfl ?_; refine yB rfl rfl rfl rfl ?_; refine yQ ?_; refine q_then ?_
  by_cases h0 : e = 0
  rotate_left
  · have h0' : (e != 0) = true := by simpa using h0
    rw [h0']
    refine pw_ct rfl ?_; refine pw_seq ?_; refine pw_region ?_; refine yMd rfl ?_; refine yMd rfl ?_; refine yB rfl rfl rfl rfl ?_; refine yMd rfl ?_
    by_cases h4 : f = e
    · have h4' : (f == e) = true := by simpa using h4
      rw [h4']
      refine yO rfl ?_; refine yO rfl ?_; refine yPd rfl rfl ?_; refine yMd rfl ?_; refine yC (p43) rfl rfl ?_; refine yPd rfl rfl ?_; refine yAd rfl ?_; refine yQ ?_; refine pw_ret ?_; refine q_then_ret ?_
      exact q_ret _ (.tmp rfl .nil) rfl
    · have h4' : (f == e) = false := by simpa using h4
      have h5 : e = 4 := (hE h0).resolve_left h4
      have h5' : (e == 4) = true := by rw [h5]; rfl
      rw [h4']
      refine yMd rfl ?_; refine yB rfl rfl rfl rfl ?_; refine yVd rfl rfl ?_; refine yMd rfl ?_
      rw [h5']
      refine yC (p43) rfl rfl ?_; refine yPd rfl rfl ?_; refine yAd rfl ?_; refine yQ ?_; refine pw_ret ?_; refine q_then_ret ?_
      exact q_ret _ (.tmp rfl .nil) rfl
  subst h0
  obtain ⟨rfl, hlen, hlen4, hany⟩ := hF rfl
  have t1 : decide (((l'.map dP).length : Int) > ((l.map dP).length : Int)) = false := by simp; omega
  refine pw_cf rfl ?_; refine pw_skip ?_; refine pw_seq ?_; refine pw_seq ?_; refine pw_region ?_; refine yMd rfl ?_; refine yB rfl rfl rfl rfl ?_; refine yMd rfl ?_; refine yMd rfl ?_; refine yN rfl ?_; refine yMd rfl ?_
  refine yN rfl ?_; refine yB rfl rfl rfl rfl ?_; refine yVd rfl rfl ?_; refine yQ ?_; refine q_then ?_
  rw [t1]
  refine pw_cf rfl ?_; refine pw_skip ?_; refine pw_seq ?_; refine pw_seq ?_; refine pw_region ?_; refine yMd rfl ?_; refine yN rfl ?_; refine yMd rfl ?_; refine yQ ?_; refine pw_block ?_
  refine pw_loop (fun j : Nat => ⟨82, [(10, .d (dPs l)), (64, .d (dPs l')), (65, .d (dI l'.length)), (66, .d (dI j))], [], []⟩) (fun j => j ≤ l'.length) (fun j => l'.length - j) 0 (Nat.zero_le _) ⟨rfl, ⟨.refl _, .refl _, .of_eq ?_, .refl _, trivial⟩, trivial, trivial, rfl⟩ ?_
  · exact congrArg (fun n : Nat => SV.d (dI n)) (by simp)
  intro j hj
  refine pw_seq ?_; refine pw_region ?_; refine yB rfl rfl rfl rfl ?_; refine yQ ?_; refine pw_seq ?_
  refine pw_cond rfl (fun h => ?_) (fun h => ?_)
  · simp at h
    obtain ⟨⟨x, y⟩, hp⟩ : ∃ p, p = getP l' j := ⟨_, rfl⟩
    have gj := getP_at (ps := l') (i := j) h
    rw [← hp] at gj
    have ej := ix dP l' j j (x, y) rfl gj
    have hw1 := wrapI ((j : Int) + 1) (by omega)
    obtain ⟨a1, a2⟩ := hany j h
    rw [← hp] at a1 a2
    have d1 : PCalls Try.prog 47 [dPs l, Px.dF Try.prog (prB fun q => q.2 == y)] (.d (dB true)) := by have := p47 l (fun q => q.2 == y) (by omega); rwa [a1] at this
    have d2 : PCalls Try.prog 47 [dPs l, Px.dF Try.prog (prB fun q => q.1 == x)] (.d (dB true)) := by have := p47 l (fun q => q.1 == x) (by omega); rwa [a2] at this
    have f1 : ∀ xs r, prB (fun q => q.2 == y) xs r → PCalls Try.prog 48 (xs ++ [dP (x, y)].map .ref) r := by rintro _ _ ⟨q, rfl, rfl⟩; exact p48 q (x, y)
    have f2 : ∀ xs r, prB (fun q => q.1 == x) xs r → PCalls Try.prog 49 (xs ++ [dP (x, y)].map .ref) r := by rintro _ _ ⟨q, rfl, rfl⟩; exact p49 q (x, y)
    refine pw_skip ?_; refine pw_seq ?_; refine pw_block ?_; refine pw_seq ?_; refine pw_region ?_; refine yW ej (by omega) rfl rfl ?_; refine yLs (ys := [_, _]) rfl rfl rfl ?_; refine yZ (cs := [_, _]) rfl rfl ?_
    refine yS (cs' := [_, _]) rfl rfl rfl rfl rfl ?_; refine yQ ?_; refine pw_seq ?_; refine pw_region ?_; refine yMd rfl ?_; refine yCm rfl ?_; refine yCf d1 (.d rfl (.fn inferInstance rfl rfl f1 .nil)) rfl ?_; refine yU rfl rfl rfl ?_
    refine yMd rfl ?_; refine yMd rfl ?_; refine yCm rfl ?_; refine yCf d2 (.d rfl (.fn inferInstance rfl rfl f2 .nil)) rfl ?_; refine yU rfl rfl rfl ?_; refine yVd rfl rfl ?_; refine yQ ?_; refine pw_cf rfl ?_; refine pw_skip ?_
    refine pw_region ?_; refine yB rfl rfl rfl rfl ?_; refine yMd rfl ?_; refine yQ ?_; refine q_then ?_
    refine ⟨j + 1, by omega, by omega, rfl, ⟨.refl _, .refl _, .refl _, .of_eq ?_, trivial⟩, trivial, trivial, rfl⟩
    exact congrArg (fun n => SV.d (dI n)) (by rw [hw1]; simp)
  · refine pw_exit ?_; refine pw_seq ?_; refine pw_region ?_; refine yC (p43) rfl rfl ?_; refine yAd rfl ?_; refine yQ ?_; refine pw_ret ?_
    exact q_ret _ (.tmp rfl .nil) rfl
theorem coarser_law (a b m s t : Int) (ht : 0 ≤ t ∧ t ≤ 255) (w : World) : Calls Try.prog 11 #[.agg #[.int .i64 a, .int .i64 b], .int .i64 m, .int .i64 s, .int .u8 t] w fun e w' => e = .returned (.bool true) ∧ Below w.heap.size w w' :=
  calls_of_true (p11 a b m s t ht) w [.agg #[.int .i64 a, .int .i64 b], .int .i64 m, .int .i64 s, .int .u8 t] rfl fun i v x hv hx => by
    match i, hv, hx with
    | 0, hv, hx => cases hv; cases hx; exact drep_per a b
    | 1, hv, hx => cases hv; cases hx; exact .val _ rfl
    | 2, hv, hx => cases hv; cases hx; exact .val _ rfl
    | 3, hv, hx => cases hv; cases hx; exact .val _ rfl
    | i + 4, hv, hx => simp at hv
end Go.Proofs.Ytilbolgncpfmmaa
