/- The walk of the law ScheduleCovers, for this seat. -/
import Derived.Test.YtilbolgncpfmmaaW9
import Derived.Test.YtilbolgncpfmmaaPlainV
namespace Go.Proofs.Ytilbolgncpfmmaa
open Go.RowKit Px

theorem irG_one {ps : List (Int × Int)} {m : Int} {n j0 : Nat} (hj : j0 < n) (h : ∀ i, i < n → i ≠ j0 → sReg (getP ps i).1 (getP ps i).2 m = true) : irG ps m n = if sReg (getP ps j0).1 (getP ps j0).2 m = true then [] else [(j0 : Int)] := by
  have key : ∀ k, k ≤ n → irG ps m k = if j0 < k ∧ sReg (getP ps j0).1 (getP ps j0).2 m = false then [(j0 : Int)] else [] := by
    intro k
    induction k with
    | zero => intro _; rw [if_neg (by omega)]; rfl
    | succ k ih =>
      intro hk
      rw [irG_succ, ih (by omega)]
      by_cases e : k = j0
      · subst e
        rw [if_neg (by omega)]
        cases hr : sReg (getP ps k).1 (getP ps k).2 m <;> simp
      · rw [h k (by omega) e, if_pos rfl, List.append_nil]
        by_cases hlt : j0 < k
        · simp [hlt, show j0 < k + 1 by omega]
        · simp [hlt, show ¬ j0 < k + 1 by omega]
  rw [key n (Nat.le_refl _)]
  cases hr : sReg (getP ps j0).1 (getP ps j0).2 m <;> simp [hj]
/-- the place of the stub -/
def stubAt (a b m s : Int) : Nat := if s = 1 then 0 else (inR a b m s m).length
theorem irL_blt {a b m s : Int} (h : Blt a b m s) : irE (prs (eL a b m s)) m = 0 ∧ irL (prs (eL a b m s)) m = if sReg (getP (prs (eL a b m s)) (stubAt a b m s)).1 (getP (prs (eL a b m s)) (stubAt a b m s)).2 m = true then [] else [(stubAt a b m s : Int)] := by
  obtain ⟨h1, h2⟩ := blt_chk h
  have he : irE (prs (eL a b m s)) m = 0 := by
    rw [irE, h1]
    have := h.m1
    have := h.m2
    simp [sck]; omega
  refine ⟨he, ?_⟩
  have hl := eL_length (a := a) (b := b) (m := m) h.st
  rw [irL, if_pos he, h2]
  refine irG_one (by unfold stubAt; split <;> omega) fun i hi hne => ?_
  rw [prs_getP _ i (by omega)]
  refine blt_reg h i (by omega) ⟨fun e => ?_, fun e => ?_⟩
  · unfold stubAt at hne; rw [if_pos e] at hne; exact hne
  · unfold stubAt at hne; rw [if_neg (by omega)] at hne; exact hne

set_option maxRecDepth 20000 in
set_option maxHeartbeats 4000000 in
theorem p10 (a b m s : Int) : PCalls Try.prog 10 [.agg [dI a, dI b], dI m, dI s] (.d (dB true)) := by
  obtain ⟨e, he⟩ : ∃ e, e = bE a b m s := ⟨_, rfl⟩
  have c1 := p40 a b m s
  rw [← he] at c1
  by_cases h0 : e = 0
  rotate_left
  · rw [bL_no (he ▸ h0)] at c1
    have hb : (e != 0) = true := by simpa using h0
    refine pcalls_of_pw Try.func10 rfl Try.ntmps10 Try.results10 (by simp) fun B w0 => ?_
    refine pw_seq ?_; refine pw_region ?_; refine yK (cs := [_, _]) rfl rfl ?_; refine yAd rfl ?_; refine yQ ?_; refine pw_seq ?_; refine pw_region ?_; refine yLa (ys := [_, _]) rfl rfl rfl rfl ?_; refine yMd rfl ?_; refine yMd rfl ?_
    refine yC (c1) rfl rfl ?_; refine yMp rfl ?_; refine yX rfl rfl ?_; refine yX rfl rfl ?_; refine yAd rfl ?_; refine yAd rfl ?_; refine yQ ?_; refine pw_seq ?_; refine pw_seq ?_; refine pw_region ?_; refine yMd rfl ?_
    refine yB rfl rfl rfl rfl ?_; refine yQ ?_; refine q_then ?_
    rw [hb]
    refine pw_ct rfl ?_; refine pw_seq ?_; refine pw_region ?_; refine yMd rfl ?_; refine yN rfl ?_; refine yB rfl rfl rfl rfl ?_; refine yMd rfl ?_; refine yC (p43) rfl rfl ?_; refine yPd rfl rfl ?_; refine yAd rfl ?_; refine yQ ?_
    refine pw_ret ?_; refine q_then_ret ?_
    exact q_ret _ (.tmp rfl .nil) rfl
  subst h0
  obtain ⟨hB, hL⟩ := blt_of he.symm
  rw [hL] at c1
  obtain ⟨hck, hpl⟩ := blt_chk hB
  obtain ⟨hiE, hiL⟩ := irL_blt hB
  have hel := eL_length (a := a) (b := b) (m := m) hB.st
  have hf := hB.few
  obtain ⟨N, hN⟩ : ∃ N, N = (inR a b m s m).length := ⟨_, rfl⟩
  have hg0 := prs_getP (eL a b m s) 0 (by omega)
  have hgN := prs_getP (eL a b m s) N (by omega)
  rw [eL_zero hB.st] at hg0
  have hlast := eL_last (a := a) (b := b) (m := m) hB.st
  rw [← hN] at hlast hpl hel
  rw [hlast] at hgN
  obtain ⟨y0, hy0⟩ : ∃ y, y = (eL a b m s)[0 + 1]?.getD 0 := ⟨_, rfl⟩
  obtain ⟨xN, hxN⟩ : ∃ y, y = (eL a b m s)[N]?.getD 0 := ⟨_, rfl⟩
  rw [← hy0] at hg0
  rw [← hxN] at hgN
  have c2 : PCalls Try.prog 44 [dPs (prs (eL a b m s))] (.d (dI 0)) := by have := p44 (prs (eL a b m s)); rwa [hck] at this
  have c3 := p45 (prs (eL a b m s)) m
  rw [hiE, hiL] at c3
  have g0 := getP_at (ps := prs (eL a b m s)) (i := 0) (by omega)
  have gN := getP_at (ps := prs (eL a b m s)) (i := N) (by omega)
  rw [hg0] at g0
  rw [hgN] at gN
  have hst1 : s = 1 → sReg a y0 m = false → amE y0 (-m) = 0 → amV y0 (-m) < a := fun h1 => by subst h1; rw [hy0]; exact stub_one hB
  have hst2 : s = 2 → sReg xN b m = false → amE xN m = 0 → b < amV xN m := fun h1 => by subst h1; rw [hxN, hN]; exact stub_two hB
  have hsat : getP (prs (eL a b m s)) (stubAt a b m s) = if s = 1 then (a, y0) else (xN, b) := by
    unfold stubAt
    by_cases h1 : s = 1
    · rw [if_pos h1, if_pos h1, hg0]
    · rw [if_neg h1, if_neg h1, ← hN, hgN]
  have hsn : stubAt a b m s = if s = 1 then 0 else N := by unfold stubAt; rw [hN]
  rw [hsat, hsn] at c3
  have hm1 := hB.m1
  have hm2 := hB.m2
  have hss := hB.st
  obtain ⟨ps, hps⟩ : ∃ ps, ps = prs (eL a b m s) := ⟨_, rfl⟩
  rw [← hps] at c1 c2 c3 g0 gN hpl
  clear hps hsat hsn hiL hiE hck hL hg0 hgN hy0 hxN hlast hel
  have e0 := ix dP ps 0 0 (a, y0) rfl g0
  have hwn : IntKind.i64.wrap (((ps.map dP).length : Int) - 1) = N := by rw [wrapI _ (by simp; omega)]; simp; omega
  have eN := ix dP ps (IntKind.i64.wrap (((ps.map dP).length : Int) - 1)) N (xN, b) hwn gN
  have hn0 : (((ps.map dP).length : Int) == 0) = false := by simp; intro h; rw [h] at hpl; simp at hpl
  have haa : (a != a) = false := by simp
  have hbb : (b != b) = false := by simp
  refine pcalls_of_pw Try.func10 rfl Try.ntmps10 Try.results10 (by simp) fun B w0 => ?_
  refine pw_seq ?_; refine pw_region ?_; refine yK (cs := [_, _]) rfl rfl ?_; refine yAd rfl ?_; refine yQ ?_; refine pw_seq ?_; refine pw_region ?_; refine yLa (ys := [_, _]) rfl rfl rfl rfl ?_; refine yMd rfl ?_; refine yMd rfl ?_
  refine yC (c1) rfl rfl ?_; refine yMp rfl ?_; refine yX rfl rfl ?_; refine yX rfl rfl ?_; refine yAd rfl ?_; refine yAd rfl ?_; refine yQ ?_; refine pw_seq ?_; refine pw_seq ?_; refine pw_region ?_; refine yMd rfl ?_
  refine yB rfl rfl rfl rfl ?_; refine yQ ?_; refine pw_cf rfl ?_; refine pw_skip ?_; refine pw_seq ?_; refine pw_region ?_; refine yMd rfl ?_; refine yN rfl ?_; refine yAd rfl ?_; refine yQ ?_; refine pw_seq ?_; refine pw_seq ?_
  refine pw_draw Try.mixed (by kernel_rfl) ?_; refine yMd rfl ?_; refine yC (c2) rfl rfl ?_; refine yB rfl rfl rfl rfl ?_; refine yMd rfl ?_; refine yMd rfl ?_; refine yB rfl rfl rfl rfl ?_; refine yVd rfl rfl ?_; refine yMd rfl ?_
  rw [hn0]
  refine yMd rfl ?_; refine yW e0 (by omega) rfl rfl ?_; refine yFr rfl rfl ?_; refine yLr rfl rfl ?_; refine yFb rfl ?_; refine yLd rfl rfl rfl ?_; refine yB rfl rfl rfl rfl ?_; refine yVd rfl rfl ?_; refine yMd rfl ?_
  rw [haa]
  refine yMd rfl ?_; refine yMd rfl ?_; refine yB rfl rfl rfl rfl ?_; refine yW eN (by omega) rfl rfl ?_; refine yFr rfl rfl ?_; refine yLr rfl rfl ?_; refine yFb rfl ?_; refine yLd rfl rfl rfl ?_; refine yB rfl rfl rfl rfl ?_
  refine yVd rfl rfl ?_; refine yQ ?_; refine q_then ?_
  rw [hbb]
  rcases hss with rfl | rfl
  · rw [if_pos rfl, if_pos rfl] at c3
    simp only at c3
    obtain ⟨r, hr⟩ : ∃ r, r = sReg a y0 m := ⟨_, rfl⟩
    rw [← hr] at c3
    cases r
    · rw [if_neg (by simp)] at c3
      obtain ⟨v, hv⟩ : ∃ v, v = amV y0 (-m) := ⟨_, rfl⟩
      obtain ⟨f, hf⟩ : ∃ f, f = amE y0 (-m) := ⟨_, rfl⟩
      have c4 : PCalls Try.prog 46 [dI y0, dI (IntKind.i64.wrap (0 - m))] (.tup [dI v, dI f]) := by rw [wneg (by omega) hm2, hv, hf]; exact p46 y0 (-m) (by omega) (by omega)
      have z0 := ix dZ [((0 : Nat) : Int)] 0 0 ((0 : Nat) : Int) rfl rfl
      refine pw_cf rfl ?_; refine pw_skip ?_; refine pw_seq ?_; refine pw_region ?_; refine yMd rfl ?_; refine yMd rfl ?_; refine yC (c3) rfl rfl ?_; refine yMp rfl ?_; refine yX rfl rfl ?_; refine yX rfl rfl ?_; refine yAd rfl ?_
      refine yAd rfl ?_; refine yQ ?_; refine pw_seq ?_; refine pw_seq ?_; refine pw_region ?_; refine yMd rfl ?_; refine yB rfl rfl rfl rfl ?_; refine yMd rfl ?_; refine yMd rfl ?_; refine yN rfl ?_; refine yB rfl rfl rfl rfl ?_
      refine yVd rfl rfl ?_; refine yQ ?_; refine pw_cf rfl ?_; refine pw_skip ?_; refine pw_seq ?_; refine pw_seq ?_; refine pw_region ?_; refine yMd rfl ?_; refine yN rfl ?_; refine yB rfl rfl rfl rfl ?_; refine yQ ?_
      refine pw_cf rfl ?_; refine pw_skip ?_; refine pw_seq ?_; refine pw_region ?_; refine yMd rfl ?_; refine yB rfl rfl rfl rfl ?_; refine yAd rfl ?_; refine yQ ?_; refine pw_seq ?_; refine pw_seq ?_; refine pw_region ?_
      refine yMd rfl ?_; refine yMd rfl ?_; refine yMd rfl ?_; refine yW z0 (by omega) rfl rfl ?_; refine yLr rfl rfl ?_; refine yB rfl rfl rfl rfl ?_; refine yPd rfl rfl ?_; refine yMd rfl ?_; refine yMd rfl ?_; refine yU rfl rfl rfl ?_
      refine yMd rfl ?_; refine yO rfl ?_; refine yO rfl ?_; refine yO rfl ?_; refine yO rfl ?_; refine yO rfl ?_; refine yO rfl ?_; refine yVd rfl rfl ?_; refine yVd rfl rfl ?_; refine yQ ?_; refine pw_cf rfl ?_; refine pw_skip ?_
      refine pw_seq ?_; refine pw_seq ?_; refine pw_region ?_; refine yMd rfl ?_; refine yQ ?_; refine pw_ct rfl ?_; refine pw_seq ?_; refine pw_region ?_; refine yMd rfl ?_; refine yW e0 (by omega) rfl rfl ?_; refine yFr rfl rfl ?_
      refine yLr rfl rfl ?_; refine yMd rfl ?_; refine yU rfl rfl rfl ?_; refine yC (c4) rfl rfl ?_; refine yMp rfl ?_; refine yX rfl rfl ?_; refine yX rfl rfl ?_; refine yAd rfl ?_; refine yAd rfl ?_; refine yQ ?_; refine pw_seq ?_
      refine pw_region ?_; refine yMd rfl ?_; refine yB rfl rfl rfl rfl ?_; refine yMd rfl ?_
      cases h5 : (f != 0)
      · refine yMd rfl ?_; refine yMd rfl ?_; refine yW e0 (by omega) rfl rfl ?_; refine yFr rfl rfl ?_; refine yLr rfl rfl ?_; refine yB rfl rfl rfl rfl ?_; refine yVd rfl rfl ?_; refine yMd rfl ?_
        have hlt : decide (v < a) = true := by
          simp at h5
          rw [hv]
          exact decide_eq_true (hst1 rfl hr.symm (by rw [← hf, h5]))
        rw [hlt]
        refine yC (p43) rfl rfl ?_; refine yPd rfl rfl ?_; refine yAd rfl ?_; refine yQ ?_; refine pw_ret ?_; refine q_then_ret ?_
        exact q_ret _ (.tmp rfl .nil) rfl
      · refine yO rfl ?_; refine yO rfl ?_; refine yO rfl ?_; refine yO rfl ?_; refine yO rfl ?_; refine yO rfl ?_; refine yPd rfl rfl ?_; refine yMd rfl ?_; refine yC (p43) rfl rfl ?_; refine yPd rfl rfl ?_; refine yAd rfl ?_; refine yQ ?_
        refine pw_ret ?_; refine q_then_ret ?_
        exact q_ret _ (.tmp rfl .nil) rfl
    · rw [if_pos rfl] at c3
      refine pw_cf rfl ?_; refine pw_skip ?_; refine pw_seq ?_; refine pw_region ?_; refine yMd rfl ?_; refine yMd rfl ?_; refine yC (c3) rfl rfl ?_; refine yMp rfl ?_; refine yX rfl rfl ?_; refine yX rfl rfl ?_; refine yAd rfl ?_
      refine yAd rfl ?_; refine yQ ?_; refine pw_seq ?_; refine pw_seq ?_; refine pw_region ?_; refine yMd rfl ?_; refine yB rfl rfl rfl rfl ?_; refine yMd rfl ?_; refine yMd rfl ?_; refine yN rfl ?_; refine yB rfl rfl rfl rfl ?_
      refine yVd rfl rfl ?_; refine yQ ?_; refine pw_cf rfl ?_; refine pw_skip ?_; refine pw_seq ?_; refine pw_seq ?_; refine pw_region ?_; refine yMd rfl ?_; refine yN rfl ?_; refine yB rfl rfl rfl rfl ?_; refine yQ ?_
      refine pw_ct rfl ?_; refine pw_seq ?_; refine pw_region ?_; refine yC (p43) rfl rfl ?_; refine yAd rfl ?_; refine yQ ?_; refine pw_ret ?_; refine q_then_ret ?_
      exact q_ret _ (.tmp rfl .nil) rfl
  · rw [show (if (2 : Int) = 1 then (a, y0) else (xN, b)) = (xN, b) from rfl, show (if (2 : Int) = 1 then 0 else N) = N from rfl] at c3
    simp only at c3
    obtain ⟨r, hr⟩ : ∃ r, r = sReg xN b m := ⟨_, rfl⟩
    rw [← hr] at c3
    cases r
    · rw [if_neg (by simp)] at c3
      obtain ⟨v, hv⟩ : ∃ v, v = amV xN m := ⟨_, rfl⟩
      obtain ⟨f, hf⟩ : ∃ f, f = amE xN m := ⟨_, rfl⟩
      have c4 : PCalls Try.prog 46 [dI xN, dI m] (.tup [dI v, dI f]) := by rw [hv, hf]; exact p46 xN m (by omega) (by omega)
      have z0 := ix dZ [(N : Int)] 0 0 (N : Int) rfl rfl
      have hNN : ((N : Int) != IntKind.i64.wrap (((ps.map dP).length : Int) - 1)) = false := by rw [hwn]; simp
      refine pw_cf rfl ?_; refine pw_skip ?_; refine pw_seq ?_; refine pw_region ?_; refine yMd rfl ?_; refine yMd rfl ?_; refine yC (c3) rfl rfl ?_; refine yMp rfl ?_; refine yX rfl rfl ?_; refine yX rfl rfl ?_; refine yAd rfl ?_
      refine yAd rfl ?_; refine yQ ?_; refine pw_seq ?_; refine pw_seq ?_; refine pw_region ?_; refine yMd rfl ?_; refine yB rfl rfl rfl rfl ?_; refine yMd rfl ?_; refine yMd rfl ?_; refine yN rfl ?_; refine yB rfl rfl rfl rfl ?_
      refine yVd rfl rfl ?_; refine yQ ?_; refine pw_cf rfl ?_; refine pw_skip ?_; refine pw_seq ?_; refine pw_seq ?_; refine pw_region ?_; refine yMd rfl ?_; refine yN rfl ?_; refine yB rfl rfl rfl rfl ?_; refine yQ ?_
      refine pw_cf rfl ?_; refine pw_skip ?_; refine pw_seq ?_; refine pw_region ?_; refine yMd rfl ?_; refine yB rfl rfl rfl rfl ?_; refine yAd rfl ?_; refine yQ ?_; refine pw_seq ?_; refine pw_seq ?_; refine pw_region ?_
      refine yMd rfl ?_; refine yMd rfl ?_; refine yO rfl ?_; refine yO rfl ?_; refine yO rfl ?_; refine yO rfl ?_; refine yVd rfl rfl ?_; refine yMd rfl ?_; refine yMd rfl ?_; refine yU rfl rfl rfl ?_; refine yMd rfl ?_
      refine yMd rfl ?_; refine yW z0 (by omega) rfl rfl ?_; refine yLr rfl rfl ?_; refine yMd rfl ?_; refine yB rfl rfl rfl rfl ?_; refine yB rfl rfl rfl rfl ?_; refine yPd rfl rfl ?_; refine yVd rfl rfl ?_; refine yQ ?_
      refine q_then ?_
      rw [hNN]
      refine pw_cf rfl ?_; refine pw_skip ?_; refine pw_seq ?_; refine pw_seq ?_; refine pw_region ?_; refine yMd rfl ?_; refine yQ ?_; refine pw_cf rfl ?_; refine pw_skip ?_; refine pw_seq ?_; refine pw_region ?_; refine yMd rfl ?_
      refine yMd rfl ?_; refine yB rfl rfl rfl rfl ?_; refine yW eN (by omega) rfl rfl ?_; refine yFr rfl rfl ?_; refine yLr rfl rfl ?_; refine yMd rfl ?_; refine yC (c4) rfl rfl ?_; refine yMp rfl ?_; refine yX rfl rfl ?_
      refine yX rfl rfl ?_; refine yAd rfl ?_; refine yAd rfl ?_; refine yQ ?_; refine pw_seq ?_; refine pw_region ?_; refine yMd rfl ?_; refine yB rfl rfl rfl rfl ?_; refine yMd rfl ?_
      cases h5 : (f != 0)
      · refine yMd rfl ?_; refine yMd rfl ?_; refine yMd rfl ?_; refine yB rfl rfl rfl rfl ?_; refine yW eN (by omega) rfl rfl ?_; refine yFr rfl rfl ?_; refine yLr rfl rfl ?_; refine yB rfl rfl rfl rfl ?_; refine yVd rfl rfl ?_
        refine yMd rfl ?_
        have hlt : decide (v > b) = true := by
          simp at h5
          rw [hv]
          exact decide_eq_true (hst2 rfl hr.symm (by rw [← hf, h5]))
        rw [hlt]
        refine yC (p43) rfl rfl ?_; refine yPd rfl rfl ?_; refine yAd rfl ?_; refine yQ ?_; refine pw_ret ?_
        exact q_ret _ (.tmp rfl .nil) rfl
      · refine yO rfl ?_; refine yO rfl ?_; refine yO rfl ?_; refine yO rfl ?_; refine yO rfl ?_; refine yO rfl ?_; refine yO rfl ?_; refine yO rfl ?_; refine yPd rfl rfl ?_; refine yMd rfl ?_; refine yC (p43) rfl rfl ?_
        refine yPd rfl rfl ?_; refine yAd rfl ?_; refine yQ ?_; refine pw_ret ?_
        exact q_ret _ (.tmp rfl .nil) rfl
    · rw [if_pos rfl] at c3
      refine pw_cf rfl ?_; refine pw_skip ?_; refine pw_seq ?_; refine pw_region ?_; refine yMd rfl ?_; refine yMd rfl ?_; refine yC (c3) rfl rfl ?_; refine yMp rfl ?_; refine yX rfl rfl ?_; refine yX rfl rfl ?_; refine yAd rfl ?_
      refine yAd rfl ?_; refine yQ ?_; refine pw_seq ?_; refine pw_seq ?_; refine pw_region ?_; refine yMd rfl ?_; refine yB rfl rfl rfl rfl ?_; refine yMd rfl ?_; refine yMd rfl ?_; refine yN rfl ?_; refine yB rfl rfl rfl rfl ?_
      refine yVd rfl rfl ?_; refine yQ ?_; refine pw_cf rfl ?_; refine pw_skip ?_; refine pw_seq ?_; refine pw_seq ?_; refine pw_region ?_; refine yMd rfl ?_; refine yN rfl ?_; refine yB rfl rfl rfl rfl ?_; refine yQ ?_
      refine pw_ct rfl ?_; refine pw_seq ?_; refine pw_region ?_; refine yC (p43) rfl rfl ?_; refine yAd rfl ?_; refine yQ ?_; refine pw_ret ?_; refine q_then_ret ?_
      exact q_ret _ (.tmp rfl .nil) rfl
theorem covers_any (a b m s : Int) (w : World) : Calls Try.prog 10 #[.agg #[.int .i64 a, .int .i64 b], .int .i64 m, .int .i64 s] w fun e w' => e = .returned (.bool true) ∧ Below w.heap.size w w' :=
  calls_of_true (p10 a b m s) w [.agg #[.int .i64 a, .int .i64 b], .int .i64 m, .int .i64 s] rfl fun i v x hv hx => by
    match i, hv, hx with
    | 0, hv, hx => cases hv; cases hx; exact drep_per a b
    | 1, hv, hx => cases hv; cases hx; exact .val _ rfl
    | 2, hv, hx => cases hv; cases hx; exact .val _ rfl
    | i + 3, hv, hx => simp at hv
end Go.Proofs.Ytilbolgncpfmmaa
