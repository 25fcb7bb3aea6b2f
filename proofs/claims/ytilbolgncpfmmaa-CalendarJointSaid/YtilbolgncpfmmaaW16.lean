/- Walks of Find and Next, for this seat. -/
import Derived.Test.YtilbolgncpfmmaaW15
namespace Go.Proofs.Ytilbolgncpfmmaa
open Go.RowKit Px

theorem chk_order {ps : List (Int × Int)} (h : sChk ps = 0) : (∀ j, j < ps.length → (getP ps j).1 < (getP ps j).2) ∧ ∀ j, j + 1 < ps.length → (getP ps j).2 = (getP ps (j + 1)).1 := by
  obtain ⟨h1, h2⟩ := sChk_len h
  rw [sChk, if_neg (by omega), if_neg (by omega)] at h
  have h3 := fe_zero _ _ h
  have key : ∀ j, j < ps.length → (getP ps j).1 < (getP ps j).2 ∧ (0 < j → (getP ps (j - 1)).2 = (getP ps j).1) := fun j hj => by
    have h4 := h3 j hj
    unfold errP at h4
    split at h4
    · omega
    · split at h4
      · omega
      · split at h4
        · omega
        · rename_i h5 h6
          refine ⟨by omega, fun h7 => ?_⟩
          rcases Decidable.em ((getP ps (j - 1)).2 = (getP ps j).1) with h8 | h8
          · exact h8
          · exact absurd ⟨h7, h8⟩ h6
  exact ⟨fun j hj => (key j hj).1, fun j hj => (key (j + 1) hj).2 (by omega)⟩
theorem chk_mono {ps : List (Int × Int)} (h : sChk ps = 0) {i j : Nat} (hij : i ≤ j) (hj : j < ps.length) : (getP ps i).1 ≤ (getP ps j).1 ∧ (getP ps i).2 ≤ (getP ps j).2 := by
  obtain ⟨h1, h2⟩ := chk_order h
  induction j with
  | zero => obtain rfl : i = 0 := by omega
            exact ⟨Int.le_refl _, Int.le_refl _⟩
  | succ j ih =>
    by_cases e : i = j + 1
    · subst e; exact ⟨Int.le_refl _, Int.le_refl _⟩
    · have h3 := ih (by omega) (by omega)
      have h4 := h1 j (by omega)
      have h5 := h2 j hj
      have h6 := h1 (j + 1) hj
      omega
theorem chk_first {ps : List (Int × Int)} (h : sChk ps = 0) (d : Int) : ∃ k, k ≤ ps.length ∧ (∀ i, i < k → fAf d (getP ps i) = false) ∧ ∀ i, k ≤ i → i < ps.length → fAf d (getP ps i) = true := by
  have e : ∀ n, n ≤ ps.length → ∃ k, k ≤ n ∧ (∀ i, i < k → fAf d (getP ps i) = false) ∧ ∀ i, k ≤ i → i < n → fAf d (getP ps i) = true := by
    intro n
    induction n with
    | zero => intro _; exact ⟨0, Nat.le_refl _, fun i hi => by omega, fun i _ hi => by omega⟩
    | succ n ih =>
      intro hn
      obtain ⟨k, h1, h2, h3⟩ := ih (by omega)
      cases hb : fAf d (getP ps n) with
      | false =>
        have hkn : k = n := by
          rcases Nat.lt_or_ge k n with h4 | h4
          · have h5 := h3 k (Nat.le_refl _) h4
            have h6 := (chk_mono h (i := k) (j := n) (by omega) (by omega)).2
            simp only [fAf, decide_eq_true_eq, decide_eq_false_iff_not] at h5 hb
            omega
          · omega
        subst hkn
        refine ⟨k + 1, by omega, fun i hi => ?_, fun i h1 h2 => by omega⟩
        by_cases e : i = k
        · subst e; exact hb
        · exact h2 i (by omega)
      | true =>
        refine ⟨k, by omega, h2, fun i h4 h5 => ?_⟩
        by_cases e : i = n
        · subst e; exact hb
        · exact h3 i h4 (by omega)
  exact e _ (Nat.le_refl _)

set_option maxRecDepth 20000 in
theorem p94 (q : Int × Int) (d : Int) : PCalls Try.prog 94 [.agg (dP q), .ref [dI d]] (.d (dB (fAf d q))) := by
  refine pcalls_of_pw Try.func94 rfl Try.ntmps94 Try.results94 (by simp) fun B w0 => ?_
  refine pw_ref 1 rfl ?_
  refine pw_seq ?_; refine pw_region ?_; refine yK (cs := [_, _]) rfl rfl ?_; refine yAd rfl ?_; refine yQ ?_; refine pw_seq ?_; refine pw_region ?_; refine yLr rfl rfl ?_; refine yFb rfl ?_; refine yLd rfl rfl rfl ?_
  refine yB rfl rfl rfl rfl ?_; refine yAd rfl ?_; refine yQ ?_; refine pw_ret ?_
  exact q_ret _ (.tmp rfl .nil) rfl
set_option maxRecDepth 20000 in
theorem p95 (q : Int × Int) (d : Int) : PCalls Try.prog 95 [.agg (dP q), .ref [dI d]] (.d (dB (fAf d q))) := by
  refine pcalls_of_pw Try.func95 rfl Try.ntmps95 Try.results95 (by simp) fun B w0 => ?_
  refine pw_ref 1 rfl ?_
  refine pw_seq ?_; refine pw_region ?_; refine yK (cs := [_, _]) rfl rfl ?_; refine yAd rfl ?_; refine yQ ?_; refine pw_seq ?_; refine pw_region ?_; refine yFb rfl ?_; refine yLd rfl rfl rfl ?_; refine yLr rfl rfl ?_
  refine yB rfl rfl rfl rfl ?_; refine yAd rfl ?_; refine yQ ?_; refine pw_ret ?_
  exact q_ret _ (.tmp rfl .nil) rfl
theorem fd_at {ps : List (Int × Int)} {d : Int} {k : Nat} (h : sChk ps = 0) (hk : k < ps.length) (h0 : ∀ i, i < k → fAf d (getP ps i) = false) (h1 : fAf d (getP ps k) = true) :
    fdR ps d = (if d < (getP ps k).1 then (0, false, 0) else ((k : Int), true, 0)) ∧ nxR ps d = ((getP ps k).2, true, 0) := by
  have ni : ∀ i, i < k → fIn d (getP ps i) = false := fun i hi => by
    have := h0 i hi
    simp only [fIn, fAf] at this ⊢
    simp [this]
  refine ⟨?_, by rw [nxR, if_pos h, fstP_at hk h0 h1]⟩
  by_cases hd : d < (getP ps k).1
  · rw [if_pos hd, fdR, if_pos h, fstP_no]
    intro j hj
    rcases Nat.lt_or_ge j k with h2 | h2
    · exact ni j h2
    · have := (chk_mono h h2 hj).1
      simp only [fIn]
      rw [decide_eq_false (by omega)]
      rfl
  · rw [if_neg hd, fdR, if_pos h, fstP_at hk ni (by simp only [fIn, fAf] at h1 ⊢; rw [h1, decide_eq_true (by omega)]; rfl)]
theorem fd_no {ps : List (Int × Int)} {d : Int} (h : sChk ps = 0) (h0 : ∀ i, i < ps.length → fAf d (getP ps i) = false) : fdR ps d = (0, false, 0) ∧ nxR ps d = (0, false, 0) := by
  refine ⟨?_, by rw [nxR, if_pos h, fstP_no h0]⟩
  rw [fdR, if_pos h, fstP_no]
  intro i hi
  have := h0 i hi
  simp only [fIn, fAf] at this ⊢
  simp [this]
set_option maxRecDepth 20000 in
set_option maxHeartbeats 1000000 in
theorem p52 (ps : List (Int × Int)) (d : Int) : PCalls Try.prog 52 [dPs ps, dI d] (dF (fdR ps d)) := by
  obtain ⟨c, hc⟩ : ∃ c, c = sChk ps := ⟨_, rfl⟩
  have c1 : PCalls Try.prog 44 [dPs ps] (.d (dI c)) := hc ▸ p44 ps
  refine pcalls_of_pw Try.func52 rfl Try.ntmps52 Try.results52 (by simp) fun B w0 => ?_
  refine pw_seq ?_; refine pw_region ?_; refine yK (cs := [_]) rfl rfl ?_; refine yAd rfl ?_; refine yAd rfl ?_; refine yAd rfl ?_; refine yQ ?_; refine pw_seq ?_; refine pw_seq ?_; refine pw_region ?_; refine yMd rfl ?_
  refine yC (c1) rfl rfl ?_; refine yB rfl rfl rfl rfl ?_; refine yQ ?_; refine q_then ?_
  refine pw_cond rfl (fun h => ?_) (fun h => ?_)
  · simp at h
    rw [show fdR ps d = (0, false, 1) by rw [fdR, if_neg (by rw [← hc]; exact h)]]
    refine pw_seq ?_; refine pw_region ?_; refine yAd rfl ?_; refine yAd rfl ?_; refine yAd rfl ?_; refine yQ ?_; refine pw_ret ?_; refine q_then_ret ?_
    exact q_ret _ (.tmp rfl (.tmp rfl (.tmp rfl .nil))) rfl
  simp at h
  subst h
  have hl := sChk_len hc.symm
  obtain ⟨k, hk, h0, h1⟩ := chk_first hc.symm d
  have c2 := p93 (fAf d) ps k (by omega) hk h0 h1
  have f1 : ∀ xs r, prB (fAf d) xs r → PCalls Try.prog 94 (xs ++ [[dI d]].map .ref) r := by rintro _ _ ⟨q, rfl, rfl⟩; exact p94 q d
  by_cases hkl : k < ps.length
  · rw [decide_eq_true hkl] at c2
    obtain ⟨⟨x, y⟩, hp⟩ : ∃ p, p = getP ps k := ⟨_, rfl⟩
    have gk := getP_at (ps := ps) (i := k) hkl
    have hfd := (fd_at hc.symm hkl h0 (h1 k (Nat.le_refl _) hkl)).1
    rw [← hp] at gk hfd
    have ek := ix dP ps k k (x, y) rfl gk
    refine pw_skip ?_; refine pw_seq ?_; refine pw_region ?_; refine yMd rfl ?_; refine yCm rfl ?_; refine yCf c2 (.d rfl (.fn inferInstance rfl rfl f1 .nil)) rfl ?_; refine yMp rfl ?_; refine yX rfl rfl ?_; refine yX rfl rfl ?_
    refine yAd rfl ?_; refine yAd rfl ?_; refine yQ ?_; refine pw_seq ?_; refine pw_seq ?_; refine pw_draw Try.mixed (by kernel_rfl) ?_; refine yMd rfl ?_; refine yU rfl rfl rfl ?_; refine yMd rfl ?_; refine yLd rfl rfl rfl ?_
    refine yMd rfl ?_; refine yMd rfl ?_; refine yW ek (by omega) rfl rfl ?_; refine yFr rfl rfl ?_; refine yLr rfl rfl ?_; refine yB rfl rfl rfl rfl ?_; refine yVd rfl rfl ?_; refine yQ ?_; refine q_then ?_
    by_cases hd : d < x
    · have hd' : decide (d < x) = true := decide_eq_true hd
      rw [if_pos hd] at hfd
      rw [hd', hfd]
      refine pw_ct rfl ?_; refine pw_seq ?_; refine pw_region ?_; refine yAd rfl ?_; refine yAd rfl ?_; refine yAd rfl ?_; refine yQ ?_; refine pw_ret ?_; refine q_then_ret ?_
      exact q_ret _ (.tmp rfl (.tmp rfl (.tmp rfl .nil))) rfl
    · have hd' : decide (d < x) = false := decide_eq_false hd
      rw [if_neg hd] at hfd
      rw [hd', hfd]
      refine pw_cf rfl ?_; refine pw_skip ?_; refine pw_seq ?_; refine pw_region ?_; refine yMd rfl ?_; refine yAd rfl ?_; refine yAd rfl ?_; refine yAd rfl ?_; refine yQ ?_; refine pw_ret ?_
      exact q_ret _ (.tmp rfl (.tmp rfl (.tmp rfl .nil))) rfl
  · rw [decide_eq_false hkl] at c2
    rw [(fd_no hc.symm fun i hi => h0 i (by omega)).1]
    refine pw_skip ?_; refine pw_seq ?_; refine pw_region ?_; refine yMd rfl ?_; refine yCm rfl ?_; refine yCf c2 (.d rfl (.fn inferInstance rfl rfl f1 .nil)) rfl ?_; refine yMp rfl ?_; refine yX rfl rfl ?_; refine yX rfl rfl ?_
    refine yAd rfl ?_; refine yAd rfl ?_; refine yQ ?_; refine pw_seq ?_; refine pw_seq ?_; refine pw_draw Try.mixed (by kernel_rfl) ?_; refine yMd rfl ?_; refine yU rfl rfl rfl ?_; refine yMd rfl ?_; refine yO rfl ?_; refine yO rfl ?_
    refine yO rfl ?_; refine yO rfl ?_; refine yO rfl ?_; refine yO rfl ?_; refine yO rfl ?_; refine yPd rfl rfl ?_; refine yQ ?_; refine pw_ct rfl ?_; refine pw_seq ?_; refine pw_region ?_; refine yAd rfl ?_; refine yAd rfl ?_
    refine yAd rfl ?_; refine yQ ?_; refine pw_ret ?_; refine q_then_ret ?_
    exact q_ret _ (.tmp rfl (.tmp rfl (.tmp rfl .nil))) rfl
set_option maxRecDepth 20000 in
set_option maxHeartbeats 1000000 in
theorem p54 (ps : List (Int × Int)) (d : Int) : PCalls Try.prog 54 [dPs ps, dI d] (dF (nxR ps d)) := by
  obtain ⟨c, hc⟩ : ∃ c, c = sChk ps := ⟨_, rfl⟩
  have c1 : PCalls Try.prog 44 [dPs ps] (.d (dI c)) := hc ▸ p44 ps
  refine pcalls_of_pw Try.func54 rfl Try.ntmps54 Try.results54 (by simp) fun B w0 => ?_
  refine pw_seq ?_; refine pw_region ?_; refine yK (cs := [_]) rfl rfl ?_; refine yAd rfl ?_; refine yAd rfl ?_; refine yAd rfl ?_; refine yQ ?_; refine pw_seq ?_; refine pw_seq ?_; refine pw_region ?_; refine yMd rfl ?_
  refine yC (c1) rfl rfl ?_; refine yB rfl rfl rfl rfl ?_; refine yQ ?_; refine q_then ?_
  refine pw_cond rfl (fun h => ?_) (fun h => ?_)
  · simp at h
    rw [show nxR ps d = (0, false, 1) by rw [nxR, if_neg (by rw [← hc]; exact h)]]
    refine pw_seq ?_; refine pw_region ?_; refine yAd rfl ?_; refine yAd rfl ?_; refine yAd rfl ?_; refine yQ ?_; refine pw_ret ?_; refine q_then_ret ?_
    exact q_ret _ (.tmp rfl (.tmp rfl (.tmp rfl .nil))) rfl
  simp at h
  subst h
  have hl := sChk_len hc.symm
  obtain ⟨k, hk, h0, h1⟩ := chk_first hc.symm d
  have c2 := p93 (fAf d) ps k (by omega) hk h0 h1
  have f1 : ∀ xs r, prB (fAf d) xs r → PCalls Try.prog 95 (xs ++ [[dI d]].map .ref) r := by rintro _ _ ⟨q, rfl, rfl⟩; exact p95 q d
  by_cases hkl : k < ps.length
  · rw [decide_eq_true hkl] at c2
    obtain ⟨⟨x, y⟩, hp⟩ : ∃ p, p = getP ps k := ⟨_, rfl⟩
    have gk := getP_at (ps := ps) (i := k) hkl
    have hfd := (fd_at hc.symm hkl h0 (h1 k (Nat.le_refl _) hkl)).2
    rw [← hp] at gk hfd
    have ek := ix dP ps k k (x, y) rfl gk
    rw [hfd]
    refine pw_skip ?_; refine pw_seq ?_; refine pw_region ?_; refine yMd rfl ?_; refine yCm rfl ?_; refine yCf c2 (.d rfl (.fn inferInstance rfl rfl f1 .nil)) rfl ?_; refine yMp rfl ?_; refine yX rfl rfl ?_; refine yX rfl rfl ?_
    refine yAd rfl ?_; refine yAd rfl ?_; refine yQ ?_; refine pw_seq ?_; refine pw_seq ?_; refine pw_region ?_; refine yMd rfl ?_; refine yU rfl rfl rfl ?_; refine yQ ?_; refine pw_cf rfl ?_; refine pw_skip ?_; refine pw_seq ?_
    refine pw_region ?_; refine yMd rfl ?_; refine yMd rfl ?_; refine yW ek (by omega) rfl rfl ?_; refine yFr rfl rfl ?_; refine yLr rfl rfl ?_; refine yAd rfl ?_; refine yAd rfl ?_; refine yAd rfl ?_; refine yQ ?_; refine pw_ret ?_
    exact q_ret _ (.tmp rfl (.tmp rfl (.tmp rfl .nil))) rfl
  · rw [decide_eq_false hkl] at c2
    rw [(fd_no hc.symm fun i hi => h0 i (by omega)).2]
    refine pw_skip ?_; refine pw_seq ?_; refine pw_region ?_; refine yMd rfl ?_; refine yCm rfl ?_; refine yCf c2 (.d rfl (.fn inferInstance rfl rfl f1 .nil)) rfl ?_; refine yMp rfl ?_; refine yX rfl rfl ?_; refine yX rfl rfl ?_
    refine yAd rfl ?_; refine yAd rfl ?_; refine yQ ?_; refine pw_seq ?_; refine pw_seq ?_; refine pw_region ?_; refine yMd rfl ?_; refine yU rfl rfl rfl ?_; refine yQ ?_; refine pw_ct rfl ?_; refine pw_seq ?_; refine pw_region ?_
    refine yAd rfl ?_; refine yAd rfl ?_; refine yAd rfl ?_; refine yQ ?_; refine pw_ret ?_; refine q_then_ret ?_
    exact q_ret _ (.tmp rfl (.tmp rfl (.tmp rfl .nil))) rfl
end Go.Proofs.Ytilbolgncpfmmaa
