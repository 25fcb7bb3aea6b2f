/- Walks of slices.Equal at []int and []Day, for this seat. -/
import Derived.Test.YtilbolgncpfmmaaW6
namespace Go.Proofs.Ytilbolgncpfmmaa
open Go.RowKit Px

theorem getZ_ext {xs ys : List Int} (hl : xs.length = ys.length) (h : ∀ j, j < xs.length → xs[j]?.getD 0 = ys[j]?.getD 0) : xs = ys := by
  apply List.ext_getElem?
  intro i
  by_cases hi : i < xs.length
  · have := h i hi
    rw [List.getElem?_eq_getElem hi, List.getElem?_eq_getElem (by omega)] at this ⊢
    exact congrArg some this
  · rw [List.getElem?_eq_none (by omega), List.getElem?_eq_none (by omega)]
theorem getZ_at {xs : List Int} {i : Nat} (h : i < xs.length) : xs[i]? = some (xs[i]?.getD 0) := by rw [List.getElem?_eq_getElem h]; rfl

set_option maxRecDepth 20000 in
theorem p59 (xs ys : List Int) (hb : xs.length ≤ 1000000) : PCalls Try.prog 59 [dIs xs, dIs ys] (.d (dB (xs == ys))) := by
  refine pcalls_of_pw Try.func59 rfl Try.ntmps59 Try.results59 (by simp) fun B w0 => ?_
  refine pw_seq ?_; refine pw_region ?_; refine yAd rfl ?_; refine yQ ?_; refine pw_seq ?_; refine pw_seq ?_; refine pw_region ?_; refine yMd rfl ?_; refine yN rfl ?_; refine yMd rfl ?_; refine yN rfl ?_; refine yB rfl rfl rfl rfl ?_
  refine yQ ?_; refine q_then ?_
  refine pw_cond rfl (fun h => ?_) (fun h => ?_)
  · simp at h
    rw [show (xs == ys) = false by rw [← Bool.not_eq_true]; intro e; exact h (by rw [eq_of_beq e])]
    refine pw_seq ?_; refine pw_region ?_; refine yAd rfl ?_; refine yQ ?_; refine pw_ret ?_; refine q_then_ret ?_
    exact q_ret _ (.tmp rfl .nil) rfl
  simp at h
  refine pw_skip ?_; refine pw_seq ?_; refine pw_seq ?_; refine pw_region ?_; refine yMd rfl ?_; refine yN rfl ?_; refine yMd rfl ?_; refine yQ ?_; refine pw_block ?_
  refine pw_loop (fun k : Nat => ⟨26, [(0, .d (dIs xs)), (1, .d (dIs ys)), (12, .d (dI xs.length)), (13, .d (dI k))], [], []⟩) (fun k => k ≤ xs.length ∧ ∀ j, j < k → xs[j]?.getD 0 = ys[j]?.getD 0) (fun k => xs.length - k) 0 ⟨Nat.zero_le _, fun j hj => by omega⟩ ⟨rfl, ⟨.refl _, .refl _, .of_eq ?_, .refl _, trivial⟩, trivial, trivial, rfl⟩ ?_
  · exact congrArg (fun n : Nat => SV.d (dI n)) (by simp)
  rintro k ⟨hk, hz⟩
  obtain ⟨x, hx⟩ : ∃ x, x = xs[k]?.getD 0 := ⟨_, rfl⟩
  obtain ⟨y, hy⟩ : ∃ y, y = ys[k]?.getD 0 := ⟨_, rfl⟩
  have hw1 := wrapI ((k : Int) + 1) (by omega)
  refine pw_seq ?_; refine pw_region ?_; refine yB rfl rfl rfl rfl ?_; refine yQ ?_; refine pw_seq ?_
  refine pw_cond rfl (fun h3 => ?_) (fun h3 => ?_)
  · simp at h3
    have e0 := ix dZ xs k k x rfl (hx ▸ getZ_at h3)
    have e1 := ix dZ ys k k y rfl (hy ▸ getZ_at (by omega))
    refine pw_skip ?_; refine pw_seq ?_; refine pw_block ?_; refine pw_seq ?_; refine pw_region ?_; refine yMd rfl ?_; refine yAd rfl ?_; refine yQ ?_; refine pw_seq ?_; refine pw_draw Try.mixed (by kernel_rfl) ?_; refine yMd rfl ?_
    refine yMd rfl ?_; refine yW e0 (by omega) rfl rfl ?_; refine yLr rfl rfl ?_; refine yMd rfl ?_; refine yMd rfl ?_; refine yW e1 (by omega) rfl rfl ?_; refine yLr rfl rfl ?_; refine yB rfl rfl rfl rfl ?_; refine yQ ?_
    refine q_then ?_
    refine pw_cond rfl (fun h4 => ?_) (fun h4 => ?_)
    · simp at h4
      rw [show (xs == ys) = false by rw [← Bool.not_eq_true]; intro e; have := eq_of_beq e; subst this; exact h4 (by rw [hx, hy])]
      refine pw_seq ?_; refine pw_region ?_; refine yAd rfl ?_; refine yQ ?_; refine pw_ret ?_; refine q_blk_ret ?_; refine q_then_ret ?_; refine q_then_ret ?_; refine q_blk_ret ?_; refine q_then_ret ?_
      exact q_ret _ (.tmp rfl .nil) rfl
    · simp at h4
      refine pw_skip ?_; refine pw_region ?_; refine yB rfl rfl rfl rfl ?_; refine yMd rfl ?_; refine yQ ?_; refine q_then ?_
      refine ⟨k + 1, ⟨by omega, fun j hj => ?_⟩, by omega, rfl, ⟨.refl _, .refl _, .refl _, .of_eq (congrArg (fun n => SV.d (dI n)) hw1), trivial⟩, trivial, trivial, rfl⟩
      rcases Nat.lt_succ_iff_lt_or_eq.1 hj with h1 | h1
      · exact hz j h1
      · rw [h1, ← hx, ← hy]; exact h4
  · simp at h3
    obtain rfl : k = xs.length := by omega
    rw [show (xs == ys) = true by rw [getZ_ext (by omega) hz]; simp]
    refine pw_exit ?_; refine pw_seq ?_; refine pw_region ?_; refine yAd rfl ?_; refine yQ ?_; refine pw_ret ?_
    exact q_ret _ (.tmp rfl .nil) rfl
set_option maxRecDepth 20000 in
theorem p67 (xs ys : List Int) (hb : xs.length ≤ 1000000) : PCalls Try.prog 67 [dIs xs, dIs ys] (.d (dB (xs == ys))) := by
  refine pcalls_of_pw Try.func67 rfl Try.ntmps67 Try.results67 (by simp) fun B w0 => ?_
  refine pw_seq ?_; refine pw_region ?_; refine yAd rfl ?_; refine yQ ?_; refine pw_seq ?_; refine pw_seq ?_; refine pw_region ?_; refine yMd rfl ?_; refine yN rfl ?_; refine yMd rfl ?_; refine yN rfl ?_; refine yB rfl rfl rfl rfl ?_
  refine yQ ?_; refine q_then ?_
  refine pw_cond rfl (fun h => ?_) (fun h => ?_)
  · simp at h
    rw [show (xs == ys) = false by rw [← Bool.not_eq_true]; intro e; exact h (by rw [eq_of_beq e])]
    refine pw_seq ?_; refine pw_region ?_; refine yAd rfl ?_; refine yQ ?_; refine pw_ret ?_; refine q_then_ret ?_
    exact q_ret _ (.tmp rfl .nil) rfl
  simp at h
  refine pw_skip ?_; refine pw_seq ?_; refine pw_seq ?_; refine pw_region ?_; refine yMd rfl ?_; refine yN rfl ?_; refine yMd rfl ?_; refine yQ ?_; refine pw_block ?_
  refine pw_loop (fun k : Nat => ⟨26, [(0, .d (dIs xs)), (1, .d (dIs ys)), (12, .d (dI xs.length)), (13, .d (dI k))], [], []⟩) (fun k => k ≤ xs.length ∧ ∀ j, j < k → xs[j]?.getD 0 = ys[j]?.getD 0) (fun k => xs.length - k) 0 ⟨Nat.zero_le _, fun j hj => by omega⟩ ⟨rfl, ⟨.refl _, .refl _, .of_eq ?_, .refl _, trivial⟩, trivial, trivial, rfl⟩ ?_
  · exact congrArg (fun n : Nat => SV.d (dI n)) (by simp)
  rintro k ⟨hk, hz⟩
  obtain ⟨x, hx⟩ : ∃ x, x = xs[k]?.getD 0 := ⟨_, rfl⟩
  obtain ⟨y, hy⟩ : ∃ y, y = ys[k]?.getD 0 := ⟨_, rfl⟩
  have hw1 := wrapI ((k : Int) + 1) (by omega)
  refine pw_seq ?_; refine pw_region ?_; refine yB rfl rfl rfl rfl ?_; refine yQ ?_; refine pw_seq ?_
  refine pw_cond rfl (fun h3 => ?_) (fun h3 => ?_)
  · simp at h3
    have e0 := ix dZ xs k k x rfl (hx ▸ getZ_at h3)
    have e1 := ix dZ ys k k y rfl (hy ▸ getZ_at (by omega))
    refine pw_skip ?_; refine pw_seq ?_; refine pw_block ?_; refine pw_seq ?_; refine pw_region ?_; refine yMd rfl ?_; refine yAd rfl ?_; refine yQ ?_; refine pw_seq ?_; refine pw_draw Try.mixed (by kernel_rfl) ?_; refine yMd rfl ?_
    refine yMd rfl ?_; refine yW e0 (by omega) rfl rfl ?_; refine yLr rfl rfl ?_; refine yMd rfl ?_; refine yMd rfl ?_; refine yW e1 (by omega) rfl rfl ?_; refine yLr rfl rfl ?_; refine yB rfl rfl rfl rfl ?_; refine yQ ?_
    refine q_then ?_
    refine pw_cond rfl (fun h4 => ?_) (fun h4 => ?_)
    · simp at h4
      rw [show (xs == ys) = false by rw [← Bool.not_eq_true]; intro e; have := eq_of_beq e; subst this; exact h4 (by rw [hx, hy])]
      refine pw_seq ?_; refine pw_region ?_; refine yAd rfl ?_; refine yQ ?_; refine pw_ret ?_; refine q_blk_ret ?_; refine q_then_ret ?_; refine q_then_ret ?_; refine q_blk_ret ?_; refine q_then_ret ?_
      exact q_ret _ (.tmp rfl .nil) rfl
    · simp at h4
      refine pw_skip ?_; refine pw_region ?_; refine yB rfl rfl rfl rfl ?_; refine yMd rfl ?_; refine yQ ?_; refine q_then ?_
      refine ⟨k + 1, ⟨by omega, fun j hj => ?_⟩, by omega, rfl, ⟨.refl _, .refl _, .refl _, .of_eq (congrArg (fun n => SV.d (dI n)) hw1), trivial⟩, trivial, trivial, rfl⟩
      rcases Nat.lt_succ_iff_lt_or_eq.1 hj with h1 | h1
      · exact hz j h1
      · rw [h1, ← hx, ← hy]; exact h4
  · simp at h3
    obtain rfl : k = xs.length := by omega
    rw [show (xs == ys) = true by rw [getZ_ext (by omega) hz]; simp]
    refine pw_exit ?_; refine pw_seq ?_; refine pw_region ?_; refine yAd rfl ?_; refine yQ ?_; refine pw_ret ?_
    exact q_ret _ (.tmp rfl .nil) rfl
end Go.Proofs.Ytilbolgncpfmmaa
