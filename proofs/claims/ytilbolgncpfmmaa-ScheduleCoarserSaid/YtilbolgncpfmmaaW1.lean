/- The walks of the reference's CheckPeriod and Check, for this seat. -/
import Derived.Test.YtilbolgncpfmmaaAd
namespace Go.Proofs.Ytilbolgncpfmmaa
open Go.RowKit Px

def cpE (a b : Int) : Int := if (vB a && vB b) = false then 13 else if b ≤ a then 8 else 0
theorem errP_cp (ps : List (Int × Int)) (k : Nat) : errP ps k = if cpE (getP ps k).1 (getP ps k).2 = 0 then (if 0 < k ∧ (getP ps (k - 1)).2 ≠ (getP ps k).1 then 9 else 0) else cpE (getP ps k).1 (getP ps k).2 := by
  unfold errP cpE
  split
  · simp
  · split
    · simp
    · simp
theorem dayE_ne (a : Int) : (dayE a != 0) = !vB a := by unfold dayE; cases vB a <;> rfl

set_option maxRecDepth 20000 in
theorem p86 (a b : Int) : PCalls Try.prog 86 [.agg (dP (a, b))] (.d (dI (cpE a b))) := by
  refine pcalls_of_pw Try.func86 rfl Try.ntmps86 Try.results86 (by simp) fun B w0 => ?_
  refine pw_seq ?_; refine pw_region ?_; refine yK (cs := [_, _]) rfl rfl ?_; refine yAd rfl ?_; refine yQ ?_; refine pw_seq ?_; refine pw_seq ?_; refine pw_region ?_; refine yFb rfl ?_; refine yLd rfl rfl rfl ?_
  refine yC (p115 _) rfl rfl ?_; refine yB rfl rfl rfl rfl ?_; refine yMd rfl ?_
  cases h1 : (dayE a != 0)
  · refine yFb rfl ?_; refine yLd rfl rfl rfl ?_; refine yC (p115 _) rfl rfl ?_; refine yB rfl rfl rfl rfl ?_; refine yVd rfl rfl ?_; refine yQ ?_; refine q_then ?_
    cases h2 : (dayE b != 0)
    · refine pw_cf rfl ?_; refine pw_skip ?_; refine pw_seq ?_; refine pw_seq ?_; refine pw_region ?_; refine yFb rfl ?_; refine yLd rfl rfl rfl ?_; refine yFb rfl ?_; refine yLd rfl rfl rfl ?_; refine yB rfl rfl rfl rfl ?_; refine yQ ?_
      refine q_then ?_
      refine pw_cond rfl (fun h => ?_) (fun h => ?_)
      all_goals
        first
          | (refine pw_seq ?_; refine pw_region ?_; refine yAd rfl ?_; refine yQ ?_; refine pw_ret ?_; refine q_then_ret ?_)
          | (refine pw_skip ?_; refine pw_seq ?_; refine pw_region ?_; refine yAd rfl ?_; refine yQ ?_; refine pw_ret ?_)
        refine q_ret _ (.tmp rfl .nil) (congrArg (fun n => SV.d (dI n)) ?_)
        rw [dayE_ne] at h1 h2
        simp [cpE] at h1 h2 h ⊢
        simp [h1, h2]
        omega
    · refine pw_ct rfl ?_; refine pw_seq ?_; refine pw_region ?_; refine yAd rfl ?_; refine yQ ?_; refine pw_ret ?_; refine q_then_ret ?_
      refine q_ret _ (.tmp rfl .nil) (congrArg (fun n => SV.d (dI n)) ?_)
      rw [dayE_ne] at h1 h2
      simp [cpE] at h1 h2 ⊢
      simp [h2]
  · refine yO rfl ?_; refine yO rfl ?_; refine yO rfl ?_; refine yO rfl ?_; refine yPd rfl rfl ?_; refine yQ ?_; refine pw_ct rfl ?_; refine pw_seq ?_; refine pw_region ?_; refine yAd rfl ?_; refine yQ ?_; refine pw_ret ?_
    refine q_then_ret ?_
    refine q_ret _ (.tmp rfl .nil) (congrArg (fun n => SV.d (dI n)) ?_)
    rw [dayE_ne] at h1
    simp [cpE] at h1 ⊢
    simp [h1]

set_option maxRecDepth 20000 in
theorem p58 (ps : List (Int × Int)) : PCalls Try.prog 58 [dPs ps] (.d (dI (sChk ps))) := by
  refine pcalls_of_pw Try.func58 rfl Try.ntmps58 Try.results58 (by simp) fun B w0 => ?_
  refine pw_seq ?_; refine pw_region ?_; refine yAd rfl ?_; refine yQ ?_; refine pw_seq ?_; refine pw_seq ?_; refine pw_region ?_; refine yMd rfl ?_; refine yN rfl ?_; refine yB rfl rfl rfl rfl ?_; refine yQ ?_; refine q_then ?_
  refine pw_cond rfl (fun h => ?_) (fun h => ?_)
  · refine pw_seq ?_; refine pw_region ?_; refine yAd rfl ?_; refine yQ ?_; refine pw_ret ?_; refine q_then_ret ?_
    refine q_ret _ (.tmp rfl .nil) (congrArg (fun n => SV.d (dI n)) ?_)
    simp at h
    simp [sChk, h]
  refine pw_skip ?_; refine pw_seq ?_; refine pw_seq ?_; refine pw_region ?_; refine yMd rfl ?_; refine yN rfl ?_; refine yB rfl rfl rfl rfl ?_; refine yQ ?_; refine q_then ?_
  refine pw_cond rfl (fun h2 => ?_) (fun h2 => ?_)
  · refine pw_seq ?_; refine pw_region ?_; refine yAd rfl ?_; refine yQ ?_; refine pw_ret ?_; refine q_then_ret ?_
    refine q_ret _ (.tmp rfl .nil) (congrArg (fun n => SV.d (dI n)) ?_)
    simp at h h2
    rw [sChk, if_neg (by simpa using h), if_pos (by omega)]
  refine pw_skip ?_; refine pw_seq ?_; refine pw_seq ?_; refine pw_region ?_; refine yAd rfl ?_; refine yQ ?_; refine pw_block ?_
  refine pw_loop (fun k : Nat => ⟨41, [(0, .d (dPs ps)), (3, .d (dI k))], [], []⟩) (fun k => k ≤ ps.length ∧ ∀ j, j < k → errP ps j = 0) (fun k => ps.length - k) 0 ⟨by omega, fun j hj => by omega⟩ ⟨rfl, ⟨.refl _, .refl _, trivial⟩, trivial, trivial, rfl⟩ ?_
  rintro k ⟨hk, hz⟩
  simp at h h2
  have hw1 := wrapI ((k : Int) + 1) (by omega)
  refine pw_seq ?_; refine pw_seq ?_; refine pw_region ?_; refine yMd rfl ?_; refine yMd rfl ?_; refine yN rfl ?_; refine yB rfl rfl rfl rfl ?_; refine yQ ?_; refine q_then ?_
  refine pw_cond rfl (fun h3 => ?_) (fun h3 => ?_)
  · simp at h3
    obtain ⟨⟨x, y⟩, hp⟩ : ∃ p, p = getP ps k := ⟨_, rfl⟩
    obtain ⟨⟨x', y'⟩, hp'⟩ : ∃ p, p = getP ps (k - 1) := ⟨_, rfl⟩
    have e0 := ix dP ps k k (x, y) rfl (hp ▸ getP_at h3)
    have hcp := errP_cp ps k
    rw [← hp, ← hp'] at hcp
    simp only at hcp
    refine pw_skip ?_; refine pw_seq ?_; refine pw_block ?_; refine pw_seq ?_; refine pw_seq ?_; refine pw_region ?_; refine yMd rfl ?_; refine yMd rfl ?_; refine yW e0 (by omega) rfl rfl ?_; refine yLs (ys := [_, _]) rfl rfl rfl ?_
    refine yC (p86 _ _) rfl rfl ?_; refine yAd rfl ?_; refine yQ ?_; refine pw_seq ?_; refine pw_region ?_; refine yMd rfl ?_; refine yB rfl rfl rfl rfl ?_; refine yQ ?_; refine q_then ?_
    refine pw_cond rfl (fun h4 => ?_) (fun h4 => ?_)
    · refine pw_seq ?_; refine pw_region ?_; refine yMd rfl ?_; refine yAd rfl ?_; refine yQ ?_; refine pw_ret ?_; refine q_then_ret ?_; refine q_blk_ret ?_; refine q_then_ret ?_; refine q_then_ret ?_; refine q_blk_ret ?_
      refine q_then_ret ?_
      refine q_ret _ (.tmp rfl .nil) (congrArg (fun n => SV.d (dI n)) ?_)
      simp at h4
      exact sChk_at (by omega) hz h3 (by rw [hcp, if_neg h4]) h4
    simp at h4
    refine pw_skip ?_; refine pw_seq ?_; refine pw_draw Try.mixed (by kernel_rfl) ?_; refine yMd rfl ?_; refine yB rfl rfl rfl rfl ?_; refine yMd rfl ?_
    cases h5 : decide ((k : Int) > 0)
    · refine yO rfl ?_; refine yO rfl ?_; refine yO rfl ?_; refine yO rfl ?_; refine yO rfl ?_; refine yO rfl ?_; refine yO rfl ?_; refine yO rfl ?_; refine yO rfl ?_; refine yO rfl ?_; refine yO rfl ?_; refine yO rfl ?_
      refine yVd rfl rfl ?_; refine yQ ?_; refine pw_cf rfl ?_; refine pw_skip ?_; refine pw_region ?_; refine yMd rfl ?_; refine yB rfl rfl rfl rfl ?_; refine yAd rfl ?_; refine yQ ?_; refine q_then ?_
      refine ⟨k + 1, ⟨by omega, all_snoc hz (by rw [hcp, if_pos h4, if_neg (by simp at h5; omega)])⟩, by omega, rfl, ⟨.refl _, .of_eq ?_, trivial⟩, trivial, trivial, rfl⟩
      exact congrArg (fun n => SV.d (dI n)) hw1
    · simp at h5
      have hw2 := wrapI ((k : Int) - 1) (by omega)
      have e1 := ix dP ps (IntKind.i64.wrap ((k : Int) - 1)) (k - 1) (x', y') (by rw [hw2]; omega) (hp' ▸ getP_at (by omega))
      refine yMd rfl ?_; refine yMd rfl ?_; refine yW e0 (by omega) rfl rfl ?_; refine yFr rfl rfl ?_; refine yLr rfl rfl ?_; refine yMd rfl ?_; refine yMd rfl ?_; refine yB rfl rfl rfl rfl ?_; refine yW e1 (by omega) rfl rfl ?_
      refine yFr rfl rfl ?_; refine yLr rfl rfl ?_; refine yB rfl rfl rfl rfl ?_; refine yPd rfl rfl ?_; refine yQ ?_; refine q_then ?_
      refine pw_cond rfl (fun h6 => ?_) (fun h6 => ?_)
      · refine pw_seq ?_; refine pw_region ?_; refine yAd rfl ?_; refine yQ ?_; refine pw_ret ?_; refine q_blk_ret ?_; refine q_then_ret ?_; refine q_then_ret ?_; refine q_blk_ret ?_; refine q_then_ret ?_
        refine q_ret _ (.tmp rfl .nil) (congrArg (fun n => SV.d (dI n)) ?_)
        simp at h6
        exact sChk_at (by omega) hz h3 (by rw [hcp, if_pos h4, if_pos ⟨by omega, fun e => h6 e.symm⟩]) (by decide)
      · refine pw_skip ?_; refine pw_region ?_; refine yMd rfl ?_; refine yB rfl rfl rfl rfl ?_; refine yAd rfl ?_; refine yQ ?_; refine q_then ?_
        simp at h6
        refine ⟨k + 1, ⟨by omega, all_snoc hz (by rw [hcp, if_pos h4, if_neg (by simp [h6])])⟩, by omega, rfl, ⟨.refl _, .of_eq ?_, trivial⟩, trivial, trivial, rfl⟩
        exact congrArg (fun n => SV.d (dI n)) hw1
  · refine pw_exit ?_; refine pw_seq ?_; refine pw_region ?_; refine yAd rfl ?_; refine yQ ?_; refine pw_ret ?_
    refine q_ret _ (.tmp rfl .nil) (congrArg (fun n => SV.d (dI n)) ?_)
    simp at h3
    obtain rfl : k = ps.length := by omega
    exact sChk_ok (by have := List.length_pos_iff.2 h; omega) (by omega) hz
end Go.Proofs.Ytilbolgncpfmmaa
