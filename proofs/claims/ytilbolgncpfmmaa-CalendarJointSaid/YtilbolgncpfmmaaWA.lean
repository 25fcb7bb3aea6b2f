/- The walks of the reference's CheckPeriod and Check, for this seat. -/
import Derived.Test.YtilbolgncpfmmaaAd
import Derived.Test.YtilbolgncpfmmaaPlainT
namespace Go.Proofs.Ytilbolgncpfmmaa
open Go.RowKit Px

def cpE (a b : Int) : Int := if (vB a && vB b) = false then 13 else if b ≤ a then 8 else 0
theorem errP_cp (ps : List (Int × Int)) (k : Nat) : errP ps k = if cpE (getP ps k).1 (getP ps k).2 = 0 then (if 0 < k ∧ (getP ps (k - 1)).2 ≠ (getP ps k).1 then 9 else 0) else cpE (getP ps k).1 (getP ps k).2 := by
  unfold errP cpE
  split
  · simp
  · split
    · simp
    · simp
theorem dayE_ne (a : Int) : (dayE a != 0) = !vB a := by unfold dayE; cases vB a <;> rfl

set_option maxRecDepth 20000 in
theorem p86 (a b : Int) : PCalls Try.prog 86 [.agg (dP (a, b))] (.d (dI (cpE a b))) := by
  refine pcalls_of_pw Try.func86 rfl Try.ntmps86 Try.results86 (by simp) fun B w0 => ?_
  refine pw_seq ?_; refine pw_region ?_; refine yK (cs := [_, _]) rfl rfl ?_; refine yAd rfl ?_; refine yQ ?_; refine pw_seq ?_; refine pw_seq ?_; refine pw_region ?_; refine yFb rfl ?_; refine yLd rfl rfl rfl ?_
  refine yC (p115 _) rfl rfl ?_; refine yB rfl rfl rfl rfl ?_; refine yMd rfl ?_
  cases h1 : (dayE a != 0)
  · refine yFb rfl ?_; refine yLd rfl rfl rfl ?_; refine yC (p115 _) rfl rfl ?_; refine yB rfl rfl rfl rfl ?_; refine yVd rfl rfl ?_; refine yQ ?_; refine q_then ?_
    cases h2 : (dayE b != 0)
    · refine pw_cf rfl ?_; refine pw_skip ?_; refine pw_seq ?_; refine pw_seq ?_; refine pw_region ?_; refine yFb rfl ?_; refine yLd rfl rfl rfl ?_; refine yFb rfl ?_; refine yLd rfl rfl rfl ?_; refine yB rfl rfl rfl rfl ?_; refine yQ ?_
      refine q_then ?_
      refine pw_cond rfl (fun h => ?_) (fun h => ?_)
      all_goals
        first
          | (refine pw_seq ?_; refine pw_region ?_; refine yAd rfl ?_; refine yQ ?_; refine pw_ret ?_; refine q_then_ret ?_)
          | (refine pw_skip ?_; refine pw_seq ?_; refine pw_region ?_; refine yAd rfl ?_; refine yQ ?_; refine pw_ret ?_)
        refine q_ret _ (.tmp rfl .nil) (congrArg (fun n => SV.d (dI n)) ?_)
        rw [dayE_ne] at h1 h2
        simp [cpE] at h1 h2 h ⊢
        simp [h1, h2]
        omega
    · refine pw_ct rfl ?_; refine pw_seq ?_; refine pw_region ?_; refine yAd rfl ?_; refine yQ ?_; refine pw_ret ?_; refine q_then_ret ?_
      refine q_ret _ (.tmp rfl .nil) (congrArg (fun n => SV.d (dI n)) ?_)
      rw [dayE_ne] at h1 h2
      simp [cpE] at h1 h2 ⊢
      simp [h2]
  · refine yO rfl ?_; refine yO rfl ?_; refine yO rfl ?_; refine yO rfl ?_; refine yPd rfl rfl ?_; refine yQ ?_; refine pw_ct rfl ?_; refine pw_seq ?_; refine pw_region ?_; refine yAd rfl ?_; refine yQ ?_; refine pw_ret ?_
    refine q_then_ret ?_
    refine q_ret _ (.tmp rfl .nil) (congrArg (fun n => SV.d (dI n)) ?_)
    rw [dayE_ne] at h1
    simp [cpE] at h1 ⊢
    simp [h1]

set_option maxRecDepth 20000 in
theorem p58 (ps : List (Int × Int)) : PCalls Try.prog 58 [dPs ps] (.d (dI (sChk ps))) := by
  refine pcalls_of_pw Try.func58 rfl Try.ntmps58 Try.results58 (by simp) fun B w0 => ?_
  refine pw_seq ?_; refine pw_region ?_; refine yAd rfl ?_; refine yQ ?_; refine pw_seq ?_; refine pw_seq ?_; refine pw_region ?_; refine yMd rfl ?_; refine yN rfl ?_; refine yB rfl rfl rfl rfl ?_; refine yQ ?_; refine q_then ?_
  refine pw_cond rfl (fun h => ?_) (fun h => ?_)
  · refine pw_seq ?_; refine pw_region ?_; refine yAd rfl ?_; refine yQ ?_; refine pw_ret ?_; refine q_then_ret ?_
    refine q_ret _ (.tmp rfl .nil) (congrArg (fun n => SV.d (dI n)) ?_)
    simp at h
    simp [sChk, h]
  refine pw_skip ?_; refine pw_seq ?_; refine pw_seq ?_; refine pw_region ?_; refine yMd rfl ?_; refine yN rfl ?_; refine yB rfl rfl rfl rfl ?_; refine yQ ?_; refine q_then ?_
  refine pw_cond rfl (fun h2 => ?_) (fun h2 => ?_)
  · refine pw_seq ?_; refine pw_region ?_; refine yAd rfl ?_; refine yQ ?_; refine pw_ret ?_; refine q_then_ret ?_
    refine q_ret _ (.tmp rfl .nil) (congrArg (fun n => SV.d (dI n)) ?_)
    simp at h h2
    rw [sChk, if_neg (by simpa using h), if_pos (by omega)]
  refine pw_skip ?_; refine pw_seq ?_; refine pw_seq ?_; refine pw_region ?_; refine yAd rfl ?_; refine yQ ?_; refine pw_block ?_
  refine pw_loop (fun k : Nat => ⟨41, [(0, .d (dPs ps)), (3, .d (dI k))], [], []⟩) (fun k => k ≤ ps.length ∧ ∀ j, j < k → errP ps j = 0) (fun k => ps.length - k) 0 ⟨by omega, fun j hj => by omega⟩ ⟨rfl, ⟨.refl _, .refl _, trivial⟩, trivial, trivial, rfl⟩ ?_
  rintro k ⟨hk, hz⟩
  simp at h h2
  have hw1 := wrapI ((k : Int) + 1) (by omega)
  refine pw_seq ?_; refine pw_seq ?_; refine pw_region ?_; refine yMd rfl ?_; refine yMd rfl ?_; refine yN rfl ?_; refine yB rfl rfl rfl rfl ?_; refine yQ ?_; refine q_then ?_
  refine pw_cond rfl (fun h3 => ?_) (fun h3 => ?_)
  · simp at h3
    obtain ⟨⟨x, y⟩, hp⟩ : ∃ p, p = getP ps k := ⟨_, rfl⟩
    obtain ⟨⟨x', y'⟩, hp'⟩ : ∃ p, p = getP ps (k - 1) := ⟨_, rfl⟩
    have e0 := ix dP ps k k (x, y) rfl (hp ▸ getP_at h3)
    have hcp := errP_cp ps k
    rw [← hp, ← hp'] at hcp
    simp only at hcp
    refine pw_skip ?_; refine pw_seq ?_; refine pw_block ?_; refine pw_seq ?_; refine pw_seq ?_; refine pw_region ?_; refine yMd rfl ?_; refine yMd rfl ?_; refine yW e0 (by omega) rfl rfl ?_; refine yLs (ys := [_, _]) rfl rfl rfl ?_
    refine yC (p86 _ _) rfl rfl ?_; refine yAd rfl ?_; refine yQ ?_; refine pw_seq ?_; refine pw_region ?_; refine yMd rfl ?_; refine yB rfl rfl rfl rfl ?_; refine yQ ?_; refine q_then ?_
    refine pw_cond rfl (fun h4 => ?_) (fun h4 => ?_)
    · refine pw_seq ?_; refine pw_region ?_; refine yMd rfl ?_; refine yAd rfl ?_; refine yQ ?_; refine pw_ret ?_; refine q_then_ret ?_; refine q_blk_ret ?_; refine q_then_ret ?_; refine q_then_ret ?_; refine q_blk_ret ?_
      refine q_then_ret ?_
      refine q_ret _ (.tmp rfl .nil) (congrArg (fun n => SV.d (dI n)) ?_)
      simp at h4
      exact sChk_at (by omega) hz h3 (by rw [hcp, if_neg h4]) h4
    simp at h4
    refine pw_skip ?_; refine pw_seq ?_; refine pw_draw Try.mixed (by kernel_rfl) ?_; refine yMd rfl ?_; refine yB rfl rfl rfl rfl ?_; refine yMd rfl ?_
    cases h5 : decide ((k : Int) > 0)
    · refine yO rfl ?_; refine yO rfl ?_; refine yO rfl ?_; refine yO rfl ?_; refine yO rfl ?_; refine yO rfl ?_; refine yO rfl ?_; refine yO rfl ?_; refine yO rfl ?_; refine yO rfl ?_; refine yO rfl ?_; refine yO rfl ?_
      refine yVd rfl rfl ?_; refine yQ ?_; refine pw_cf rfl ?_; refine pw_skip ?_; refine pw_region ?_; refine yMd rfl ?_; refine yB rfl rfl rfl rfl ?_; refine yAd rfl ?_; refine yQ ?_; refine q_then ?_
      refine ⟨k + 1, ⟨by omega, all_snoc hz (by rw [hcp, if_pos h4, if_neg (by simp at h5; omega)])⟩, by omega, rfl, ⟨.refl _, .of_eq ?_, trivial⟩, trivial, trivial, rfl⟩
      exact congrArg (fun n => SV.d (dI n)) hw1
    · simp at h5
      have hw2 := wrapI ((k : Int) - 1) (by omega)
      have e1 := ix dP ps (IntKind.i64.wrap ((k : Int) - 1)) (k - 1) (x', y') (by rw [hw2]; omega) (hp' ▸ getP_at (by omega))
      refine yMd rfl ?_; refine yMd rfl ?_; refine yW e0 (by omega) rfl rfl ?_; refine yFr rfl rfl ?_; refine yLr rfl rfl ?_; refine yMd rfl ?_; refine yMd rfl ?_; refine yB rfl rfl rfl rfl ?_; refine yW e1 (by omega) rfl rfl ?_
      refine yFr rfl rfl ?_; refine yLr rfl rfl ?_; refine yB rfl rfl rfl rfl ?_; refine yPd rfl rfl ?_; refine yQ ?_; refine q_then ?_
      refine pw_cond rfl (fun h6 => ?_) (fun h6 => ?_)
      · refine pw_seq ?_; refine pw_region ?_; refine yAd rfl ?_; refine yQ ?_; refine pw_ret ?_; refine q_blk_ret ?_; refine q_then_ret ?_; refine q_then_ret ?_; refine q_blk_ret ?_; refine q_then_ret ?_
        refine q_ret _ (.tmp rfl .nil) (congrArg (fun n => SV.d (dI n)) ?_)
        simp at h6
        exact sChk_at (by omega) hz h3 (by rw [hcp, if_pos h4, if_pos ⟨by omega, fun e => h6 e.symm⟩]) (by decide)
      · refine pw_skip ?_; refine pw_region ?_; refine yMd rfl ?_; refine yB rfl rfl rfl rfl ?_; refine yAd rfl ?_; refine yQ ?_; refine q_then ?_
        simp at h6
        refine ⟨k + 1, ⟨by omega, all_snoc hz (by rw [hcp, if_pos h4, if_neg (by simp [h6])])⟩, by omega, rfl, ⟨.refl _, .of_eq ?_, trivial⟩, trivial, trivial, rfl⟩
        exact congrArg (fun n => SV.d (dI n)) hw1
  · refine pw_exit ?_; refine pw_seq ?_; refine pw_region ?_; refine yAd rfl ?_; refine yQ ?_; refine pw_ret ?_
    refine q_ret _ (.tmp rfl .nil) (congrArg (fun n => SV.d (dI n)) ?_)
    simp at h3
    obtain rfl : k = ps.length := by omega
    exact sChk_ok (by have := List.length_pos_iff.2 h; omega) (by omega) hz
end Go.Proofs.Ytilbolgncpfmmaa

/- Walks of small functions of schedule and its reference, for this seat. -/
namespace Go.Proofs.Ytilbolgncpfmmaa
open Go.RowKit Px

def optE (m s : Int) : Int := sck true m s
set_option maxRecDepth 20000 in
theorem p87 (m s : Int) : PCalls Try.prog 87 [dI m, dI s] (.d (dI (sck true m s))) := by
  refine pcalls_of_pw Try.func87 rfl Try.ntmps87 Try.results87 (by simp) fun B w0 => ?_
  refine pw_seq ?_; refine pw_region ?_; refine yAd rfl ?_; refine yQ ?_; refine pw_seq ?_; refine pw_seq ?_; refine pw_region ?_; refine yMd rfl ?_; refine yB rfl rfl rfl rfl ?_; refine yMd rfl ?_
  cases h1 : decide (m < 1)
  · refine yMd rfl ?_; refine yB rfl rfl rfl rfl ?_; refine yVd rfl rfl ?_; refine yQ ?_; refine q_then ?_
    cases h2 : decide (m > 4800)
    · refine pw_cf rfl ?_; refine pw_skip ?_; refine pw_seq ?_; refine pw_seq ?_; refine pw_region ?_; refine yMd rfl ?_; refine yB rfl rfl rfl rfl ?_; refine yMd rfl ?_
      cases h3 : (s != 1)
      · refine yO rfl ?_; refine yO rfl ?_; refine yVd rfl rfl ?_; refine yQ ?_; refine pw_cf rfl ?_; refine pw_skip ?_; refine pw_seq ?_; refine pw_region ?_; refine yAd rfl ?_; refine yQ ?_; refine pw_ret ?_
        refine q_ret _ (.tmp rfl .nil) (congrArg (fun n => SV.d (dI n)) ?_)
        simp at h1 h2 h3
        simp [sck, h3]; omega
      · refine yMd rfl ?_; refine yB rfl rfl rfl rfl ?_; refine yPd rfl rfl ?_; refine yQ ?_; refine q_then ?_
        cases h4 : (s != 2)
        · refine pw_cf rfl ?_; refine pw_skip ?_; refine pw_seq ?_; refine pw_region ?_; refine yAd rfl ?_; refine yQ ?_; refine pw_ret ?_
          refine q_ret _ (.tmp rfl .nil) (congrArg (fun n => SV.d (dI n)) ?_)
          simp at h1 h2 h3 h4
          simp [sck, h4]; omega
        · refine pw_ct rfl ?_; refine pw_seq ?_; refine pw_region ?_; refine yAd rfl ?_; refine yQ ?_; refine pw_ret ?_; refine q_then_ret ?_
          refine q_ret _ (.tmp rfl .nil) (congrArg (fun n => SV.d (dI n)) ?_)
          simp at h1 h2 h3 h4
          simp [sck, h3, h4]; omega
    · refine pw_ct rfl ?_; refine pw_seq ?_; refine pw_region ?_; refine yAd rfl ?_; refine yQ ?_; refine pw_ret ?_; refine q_then_ret ?_
      refine q_ret _ (.tmp rfl .nil) (congrArg (fun n => SV.d (dI n)) ?_)
      simp at h1 h2
      simp [sck]; omega
  · refine yO rfl ?_; refine yO rfl ?_; refine yPd rfl rfl ?_; refine yQ ?_; refine pw_ct rfl ?_; refine pw_seq ?_; refine pw_region ?_; refine yAd rfl ?_; refine yQ ?_; refine pw_ret ?_; refine q_then_ret ?_
    refine q_ret _ (.tmp rfl .nil) (congrArg (fun n => SV.d (dI n)) ?_)
    simp at h1
    simp [sck]; omega

theorem wneg {m : Int} (h : -4800 ≤ m) (h' : m ≤ 4800) : IntKind.i64.wrap (0 - m) = -m := by rw [wrapI _ (by omega)]; omega
set_option maxRecDepth 20000 in
theorem p96 (a b m : Int) (hm : -4800 ≤ m) (hm' : m ≤ 4800) : PCalls Try.prog 96 [.agg (dP (a, b)), dI m] (.d (dB (sReg a b m))) := by
  obtain ⟨x, hx⟩ : ∃ x, x = amV a m := ⟨_, rfl⟩
  obtain ⟨e, he⟩ : ∃ e, e = amE a m := ⟨_, rfl⟩
  obtain ⟨y, hy⟩ : ∃ y, y = amV b (-m) := ⟨_, rfl⟩
  obtain ⟨f, hf⟩ : ∃ f, f = amE b (-m) := ⟨_, rfl⟩
  have hv : sReg a b m = ((e == 0 && x == b) || (f == 0 && y == a)) := by rw [sReg, hx, he, hy, hf]
  have c1 : PCalls Try.prog 88 [dI a, dI m] (.tup [dI x, dI e]) := by rw [hx, he]; exact p88 a m (by omega) (by omega)
  have c2 : PCalls Try.prog 88 [dI b, dI (IntKind.i64.wrap (0 - m))] (.tup [dI y, dI f]) := by rw [wneg hm hm', hy, hf]; exact p88 b (-m) (by omega) (by omega)
  rw [hv]
  refine pcalls_of_pw Try.func96 rfl Try.ntmps96 Try.results96 (by simp) fun B w0 => ?_
  refine pw_seq ?_; refine pw_region ?_; refine yK (cs := [_, _]) rfl rfl ?_; refine yAd rfl ?_; refine yQ ?_; refine pw_seq ?_; refine pw_region ?_; refine yFb rfl ?_; refine yLd rfl rfl rfl ?_; refine yMd rfl ?_
  refine yC (c1) rfl rfl ?_; refine yMp rfl ?_; refine yX rfl rfl ?_; refine yX rfl rfl ?_; refine yAd rfl ?_; refine yAd rfl ?_; refine yQ ?_; refine pw_seq ?_; refine pw_region ?_; refine yFb rfl ?_; refine yLd rfl rfl rfl ?_
  refine yMd rfl ?_; refine yU rfl rfl rfl ?_; refine yC (c2) rfl rfl ?_; refine yMp rfl ?_; refine yX rfl rfl ?_; refine yX rfl rfl ?_; refine yAd rfl ?_; refine yAd rfl ?_; refine yQ ?_; refine pw_seq ?_; refine pw_region ?_
  refine yMd rfl ?_; refine yB rfl rfl rfl rfl ?_; refine yMd rfl ?_
  cases t1 : (e == 0)
  · refine yO rfl ?_; refine yO rfl ?_; refine yO rfl ?_; refine yO rfl ?_; refine yVd rfl rfl ?_; refine yMd rfl ?_; refine yMd rfl ?_; refine yB rfl rfl rfl rfl ?_; refine yMd rfl ?_
    cases t3 : (f == 0)
    · refine yO rfl ?_; refine yO rfl ?_; refine yO rfl ?_; refine yO rfl ?_; refine yVd rfl rfl ?_; refine yVd rfl rfl ?_; refine yAd rfl ?_; refine yQ ?_; refine pw_ret ?_
      refine q_ret _ (.tmp rfl .nil) (congrArg (fun n => SV.d (dB n)) ?_)
      simp
    · refine yMd rfl ?_; refine yFb rfl ?_; refine yLd rfl rfl rfl ?_; refine yB rfl rfl rfl rfl ?_; refine yPd rfl rfl ?_; refine yVd rfl rfl ?_; refine yAd rfl ?_; refine yQ ?_; refine pw_ret ?_
      refine q_ret _ (.tmp rfl .nil) (congrArg (fun n => SV.d (dB n)) ?_)
      simp
  · refine yMd rfl ?_; refine yFb rfl ?_; refine yLd rfl rfl rfl ?_; refine yB rfl rfl rfl rfl ?_; refine yPd rfl rfl ?_; refine yMd rfl ?_
    cases t2 : (x == b)
    · refine yMd rfl ?_; refine yB rfl rfl rfl rfl ?_; refine yMd rfl ?_
      cases t3 : (f == 0)
      · refine yO rfl ?_; refine yO rfl ?_; refine yO rfl ?_; refine yO rfl ?_; refine yVd rfl rfl ?_; refine yVd rfl rfl ?_; refine yAd rfl ?_; refine yQ ?_; refine pw_ret ?_
        refine q_ret _ (.tmp rfl .nil) (congrArg (fun n => SV.d (dB n)) ?_)
        simp
      · refine yMd rfl ?_; refine yFb rfl ?_; refine yLd rfl rfl rfl ?_; refine yB rfl rfl rfl rfl ?_; refine yPd rfl rfl ?_; refine yVd rfl rfl ?_; refine yAd rfl ?_; refine yQ ?_; refine pw_ret ?_
        refine q_ret _ (.tmp rfl .nil) (congrArg (fun n => SV.d (dB n)) ?_)
        simp
    · refine yO rfl ?_; refine yO rfl ?_; refine yO rfl ?_; refine yO rfl ?_; refine yO rfl ?_; refine yO rfl ?_; refine yO rfl ?_; refine yO rfl ?_; refine yPd rfl rfl ?_; refine yAd rfl ?_; refine yQ ?_; refine pw_ret ?_
      refine q_ret _ (.tmp rfl .nil) (congrArg (fun n => SV.d (dB n)) ?_)
      simp

set_option maxRecDepth 20000 in
theorem p89 (y m d : Int) : PCalls Try.prog 89 [dI y, dI m, dI d] (.d (dI (ofV y m d))) := by
  refine pcalls_of_pw Try.func89 rfl Try.ntmps89 Try.results89 (by simp) fun B w0 => ?_
  refine pw_seq ?_; refine pw_region ?_; refine yAd rfl ?_; refine yQ ?_; refine pw_seq ?_; refine pw_region ?_; refine yMd rfl ?_; refine yMd rfl ?_; refine yMd rfl ?_; refine yC (p38 _ _ _) rfl rfl ?_; refine yMp rfl ?_
  refine yX rfl rfl ?_; refine yX rfl rfl ?_; refine yAd rfl ?_; refine yAd rfl ?_; refine yQ ?_; refine pw_seq ?_; refine pw_region ?_; refine yMd rfl ?_; refine yAd rfl ?_; refine yQ ?_; refine pw_ret ?_
  exact q_ret _ (.tmp rfl .nil) rfl

def grtP (ps : List (Int × Int)) : Bool := (decide (60 < ps.length) && decide (ps.length < 398)) || decide (403 < ps.length)
set_option maxRecDepth 20000 in
theorem p92 (ps : List (Int × Int)) : PCalls Try.prog 92 [dPs ps] (.d (dB (grtP ps))) := by
  obtain ⟨n, hn⟩ : ∃ n, n = (ps.map dP).length := ⟨_, rfl⟩
  have hg : grtP ps = ((decide (60 < n) && decide (n < 398)) || decide (403 < n)) := by rw [hn]; simp [grtP]
  rw [hg]
  refine pcalls_of_pw Try.func92 rfl Try.ntmps92 Try.results92 (by simp) fun B w0 => ?_
  refine pw_seq ?_; refine pw_region ?_; refine yAd rfl ?_; refine yQ ?_; refine pw_seq ?_; refine pw_region ?_; refine yMd rfl ?_; refine yN rfl ?_; refine yB rfl rfl rfl rfl ?_; refine yMd rfl ?_
  cases h1 : decide (((ps.map dP).length : Int) > 60)
  · refine yO rfl ?_; refine yO rfl ?_; refine yO rfl ?_; refine yVd rfl rfl ?_; refine yMd rfl ?_; refine yMd rfl ?_; refine yN rfl ?_; refine yB rfl rfl rfl rfl ?_; refine yVd rfl rfl ?_; refine yAd rfl ?_; refine yQ ?_
    refine pw_ret ?_
    refine q_ret _ (.tmp rfl .nil) (congrArg (fun n => SV.d (dB n)) ?_)
    rw [← hn] at h1 ⊢
    rw [Bool.eq_iff_iff]; simp at h1 ⊢; omega
  · refine yMd rfl ?_; refine yN rfl ?_; refine yB rfl rfl rfl rfl ?_; refine yPd rfl rfl ?_; refine yMd rfl ?_
    cases h2 : decide (((ps.map dP).length : Int) < 398)
    · refine yMd rfl ?_; refine yN rfl ?_; refine yB rfl rfl rfl rfl ?_; refine yVd rfl rfl ?_; refine yAd rfl ?_; refine yQ ?_; refine pw_ret ?_
      refine q_ret _ (.tmp rfl .nil) (congrArg (fun n => SV.d (dB n)) ?_)
      rw [← hn] at h1 h2 ⊢
      rw [Bool.eq_iff_iff]; simp at h1 h2 ⊢; omega
    · refine yO rfl ?_; refine yO rfl ?_; refine yO rfl ?_; refine yPd rfl rfl ?_; refine yAd rfl ?_; refine yQ ?_; refine pw_ret ?_
      refine q_ret _ (.tmp rfl .nil) (congrArg (fun n => SV.d (dB n)) ?_)
      rw [← hn] at h1 h2
      rw [eq_comm, Bool.eq_iff_iff]; simp at h1 h2 ⊢; omega
theorem p51 (ps : List (Int × Int)) : PCalls Try.prog 51 [dPs ps] (.d (dB (grtP ps))) := by
  refine pcalls_of_pw Try.func51 rfl Try.ntmps51 Try.results51 (by simp) fun B w0 => ?_
  refine pw_seq ?_; refine pw_region ?_; refine yAd rfl ?_; refine yQ ?_; refine pw_seq ?_; refine pw_region ?_; refine yMd rfl ?_; refine yC (p92 ps) rfl rfl ?_; refine yAd rfl ?_; refine yQ ?_; refine pw_ret ?_
  exact q_ret _ (.tmp rfl .nil) rfl
end Go.Proofs.Ytilbolgncpfmmaa

/- Walks of Regular and Irregular of schedule and its reference, for this seat. -/
namespace Go.Proofs.Ytilbolgncpfmmaa
open Go.RowKit Px

/-- what Irregular returns -/
def irE (ps : List (Int × Int)) (m : Int) : Int := sck (sChk ps == 0) m 1
def irG (ps : List (Int × Int)) (m : Int) (k : Nat) : List Int := ((List.range k).filter fun i => !sReg (getP ps i).1 (getP ps i).2 m).map fun (i : Nat) => (i : Int)
def irL (ps : List (Int × Int)) (m : Int) : List Int := if irE ps m = 0 then irG ps m ps.length else []
theorem irG_succ (ps : List (Int × Int)) (m : Int) (k : Nat) : irG ps m (k + 1) = irG ps m k ++ (if sReg (getP ps k).1 (getP ps k).2 m then [] else [(k : Int)]) := by
  unfold irG
  rw [List.range_succ, List.filter_append, List.map_append]
  cases h : sReg (getP ps k).1 (getP ps k).2 m <;> simp [h]
theorem irG_len (ps : List (Int × Int)) (m : Int) (k : Nat) : (irG ps m k).length ≤ k := by
  unfold irG
  rw [List.length_map]
  exact Nat.le_trans (List.length_filter_le _ _) (by simp)
theorem sChk_len {ps : List (Int × Int)} (h : sChk ps = 0) : 0 < ps.length ∧ ps.length ≤ 400 := by
  unfold sChk at h
  split at h
  · omega
  · split at h
    · omega
    · omega
theorem irE_zero {ps : List (Int × Int)} {m : Int} (h : irE ps m = 0) : sChk ps = 0 ∧ 1 ≤ m ∧ m ≤ 4800 := by
  unfold irE at h
  cases hc : sChk ps == 0 with
  | false => rw [hc] at h; simp [sck] at h
  | true => rw [hc] at h; obtain ⟨h1, h2, -⟩ := sck_zero h; exact ⟨by simpa using hc, h1, h2⟩

set_option maxRecDepth 20000 in
set_option maxHeartbeats 1000000 in
theorem p45 (ps : List (Int × Int)) (m : Int) : PCalls Try.prog 45 [dPs ps, dI m] (.tup [dIs (irL ps m), dI (irE ps m)]) := by
  obtain ⟨c, hc⟩ : ∃ c, c = sChk ps := ⟨_, rfl⟩
  obtain ⟨e, he⟩ : ∃ e, e = irE ps m := ⟨_, rfl⟩
  have c1 : PCalls Try.prog 44 [dPs ps] (.d (dI c)) := hc ▸ p44 ps
  have c2 : PCalls Try.prog 82 [dB (c == 0), dI m, dI 1] (.d (dI e)) := by rw [he, irE, ← hc]; exact p82 _ _ _
  rw [← he]
  refine pcalls_of_pw Try.func45 rfl Try.ntmps45 Try.results45 (by simp) fun B w0 => ?_
  refine pw_seq ?_; refine pw_region ?_; refine yAd rfl ?_; refine yAd rfl ?_; refine yQ ?_; refine pw_seq ?_; refine pw_seq ?_; refine pw_region ?_; refine yMd rfl ?_; refine yC (c1) rfl rfl ?_; refine yB rfl rfl rfl rfl ?_
  refine yMd rfl ?_; refine yC (c2) rfl rfl ?_; refine yAd rfl ?_; refine yQ ?_; refine pw_seq ?_; refine pw_region ?_; refine yMd rfl ?_; refine yB rfl rfl rfl rfl ?_; refine yQ ?_; refine q_then ?_
  refine pw_cond rfl (fun h => ?_) (fun h => ?_)
  · refine pw_seq ?_; refine pw_region ?_; refine yMd rfl ?_; refine yAd rfl ?_; refine yAd rfl ?_; refine yQ ?_; refine pw_ret ?_; refine q_then_ret ?_
    have hl : irL ps m = [] := by rw [irL, if_neg (by simpa [← he] using h)]
    rw [hl]
    exact q_ret _ (.tnil 1 rfl (.tmp rfl .nil)) rfl
  simp at h
  subst h
  obtain ⟨hc0, hm1, hm2⟩ := irE_zero he.symm
  have hlen := sChk_len hc0
  refine pw_skip ?_; refine pw_seq ?_; refine pw_region ?_; refine yAd rfl ?_; refine yQ ?_; refine pw_seq ?_; refine pw_seq ?_; refine pw_region ?_; refine yMd rfl ?_; refine yN rfl ?_; refine yMd rfl ?_; refine yQ ?_
  refine pw_block ?_
  refine pw_tok 7 300007 1 rfl rfl rfl ?_
  refine pw_loop (fun k : Nat => ⟨35, [(0, .d (dPs ps)), (1, .d (dI m)), (18, .d (dPs ps)), (19, .d (dI ps.length)), (20, .d (dI k)), (7, .ts 300007 1 ((irG ps m k).map dZ))], [], [(300007, ((irG ps m k).map dZ).length)]⟩) (fun k => k ≤ ps.length) (fun k => ps.length - k) 0 (Nat.zero_le _) ⟨rfl, ⟨.refl _, .refl _, .refl _, .of_eq ?_, .refl _, .refl _, trivial⟩, trivial, ⟨rfl, trivial⟩, rfl⟩ ?_
  · exact congrArg (fun n : Nat => SV.d (dI n)) (by simp)
  intro k hk
  obtain ⟨⟨x, y⟩, hp⟩ : ∃ p, p = getP ps k := ⟨_, rfl⟩
  obtain ⟨r, hr⟩ : ∃ r, r = sReg x y m := ⟨_, rfl⟩
  have c3 : PCalls Try.prog 90 [.agg [dI x, dI y], dI m] (.d (dB r)) := hr ▸ p90 x y m (by omega) (by omega)
  have hgl := irG_len ps m k
  have hw1 := wrapI ((k : Int) + 1) (by omega)
  have hg1 := irG_succ ps m k
  rw [← hp] at hg1
  simp only [← hr] at hg1
  obtain ⟨zs, hz⟩ : ∃ zs, zs = irG ps m k := ⟨_, rfl⟩
  rw [← hz] at hgl hg1 ⊢
  refine pw_seq ?_; refine pw_region ?_; refine yB rfl rfl rfl rfl ?_; refine yQ ?_; refine pw_seq ?_
  refine pw_cond rfl (fun h3 => ?_) (fun h3 => ?_)
  · simp at h3
    have e0 := ix dP ps k k (x, y) rfl (hp ▸ getP_at h3)
    refine pw_skip ?_; refine pw_seq ?_; refine pw_block ?_; refine pw_seq ?_; refine pw_region ?_; refine yMd rfl ?_; refine yW e0 (by omega) rfl rfl ?_; refine yLs (ys := [_, _]) rfl rfl rfl ?_; refine yZ (cs := [_, _]) rfl rfl ?_
    refine yAd rfl ?_; refine yS (cs' := [_, _]) rfl rfl rfl rfl rfl ?_; refine yQ ?_; refine pw_seq ?_; refine pw_region ?_; refine yLa (ys := [_, _]) rfl rfl rfl rfl ?_; refine yMd rfl ?_; refine yC (c3) rfl rfl ?_
    refine yU rfl rfl rfl ?_; refine yQ ?_; refine q_then ?_
    cases r
    · refine pw_ct rfl ?_; refine pw_region ?_; refine yMt rfl ?_; refine yMd rfl ?_; refine yR (es := [[_]]) rfl rfl rfl rfl rfl ?_
      refine yT (es' := (zs ++ [(k : Int)]).map dZ) (m := ((zs ++ [(k : Int)]).map dZ).length) (by simp; omega) (by simp; omega) rfl rfl rfl rfl rfl (by simp) (by simp) ?_; refine yAt rfl ?_; refine yQ ?_; refine pw_region ?_
      refine yB rfl rfl rfl rfl ?_; refine yMd rfl ?_; refine yQ ?_; refine q_then ?_
      refine ⟨k + 1, by omega, by omega, rfl, ⟨.refl _, .refl _, .refl _, .refl _, .of_eq (congrArg (fun n => SV.d (dI n)) hw1), .of_eq ?_, trivial⟩, trivial, ⟨?_, trivial⟩, rfl⟩
      · rw [hg1]; rfl
      · rw [hg1]; rfl
    · refine pw_cf rfl ?_; refine pw_skip ?_; refine pw_region ?_; refine yB rfl rfl rfl rfl ?_; refine yMd rfl ?_; refine yQ ?_; refine q_then ?_
      refine ⟨k + 1, by omega, by omega, rfl, ⟨.refl _, .refl _, .refl _, .refl _, .of_eq (congrArg (fun n => SV.d (dI n)) hw1), .of_eq ?_, trivial⟩, trivial, ⟨?_, trivial⟩, rfl⟩
      · rw [hg1, if_pos rfl, List.append_nil]; rfl
      · rw [hg1, if_pos rfl, List.append_nil]; rfl
  · simp at h3
    obtain rfl : k = ps.length := by omega
    have hl : irL ps m = zs := by rw [irL, if_pos he.symm, hz]
    rw [hl]
    refine pw_exit ?_; refine pw_seq ?_; refine pw_region ?_; refine yMt rfl ?_; refine yAt rfl ?_; refine yAd rfl ?_; refine yQ ?_; refine pw_ret ?_
    exact q_ret _ (.tmp rfl (.tmp rfl .nil)) rfl
end Go.Proofs.Ytilbolgncpfmmaa

/- Walks of the reference's Irregular, Find and Next, for this seat. -/
namespace Go.Proofs.Ytilbolgncpfmmaa
open Go.RowKit Px

theorem sck_bad {m s : Int} : sck false m s = 1 := by simp [sck]
set_option maxRecDepth 20000 in
set_option maxHeartbeats 1000000 in
theorem p56 (ps : List (Int × Int)) (m : Int) : PCalls Try.prog 56 [dPs ps, dI m] (.tup [dIs (irL ps m), dI (irE ps m)]) := by
  obtain ⟨c, hc⟩ : ∃ c, c = sChk ps := ⟨_, rfl⟩
  have c1 : PCalls Try.prog 58 [dPs ps] (.d (dI c)) := hc ▸ p58 ps
  have he : irE ps m = sck (c == 0) m 1 := by rw [irE, ← hc]
  refine pcalls_of_pw Try.func56 rfl Try.ntmps56 Try.results56 (by simp) fun B w0 => ?_
  refine pw_seq ?_; refine pw_region ?_; refine yAd rfl ?_; refine yAd rfl ?_; refine yQ ?_; refine pw_seq ?_; refine pw_seq ?_; refine pw_region ?_; refine yMd rfl ?_; refine yC (c1) rfl rfl ?_; refine yB rfl rfl rfl rfl ?_
  refine yQ ?_; refine q_then ?_
  refine pw_cond rfl (fun h => ?_) (fun h => ?_)
  · simp at h
    have he1 : irE ps m = 1 := by rw [he, show (c == 0) = false by simpa using h, sck_bad]
    have hl : irL ps m = [] := by rw [irL, if_neg (by rw [he1]; decide)]
    rw [hl, he1]
    refine pw_seq ?_; refine pw_region ?_; refine yAd rfl ?_; refine yAd rfl ?_; refine yQ ?_; refine pw_ret ?_; refine q_then_ret ?_
    exact q_ret _ (.tnil 1 rfl (.tmp rfl .nil)) rfl
  simp at h
  subst h
  refine pw_skip ?_; refine pw_seq ?_; refine pw_seq ?_; refine pw_region ?_; refine yMd rfl ?_; refine yB rfl rfl rfl rfl ?_; refine yMd rfl ?_
  cases h1 : decide (m < 1)
  rotate_left
  · simp at h1
    have he1 : irE ps m = 2 := by rw [he]; simp [sck]; omega
    have hl : irL ps m = [] := by rw [irL, if_neg (by rw [he1]; decide)]
    rw [hl, he1]
    refine yO rfl ?_; refine yO rfl ?_; refine yPd rfl rfl ?_; refine yQ ?_; refine pw_ct rfl ?_; refine pw_seq ?_; refine pw_region ?_; refine yAd rfl ?_; refine yAd rfl ?_; refine yQ ?_; refine pw_ret ?_; refine q_then_ret ?_
    exact q_ret _ (.tnil 1 rfl (.tmp rfl .nil)) rfl
  refine yMd rfl ?_; refine yB rfl rfl rfl rfl ?_; refine yVd rfl rfl ?_; refine yQ ?_; refine q_then ?_
  cases h2 : decide (m > 4800)
  rotate_left
  · simp at h2
    have he1 : irE ps m = 2 := by rw [he]; simp [sck]; omega
    have hl : irL ps m = [] := by rw [irL, if_neg (by rw [he1]; decide)]
    rw [hl, he1]
    refine pw_ct rfl ?_; refine pw_seq ?_; refine pw_region ?_; refine yAd rfl ?_; refine yAd rfl ?_; refine yQ ?_; refine pw_ret ?_; refine q_then_ret ?_
    exact q_ret _ (.tnil 1 rfl (.tmp rfl .nil)) rfl
  simp at h1 h2
  have he0 : irE ps m = 0 := by rw [he]; simp [sck]; omega
  have hlen := sChk_len hc.symm
  rw [he0]
  refine pw_cf rfl ?_; refine pw_skip ?_; refine pw_seq ?_; refine pw_region ?_; refine yRt (t := 300006) (es := []) rfl rfl rfl rfl rfl rfl rfl rfl ?_; refine yAt rfl ?_; refine yQ ?_; refine pw_seq ?_; refine pw_seq ?_
  refine pw_region ?_; refine yAd rfl ?_; refine yQ ?_; refine pw_block ?_
  refine pw_loop (fun k : Nat => ⟨36, [(0, .d (dPs ps)), (1, .d (dI m)), (7, .d (dI k)), (6, .ts 300006 1 ((irG ps m k).map dZ))], [], [(300006, ((irG ps m k).map dZ).length)]⟩) (fun k => k ≤ ps.length) (fun k => ps.length - k) 0 (Nat.zero_le _) ⟨rfl, ⟨.refl _, .refl _, .refl _, .refl _, trivial⟩, trivial, ⟨rfl, trivial⟩, rfl⟩ ?_
  intro k hk
  obtain ⟨⟨x, y⟩, hp⟩ : ∃ p, p = getP ps k := ⟨_, rfl⟩
  obtain ⟨r, hr⟩ : ∃ r, r = sReg x y m := ⟨_, rfl⟩
  have c3 : PCalls Try.prog 96 [.agg [dI x, dI y], dI m] (.d (dB r)) := hr ▸ p96 x y m (by omega) (by omega)
  have hgl := irG_len ps m k
  have hw1 := wrapI ((k : Int) + 1) (by omega)
  have hg1 := irG_succ ps m k
  rw [← hp] at hg1
  simp only [← hr] at hg1
  obtain ⟨zs, hz⟩ : ∃ zs, zs = irG ps m k := ⟨_, rfl⟩
  rw [← hz] at hgl hg1 ⊢
  refine pw_seq ?_; refine pw_seq ?_; refine pw_region ?_; refine yMd rfl ?_; refine yMd rfl ?_; refine yN rfl ?_; refine yB rfl rfl rfl rfl ?_; refine yQ ?_; refine q_then ?_
  refine pw_cond rfl (fun h3 => ?_) (fun h3 => ?_)
  · simp at h3
    have e0 := ix dP ps k k (x, y) rfl (hp ▸ getP_at h3)
    refine pw_skip ?_; refine pw_seq ?_; refine pw_block ?_; refine pw_seq ?_; refine pw_region ?_; refine yMd rfl ?_; refine yMd rfl ?_; refine yW e0 (by omega) rfl rfl ?_; refine yLs (ys := [_, _]) rfl rfl rfl ?_; refine yMd rfl ?_
    refine yC (c3) rfl rfl ?_; refine yU rfl rfl rfl ?_; refine yQ ?_; refine q_then ?_
    cases r
    · refine pw_ct rfl ?_; refine pw_region ?_; refine yMt rfl ?_; refine yMd rfl ?_; refine yR (es := [[_]]) rfl rfl rfl rfl rfl ?_
      refine yT (es' := (zs ++ [(k : Int)]).map dZ) (m := ((zs ++ [(k : Int)]).map dZ).length) (by simp; omega) (by simp; omega) rfl rfl rfl rfl rfl (by simp) (by simp) ?_; refine yAt rfl ?_; refine yQ ?_; refine pw_region ?_
      refine yMd rfl ?_; refine yB rfl rfl rfl rfl ?_; refine yAd rfl ?_; refine yQ ?_; refine q_then ?_
      refine ⟨k + 1, by omega, by omega, rfl, ⟨.refl _, .refl _, .of_eq (congrArg (fun n => SV.d (dI n)) hw1), .of_eq ?_, trivial⟩, trivial, ⟨?_, trivial⟩, rfl⟩
      · rw [hg1]; rfl
      · rw [hg1]; rfl
    · refine pw_cf rfl ?_; refine pw_skip ?_; refine pw_region ?_; refine yMd rfl ?_; refine yB rfl rfl rfl rfl ?_; refine yAd rfl ?_; refine yQ ?_; refine q_then ?_
      refine ⟨k + 1, by omega, by omega, rfl, ⟨.refl _, .refl _, .of_eq (congrArg (fun n => SV.d (dI n)) hw1), .of_eq ?_, trivial⟩, trivial, ⟨?_, trivial⟩, rfl⟩
      · rw [hg1, if_pos rfl, List.append_nil]; rfl
      · rw [hg1, if_pos rfl, List.append_nil]; rfl
  · simp at h3
    obtain rfl : k = ps.length := by omega
    have hl : irL ps m = zs := by rw [irL, if_pos he0, hz]
    rw [hl]
    refine pw_exit ?_; refine pw_seq ?_; refine pw_region ?_; refine yMt rfl ?_; refine yAt rfl ?_; refine yAd rfl ?_; refine yQ ?_; refine pw_ret ?_
    exact q_ret _ (.tmp rfl (.tmp rfl .nil)) rfl

/-- the first period of some kind -/
def fstP (q : Int × Int → Bool) (ps : List (Int × Int)) : Option Nat := ps.findIdx? q
theorem fstP_at {q : Int × Int → Bool} {ps : List (Int × Int)} {k : Nat} (hk : k < ps.length) (h : ∀ j, j < k → q (getP ps j) = false) (hq : q (getP ps k) = true) : fstP q ps = some k := by
  unfold fstP
  rw [List.findIdx?_eq_some_iff_getElem]
  have e : ∀ j (hj : j < ps.length), getP ps j = ps[j] := fun j hj => by unfold getP; rw [List.getElem?_eq_getElem hj]; rfl
  refine ⟨hk, by rw [← e k hk]; exact hq, fun j hj => ?_⟩
  rw [← e j (by omega)]
  simp [h j hj]
theorem fstP_no {q : Int × Int → Bool} {ps : List (Int × Int)} (h : ∀ j, j < ps.length → q (getP ps j) = false) : fstP q ps = none := by
  unfold fstP
  rw [List.findIdx?_eq_none_iff]
  intro x hx
  obtain ⟨j, hj⟩ := List.mem_iff_getElem?.1 hx
  have hlt := (List.getElem?_eq_some_iff.1 hj).1
  have := h j hlt
  unfold getP at this
  rw [hj] at this
  exact this
def fIn (d : Int) (p : Int × Int) : Bool := decide (p.1 ≤ d) && decide (d < p.2)
def fAf (d : Int) (p : Int × Int) : Bool := decide (d < p.2)
/-- what Find returns -/
def fdR (ps : List (Int × Int)) (d : Int) : Int × Bool × Int := if sChk ps = 0 then (match fstP (fIn d) ps with | some i => ((i : Int), true, 0) | none => (0, false, 0)) else (0, false, 1)
def nxR (ps : List (Int × Int)) (d : Int) : Int × Bool × Int := if sChk ps = 0 then (match fstP (fAf d) ps with | some i => ((getP ps i).2, true, 0) | none => (0, false, 0)) else (0, false, 1)
abbrev dF (r : Int × Bool × Int) : SV := .tup [dI r.1, dB r.2.1, dI r.2.2]
theorem fsnoc {q : Int × Int → Bool} {ps : List (Int × Int)} {k : Nat} (h : ∀ j, j < k → q (getP ps j) = false) (hk : q (getP ps k) = false) : ∀ j, j < k + 1 → q (getP ps j) = false := fun j hj => by
  rcases Nat.lt_succ_iff_lt_or_eq.1 hj with h1 | h1
  · exact h j h1
  · rw [h1]; exact hk

set_option maxRecDepth 20000 in
set_option maxHeartbeats 1000000 in
theorem p53 (ps : List (Int × Int)) (d : Int) : PCalls Try.prog 53 [dPs ps, dI d] (dF (fdR ps d)) := by
  obtain ⟨c, hc⟩ : ∃ c, c = sChk ps := ⟨_, rfl⟩
  have c1 : PCalls Try.prog 58 [dPs ps] (.d (dI c)) := hc ▸ p58 ps
  refine pcalls_of_pw Try.func53 rfl Try.ntmps53 Try.results53 (by simp) fun B w0 => ?_
  refine pw_seq ?_; refine pw_region ?_; refine yAd rfl ?_; refine yAd rfl ?_; refine yAd rfl ?_; refine yQ ?_; refine pw_seq ?_; refine pw_seq ?_; refine pw_region ?_; refine yMd rfl ?_; refine yC (c1) rfl rfl ?_
  refine yB rfl rfl rfl rfl ?_; refine yQ ?_; refine q_then ?_
  refine pw_cond rfl (fun h => ?_) (fun h => ?_)
  · simp at h
    rw [show fdR ps d = (0, false, 1) by rw [fdR, if_neg (by rw [← hc]; exact h)]]
    refine pw_seq ?_; refine pw_region ?_; refine yAd rfl ?_; refine yAd rfl ?_; refine yAd rfl ?_; refine yQ ?_; refine pw_ret ?_; refine q_then_ret ?_
    exact q_ret _ (.tmp rfl (.tmp rfl (.tmp rfl .nil))) rfl
  simp at h
  subst h
  have hlen := sChk_len hc.symm
  refine pw_skip ?_; refine pw_seq ?_; refine pw_seq ?_; refine pw_region ?_; refine yAd rfl ?_; refine yQ ?_; refine pw_block ?_
  refine pw_loop (fun k : Nat => ⟨34, [(0, .d (dPs ps)), (1, .d (dI d)), (7, .d (dI k))], [], []⟩) (fun k => k ≤ ps.length ∧ ∀ j, j < k → fIn d (getP ps j) = false) (fun k => ps.length - k) 0 ⟨Nat.zero_le _, fun j hj => by omega⟩ ⟨rfl, ⟨.refl _, .refl _, .refl _, trivial⟩, trivial, trivial, rfl⟩ ?_
  rintro k ⟨hk, hz⟩
  obtain ⟨⟨x, y⟩, hp⟩ : ∃ p, p = getP ps k := ⟨_, rfl⟩
  have hw1 := wrapI ((k : Int) + 1) (by omega)
  refine pw_seq ?_; refine pw_seq ?_; refine pw_region ?_; refine yMd rfl ?_; refine yMd rfl ?_; refine yN rfl ?_; refine yB rfl rfl rfl rfl ?_; refine yQ ?_; refine q_then ?_
  refine pw_cond rfl (fun h3 => ?_) (fun h3 => ?_)
  · simp at h3
    have e0 := ix dP ps k k (x, y) rfl (hp ▸ getP_at h3)
    refine pw_skip ?_; refine pw_seq ?_; refine pw_block ?_; refine pw_seq ?_; refine pw_region ?_; refine yMd rfl ?_; refine yMd rfl ?_; refine yW e0 (by omega) rfl rfl ?_; refine yFr rfl rfl ?_; refine yLr rfl rfl ?_
    refine yMd rfl ?_; refine yB rfl rfl rfl rfl ?_; refine yMd rfl ?_
    cases h4 : decide (x ≤ d)
    · refine yO rfl ?_; refine yO rfl ?_; refine yO rfl ?_; refine yO rfl ?_; refine yO rfl ?_; refine yO rfl ?_; refine yO rfl ?_; refine yVd rfl rfl ?_; refine yQ ?_; refine pw_cf rfl ?_; refine pw_skip ?_; refine pw_region ?_
      refine yMd rfl ?_; refine yB rfl rfl rfl rfl ?_; refine yAd rfl ?_; refine yQ ?_; refine q_then ?_
      exact ⟨k + 1, ⟨by omega, fsnoc hz (by rw [← hp]; simp [fIn, h4])⟩, by omega, rfl, ⟨.refl _, .refl _, .of_eq (congrArg (fun n => SV.d (dI n)) hw1), trivial⟩, trivial, trivial, rfl⟩
    · refine yMd rfl ?_; refine yMd rfl ?_; refine yMd rfl ?_; refine yW e0 (by omega) rfl rfl ?_; refine yFr rfl rfl ?_; refine yLr rfl rfl ?_; refine yB rfl rfl rfl rfl ?_; refine yPd rfl rfl ?_; refine yQ ?_; refine q_then ?_
      cases h5 : decide (d < y)
      · refine pw_cf rfl ?_; refine pw_skip ?_; refine pw_region ?_; refine yMd rfl ?_; refine yB rfl rfl rfl rfl ?_; refine yAd rfl ?_; refine yQ ?_; refine q_then ?_
        exact ⟨k + 1, ⟨by omega, fsnoc hz (by rw [← hp]; simp [fIn, h5])⟩, by omega, rfl, ⟨.refl _, .refl _, .of_eq (congrArg (fun n => SV.d (dI n)) hw1), trivial⟩, trivial, trivial, rfl⟩
      · rw [show fdR ps d = ((k : Int), true, 0) by rw [fdR, if_pos hc.symm, fstP_at h3 hz (by rw [← hp]; simp [fIn, h4, h5])]]
        refine pw_ct rfl ?_; refine pw_seq ?_; refine pw_region ?_; refine yMd rfl ?_; refine yAd rfl ?_; refine yAd rfl ?_; refine yAd rfl ?_; refine yQ ?_; refine pw_ret ?_; refine q_blk_ret ?_; refine q_then_ret ?_; refine q_then_ret ?_
        refine q_blk_ret ?_; refine q_then_ret ?_
        exact q_ret _ (.tmp rfl (.tmp rfl (.tmp rfl .nil))) rfl
  · simp at h3
    obtain rfl : k = ps.length := by omega
    rw [show fdR ps d = (0, false, 0) by rw [fdR, if_pos hc.symm, fstP_no hz]]
    refine pw_exit ?_; refine pw_seq ?_; refine pw_region ?_; refine yAd rfl ?_; refine yAd rfl ?_; refine yAd rfl ?_; refine yQ ?_; refine pw_ret ?_
    exact q_ret _ (.tmp rfl (.tmp rfl (.tmp rfl .nil))) rfl

set_option maxRecDepth 20000 in
set_option maxHeartbeats 1000000 in
theorem p55 (ps : List (Int × Int)) (d : Int) : PCalls Try.prog 55 [dPs ps, dI d] (dF (nxR ps d)) := by
  obtain ⟨c, hc⟩ : ∃ c, c = sChk ps := ⟨_, rfl⟩
  have c1 : PCalls Try.prog 58 [dPs ps] (.d (dI c)) := hc ▸ p58 ps
  refine pcalls_of_pw Try.func55 rfl Try.ntmps55 Try.results55 (by simp) fun B w0 => ?_
  refine pw_seq ?_; refine pw_region ?_; refine yAd rfl ?_; refine yAd rfl ?_; refine yAd rfl ?_; refine yQ ?_; refine pw_seq ?_; refine pw_seq ?_; refine pw_region ?_; refine yMd rfl ?_; refine yC (c1) rfl rfl ?_
  refine yB rfl rfl rfl rfl ?_; refine yQ ?_; refine q_then ?_
  refine pw_cond rfl (fun h => ?_) (fun h => ?_)
  · simp at h
    rw [show nxR ps d = (0, false, 1) by rw [nxR, if_neg (by rw [← hc]; exact h)]]
    refine pw_seq ?_; refine pw_region ?_; refine yAd rfl ?_; refine yAd rfl ?_; refine yAd rfl ?_; refine yQ ?_; refine pw_ret ?_; refine q_then_ret ?_
    exact q_ret _ (.tmp rfl (.tmp rfl (.tmp rfl .nil))) rfl
  simp at h
  subst h
  have hlen := sChk_len hc.symm
  refine pw_skip ?_; refine pw_seq ?_; refine pw_seq ?_; refine pw_region ?_; refine yAd rfl ?_; refine yQ ?_; refine pw_block ?_
  refine pw_loop (fun k : Nat => ⟨29, [(0, .d (dPs ps)), (1, .d (dI d)), (7, .d (dI k))], [], []⟩) (fun k => k ≤ ps.length ∧ ∀ j, j < k → fAf d (getP ps j) = false) (fun k => ps.length - k) 0 ⟨Nat.zero_le _, fun j hj => by omega⟩ ⟨rfl, ⟨.refl _, .refl _, .refl _, trivial⟩, trivial, trivial, rfl⟩ ?_
  rintro k ⟨hk, hz⟩
  obtain ⟨⟨x, y⟩, hp⟩ : ∃ p, p = getP ps k := ⟨_, rfl⟩
  have hw1 := wrapI ((k : Int) + 1) (by omega)
  refine pw_seq ?_; refine pw_seq ?_; refine pw_region ?_; refine yMd rfl ?_; refine yMd rfl ?_; refine yN rfl ?_; refine yB rfl rfl rfl rfl ?_; refine yQ ?_; refine q_then ?_
  refine pw_cond rfl (fun h3 => ?_) (fun h3 => ?_)
  · simp at h3
    have e0 := ix dP ps k k (x, y) rfl (hp ▸ getP_at h3)
    refine pw_skip ?_; refine pw_seq ?_; refine pw_block ?_; refine pw_seq ?_; refine pw_region ?_; refine yMd rfl ?_; refine yMd rfl ?_; refine yW e0 (by omega) rfl rfl ?_; refine yFr rfl rfl ?_; refine yLr rfl rfl ?_
    refine yMd rfl ?_; refine yB rfl rfl rfl rfl ?_; refine yQ ?_; refine q_then ?_
    refine pw_cond rfl (fun h4 => ?_) (fun h4 => ?_)
    · simp at h4
      rw [show nxR ps d = (y, true, 0) by rw [nxR, if_pos hc.symm, fstP_at h3 hz (by rw [← hp]; simp [fAf, h4])]; show ((getP ps k).2, true, (0 : Int)) = _; rw [← hp]]
      refine pw_seq ?_; refine pw_region ?_; refine yMd rfl ?_; refine yMd rfl ?_; refine yW e0 (by omega) rfl rfl ?_; refine yFr rfl rfl ?_; refine yLr rfl rfl ?_; refine yAd rfl ?_; refine yAd rfl ?_; refine yAd rfl ?_; refine yQ ?_
      refine pw_ret ?_; refine q_blk_ret ?_; refine q_then_ret ?_; refine q_then_ret ?_; refine q_blk_ret ?_; refine q_then_ret ?_
      exact q_ret _ (.tmp rfl (.tmp rfl (.tmp rfl .nil))) rfl
    · simp at h4
      refine pw_skip ?_; refine pw_region ?_; refine yMd rfl ?_; refine yB rfl rfl rfl rfl ?_; refine yAd rfl ?_; refine yQ ?_; refine q_then ?_
      exact ⟨k + 1, ⟨by omega, fsnoc hz (by rw [← hp]; simp [fAf]; omega)⟩, by omega, rfl, ⟨.refl _, .refl _, .of_eq (congrArg (fun n => SV.d (dI n)) hw1), trivial⟩, trivial, trivial, rfl⟩
  · simp at h3
    obtain rfl : k = ps.length := by omega
    rw [show nxR ps d = (0, false, 0) by rw [nxR, if_pos hc.symm, fstP_no hz]]
    refine pw_exit ?_; refine pw_seq ?_; refine pw_region ?_; refine yAd rfl ?_; refine yAd rfl ?_; refine yAd rfl ?_; refine yQ ?_; refine pw_ret ?_
    exact q_ret _ (.tmp rfl (.tmp rfl (.tmp rfl .nil))) rfl
end Go.Proofs.Ytilbolgncpfmmaa

/- Walks of Regular of schedule and its reference, for this seat. -/
namespace Go.Proofs.Ytilbolgncpfmmaa
open Go.RowKit Px

/-- what Regular returns, for a period -/
def rgP (x y m s : Int) : (Int × Int) × Int :=
  if sReg x y m = true then ((x, y), 0) else if s = 1 then (if amE y (-m) = 0 then ((amV y (-m), y), 0) else ((0, 0), 13)) else (if amE x m = 0 then ((x, amV x m), 0) else ((0, 0), 13))
def rgR (ps : List (Int × Int)) (i m s : Int) : (Int × Int) × Int :=
  if sck (sChk ps == 0) m s = 0 then (if i < 0 ∨ (ps.length : Int) ≤ i then ((0, 0), 2) else rgP (getP ps i.toNat).1 (getP ps i.toNat).2 m s) else ((0, 0), sck (sChk ps == 0) m s)
abbrev dR (r : (Int × Int) × Int) : SV := .tup [.agg (dP r.1), dI r.2]

set_option maxRecDepth 20000 in
set_option maxHeartbeats 1000000 in
theorem p50 (ps : List (Int × Int)) (i m s : Int) : PCalls Try.prog 50 [dPs ps, dI i, dI m, dI s] (dR (rgR ps i m s)) := by
  obtain ⟨c, hc⟩ : ∃ c, c = sChk ps := ⟨_, rfl⟩
  obtain ⟨e, he⟩ : ∃ e, e = sck (c == 0) m s := ⟨_, rfl⟩
  have c1 : PCalls Try.prog 44 [dPs ps] (.d (dI c)) := hc ▸ p44 ps
  have c2 : PCalls Try.prog 82 [dB (c == 0), dI m, dI s] (.d (dI e)) := he ▸ p82 _ _ _
  have hr : rgR ps i m s = if e = 0 then (if i < 0 ∨ (ps.length : Int) ≤ i then ((0, 0), 2) else rgP (getP ps i.toNat).1 (getP ps i.toNat).2 m s) else ((0, 0), e) := by rw [rgR, ← hc, ← he]
  refine pcalls_of_pw Try.func50 rfl Try.ntmps50 Try.results50 (by simp) fun B w0 => ?_
  refine pw_seq ?_; refine pw_region ?_; refine yZ (cs := [_, _]) rfl rfl ?_; refine yAd rfl ?_; refine yQ ?_; refine pw_seq ?_; refine pw_seq ?_; refine pw_region ?_; refine yMd rfl ?_; refine yC (c1) rfl rfl ?_
  refine yB rfl rfl rfl rfl ?_; refine yMd rfl ?_; refine yMd rfl ?_; refine yC (c2) rfl rfl ?_; refine yAd rfl ?_; refine yQ ?_; refine pw_seq ?_; refine pw_region ?_; refine yMd rfl ?_; refine yB rfl rfl rfl rfl ?_; refine yQ ?_
  refine q_then ?_
  refine pw_cond rfl (fun h => ?_) (fun h => ?_)
  · simp at h
    rw [hr, if_neg h]
    refine pw_seq ?_; refine pw_region ?_; refine yG (ys := [_, _]) rfl rfl ?_; refine yMd rfl ?_; refine yS (cs' := [_, _]) rfl rfl rfl rfl rfl ?_; refine yAd rfl ?_; refine yQ ?_; refine pw_ret ?_; refine q_then_ret ?_
    exact q_ret _ (.agg inferInstance rfl rfl rfl rfl (.tmp rfl .nil)) rfl
  simp at h
  subst h
  rw [if_pos rfl] at hr
  have hcm : sChk ps = 0 ∧ 1 ≤ m ∧ m ≤ 4800 ∧ (s = 1 ∨ s = 2) := by
    cases h0 : c == 0 with
    | false => rw [h0] at he; simp [sck] at he
    | true => rw [h0] at he; exact ⟨by rw [← hc]; simpa using h0, sck_zero he.symm⟩
  obtain ⟨hc0, hm1, hm2, hs⟩ := hcm
  have hlen := sChk_len hc0
  refine pw_skip ?_; refine pw_seq ?_; refine pw_seq ?_; refine pw_region ?_; refine yMd rfl ?_; refine yB rfl rfl rfl rfl ?_; refine yMd rfl ?_
  cases h1 : decide (i < 0)
  rotate_left
  · rw [hr, if_pos (.inl (by simpa using h1))]
    refine yO rfl ?_; refine yO rfl ?_; refine yO rfl ?_; refine yO rfl ?_; refine yPd rfl rfl ?_; refine yQ ?_; refine pw_ct rfl ?_; refine pw_seq ?_; refine pw_region ?_; refine yG (ys := [_, _]) rfl rfl ?_
    refine yS (cs' := [_, _]) rfl rfl rfl rfl rfl ?_; refine yAd rfl ?_; refine yQ ?_; refine pw_ret ?_; refine q_then_ret ?_
    exact q_ret _ (.agg inferInstance rfl rfl rfl rfl (.tmp rfl .nil)) rfl
  refine yMd rfl ?_; refine yMd rfl ?_; refine yN rfl ?_; refine yB rfl rfl rfl rfl ?_; refine yVd rfl rfl ?_; refine yQ ?_; refine q_then ?_
  refine pw_cond rfl (fun h2 => ?_) (fun h2 => ?_)
  · simp at h1 h2
    rw [hr, if_pos (.inr (by omega))]
    refine pw_seq ?_; refine pw_region ?_; refine yG (ys := [_, _]) rfl rfl ?_; refine yS (cs' := [_, _]) rfl rfl rfl rfl rfl ?_; refine yAd rfl ?_; refine yQ ?_; refine pw_ret ?_; refine q_then_ret ?_
    exact q_ret _ (.agg inferInstance rfl rfl rfl rfl (.tmp rfl .nil)) rfl
  simp at h1 h2
  obtain ⟨k, rfl⟩ : ∃ k : Nat, i = k := ⟨i.toNat, by omega⟩
  rw [if_neg (by omega), Int.toNat_natCast] at hr
  obtain ⟨⟨x, y⟩, hp⟩ : ∃ p, p = getP ps k := ⟨_, rfl⟩
  rw [← hp] at hr
  simp only at hr
  rw [hr, rgP]
  have e0 := ix dP ps k k (x, y) rfl (hp ▸ getP_at (by omega))
  obtain ⟨r, hr2⟩ : ∃ r, r = sReg x y m := ⟨_, rfl⟩
  have c3 : PCalls Try.prog 90 [.agg [dI x, dI y], dI m] (.d (dB r)) := hr2 ▸ p90 x y m (by omega) (by omega)
  rw [← hr2]
  refine pw_skip ?_; refine pw_seq ?_; refine pw_region ?_; refine yMd rfl ?_; refine yMd rfl ?_; refine yW e0 (by omega) rfl rfl ?_; refine yLs (ys := [_, _]) rfl rfl rfl ?_; refine yZ (cs := [_, _]) rfl rfl ?_
  refine yS (cs' := [_, _]) rfl rfl rfl rfl rfl ?_; refine yQ ?_; refine pw_seq ?_; refine pw_seq ?_; refine pw_region ?_; refine yLa (ys := [_, _]) rfl rfl rfl rfl ?_; refine yMd rfl ?_; refine yC (c3) rfl rfl ?_; refine yQ ?_
  refine q_then ?_
  cases r
  rotate_left
  · rw [if_pos rfl]
    refine pw_ct rfl ?_; refine pw_seq ?_; refine pw_region ?_; refine yLa (ys := [_, _]) rfl rfl rfl rfl ?_; refine yS (cs' := [_, _]) rfl rfl rfl rfl rfl ?_; refine yAd rfl ?_; refine yQ ?_; refine pw_ret ?_; refine q_then_ret ?_
    exact q_ret _ (.agg inferInstance rfl rfl rfl rfl (.tmp rfl .nil)) rfl
  rw [if_neg (by simp)]
  rcases hs with rfl | rfl
  · rw [if_pos rfl]
    obtain ⟨v, hv⟩ : ∃ v, v = amV y (-m) := ⟨_, rfl⟩
    obtain ⟨f, hf⟩ : ∃ f, f = amE y (-m) := ⟨_, rfl⟩
    have c4 : PCalls Try.prog 46 [dI y, dI (IntKind.i64.wrap (0 - m))] (.tup [dI v, dI f]) := by rw [wneg (by omega) hm2, hv, hf]; exact p46 y (-m) (by omega) (by omega)
    rw [← hv, ← hf]
    refine pw_cf rfl ?_; refine pw_skip ?_; refine pw_seq ?_; refine pw_region ?_; refine yAd rfl ?_; refine yQ ?_; refine pw_seq ?_; refine pw_seq ?_; refine pw_region ?_; refine yMd rfl ?_; refine yB rfl rfl rfl rfl ?_; refine yQ ?_
    refine pw_ct rfl ?_; refine pw_region ?_; refine yFb rfl ?_; refine yLd rfl rfl rfl ?_; refine yMd rfl ?_; refine yU rfl rfl rfl ?_; refine yC (c4) rfl rfl ?_; refine yMp rfl ?_; refine yX rfl rfl ?_; refine yX rfl rfl ?_
    refine yFb rfl ?_; refine ySd (cs' := [_, _]) rfl rfl rfl rfl ?_; refine yAd rfl ?_; refine yQ ?_; refine pw_seq ?_; refine pw_seq ?_; refine pw_region ?_; refine yMd rfl ?_; refine yB rfl rfl rfl rfl ?_; refine yQ ?_
    refine q_then ?_
    refine pw_cond rfl (fun h3 => ?_) (fun h3 => ?_)
    · simp at h3
      rw [if_neg h3]
      refine pw_seq ?_; refine pw_region ?_; refine yG (ys := [_, _]) rfl rfl ?_; refine yS (cs' := [_, _]) rfl rfl rfl rfl rfl ?_; refine yAd rfl ?_; refine yQ ?_; refine pw_ret ?_; refine q_then_ret ?_
      exact q_ret _ (.agg inferInstance rfl rfl rfl rfl (.tmp rfl .nil)) rfl
    · simp at h3
      rw [if_pos h3]
      refine pw_skip ?_; refine pw_seq ?_; refine pw_region ?_; refine yLa (ys := [_, _]) rfl rfl rfl rfl ?_; refine yS (cs' := [_, _]) rfl rfl rfl rfl rfl ?_; refine yAd rfl ?_; refine yQ ?_; refine pw_ret ?_
      exact q_ret _ (.agg inferInstance rfl rfl rfl rfl (.tmp rfl .nil)) rfl
  · rw [if_neg (by decide)]
    obtain ⟨v, hv⟩ : ∃ v, v = amV x m := ⟨_, rfl⟩
    obtain ⟨f, hf⟩ : ∃ f, f = amE x m := ⟨_, rfl⟩
    have c4 : PCalls Try.prog 46 [dI x, dI m] (.tup [dI v, dI f]) := by rw [hv, hf]; exact p46 x m (by omega) (by omega)
    rw [← hv, ← hf]
    refine pw_cf rfl ?_; refine pw_skip ?_; refine pw_seq ?_; refine pw_region ?_; refine yAd rfl ?_; refine yQ ?_; refine pw_seq ?_; refine pw_seq ?_; refine pw_region ?_; refine yMd rfl ?_; refine yB rfl rfl rfl rfl ?_; refine yQ ?_
    refine pw_cf rfl ?_; refine pw_region ?_; refine yFb rfl ?_; refine yLd rfl rfl rfl ?_; refine yMd rfl ?_; refine yC (c4) rfl rfl ?_; refine yMp rfl ?_; refine yX rfl rfl ?_; refine yX rfl rfl ?_; refine yFb rfl ?_
    refine ySd (cs' := [_, _]) rfl rfl rfl rfl ?_; refine yAd rfl ?_; refine yQ ?_; refine pw_seq ?_; refine pw_seq ?_; refine pw_region ?_; refine yMd rfl ?_; refine yB rfl rfl rfl rfl ?_; refine yQ ?_; refine q_then ?_
    refine pw_cond rfl (fun h3 => ?_) (fun h3 => ?_)
    · simp at h3
      rw [if_neg h3]
      refine pw_seq ?_; refine pw_region ?_; refine yG (ys := [_, _]) rfl rfl ?_; refine yS (cs' := [_, _]) rfl rfl rfl rfl rfl ?_; refine yAd rfl ?_; refine yQ ?_; refine pw_ret ?_; refine q_then_ret ?_
      exact q_ret _ (.agg inferInstance rfl rfl rfl rfl (.tmp rfl .nil)) rfl
    · simp at h3
      rw [if_pos h3]
      refine pw_skip ?_; refine pw_seq ?_; refine pw_region ?_; refine yLa (ys := [_, _]) rfl rfl rfl rfl ?_; refine yS (cs' := [_, _]) rfl rfl rfl rfl rfl ?_; refine yAd rfl ?_; refine yQ ?_; refine pw_ret ?_
      exact q_ret _ (.agg inferInstance rfl rfl rfl rfl (.tmp rfl .nil)) rfl
end Go.Proofs.Ytilbolgncpfmmaa

/- The walk of the reference's Build, for this seat. -/
namespace Go.Proofs.Ytilbolgncpfmmaa
open Go.RowKit Px

theorem cpE_right (a b : Int) : cpE a b = 0 ↔ sRight a b = true := by
  unfold cpE sRight
  split
  · rename_i h; simp [h]
  · rename_i h
    have h' : (vB a && vB b) = true := by simpa using h
    rw [h']
    split <;> simp <;> omega
theorem prs_snoc (l : List Int) (x y : Int) : prs (l ++ [x] ++ [y]) = prs (l ++ [x]) ++ [(x, y)] := by
  induction l with
  | nil => rfl
  | cons z l ih =>
    cases l with
    | nil => rfl
    | cons z' l => simp only [List.cons_append, prs] at ih ⊢; rw [ih]
theorem bE_of {a b m s : Int} (h : sRight a b = true) (h' : sck true m s = 0) : bE a b m s = if 399 < (inR a b m s m).length then 4 else 0 := by rw [bE, h, if_pos h']
theorem bL_of {a b m s : Int} (h : sRight a b = true) (h' : sck true m s = 0) (hl : ¬ 399 < (inR a b m s m).length) : bL a b m s = prs (eL a b m s) := by
  obtain ⟨-, -, hs⟩ := sck_zero h'
  have hab : a < b := by simp [sRight] at h; exact h.2
  rw [bL, if_pos (by rw [bE_of h h', if_neg hl]), ends_eq hs hab]
theorem bL_no {a b m s : Int} (h : bE a b m s ≠ 0) : bL a b m s = [] := by rw [bL, if_neg h]

theorem prs_last (a d : Int) (pre : List Int) : prs (a :: (pre ++ [d])) = prs (a :: pre) ++ [(pre.getLastD a, d)] := by
  induction pre generalizing a with
  | nil => rfl
  | cons z l ih =>
    have := ih z
    simp only [List.cons_append, prs] at this ⊢
    rw [this, List.getLastD_cons]
theorem rev_head (b : Int) (pre : List Int) : ∃ t, pre.reverse ++ [b] = pre.getLastD b :: t := by
  rcases List.eq_nil_or_concat pre with rfl | ⟨l, x, rfl⟩
  · exact ⟨[], rfl⟩
  · exact ⟨l.reverse ++ [b], by simp⟩
theorem prs_head (b d : Int) (pre : List Int) : prs (d :: (pre.reverse ++ [b])) = (d, pre.getLastD b) :: prs (pre.reverse ++ [b]) := by
  obtain ⟨t, ht⟩ := rev_head b pre
  rw [ht]; rfl
theorem prs_len1 (a : Int) (pre : List Int) : (prs (a :: pre)).length = pre.length := by rw [prs_length]; simp
theorem prs_len2 (b : Int) (pre : List Int) : (prs (pre.reverse ++ [b])).length = pre.length := by rw [prs_length]; simp

set_option maxRecDepth 20000 in
set_option maxHeartbeats 2000000 in
theorem p41 (a b m s : Int) : PCalls Try.prog 41 [.agg (dP (a, b)), dI m, dI s] (.tup [dPs (bL a b m s), dI (bE a b m s)]) := by
  obtain ⟨c, hc⟩ : ∃ c, c = cpE a b := ⟨_, rfl⟩
  obtain ⟨e, he⟩ : ∃ e, e = sck true m s := ⟨_, rfl⟩
  have c1 : PCalls Try.prog 86 [.agg [dI a, dI b]] (.d (dI c)) := hc ▸ p86 a b
  have c2 : PCalls Try.prog 87 [dI m, dI s] (.d (dI e)) := he ▸ p87 m s
  refine pcalls_of_pw Try.func41 rfl Try.ntmps41 Try.results41 (by simp) fun B w0 => ?_
  refine pw_seq ?_; refine pw_region ?_; refine yK (cs := [_, _]) rfl rfl ?_; refine yAd rfl ?_; refine yAd rfl ?_; refine yQ ?_; refine pw_seq ?_; refine pw_seq ?_; refine pw_region ?_; refine yLa (ys := [_, _]) rfl rfl rfl rfl ?_
  refine yC (c1) rfl rfl ?_; refine yB rfl rfl rfl rfl ?_; refine yQ ?_; refine q_then ?_
  refine pw_cond rfl (fun h => ?_) (fun h => ?_)
  · simp at h
    have hn : sRight a b = false := by rw [← Bool.not_eq_true, ← cpE_right, ← hc]; exact h
    have hE : bE a b m s = 1 := by rw [bE, hn, sck_bad, if_neg (by decide)]
    rw [hE, bL_no (by rw [hE]; decide)]
    refine pw_seq ?_; refine pw_region ?_; refine yAd rfl ?_; refine yAd rfl ?_; refine yQ ?_; refine pw_ret ?_; refine q_then_ret ?_
    exact q_ret _ (.tnil 2 rfl (.tmp rfl .nil)) rfl
  simp at h
  have hr : sRight a b = true := (cpE_right a b).1 (hc ▸ h)
  refine pw_skip ?_; refine pw_seq ?_; refine pw_seq ?_; refine pw_region ?_; refine yMd rfl ?_; refine yMd rfl ?_; refine yC (c2) rfl rfl ?_; refine yAd rfl ?_; refine yQ ?_; refine pw_seq ?_; refine pw_region ?_; refine yMd rfl ?_
  refine yB rfl rfl rfl rfl ?_; refine yQ ?_; refine q_then ?_
  refine pw_cond rfl (fun h2 => ?_) (fun h2 => ?_)
  · simp at h2
    have hE : bE a b m s = e := by rw [bE, hr, ← he, if_neg h2]
    rw [hE, bL_no (by rw [hE]; exact h2)]
    refine pw_seq ?_; refine pw_region ?_; refine yMd rfl ?_; refine yAd rfl ?_; refine yAd rfl ?_; refine yQ ?_; refine pw_ret ?_; refine q_then_ret ?_
    exact q_ret _ (.tnil 2 rfl (.tmp rfl .nil)) rfl
  simp at h2
  have hk0 : sck true m s = 0 := he ▸ h2
  obtain ⟨hm1, hm2, hs⟩ := sck_zero hk0
  have hab : a < b := by simp [sRight] at hr; exact hr.2
  have hbE := bE_of hr hk0
  rcases hs with rfl | rfl
  · refine pw_skip ?_; refine pw_seq ?_; refine pw_region ?_; refine yR (es := []) rfl rfl rfl rfl rfl ?_; refine yAd rfl ?_; refine yQ ?_; refine pw_seq ?_; refine pw_region ?_; refine yLa (ys := [_, _]) rfl rfl rfl rfl ?_
    refine yZ (cs := [_, _]) rfl rfl ?_; refine yS (cs' := [_, _]) rfl rfl rfl rfl rfl ?_; refine yQ ?_; refine pw_seq ?_; refine pw_seq ?_; refine pw_region ?_; refine yAd rfl ?_; refine yQ ?_; refine pw_block ?_
    refine pw_loop (fun pre : List Int => ⟨101, [(1, .d (dI m)), (2, .d (dI 1)), (3, .bx 3 0), (10, .bx 10 0), (11, .d (dI ((pre.length : Int) + 1))), (9, .d (.sl 2 ((prs (pre.reverse ++ [b])).map dP)))], [(3, [.d (dI a), .d (dI b)]), (10, [.any, .d (dI (pre.getLastD b))])], []⟩) (fun pre => inR a b m 1 m = pre ++ inR a b m 1 (((pre.length : Int) + 1) * m) ∧ pre.length ≤ 400) (fun pre => 400 - pre.length) [] ⟨by simp, by simp⟩ ⟨rfl, ⟨.refl _, .refl _, .refl _, .refl _, .refl _, .refl _, trivial⟩, ⟨⟨_, rfl, .refl _, .refl _, trivial⟩, ⟨_, rfl, .any _, .refl _, trivial⟩, trivial⟩, trivial, rfl⟩ ?_
    rintro pre ⟨hpre, hlen⟩
    obtain ⟨x, hx⟩ : ∃ x, x = pre.getLastD b := ⟨_, rfl⟩
    obtain ⟨k, hk⟩ : ∃ k, k = (pre.length : Int) + 1 := ⟨_, rfl⟩
    have hkm : 1 ≤ k * m ∧ k * m ≤ 401 * 4800 := ⟨Int.le_trans (by omega) (Int.mul_le_mul (show 1 ≤ k by omega) hm1 (by omega) (by omega)), Int.mul_le_mul (by omega) hm2 (by omega) (by omega)⟩
    obtain ⟨d, hd⟩ : ∃ d, d = amV b (-(k * m)) := ⟨_, rfl⟩
    obtain ⟨f, hf⟩ : ∃ f, f = amE b (-(k * m)) := ⟨_, rfl⟩
    have c3 : PCalls Try.prog 88 [dI b, dI (IntKind.i64.wrap (IntKind.i64.wrap (0 - k) * m))] (.tup [dI d, dI f]) := by
      rw [wrapI (0 - k) (by omega), show (0 - k) * m = -(k * m) by rw [Int.zero_sub, Int.neg_mul], wrapI _ (by omega), hd, hf]; exact p88 b (-(k * m)) (by omega) (by omega)
    have hw1 := wrapI (k + 1) (by omega)
    have hpl := prs_len2 b pre
    have hp1 := fun y => prs_head b y pre
    rw [← hx] at hp1
    obtain ⟨qs, hq⟩ : ∃ qs, qs = prs (pre.reverse ++ [b]) := ⟨_, rfl⟩
    rw [← hq] at hpl hp1
    rw [← hk] at hpre
    have hsg : sSg 1 * (k * m) = -(k * m) := by rw [sSg_one]; omega
    have hin : inR a b m 1 (k * m) = if f = 0 ∧ a < d then d :: inR a b m 1 (k * m + m) else [] := by
      have e2 : amV (sSt a b 1) (sSg 1 * (k * m)) = d := by rw [show sSt a b 1 = b from rfl, hsg, hd]
      have e1 : amE (sSt a b 1) (sSg 1 * (k * m)) = f := by rw [show sSt a b 1 = b from rfl, hsg, hf]
      by_cases hfd : f = 0 ∧ a < d
      · rw [if_pos hfd]
        have e3 : amE b (-(k * m)) = 0 := by rw [← hf]; exact hfd.1
        have e4 := amV_ls e3 (by omega)
        have e5 := (amE_zero e3).2.1
        rw [inR_yes hm1 (by omega) (e1.trans hfd.1) (by rw [e2]; exact hfd.2) (by rw [e2, hd]; exact e4), e2]
      · rw [if_neg hfd]
        by_cases hf0 : f = 0
        · exact inR_lo (by rw [e2]; omega)
        · exact inR_err (by rw [e1]; exact hf0)
    rw [← hx, ← hk, ← hq]
    refine pw_seq ?_; refine pw_block ?_; refine pw_seq ?_; refine pw_seq ?_; refine pw_region ?_; refine yMd rfl ?_; refine yB rfl rfl rfl rfl ?_; refine yQ ?_; refine pw_ct rfl ?_; refine pw_seq ?_; refine pw_region ?_
    refine yFb rfl ?_; refine yLd rfl rfl rfl ?_; refine yMd rfl ?_; refine yU rfl rfl rfl ?_; refine yMd rfl ?_; refine yB rfl rfl rfl rfl ?_; refine yC (c3) rfl rfl ?_; refine yMp rfl ?_; refine yX rfl rfl ?_; refine yX rfl rfl ?_
    refine yAd rfl ?_; refine yAd rfl ?_; refine yQ ?_; refine pw_seq ?_; refine pw_seq ?_; refine pw_region ?_; refine yMd rfl ?_; refine yB rfl rfl rfl rfl ?_; refine yMd rfl ?_
    cases h3 : (f != 0)
    rotate_left
    · have hpre' : inR a b m 1 m = pre ++ [] := by rw [hpre, hin, if_neg (by simp at h3; simp [h3])]
      refine yO rfl ?_; refine yO rfl ?_; refine yO rfl ?_; refine yO rfl ?_; refine yPd rfl rfl ?_; refine yQ ?_; refine pw_ct rfl ?_; refine pw_region ?_; refine yFb rfl ?_; refine yLd rfl rfl rfl ?_; refine yAd rfl ?_; refine yQ ?_
      refine pw_seq ?_; refine pw_region ?_; refine yMd rfl ?_; refine yFb rfl ?_; refine ySd (cs' := [_, _]) rfl rfl rfl rfl ?_; refine yQ ?_; refine pw_seq ?_; refine pw_region ?_; refine yLa (ys := [_, _]) rfl rfl rfl rfl ?_
      refine yRt (t := 2800054) (es := [[_, _]]) rfl rfl rfl rfl rfl rfl rfl rfl ?_; refine yMd rfl ?_
      refine yT (es' := ((a, x) :: qs).map dP) (m := (((a, x) :: qs).map dP).length) (by simp; omega) (by simp; omega) rfl rfl rfl rfl rfl rfl (by simp; omega) ?_; refine yAt rfl ?_; refine yQ ?_; refine pw_seq ?_; refine pw_seq ?_
      refine pw_region ?_; refine yMd rfl ?_; refine yFb rfl ?_; refine yLd rfl rfl rfl ?_; refine yB rfl rfl rfl rfl ?_; refine yQ ?_; refine q_then ?_
      refine pw_cond rfl (fun h4 => ?_) (fun h4 => absurd h4 (by simp))
      refine pw_exit ?_; refine pw_seq ?_; refine pw_seq ?_; refine pw_region ?_; refine yMt rfl ?_; refine yN rfl ?_; refine yB rfl rfl rfl rfl ?_; refine yQ ?_; refine q_then ?_
      refine pw_cond rfl (fun h5 => ?_) (fun h5 => ?_)
      · simp at h5
        have hE : bE a b m 1 = 4 := by rw [hbE, if_pos (by rw [hpre', List.append_nil]; omega)]
        rw [hE, bL_no (by rw [hE]; decide)]
        refine pw_seq ?_; refine pw_region ?_; refine yAd rfl ?_; refine yAd rfl ?_; refine yQ ?_; refine pw_ret ?_; refine q_then_ret ?_
        exact q_ret _ (.tnil 2 rfl (.tmp rfl .nil)) rfl
      · simp at h5
        have hnl : ¬ 399 < (inR a b m 1 m).length := by rw [hpre', List.append_nil]; omega
        have hE : bE a b m 1 = 0 := by rw [hbE, if_neg hnl]
        rw [hE, bL_of hr hk0 hnl, show prs (eL a b m 1) = (a, x) :: qs by rw [eL, if_neg (by decide), hpre', List.append_nil, hp1]]
        refine pw_skip ?_; refine pw_seq ?_; refine pw_region ?_; refine yMt rfl ?_; refine yAt rfl ?_; refine yAd rfl ?_; refine yQ ?_; refine pw_ret ?_
        exact q_ret _ (.tmp rfl (.tmp rfl .nil)) rfl
    refine yMd rfl ?_; refine yFb rfl ?_; refine yLd rfl rfl rfl ?_; refine yB rfl rfl rfl rfl ?_; refine yVd rfl rfl ?_; refine yQ ?_; refine q_then ?_
    simp at h3
    refine pw_cond rfl (fun h6 => ?_) (fun h6 => ?_)
    · simp at h6
      have hpre' : inR a b m 1 m = pre ++ [] := by rw [hpre, hin, if_neg (by omega)]
      refine pw_region ?_; refine yFb rfl ?_; refine yLd rfl rfl rfl ?_; refine yAd rfl ?_; refine yQ ?_; refine pw_seq ?_; refine pw_region ?_; refine yMd rfl ?_; refine yFb rfl ?_; refine ySd (cs' := [_, _]) rfl rfl rfl rfl ?_
      refine yQ ?_; refine pw_seq ?_; refine pw_region ?_; refine yLa (ys := [_, _]) rfl rfl rfl rfl ?_; refine yRt (t := 2800054) (es := [[_, _]]) rfl rfl rfl rfl rfl rfl rfl rfl ?_; refine yMd rfl ?_
      refine yT (es' := ((a, x) :: qs).map dP) (m := (((a, x) :: qs).map dP).length) (by simp; omega) (by simp; omega) rfl rfl rfl rfl rfl rfl (by simp; omega) ?_; refine yAt rfl ?_; refine yQ ?_; refine pw_seq ?_; refine pw_seq ?_
      refine pw_region ?_; refine yMd rfl ?_; refine yFb rfl ?_; refine yLd rfl rfl rfl ?_; refine yB rfl rfl rfl rfl ?_; refine yQ ?_; refine q_then ?_
      refine pw_cond rfl (fun h4 => ?_) (fun h4 => absurd h4 (by simp))
      refine pw_exit ?_; refine pw_seq ?_; refine pw_seq ?_; refine pw_region ?_; refine yMt rfl ?_; refine yN rfl ?_; refine yB rfl rfl rfl rfl ?_; refine yQ ?_; refine q_then ?_
      refine pw_cond rfl (fun h5 => ?_) (fun h5 => ?_)
      · simp at h5
        have hE : bE a b m 1 = 4 := by rw [hbE, if_pos (by rw [hpre', List.append_nil]; omega)]
        rw [hE, bL_no (by rw [hE]; decide)]
        refine pw_seq ?_; refine pw_region ?_; refine yAd rfl ?_; refine yAd rfl ?_; refine yQ ?_; refine pw_ret ?_; refine q_then_ret ?_
        exact q_ret _ (.tnil 2 rfl (.tmp rfl .nil)) rfl
      · simp at h5
        have hnl : ¬ 399 < (inR a b m 1 m).length := by rw [hpre', List.append_nil]; omega
        have hE : bE a b m 1 = 0 := by rw [hbE, if_neg hnl]
        rw [hE, bL_of hr hk0 hnl, show prs (eL a b m 1) = (a, x) :: qs by rw [eL, if_neg (by decide), hpre', List.append_nil, hp1]]
        refine pw_skip ?_; refine pw_seq ?_; refine pw_region ?_; refine yMt rfl ?_; refine yAt rfl ?_; refine yAd rfl ?_; refine yQ ?_; refine pw_ret ?_
        exact q_ret _ (.tmp rfl (.tmp rfl .nil)) rfl
    simp at h6
    have hpre' : inR a b m 1 m = pre ++ (d :: inR a b m 1 (k * m + m)) := by rw [hpre, hin, if_pos ⟨h3, h6⟩]
    refine pw_skip ?_; refine pw_seq ?_; refine pw_region ?_; refine yMd rfl ?_; refine yFb rfl ?_; refine ySd (cs' := [_, _]) rfl rfl rfl rfl ?_; refine yQ ?_; refine pw_seq ?_; refine pw_region ?_
    refine yLa (ys := [_, _]) rfl rfl rfl rfl ?_; refine yRt (t := 2800054) (es := [[_, _]]) rfl rfl rfl rfl rfl rfl rfl rfl ?_; refine yMd rfl ?_
    refine yT (es' := ((d, x) :: qs).map dP) (m := (((d, x) :: qs).map dP).length) (by simp; omega) (by simp; omega) rfl rfl rfl rfl rfl rfl (by simp; omega) ?_; refine yAt rfl ?_; refine yQ ?_; refine pw_seq ?_; refine pw_seq ?_
    refine pw_region ?_; refine yMd rfl ?_; refine yFb rfl ?_; refine yLd rfl rfl rfl ?_; refine yB rfl rfl rfl rfl ?_; refine yQ ?_; refine q_then ?_
    refine pw_cond rfl (fun h7 => absurd h7 (by simp; omega)) (fun h7 => ?_)
    refine pw_skip ?_; refine pw_region ?_; refine yMd rfl ?_; refine yFb rfl ?_; refine ySd (cs' := [_, _]) rfl rfl rfl rfl ?_; refine yQ ?_; refine pw_seq ?_; refine pw_region ?_; refine yMt rfl ?_; refine yN rfl ?_
    refine yB rfl rfl rfl rfl ?_; refine yQ ?_; refine q_then ?_
    refine pw_cond rfl (fun h8 => ?_) (fun h8 => ?_)
    · simp at h8
      have hE : bE a b m 1 = 4 := by rw [hbE, if_pos (by rw [hpre']; simp; omega)]
      rw [hE, bL_no (by rw [hE]; decide)]
      refine pw_seq ?_; refine pw_region ?_; refine yAd rfl ?_; refine yAd rfl ?_; refine yQ ?_; refine pw_ret ?_; refine q_blk_ret ?_; refine q_then_ret ?_; refine q_then_ret ?_; refine q_blk_ret ?_; refine q_then_ret ?_
      exact q_ret _ (.tnil 2 rfl (.tmp rfl .nil)) rfl
    · simp at h8
      refine pw_skip ?_; refine pw_region ?_; refine yMd rfl ?_; refine yB rfl rfl rfl rfl ?_; refine yAd rfl ?_; refine yQ ?_; refine q_then ?_
      refine ⟨pre ++ [d], ⟨?_, by simp; omega⟩, by simp; omega, rfl, ⟨.refl _, .refl _, .refl _, .refl _, .of_eq ?_, ?_, trivial⟩, ⟨⟨_, rfl, .refl _, .refl _, trivial⟩, ⟨_, rfl, .any _, .of_eq ?_, trivial⟩, trivial⟩, trivial, rfl⟩
      · rw [hpre', List.append_assoc, List.singleton_append, show (((pre ++ [d]).length : Int) + 1) * m = k * m + m by rw [List.length_append, hk]; simp [Int.add_mul]]
      · exact congrArg (fun n => SV.d (dI n)) (hw1.trans (by simp [hk]))
      · rw [List.reverse_append, List.reverse_singleton, List.singleton_append, List.cons_append, hp1]; exact .tok _ _ _
      · simp
  · refine pw_skip ?_; refine pw_seq ?_; refine pw_region ?_; refine yRt (t := 2800009) (es := []) rfl rfl rfl rfl rfl rfl rfl rfl ?_; refine yAt rfl ?_; refine yQ ?_; refine pw_seq ?_; refine pw_region ?_
    refine yLa (ys := [_, _]) rfl rfl rfl rfl ?_; refine yZ (cs := [_, _]) rfl rfl ?_; refine yS (cs' := [_, _]) rfl rfl rfl rfl rfl ?_; refine yQ ?_; refine pw_seq ?_; refine pw_seq ?_; refine pw_region ?_; refine yAd rfl ?_
    refine yQ ?_; refine pw_block ?_
    refine pw_loop (fun pre : List Int => ⟨101, [(1, .d (dI m)), (2, .d (dI 2)), (3, .bx 3 0), (10, .bx 10 0), (11, .d (dI ((pre.length : Int) + 1))), (9, .ts 2800009 2 ((prs (a :: pre)).map dP))], [(3, [.d (dI a), .d (dI b)]), (10, [.d (dI (pre.getLastD a)), .any])], [(2800009, ((prs (a :: pre)).map dP).length)]⟩) (fun pre => inR a b m 2 m = pre ++ inR a b m 2 (((pre.length : Int) + 1) * m) ∧ pre.length ≤ 400) (fun pre => 400 - pre.length) [] ⟨by simp, by simp⟩ ⟨rfl, ⟨.refl _, .refl _, .refl _, .refl _, .refl _, .refl _, trivial⟩, ⟨⟨_, rfl, .refl _, .refl _, trivial⟩, ⟨_, rfl, .refl _, .any _, trivial⟩, trivial⟩, ⟨rfl, trivial⟩, rfl⟩ ?_
    rintro pre ⟨hpre, hlen⟩
    obtain ⟨x, hx⟩ : ∃ x, x = pre.getLastD a := ⟨_, rfl⟩
    obtain ⟨k, hk⟩ : ∃ k, k = (pre.length : Int) + 1 := ⟨_, rfl⟩
    have hkm : 1 ≤ k * m ∧ k * m ≤ 401 * 4800 := ⟨Int.le_trans (by omega) (Int.mul_le_mul (show 1 ≤ k by omega) hm1 (by omega) (by omega)), Int.mul_le_mul (by omega) hm2 (by omega) (by omega)⟩
    obtain ⟨d, hd⟩ : ∃ d, d = amV a (k * m) := ⟨_, rfl⟩
    obtain ⟨f, hf⟩ : ∃ f, f = amE a (k * m) := ⟨_, rfl⟩
    have c3 : PCalls Try.prog 88 [dI a, dI (IntKind.i64.wrap (k * m))] (.tup [dI d, dI f]) := by rw [wrapI _ (by omega), hd, hf]; exact p88 a (k * m) (by omega) (by omega)
    have hw1 := wrapI (k + 1) (by omega)
    have hpl := prs_len1 a pre
    have hp1 := fun y => prs_last a y pre
    rw [← hx] at hp1
    obtain ⟨qs, hq⟩ : ∃ qs, qs = prs (a :: pre) := ⟨_, rfl⟩
    rw [← hq] at hpl hp1
    rw [← hk] at hpre
    have hin : inR a b m 2 (k * m) = if f = 0 ∧ d < b then d :: inR a b m 2 (k * m + m) else [] := by
      by_cases hfd : f = 0 ∧ d < b
      · rw [if_pos hfd]
        have e1 : amE (sSt a b 2) (sSg 2 * (k * m)) = 0 := by rw [show sSt a b 2 = a from rfl, sSg_two, Int.one_mul, ← hf]; exact hfd.1
        have e2 : amV (sSt a b 2) (sSg 2 * (k * m)) = d := by rw [show sSt a b 2 = a from rfl, sSg_two, Int.one_mul, hd]
        have e3 : amE a (k * m) = 0 := by rw [← hf]; exact hfd.1
        have e4 := amV_gt e3 (by omega)
        have e5 := (amE_zero e3).2.2.1
        rw [inR_yes hm1 e5 e1 (by rw [e2, hd]; exact e4) (by rw [e2]; exact hfd.2), e2]
      · rw [if_neg hfd]
        have e2 : amV (sSt a b 2) (sSg 2 * (k * m)) = d := by rw [show sSt a b 2 = a from rfl, sSg_two, Int.one_mul, hd]
        have e1 : amE (sSt a b 2) (sSg 2 * (k * m)) = f := by rw [show sSt a b 2 = a from rfl, sSg_two, Int.one_mul, hf]
        by_cases hf0 : f = 0
        · exact inR_hi (by rw [e2]; omega)
        · exact inR_err (by rw [e1]; exact hf0)
    rw [← hx, ← hk, ← hq]
    refine pw_seq ?_; refine pw_block ?_; refine pw_seq ?_; refine pw_seq ?_; refine pw_region ?_; refine yMd rfl ?_; refine yB rfl rfl rfl rfl ?_; refine yQ ?_; refine pw_cf rfl ?_; refine pw_seq ?_; refine pw_region ?_
    refine yFb rfl ?_; refine yLd rfl rfl rfl ?_; refine yMd rfl ?_; refine yMd rfl ?_; refine yB rfl rfl rfl rfl ?_; refine yC (c3) rfl rfl ?_; refine yMp rfl ?_; refine yX rfl rfl ?_; refine yX rfl rfl ?_; refine yAd rfl ?_
    refine yAd rfl ?_; refine yQ ?_; refine pw_seq ?_; refine pw_seq ?_; refine pw_region ?_; refine yMd rfl ?_; refine yB rfl rfl rfl rfl ?_; refine yMd rfl ?_
    cases h3 : (f != 0)
    rotate_left
    · have hpre' : inR a b m 2 m = pre ++ [] := by rw [hpre, hin, if_neg (by simp at h3; simp [h3])]
      refine yO rfl ?_; refine yO rfl ?_; refine yO rfl ?_; refine yO rfl ?_; refine yPd rfl rfl ?_; refine yQ ?_; refine pw_ct rfl ?_; refine pw_region ?_; refine yFb rfl ?_; refine yLd rfl rfl rfl ?_; refine yAd rfl ?_; refine yQ ?_
      refine pw_seq ?_; refine pw_region ?_; refine yMd rfl ?_; refine yFb rfl ?_; refine ySd (cs' := [_, _]) rfl rfl rfl rfl ?_; refine yQ ?_; refine pw_seq ?_; refine pw_region ?_; refine yMt rfl ?_
      refine yLa (ys := [_, _]) rfl rfl rfl rfl ?_; refine yR (es := [[_, _]]) rfl rfl rfl rfl rfl ?_
      refine yT (es' := (qs ++ [(x, b)]).map dP) (m := ((qs ++ [(x, b)]).map dP).length) (by simp; omega) (by simp; omega) rfl rfl rfl rfl rfl (by simp) (by simp) ?_; refine yAt rfl ?_; refine yQ ?_; refine pw_seq ?_; refine pw_seq ?_
      refine pw_region ?_; refine yMd rfl ?_; refine yFb rfl ?_; refine yLd rfl rfl rfl ?_; refine yB rfl rfl rfl rfl ?_; refine yQ ?_; refine q_then ?_
      refine pw_cond rfl (fun h4 => ?_) (fun h4 => absurd h4 (by simp))
      refine pw_exit ?_; refine pw_seq ?_; refine pw_seq ?_; refine pw_region ?_; refine yMt rfl ?_; refine yN rfl ?_; refine yB rfl rfl rfl rfl ?_; refine yQ ?_; refine q_then ?_
      refine pw_cond rfl (fun h5 => ?_) (fun h5 => ?_)
      · simp at h5
        have hE : bE a b m 2 = 4 := by rw [hbE, if_pos (by rw [hpre', List.append_nil]; omega)]
        rw [hE, bL_no (by rw [hE]; decide)]
        refine pw_seq ?_; refine pw_region ?_; refine yAd rfl ?_; refine yAd rfl ?_; refine yQ ?_; refine pw_ret ?_; refine q_then_ret ?_
        exact q_ret _ (.tnil 2 rfl (.tmp rfl .nil)) rfl
      · simp at h5
        have hnl : ¬ 399 < (inR a b m 2 m).length := by rw [hpre', List.append_nil]; omega
        have hE : bE a b m 2 = 0 := by rw [hbE, if_neg hnl]
        rw [hE, bL_of hr hk0 hnl, show prs (eL a b m 2) = qs ++ [(x, b)] by rw [eL, if_pos rfl, hpre', List.append_nil, hp1]]
        refine pw_skip ?_; refine pw_seq ?_; refine pw_region ?_; refine yMt rfl ?_; refine yAt rfl ?_; refine yAd rfl ?_; refine yQ ?_; refine pw_ret ?_
        exact q_ret _ (.tmp rfl (.tmp rfl .nil)) rfl
    refine yMd rfl ?_; refine yFb rfl ?_; refine yLd rfl rfl rfl ?_; refine yB rfl rfl rfl rfl ?_; refine yVd rfl rfl ?_; refine yQ ?_; refine q_then ?_
    simp at h3
    refine pw_cond rfl (fun h6 => ?_) (fun h6 => ?_)
    · simp at h6
      have hpre' : inR a b m 2 m = pre ++ [] := by rw [hpre, hin, if_neg (by omega)]
      refine pw_region ?_; refine yFb rfl ?_; refine yLd rfl rfl rfl ?_; refine yAd rfl ?_; refine yQ ?_; refine pw_seq ?_; refine pw_region ?_; refine yMd rfl ?_; refine yFb rfl ?_; refine ySd (cs' := [_, _]) rfl rfl rfl rfl ?_
      refine yQ ?_; refine pw_seq ?_; refine pw_region ?_; refine yMt rfl ?_; refine yLa (ys := [_, _]) rfl rfl rfl rfl ?_; refine yR (es := [[_, _]]) rfl rfl rfl rfl rfl ?_
      refine yT (es' := (qs ++ [(x, b)]).map dP) (m := ((qs ++ [(x, b)]).map dP).length) (by simp; omega) (by simp; omega) rfl rfl rfl rfl rfl (by simp) (by simp) ?_; refine yAt rfl ?_; refine yQ ?_; refine pw_seq ?_; refine pw_seq ?_
      refine pw_region ?_; refine yMd rfl ?_; refine yFb rfl ?_; refine yLd rfl rfl rfl ?_; refine yB rfl rfl rfl rfl ?_; refine yQ ?_; refine q_then ?_
      refine pw_cond rfl (fun h4 => ?_) (fun h4 => absurd h4 (by simp))
      refine pw_exit ?_; refine pw_seq ?_; refine pw_seq ?_; refine pw_region ?_; refine yMt rfl ?_; refine yN rfl ?_; refine yB rfl rfl rfl rfl ?_; refine yQ ?_; refine q_then ?_
      refine pw_cond rfl (fun h5 => ?_) (fun h5 => ?_)
      · simp at h5
        have hE : bE a b m 2 = 4 := by rw [hbE, if_pos (by rw [hpre', List.append_nil]; omega)]
        rw [hE, bL_no (by rw [hE]; decide)]
        refine pw_seq ?_; refine pw_region ?_; refine yAd rfl ?_; refine yAd rfl ?_; refine yQ ?_; refine pw_ret ?_; refine q_then_ret ?_
        exact q_ret _ (.tnil 2 rfl (.tmp rfl .nil)) rfl
      · simp at h5
        have hnl : ¬ 399 < (inR a b m 2 m).length := by rw [hpre', List.append_nil]; omega
        have hE : bE a b m 2 = 0 := by rw [hbE, if_neg hnl]
        rw [hE, bL_of hr hk0 hnl, show prs (eL a b m 2) = qs ++ [(x, b)] by rw [eL, if_pos rfl, hpre', List.append_nil, hp1]]
        refine pw_skip ?_; refine pw_seq ?_; refine pw_region ?_; refine yMt rfl ?_; refine yAt rfl ?_; refine yAd rfl ?_; refine yQ ?_; refine pw_ret ?_
        exact q_ret _ (.tmp rfl (.tmp rfl .nil)) rfl
    simp at h6
    have hpre' : inR a b m 2 m = pre ++ (d :: inR a b m 2 (k * m + m)) := by rw [hpre, hin, if_pos ⟨h3, h6⟩]
    refine pw_skip ?_; refine pw_seq ?_; refine pw_region ?_; refine yMd rfl ?_; refine yFb rfl ?_; refine ySd (cs' := [_, _]) rfl rfl rfl rfl ?_; refine yQ ?_; refine pw_seq ?_; refine pw_region ?_; refine yMt rfl ?_
    refine yLa (ys := [_, _]) rfl rfl rfl rfl ?_; refine yR (es := [[_, _]]) rfl rfl rfl rfl rfl ?_
    refine yT (es' := (qs ++ [(x, d)]).map dP) (m := ((qs ++ [(x, d)]).map dP).length) (by simp; omega) (by simp; omega) rfl rfl rfl rfl rfl (by simp) (by simp) ?_; refine yAt rfl ?_; refine yQ ?_; refine pw_seq ?_; refine pw_seq ?_
    refine pw_region ?_; refine yMd rfl ?_; refine yFb rfl ?_; refine yLd rfl rfl rfl ?_; refine yB rfl rfl rfl rfl ?_; refine yQ ?_; refine q_then ?_
    refine pw_cond rfl (fun h7 => absurd h7 (by simp; omega)) (fun h7 => ?_)
    refine pw_skip ?_; refine pw_region ?_; refine yMd rfl ?_; refine yFb rfl ?_; refine ySd (cs' := [_, _]) rfl rfl rfl rfl ?_; refine yQ ?_; refine pw_seq ?_; refine pw_region ?_; refine yMt rfl ?_; refine yN rfl ?_
    refine yB rfl rfl rfl rfl ?_; refine yQ ?_; refine q_then ?_
    refine pw_cond rfl (fun h8 => ?_) (fun h8 => ?_)
    · simp at h8
      have hE : bE a b m 2 = 4 := by rw [hbE, if_pos (by rw [hpre']; simp; omega)]
      rw [hE, bL_no (by rw [hE]; decide)]
      refine pw_seq ?_; refine pw_region ?_; refine yAd rfl ?_; refine yAd rfl ?_; refine yQ ?_; refine pw_ret ?_; refine q_blk_ret ?_; refine q_then_ret ?_; refine q_then_ret ?_; refine q_blk_ret ?_; refine q_then_ret ?_
      exact q_ret _ (.tnil 2 rfl (.tmp rfl .nil)) rfl
    · simp at h8
      refine pw_skip ?_; refine pw_region ?_; refine yMd rfl ?_; refine yB rfl rfl rfl rfl ?_; refine yAd rfl ?_; refine yQ ?_; refine q_then ?_
      refine ⟨pre ++ [d], ⟨?_, by simp; omega⟩, by simp; omega, rfl, ⟨.refl _, .refl _, .refl _, .refl _, .of_eq ?_, .of_eq ?_, trivial⟩, ⟨⟨_, rfl, .refl _, .refl _, trivial⟩, ⟨_, rfl, .of_eq ?_, .any _, trivial⟩, trivial⟩, ⟨?_, trivial⟩, rfl⟩
      · rw [hpre', List.append_assoc, List.singleton_append, show (((pre ++ [d]).length : Int) + 1) * m = k * m + m by rw [List.length_append, hk]; simp [Int.add_mul]]
      · exact congrArg (fun n => SV.d (dI n)) (hw1.trans (by simp [hk]))
      · rw [hp1]; rfl
      · simp
      · rw [hp1]; rfl
end Go.Proofs.Ytilbolgncpfmmaa

/- Walks of slices.Equal at []int and []Day, for this seat. -/
namespace Go.Proofs.Ytilbolgncpfmmaa
open Go.RowKit Px

theorem getZ_ext {xs ys : List Int} (hl : xs.length = ys.length) (h : ∀ j, j < xs.length → xs[j]?.getD 0 = ys[j]?.getD 0) : xs = ys := by
  apply List.ext_getElem?
  intro i
  by_cases hi : i < xs.length
  · have := h i hi
    rw [List.getElem?_eq_getElem hi, List.getElem?_eq_getElem (by omega)] at this ⊢
    exact congrArg some this
  · rw [List.getElem?_eq_none (by omega), List.getElem?_eq_none (by omega)]
theorem getZ_at {xs : List Int} {i : Nat} (h : i < xs.length) : xs[i]? = some (xs[i]?.getD 0) := by rw [List.getElem?_eq_getElem h]; rfl

set_option maxRecDepth 20000 in
theorem p59 (xs ys : List Int) (hb : xs.length ≤ 1000000) : PCalls Try.prog 59 [dIs xs, dIs ys] (.d (dB (xs == ys))) := by
  refine pcalls_of_pw Try.func59 rfl Try.ntmps59 Try.results59 (by simp) fun B w0 => ?_
  refine pw_seq ?_; refine pw_region ?_; refine yAd rfl ?_; refine yQ ?_; refine pw_seq ?_; refine pw_seq ?_; refine pw_region ?_; refine yMd rfl ?_; refine yN rfl ?_; refine yMd rfl ?_; refine yN rfl ?_; refine yB rfl rfl rfl rfl ?_
  refine yQ ?_; refine q_then ?_
  refine pw_cond rfl (fun h => ?_) (fun h => ?_)
  · simp at h
    rw [show (xs == ys) = false by rw [← Bool.not_eq_true]; intro e; exact h (by rw [eq_of_beq e])]
    refine pw_seq ?_; refine pw_region ?_; refine yAd rfl ?_; refine yQ ?_; refine pw_ret ?_; refine q_then_ret ?_
    exact q_ret _ (.tmp rfl .nil) rfl
  simp at h
  refine pw_skip ?_; refine pw_seq ?_; refine pw_seq ?_; refine pw_region ?_; refine yMd rfl ?_; refine yN rfl ?_; refine yMd rfl ?_; refine yQ ?_; refine pw_block ?_
  refine pw_loop (fun k : Nat => ⟨26, [(0, .d (dIs xs)), (1, .d (dIs ys)), (12, .d (dI xs.length)), (13, .d (dI k))], [], []⟩) (fun k => k ≤ xs.length ∧ ∀ j, j < k → xs[j]?.getD 0 = ys[j]?.getD 0) (fun k => xs.length - k) 0 ⟨Nat.zero_le _, fun j hj => by omega⟩ ⟨rfl, ⟨.refl _, .refl _, .of_eq ?_, .refl _, trivial⟩, trivial, trivial, rfl⟩ ?_
  · exact congrArg (fun n : Nat => SV.d (dI n)) (by simp)
  rintro k ⟨hk, hz⟩
  obtain ⟨x, hx⟩ : ∃ x, x = xs[k]?.getD 0 := ⟨_, rfl⟩
  obtain ⟨y, hy⟩ : ∃ y, y = ys[k]?.getD 0 := ⟨_, rfl⟩
  have hw1 := wrapI ((k : Int) + 1) (by omega)
  refine pw_seq ?_; refine pw_region ?_; refine yB rfl rfl rfl rfl ?_; refine yQ ?_; refine pw_seq ?_
  refine pw_cond rfl (fun h3 => ?_) (fun h3 => ?_)
  · simp at h3
    have e0 := ix dZ xs k k x rfl (hx ▸ getZ_at h3)
    have e1 := ix dZ ys k k y rfl (hy ▸ getZ_at (by omega))
    refine pw_skip ?_; refine pw_seq ?_; refine pw_block ?_; refine pw_seq ?_; refine pw_region ?_; refine yMd rfl ?_; refine yAd rfl ?_; refine yQ ?_; refine pw_seq ?_; refine pw_draw Try.mixed (by kernel_rfl) ?_; refine yMd rfl ?_
    refine yMd rfl ?_; refine yW e0 (by omega) rfl rfl ?_; refine yLr rfl rfl ?_; refine yMd rfl ?_; refine yMd rfl ?_; refine yW e1 (by omega) rfl rfl ?_; refine yLr rfl rfl ?_; refine yB rfl rfl rfl rfl ?_; refine yQ ?_
    refine q_then ?_
    refine pw_cond rfl (fun h4 => ?_) (fun h4 => ?_)
    · simp at h4
      rw [show (xs == ys) = false by rw [← Bool.not_eq_true]; intro e; have := eq_of_beq e; subst this; exact h4 (by rw [hx, hy])]
      refine pw_seq ?_; refine pw_region ?_; refine yAd rfl ?_; refine yQ ?_; refine pw_ret ?_; refine q_blk_ret ?_; refine q_then_ret ?_; refine q_then_ret ?_; refine q_blk_ret ?_; refine q_then_ret ?_
      exact q_ret _ (.tmp rfl .nil) rfl
    · simp at h4
      refine pw_skip ?_; refine pw_region ?_; refine yB rfl rfl rfl rfl ?_; refine yMd rfl ?_; refine yQ ?_; refine q_then ?_
      refine ⟨k + 1, ⟨by omega, fun j hj => ?_⟩, by omega, rfl, ⟨.refl _, .refl _, .refl _, .of_eq (congrArg (fun n => SV.d (dI n)) hw1), trivial⟩, trivial, trivial, rfl⟩
      rcases Nat.lt_succ_iff_lt_or_eq.1 hj with h1 | h1
      · exact hz j h1
      · rw [h1, ← hx, ← hy]; exact h4
  · simp at h3
    obtain rfl : k = xs.length := by omega
    rw [show (xs == ys) = true by rw [getZ_ext (by omega) hz]; simp]
    refine pw_exit ?_; refine pw_seq ?_; refine pw_region ?_; refine yAd rfl ?_; refine yQ ?_; refine pw_ret ?_
    exact q_ret _ (.tmp rfl .nil) rfl
set_option maxRecDepth 20000 in
theorem p67 (xs ys : List Int) (hb : xs.length ≤ 1000000) : PCalls Try.prog 67 [dIs xs, dIs ys] (.d (dB (xs == ys))) := by
  refine pcalls_of_pw Try.func67 rfl Try.ntmps67 Try.results67 (by simp) fun B w0 => ?_
  refine pw_seq ?_; refine pw_region ?_; refine yAd rfl ?_; refine yQ ?_; refine pw_seq ?_; refine pw_seq ?_; refine pw_region ?_; refine yMd rfl ?_; refine yN rfl ?_; refine yMd rfl ?_; refine yN rfl ?_; refine yB rfl rfl rfl rfl ?_
  refine yQ ?_; refine q_then ?_
  refine pw_cond rfl (fun h => ?_) (fun h => ?_)
  · simp at h
    rw [show (xs == ys) = false by rw [← Bool.not_eq_true]; intro e; exact h (by rw [eq_of_beq e])]
    refine pw_seq ?_; refine pw_region ?_; refine yAd rfl ?_; refine yQ ?_; refine pw_ret ?_; refine q_then_ret ?_
    exact q_ret _ (.tmp rfl .nil) rfl
  simp at h
  refine pw_skip ?_; refine pw_seq ?_; refine pw_seq ?_; refine pw_region ?_; refine yMd rfl ?_; refine yN rfl ?_; refine yMd rfl ?_; refine yQ ?_; refine pw_block ?_
  refine pw_loop (fun k : Nat => ⟨26, [(0, .d (dIs xs)), (1, .d (dIs ys)), (12, .d (dI xs.length)), (13, .d (dI k))], [], []⟩) (fun k => k ≤ xs.length ∧ ∀ j, j < k → xs[j]?.getD 0 = ys[j]?.getD 0) (fun k => xs.length - k) 0 ⟨Nat.zero_le _, fun j hj => by omega⟩ ⟨rfl, ⟨.refl _, .refl _, .of_eq ?_, .refl _, trivial⟩, trivial, trivial, rfl⟩ ?_
  · exact congrArg (fun n : Nat => SV.d (dI n)) (by simp)
  rintro k ⟨hk, hz⟩
  obtain ⟨x, hx⟩ : ∃ x, x = xs[k]?.getD 0 := ⟨_, rfl⟩
  obtain ⟨y, hy⟩ : ∃ y, y = ys[k]?.getD 0 := ⟨_, rfl⟩
  have hw1 := wrapI ((k : Int) + 1) (by omega)
  refine pw_seq ?_; refine pw_region ?_; refine yB rfl rfl rfl rfl ?_; refine yQ ?_; refine pw_seq ?_
  refine pw_cond rfl (fun h3 => ?_) (fun h3 => ?_)
  · simp at h3
    have e0 := ix dZ xs k k x rfl (hx ▸ getZ_at h3)
    have e1 := ix dZ ys k k y rfl (hy ▸ getZ_at (by omega))
    refine pw_skip ?_; refine pw_seq ?_; refine pw_block ?_; refine pw_seq ?_; refine pw_region ?_; refine yMd rfl ?_; refine yAd rfl ?_; refine yQ ?_; refine pw_seq ?_; refine pw_draw Try.mixed (by kernel_rfl) ?_; refine yMd rfl ?_
    refine yMd rfl ?_; refine yW e0 (by omega) rfl rfl ?_; refine yLr rfl rfl ?_; refine yMd rfl ?_; refine yMd rfl ?_; refine yW e1 (by omega) rfl rfl ?_; refine yLr rfl rfl ?_; refine yB rfl rfl rfl rfl ?_; refine yQ ?_
    refine q_then ?_
    refine pw_cond rfl (fun h4 => ?_) (fun h4 => ?_)
    · simp at h4
      rw [show (xs == ys) = false by rw [← Bool.not_eq_true]; intro e; have := eq_of_beq e; subst this; exact h4 (by rw [hx, hy])]
      refine pw_seq ?_; refine pw_region ?_; refine yAd rfl ?_; refine yQ ?_; refine pw_ret ?_; refine q_blk_ret ?_; refine q_then_ret ?_; refine q_then_ret ?_; refine q_blk_ret ?_; refine q_then_ret ?_
      exact q_ret _ (.tmp rfl .nil) rfl
    · simp at h4
      refine pw_skip ?_; refine pw_region ?_; refine yB rfl rfl rfl rfl ?_; refine yMd rfl ?_; refine yQ ?_; refine q_then ?_
      refine ⟨k + 1, ⟨by omega, fun j hj => ?_⟩, by omega, rfl, ⟨.refl _, .refl _, .refl _, .of_eq (congrArg (fun n => SV.d (dI n)) hw1), trivial⟩, trivial, trivial, rfl⟩
      rcases Nat.lt_succ_iff_lt_or_eq.1 hj with h1 | h1
      · exact hz j h1
      · rw [h1, ← hx, ← hy]; exact h4
  · simp at h3
    obtain rfl : k = xs.length := by omega
    rw [show (xs == ys) = true by rw [getZ_ext (by omega) hz]; simp]
    refine pw_exit ?_; refine pw_seq ?_; refine pw_region ?_; refine yAd rfl ?_; refine yQ ?_; refine pw_ret ?_
    exact q_ret _ (.tmp rfl .nil) rfl
end Go.Proofs.Ytilbolgncpfmmaa

/- The walk of tranchelaw09's awake, for this seat. -/
namespace Go.Proofs.Ytilbolgncpfmmaa
open Go.RowKit Px

theorem aw_in1 : inR 19737 19966 3 1 3 = [19874, 19782] := by
  rw [inR_yes (by decide) (by decide) (by decide) (by decide) (by decide), inR_yes (by decide) (by decide) (by decide) (by decide) (by decide), inR_lo (by decide)]
  decide
theorem aw_in2 : inR 19737 19966 3 2 3 = [19828, 19919] := by
  rw [inR_yes (by decide) (by decide) (by decide) (by decide) (by decide), inR_yes (by decide) (by decide) (by decide) (by decide) (by decide), inR_hi (by decide)]
  decide
theorem aw_b1 : bE 19737 19966 3 1 = 0 ∧ bL 19737 19966 3 1 = [(19737, 19782), (19782, 19874), (19874, 19966)] := by
  have h1 : sRight 19737 19966 = true := by decide
  have h2 : sck true 3 1 = 0 := by decide
  refine ⟨by rw [bE_of h1 h2, aw_in1]; decide, ?_⟩
  rw [bL_of h1 h2 (by rw [aw_in1]; decide), eL, if_neg (by decide), aw_in1]
  decide
theorem aw_b2 : bE 19737 19966 3 2 = 0 ∧ bL 19737 19966 3 2 = [(19737, 19828), (19828, 19919), (19919, 19966)] := by
  have h1 : sRight 19737 19966 = true := by decide
  have h2 : sck true 3 2 = 0 := by decide
  refine ⟨by rw [bE_of h1 h2, aw_in2]; decide, ?_⟩
  rw [bL_of h1 h2 (by rw [aw_in2]; decide), eL, if_pos (by decide), aw_in2]
  decide
abbrev awL : List (Int × Int) := [(19737, 19782), (19782, 19874), (19874, 19966)]
abbrev awM : List (Int × Int) := [(19737, 19828), (19828, 19919), (19919, 19966)]

set_option maxRecDepth 40000 in
set_option maxHeartbeats 2000000 in
theorem p43 : PCalls Try.prog 43 [] (.d (dB true)) := by
  have d1 : PCalls Try.prog 89 [dI 2024, dI 1, dI 15] (.d (dI 19737)) := (show ofV 2024 1 15 = 19737 by decide) ▸ p89 2024 1 15
  have d2 : PCalls Try.prog 89 [dI 2024, dI 2, dI 29] (.d (dI 19782)) := (show ofV 2024 2 29 = 19782 by decide) ▸ p89 2024 2 29
  have d3 : PCalls Try.prog 89 [dI 2024, dI 5, dI 31] (.d (dI 19874)) := (show ofV 2024 5 31 = 19874 by decide) ▸ p89 2024 5 31
  have d4 : PCalls Try.prog 89 [dI 2024, dI 8, dI 31] (.d (dI 19966)) := (show ofV 2024 8 31 = 19966 by decide) ▸ p89 2024 8 31
  have d5 : PCalls Try.prog 89 [dI 2024, dI 4, dI 15] (.d (dI 19828)) := (show ofV 2024 4 15 = 19828 by decide) ▸ p89 2024 4 15
  have d6 : PCalls Try.prog 89 [dI 2024, dI 7, dI 15] (.d (dI 19919)) := (show ofV 2024 7 15 = 19919 by decide) ▸ p89 2024 7 15
  have d7 : PCalls Try.prog 89 [dI 2023, dI 11, dI 29] (.d (dI 19690)) := (show ofV 2023 11 29 = 19690 by decide) ▸ p89 2023 11 29
  have b1 : PCalls Try.prog 40 [.agg [dI 19737, dI 19966], dI 3, dI 1] (.tup [dPs awL, dI 0]) := by have := p40 19737 19966 3 1; rwa [aw_b1.1, aw_b1.2] at this
  have b2 : PCalls Try.prog 40 [.agg [dI 19737, dI 19966], dI 3, dI 2] (.tup [dPs awM, dI 0]) := by have := p40 19737 19966 3 2; rwa [aw_b2.1, aw_b2.2] at this
  have i1 : PCalls Try.prog 45 [dPs awL, dI 3] (.tup [dIs [0], dI 0]) := by have := p45 awL 3; rwa [show irE awL 3 = 0 by decide, show irL awL 3 = [0] by decide] at this
  have r1 : PCalls Try.prog 50 [dPs awL, dI 0, dI 3, dI 1] (.tup [.agg [dI 19690, dI 19782], dI 0]) := by have := p50 awL 0 3 1; rwa [show rgR awL 0 3 1 = ((19690, 19782), 0) by decide] at this
  have q1 : PCalls Try.prog 42 [dPs awL, dPs awL] (.d (dB true)) := by have := p42 awL awL; rwa [show (awL == awL) = true by decide] at this
  have q2 : PCalls Try.prog 42 [dPs awM, dPs awM] (.d (dB true)) := by have := p42 awM awM; rwa [show (awM == awM) = true by decide] at this
  have q3 : PCalls Try.prog 59 [dIs [0], dIs [0]] (.d (dB true)) := by have := p59 [0] [0] (by decide); rwa [show (([0] : List Int) == [0]) = true by decide] at this
  refine pcalls_of_pw Try.func43 rfl Try.ntmps43 Try.results43 (by simp) fun B w0 => ?_
  refine pw_seq ?_; refine pw_region ?_; refine yAd rfl ?_; refine yQ ?_; refine pw_seq ?_; refine pw_region ?_; refine yC (d1) rfl rfl ?_; refine yC (d2) rfl rfl ?_; refine yC (d3) rfl rfl ?_; refine yC (d4) rfl rfl ?_
  refine yAd rfl ?_; refine yAd rfl ?_; refine yAd rfl ?_; refine yAd rfl ?_; refine yQ ?_; refine pw_seq ?_; refine pw_region ?_; refine yMd rfl ?_; refine yMd rfl ?_; refine yG (ys := [_, _]) rfl rfl ?_
  refine yZ (cs := [_, _]) rfl rfl ?_; refine yS (cs' := [_, _]) rfl rfl rfl rfl rfl ?_; refine yQ ?_; refine pw_seq ?_; refine pw_region ?_; refine yLa (ys := [_, _]) rfl rfl rfl rfl ?_; refine yC (b1) rfl rfl ?_; refine yMp rfl ?_
  refine yX rfl rfl ?_; refine yX rfl rfl ?_; refine yAd rfl ?_; refine yAd rfl ?_; refine yQ ?_; refine pw_seq ?_; refine pw_region ?_; refine yLa (ys := [_, _]) rfl rfl rfl rfl ?_; refine yC (b2) rfl rfl ?_; refine yMp rfl ?_
  refine yX rfl rfl ?_; refine yX rfl rfl ?_; refine yAd rfl ?_; refine yAd rfl ?_; refine yQ ?_; refine pw_seq ?_; refine pw_region ?_; refine yMd rfl ?_; refine yC (i1) rfl rfl ?_; refine yMp rfl ?_; refine yX rfl rfl ?_
  refine yX rfl rfl ?_; refine yAd rfl ?_; refine yAd rfl ?_; refine yQ ?_; refine pw_seq ?_; refine pw_region ?_; refine yMd rfl ?_; refine yC (r1) rfl rfl ?_; refine yMp rfl ?_; refine yX rfl rfl ?_; refine yX rfl rfl ?_
  refine yZ (cs := [_, _]) rfl rfl ?_; refine yS (cs' := [_, _]) rfl rfl rfl rfl rfl ?_; refine yAd rfl ?_; refine yQ ?_; refine pw_seq ?_; refine pw_region ?_; refine yC (d5) rfl rfl ?_; refine yC (d6) rfl rfl ?_; refine yAd rfl ?_
  refine yAd rfl ?_; refine yQ ?_; refine pw_seq ?_; refine pw_draw Try.mixed (by kernel_rfl) ?_; refine yMd rfl ?_; refine yMd rfl ?_; refine yMd rfl ?_; refine yMd rfl ?_; refine yI rfl rfl rfl ?_; refine yB rfl rfl rfl rfl ?_
  refine yMd rfl ?_; refine yMd rfl ?_; refine yMd rfl ?_; refine yMd rfl ?_; refine yG (ys := [_, _]) rfl rfl ?_; refine yMd rfl ?_; refine yMd rfl ?_; refine yG (ys := [_, _]) rfl rfl ?_; refine yMd rfl ?_; refine yMd rfl ?_
  refine yG (ys := [_, _]) rfl rfl ?_; refine yR (es := [[_, _], [_, _], [_, _]]) rfl rfl rfl rfl rfl ?_; refine yC (q1) rfl rfl ?_; refine yPd rfl rfl ?_; refine yMd rfl ?_; refine yMd rfl ?_; refine yMd rfl ?_; refine yMd rfl ?_
  refine yG (ys := [_, _]) rfl rfl ?_; refine yMd rfl ?_; refine yMd rfl ?_; refine yG (ys := [_, _]) rfl rfl ?_; refine yMd rfl ?_; refine yMd rfl ?_; refine yG (ys := [_, _]) rfl rfl ?_
  refine yR (es := [[_, _], [_, _], [_, _]]) rfl rfl rfl rfl rfl ?_; refine yC (q2) rfl rfl ?_; refine yPd rfl rfl ?_; refine yMd rfl ?_; refine yMd rfl ?_; refine yR (es := [[_]]) rfl rfl rfl rfl rfl ?_; refine yC (q3) rfl rfl ?_
  refine yPd rfl rfl ?_; refine yMd rfl ?_; refine yLa (ys := [_, _]) rfl rfl rfl rfl ?_; refine yC (d7) rfl rfl ?_; refine yMd rfl ?_; refine yG (ys := [_, _]) rfl rfl ?_; refine yBA (eqlR _ _ _ _ _ _) rfl rfl rfl rfl rfl ?_
  refine yPd rfl rfl ?_; refine yAd rfl ?_; refine yQ ?_; refine pw_ret ?_
  exact q_end _ (.tmp rfl .nil) rfl
end Go.Proofs.Ytilbolgncpfmmaa
