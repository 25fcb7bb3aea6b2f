/- Walks of small functions of schedule and its reference, for this seat. -/
import Derived.Test.YtilbolgncpfmmaaW1
namespace Go.Proofs.Ytilbolgncpfmmaa
open Go.RowKit Px

def optE (m s : Int) : Int := sck true m s
set_option maxRecDepth 20000 in
theorem p87 (m s : Int) : PCalls Try.prog 87 [dI m, dI s] (.d (dI (sck true m s))) := by
  refine pcalls_of_pw Try.func87 rfl Try.ntmps87 Try.results87 (by simp) fun B w0 => ?_
  refine pw_seq ?_; refine pw_region ?_; refine yAd rfl ?_; refine yQ ?_; refine pw_seq ?_; refine pw_seq ?_; refine pw_region ?_; refine yMd rfl ?_; refine yB rfl rfl rfl rfl ?_; refine yMd rfl ?_
  cases h1 : decide (m < 1)
  · refine yMd rfl ?_; refine yB rfl rfl rfl rfl ?_; refine yVd rfl rfl ?_; refine yQ ?_; refine q_then ?_
    cases h2 : decide (m > 4800)
    · refine pw_cf rfl ?_; refine pw_skip ?_; refine pw_seq ?_; refine pw_seq ?_; refine pw_region ?_; refine yMd rfl ?_; refine yB rfl rfl rfl rfl ?_; refine yMd rfl ?_
      cases h3 : (s != 1)
      · refine yO rfl ?_; refine yO rfl ?_; refine yVd rfl rfl ?_; refine yQ ?_; refine pw_cf rfl ?_; refine pw_skip ?_; refine pw_seq ?_; refine pw_region ?_; refine yAd rfl ?_; refine yQ ?_; refine pw_ret ?_
        refine q_ret _ (.tmp rfl .nil) (congrArg (fun n => SV.d (dI n)) ?_)
        simp at h1 h2 h3
        simp [sck, h3]; omega
      · refine yMd rfl ?_; refine yB rfl rfl rfl rfl ?_; refine yPd rfl rfl ?_; refine yQ ?_; refine q_then ?_
        cases h4 : (s != 2)
        · refine pw_cf rfl ?_; refine pw_skip ?_; refine pw_seq ?_; refine pw_region ?_; refine yAd rfl ?_; refine yQ ?_; refine pw_ret ?_
          refine q_ret _ (.tmp rfl .nil) (congrArg (fun n => SV.d (dI n)) ?_)
          simp at h1 h2 h3 h4
          simp [sck, h4]; omega
        · refine pw_ct rfl ?_; refine pw_seq ?_; refine pw_region ?_; refine yAd rfl ?_; refine yQ ?_; refine pw_ret ?_; refine q_then_ret ?_
          refine q_ret _ (.tmp rfl .nil) (congrArg (fun n => SV.d (dI n)) ?_)
          simp at h1 h2 h3 h4
          simp [sck, h3, h4]; omega
    · refine pw_ct rfl ?_; refine pw_seq ?_; refine pw_region ?_; refine yAd rfl ?_; refine yQ ?_; refine pw_ret ?_; refine q_then_ret ?_
      refine q_ret _ (.tmp rfl .nil) (congrArg (fun n => SV.d (dI n)) ?_)
      simp at h1 h2
      simp [sck]; omega
  · refine yO rfl ?_; refine yO rfl ?_; refine yPd rfl rfl ?_; refine yQ ?_; refine pw_ct rfl ?_; refine pw_seq ?_; refine pw_region ?_; refine yAd rfl ?_; refine yQ ?_; refine pw_ret ?_; refine q_then_ret ?_
    refine q_ret _ (.tmp rfl .nil) (congrArg (fun n => SV.d (dI n)) ?_)
    simp at h1
    simp [sck]; omega

theorem wneg {m : Int} (h : -4800 ≤ m) (h' : m ≤ 4800) : IntKind.i64.wrap (0 - m) = -m := by rw [wrapI _ (by omega)]; omega
set_option maxRecDepth 20000 in
theorem p96 (a b m : Int) (hm : -4800 ≤ m) (hm' : m ≤ 4800) : PCalls Try.prog 96 [.agg (dP (a, b)), dI m] (.d (dB (sReg a b m))) := by
  obtain ⟨x, hx⟩ : ∃ x, x = amV a m := ⟨_, rfl⟩
  obtain ⟨e, he⟩ : ∃ e, e = amE a m := ⟨_, rfl⟩
  obtain ⟨y, hy⟩ : ∃ y, y = amV b (-m) := ⟨_, rfl⟩
  obtain ⟨f, hf⟩ : ∃ f, f = amE b (-m) := ⟨_, rfl⟩
  have hv : sReg a b m = ((e == 0 && x == b) || (f == 0 && y == a)) := by rw [sReg, hx, he, hy, hf]
  have c1 : PCalls Try.prog 88 [dI a, dI m] (.tup [dI x, dI e]) := by rw [hx, he]; exact p88 a m (by omega) (by omega)
  have c2 : PCalls Try.prog 88 [dI b, dI (IntKind.i64.wrap (0 - m))] (.tup [dI y, dI f]) := by rw [wneg hm hm', hy, hf]; exact p88 b (-m) (by omega) (by omega)
  rw [hv]
  refine pcalls_of_pw Try.func96 rfl Try.ntmps96 Try.results96 (by simp) fun B w0 => ?_
  refine pw_seq ?_; refine pw_region ?_; refine yK (cs := [_, _]) rfl rfl ?_; refine yAd rfl ?_; refine yQ ?_; refine pw_seq ?_; refine pw_region ?_; refine yFb rfl ?_; refine yLd rfl rfl rfl ?_; refine yMd rfl ?_
  refine yC (c1) rfl rfl ?_; refine yMp rfl ?_; refine yX rfl rfl ?_; refine yX rfl rfl ?_; refine yAd rfl ?_; refine yAd rfl ?_; refine yQ ?_; refine pw_seq ?_; refine pw_region ?_; refine yFb rfl ?_; refine yLd rfl rfl rfl ?_
  refine yMd rfl ?_; refine yU rfl rfl rfl ?_; refine yC (c2) rfl rfl ?_; refine yMp rfl ?_; refine yX rfl rfl ?_; refine yX rfl rfl ?_; refine yAd rfl ?_; refine yAd rfl ?_; refine yQ ?_; refine pw_seq ?_; refine pw_region ?_
  refine yMd rfl ?_; refine yB rfl rfl rfl rfl ?_; refine yMd rfl ?_
  cases t1 : (e == 0)
  · refine yO rfl ?_; refine yO rfl ?_; refine yO rfl ?_; refine yO rfl ?_; refine yVd rfl rfl ?_; refine yMd rfl ?_; refine yMd rfl ?_; refine yB rfl rfl rfl rfl ?_; refine yMd rfl ?_
    cases t3 : (f == 0)
    · refine yO rfl ?_; refine yO rfl ?_; refine yO rfl ?_; refine yO rfl ?_; refine yVd rfl rfl ?_; refine yVd rfl rfl ?_; refine yAd rfl ?_; refine yQ ?_; refine pw_ret ?_
      refine q_ret _ (.tmp rfl .nil) (congrArg (fun n => SV.d (dB n)) ?_)
      simp
    · refine yMd rfl ?_; refine yFb rfl ?_; refine yLd rfl rfl rfl ?_; refine yB rfl rfl rfl rfl ?_; refine yPd rfl rfl ?_; refine yVd rfl rfl ?_; refine yAd rfl ?_; refine yQ ?_; refine pw_ret ?_
      refine q_ret _ (.tmp rfl .nil) (congrArg (fun n => SV.d (dB n)) ?_)
      simp
  · refine yMd rfl ?_; refine yFb rfl ?_; refine yLd rfl rfl rfl ?_; refine yB rfl rfl rfl rfl ?_; refine yPd rfl rfl ?_; refine yMd rfl ?_
    cases t2 : (x == b)
    · refine yMd rfl ?_; refine yB rfl rfl rfl rfl ?_; refine yMd rfl ?_
      cases t3 : (f == 0)
      · refine yO rfl ?_; refine yO rfl ?_; refine yO rfl ?_; refine yO rfl ?_; refine yVd rfl rfl ?_; refine yVd rfl rfl ?_; refine yAd rfl ?_; refine yQ ?_; refine pw_ret ?_
        refine q_ret _ (.tmp rfl .nil) (congrArg (fun n => SV.d (dB n)) ?_)
        simp
      · refine yMd rfl ?_; refine yFb rfl ?_; refine yLd rfl rfl rfl ?_; refine yB rfl rfl rfl rfl ?_; refine yPd rfl rfl ?_; refine yVd rfl rfl ?_; refine yAd rfl ?_; refine yQ ?_; refine pw_ret ?_
        refine q_ret _ (.tmp rfl .nil) (congrArg (fun n => SV.d (dB n)) ?_)
        simp
    · refine yO rfl ?_; refine yO rfl ?_; refine yO rfl ?_; refine yO rfl ?_; refine yO rfl ?_; refine yO rfl ?_; refine yO rfl ?_; refine yO rfl ?_; refine yPd rfl rfl ?_; refine yAd rfl ?_; refine yQ ?_; refine pw_ret ?_
      refine q_ret _ (.tmp rfl .nil) (congrArg (fun n => SV.d (dB n)) ?_)
      simp

set_option maxRecDepth 20000 in
theorem p89 (y m d : Int) : PCalls Try.prog 89 [dI y, dI m, dI d] (.d (dI (ofV y m d))) := by
  refine pcalls_of_pw Try.func89 rfl Try.ntmps89 Try.results89 (by simp) fun B w0 => ?_
  refine pw_seq ?_; refine pw_region ?_; refine yAd rfl ?_; refine yQ ?_; refine pw_seq ?_; refine pw_region ?_; refine yMd rfl ?_; refine yMd rfl ?_; refine yMd rfl ?_; refine yC (p38 _ _ _) rfl rfl ?_; refine yMp rfl ?_
  refine yX rfl rfl ?_; refine yX rfl rfl ?_; refine yAd rfl ?_; refine yAd rfl ?_; refine yQ ?_; refine pw_seq ?_; refine pw_region ?_; refine yMd rfl ?_; refine yAd rfl ?_; refine yQ ?_; refine pw_ret ?_
  exact q_ret _ (.tmp rfl .nil) rfl

def grtP (ps : List (Int × Int)) : Bool := (decide (60 < ps.length) && decide (ps.length < 398)) || decide (403 < ps.length)
set_option maxRecDepth 20000 in
theorem p92 (ps : List (Int × Int)) : PCalls Try.prog 92 [dPs ps] (.d (dB (grtP ps))) := by
  obtain ⟨n, hn⟩ : ∃ n, n = (ps.map dP).length := ⟨_, rfl⟩
  have hg : grtP ps = ((decide (60 < n) && decide (n < 398)) || decide (403 < n)) := by rw [hn]; simp [grtP]
  rw [hg]
  refine pcalls_of_pw Try.func92 rfl Try.ntmps92 Try.results92 (by simp) fun B w0 => ?_
  refine pw_seq ?_; refine pw_region ?_; refine yAd rfl ?_; refine yQ ?_; refine pw_seq ?_; refine pw_region ?_; refine yMd rfl ?_; refine yN rfl ?_; refine yB rfl rfl rfl rfl ?_; refine yMd rfl ?_
  cases h1 : decide (((ps.map dP).length : Int) > 60)
  · refine yO rfl ?_; refine yO rfl ?_; refine yO rfl ?_; refine yVd rfl rfl ?_; refine yMd rfl ?_; refine yMd rfl ?_; refine yN rfl ?_; refine yB rfl rfl rfl rfl ?_; refine yVd rfl rfl ?_; refine yAd rfl ?_; refine yQ ?_
    refine pw_ret ?_
    refine q_ret _ (.tmp rfl .nil) (congrArg (fun n => SV.d (dB n)) ?_)
    rw [← hn] at h1 ⊢
    rw [Bool.eq_iff_iff]; simp at h1 ⊢; omega
  · refine yMd rfl ?_; refine yN rfl ?_; refine yB rfl rfl rfl rfl ?_; refine yPd rfl rfl ?_; refine yMd rfl ?_
    cases h2 : decide (((ps.map dP).length : Int) < 398)
    · refine yMd rfl ?_; refine yN rfl ?_; refine yB rfl rfl rfl rfl ?_; refine yVd rfl rfl ?_; refine yAd rfl ?_; refine yQ ?_; refine pw_ret ?_
      refine q_ret _ (.tmp rfl .nil) (congrArg (fun n => SV.d (dB n)) ?_)
      rw [← hn] at h1 h2 ⊢
      rw [Bool.eq_iff_iff]; simp at h1 h2 ⊢; omega
    · refine yO rfl ?_; refine yO rfl ?_; refine yO rfl ?_; refine yPd rfl rfl ?_; refine yAd rfl ?_; refine yQ ?_; refine pw_ret ?_
      refine q_ret _ (.tmp rfl .nil) (congrArg (fun n => SV.d (dB n)) ?_)
      rw [← hn] at h1 h2
      rw [eq_comm, Bool.eq_iff_iff]; simp at h1 h2 ⊢; omega
theorem p51 (ps : List (Int × Int)) : PCalls Try.prog 51 [dPs ps] (.d (dB (grtP ps))) := by
  refine pcalls_of_pw Try.func51 rfl Try.ntmps51 Try.results51 (by simp) fun B w0 => ?_
  refine pw_seq ?_; refine pw_region ?_; refine yAd rfl ?_; refine yQ ?_; refine pw_seq ?_; refine pw_region ?_; refine yMd rfl ?_; refine yC (p92 ps) rfl rfl ?_; refine yAd rfl ?_; refine yQ ?_; refine pw_ret ?_
  exact q_ret _ (.tmp rfl .nil) rfl
end Go.Proofs.Ytilbolgncpfmmaa
