/- Plain law of the list of pairs. -/
import Derived.Test.YtdkpmnefoobipaaGreatDoorB6
import Derived.Test.YtdkpmnefoobipaaGreatDoorB7
set_option maxHeartbeats 1000000
namespace Go.Proofs.YtdkpmnefoobipaaGreatDoor
open Go.RowKit Px

/-- whether the first pairs name a number -/
def hasF (p : List (Int × Int)) (j : Nat) : Bool := p.any fun q => q.1 == (j : Int)
def hasS (p : List (Int × Int)) (j : Nat) : Bool := p.any fun q => q.2 == (j : Int)
/-- an array of eight marks -/
def marks (f : Nat → Bool) : List Bool := (List.range 8).map f
end Go.Proofs.YtdkpmnefoobipaaGreatDoor
namespace Go.Proofs.YtdkpmnefoobipaaGreatDoor
open Go.RowKit Px

def fineB (s t : Stm) : Bool := !(grtS s || grtS t) && ((stE s == 0) && ((stE t == 0) && (s.d == t.d)))
set_option maxRecDepth 20000 in
set_option maxHeartbeats 2000000 in
theorem wFine (s t : Stm) : PCalls Tryz.prog 20 [.agg (dSt s), .agg (dSt t)] (.d (dB (fineB s t))) := by
  have c1 := wGreat s t
  obtain ⟨r, hr⟩ : ∃ r, r = fineB s t := ⟨_, rfl⟩
  rw [← hr]
  unfold fineB at hr
  cases hg : (grtS s || grtS t) with
  | true =>
    rw [hg] at c1 hr
    simp only [Bool.not_true, Bool.false_and] at hr
    subst hr
    obtain ⟨d1, h1, ms⟩ := s
    obtain ⟨d2, h2, ts⟩ := t
    refine pcalls_of_pw Tryz.func20 rfl Tryz.ntmps20 Tryz.results20 (by simp) fun B w0 => ?_
    refine pw_seq ?_; refine pw_region ?_; refine yK (cs := [_, _, _]) rfl rfl ?_; refine yK (cs := [_, _, _]) rfl rfl ?_; refine yAd rfl ?_; refine yQ ?_; refine pw_seq ?_; refine pw_region ?_
    refine yLa (ys := [_, _, _]) rfl rfl rfl rfl ?_; refine yLa (ys := [_, _, _]) rfl rfl rfl rfl ?_; refine yC (c1) rfl rfl ?_; refine yU rfl rfl rfl ?_; refine yMd rfl ?_; refine yO rfl ?_; refine yO rfl ?_; refine yO rfl ?_
    refine yVd rfl rfl ?_; refine yMd rfl ?_; refine yO rfl ?_; refine yO rfl ?_; refine yO rfl ?_; refine yVd rfl rfl ?_; refine yMd rfl ?_; refine yO rfl ?_; refine yO rfl ?_; refine yO rfl ?_; refine yO rfl ?_; refine yO rfl ?_
    refine yVd rfl rfl ?_; refine yAd rfl ?_; refine yQ ?_; refine pw_ret ?_
    exact q_ret _ (.tmp rfl .nil) rfl
  | false =>
  rw [hg] at c1 hr
  rw [Bool.or_eq_false_iff] at hg
  obtain ⟨f1, -⟩ := fit_of hg.1
  obtain ⟨f2, -⟩ := fit_of hg.2
  have c2 := wRStCheck s f1
  have c3 := wRStCheck t f2
  simp only [Bool.not_false, Bool.true_and] at hr
  obtain ⟨a, ha⟩ : ∃ a, a = stE s := ⟨_, rfl⟩
  obtain ⟨b, hb⟩ : ∃ a, a = stE t := ⟨_, rfl⟩
  rw [← ha] at c2 hr
  rw [← hb] at c3 hr
  clear ha hb f1 f2 hg
  obtain ⟨d1, h1, ms⟩ := s
  obtain ⟨d2, h2, ts⟩ := t
  simp only at hr
  cases t1 : (a == 0) with
  | false =>
    rw [t1] at hr
    subst hr
    refine pcalls_of_pw Tryz.func20 rfl Tryz.ntmps20 Tryz.results20 (by simp) fun B w0 => ?_
    refine pw_seq ?_; refine pw_region ?_; refine yK (cs := [_, _, _]) rfl rfl ?_; refine yK (cs := [_, _, _]) rfl rfl ?_; refine yAd rfl ?_; refine yQ ?_; refine pw_seq ?_; refine pw_region ?_
    refine yLa (ys := [_, _, _]) rfl rfl rfl rfl ?_; refine yLa (ys := [_, _, _]) rfl rfl rfl rfl ?_; refine yC (c1) rfl rfl ?_; refine yU rfl rfl rfl ?_; refine yMd rfl ?_; refine yLa (ys := [_, _, _]) rfl rfl rfl rfl ?_
    refine yC (c2) rfl rfl ?_; refine yB rfl rfl rfl rfl ?_; refine yPd rfl rfl ?_; refine yMd rfl ?_; rw [t1]; refine yO rfl ?_; refine yO rfl ?_; refine yO rfl ?_; refine yVd rfl rfl ?_; refine yMd rfl ?_; refine yO rfl ?_
    refine yO rfl ?_; refine yO rfl ?_; refine yO rfl ?_; refine yO rfl ?_; refine yVd rfl rfl ?_; refine yAd rfl ?_; refine yQ ?_; refine pw_ret ?_
    exact q_ret _ (.tmp rfl .nil) rfl
  | true =>
  cases t2 : (b == 0) with
  | false =>
    rw [t1, t2] at hr
    subst hr
    refine pcalls_of_pw Tryz.func20 rfl Tryz.ntmps20 Tryz.results20 (by simp) fun B w0 => ?_
    refine pw_seq ?_; refine pw_region ?_; refine yK (cs := [_, _, _]) rfl rfl ?_; refine yK (cs := [_, _, _]) rfl rfl ?_; refine yAd rfl ?_; refine yQ ?_; refine pw_seq ?_; refine pw_region ?_
    refine yLa (ys := [_, _, _]) rfl rfl rfl rfl ?_; refine yLa (ys := [_, _, _]) rfl rfl rfl rfl ?_; refine yC (c1) rfl rfl ?_; refine yU rfl rfl rfl ?_; refine yMd rfl ?_; refine yLa (ys := [_, _, _]) rfl rfl rfl rfl ?_
    refine yC c2 rfl rfl ?_; refine yB rfl rfl rfl rfl ?_; refine yPd rfl rfl ?_; refine yMd rfl ?_; rw [t1]; refine yLa (ys := [_, _, _]) rfl rfl rfl rfl ?_; refine yC c3 rfl rfl ?_; refine yB rfl rfl rfl rfl ?_; refine yPd rfl rfl ?_
    refine yMd rfl ?_; rw [t2]; refine yO rfl ?_; refine yO rfl ?_; refine yO rfl ?_; refine yO rfl ?_; refine yO rfl ?_; refine yVd rfl rfl ?_; refine yAd rfl ?_; refine yQ ?_; refine pw_ret ?_
    exact q_ret _ (.tmp rfl .nil) rfl
  | true =>
  cases t3 : (d1 == d2) with
  | false =>
    rw [t1, t2, t3] at hr
    subst hr
    refine pcalls_of_pw Tryz.func20 rfl Tryz.ntmps20 Tryz.results20 (by simp) fun B w0 => ?_
    refine pw_seq ?_; refine pw_region ?_; refine yK (cs := [_, _, _]) rfl rfl ?_; refine yK (cs := [_, _, _]) rfl rfl ?_; refine yAd rfl ?_; refine yQ ?_; refine pw_seq ?_; refine pw_region ?_
    refine yLa (ys := [_, _, _]) rfl rfl rfl rfl ?_; refine yLa (ys := [_, _, _]) rfl rfl rfl rfl ?_; refine yC (c1) rfl rfl ?_; refine yU rfl rfl rfl ?_; refine yMd rfl ?_; refine yLa (ys := [_, _, _]) rfl rfl rfl rfl ?_
    refine yC c2 rfl rfl ?_; refine yB rfl rfl rfl rfl ?_; refine yPd rfl rfl ?_; refine yMd rfl ?_; rw [t1]; refine yLa (ys := [_, _, _]) rfl rfl rfl rfl ?_; refine yC c3 rfl rfl ?_; refine yB rfl rfl rfl rfl ?_; refine yPd rfl rfl ?_
    refine yMd rfl ?_; rw [t2]; refine yFb rfl ?_; refine yLd rfl rfl rfl ?_; refine yFb rfl ?_; refine yLd rfl rfl rfl ?_; refine yB rfl rfl rfl rfl ?_; refine yPd rfl rfl ?_; refine yAd rfl ?_; refine yQ ?_; refine pw_ret ?_; rw [t3]
    exact q_ret _ (.tmp rfl .nil) rfl
  | true =>
    rw [t1, t2, t3] at hr
    subst hr
    refine pcalls_of_pw Tryz.func20 rfl Tryz.ntmps20 Tryz.results20 (by simp) fun B w0 => ?_
    refine pw_seq ?_; refine pw_region ?_; refine yK (cs := [_, _, _]) rfl rfl ?_; refine yK (cs := [_, _, _]) rfl rfl ?_; refine yAd rfl ?_; refine yQ ?_; refine pw_seq ?_; refine pw_region ?_
    refine yLa (ys := [_, _, _]) rfl rfl rfl rfl ?_; refine yLa (ys := [_, _, _]) rfl rfl rfl rfl ?_; refine yC (c1) rfl rfl ?_; refine yU rfl rfl rfl ?_; refine yMd rfl ?_; refine yLa (ys := [_, _, _]) rfl rfl rfl rfl ?_
    refine yC c2 rfl rfl ?_; refine yB rfl rfl rfl rfl ?_; refine yPd rfl rfl ?_; refine yMd rfl ?_; rw [t1]; refine yLa (ys := [_, _, _]) rfl rfl rfl rfl ?_; refine yC c3 rfl rfl ?_; refine yB rfl rfl rfl rfl ?_; refine yPd rfl rfl ?_
    refine yMd rfl ?_; rw [t2]; refine yFb rfl ?_; refine yLd rfl rfl rfl ?_; refine yFb rfl ?_; refine yLd rfl rfl rfl ?_; refine yB rfl rfl rfl rfl ?_; refine yPd rfl rfl ?_; refine yAd rfl ?_; refine yQ ?_; refine pw_ret ?_; rw [t3]
    exact q_ret _ (.tmp rfl .nil) rfl
theorem fine_of {s t : Stm} (h : fineB s t = true) : fitS s ∧ fitS t ∧ s.hs.length ≤ 6 ∧ s.ms.length ≤ 8 ∧ t.hs.length ≤ 6 ∧ t.ms.length ≤ 8 ∧ stE s = 0 ∧ stE t = 0 ∧ s.d = t.d := by
  unfold fineB at h
  simp only [Bool.and_eq_true, Bool.not_eq_true', Bool.or_eq_false_iff, beq_iff_eq] at h
  obtain ⟨⟨h1, h2⟩, h3, h4, h5⟩ := h
  obtain ⟨f1, a1, a2, -⟩ := fit_of h1
  obtain ⟨f2, b1, b2, -⟩ := fit_of h2
  exact ⟨f1, f2, a1, a2, b1, b2, h3, h4, h5⟩
theorem ckE_fine {s t : Stm} {days : Int} (h1 : stE s = 0) (h2 : stE t = 0) (h3 : s.d = t.d) (h4 : 0 ≤ days) (h5 : days ≤ 366) : ckE s t days = 0 := by
  unfold ckE
  rw [h1, h2, h3]
  simp
  omega
def canB (days : Int) (x y : Mv) : Bool := (x.2.2.1 == y.2.2.1) && ((x.1 == y.1) || (((x.2.2.2.1 == y.2.2.2.1) && (x.2.2.2.2 == y.2.2.2.2)) && (decide (x.2.1 - y.2.1 ≤ days) && decide (y.2.1 - x.2.1 ≤ days))))
end Go.Proofs.YtdkpmnefoobipaaGreatDoor
namespace Go.Proofs.YtdkpmnefoobipaaGreatDoor
open Go.RowKit Px

def phCan (days : Int) (xs : List DV) (r : SV) : Prop := ∃ x y : Mv, vD x.2.1 = true ∧ vD y.2.1 = true ∧ xs = [.agg (dM x), .agg (dM y)] ∧ r = .d (dB (canB days x y))
abbrev mk (f : Nat → Bool) : List SV := (marks f).map fun b => SV.d (dB b)
end Go.Proofs.YtdkpmnefoobipaaGreatDoor
