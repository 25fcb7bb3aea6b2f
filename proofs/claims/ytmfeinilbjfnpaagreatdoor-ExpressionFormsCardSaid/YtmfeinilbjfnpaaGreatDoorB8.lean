/- Walk: the reference's values of expressions. -/
import Derived.Test.YtmfeinilbjfnpaaGreatDoorB7
import Derived.Test.YtmfeinilbjfnpaaGreatDoorB6
namespace Go.Proofs.YtmfeinilbjfnpaaGreatDoor
open Go.RowKit Px

end Go.Proofs.YtmfeinilbjfnpaaGreatDoor
namespace Go.Proofs.YtmfeinilbjfnpaaGreatDoor
open Go.RowKit Px

namespace Px
section
variable {P : Program} {sq : Bool} {ops : Array Oper} {K : PS → Prop} {rest : List Oper} {st : PS} {d : Option Nat} {ty : TypeId} {pos : String} {af : Array Edge} {gd : Option (Nat × Bool)}
end
end Px
end Go.Proofs.YtmfeinilbjfnpaaGreatDoor
namespace Go.Proofs.YtmfeinilbjfnpaaGreatDoor
open Go.RowKit Px

set_option maxRecDepth 20000 in
set_option maxHeartbeats 8000000 in
theorem lawForm (a b : List Cf) (n : Str) : PCalls Tryz.prog 8 [.sl 2 (a.map dCf), .sl 2 (b.map dCf), dS n] (.d (dB true)) := by
  have k0 := wAwake
  have k1 := wGreatE [a, b] (by simp)
  simp only [List.map_cons, List.map_nil] at k1
  cases hg : [a, b].any bigE with
  | true =>
    rw [hg] at k1
    refine pcalls_of_pw Tryz.func8 rfl Tryz.ntmps8 Tryz.results8 (by simp) fun B w0 => ?_
    refine pw_seq ?_; refine pw_region ?_; refine yAd rfl ?_; refine yQ ?_; refine pw_seq ?_; refine pw_seq ?_; refine pw_region ?_; refine yMd rfl ?_; refine yMd rfl ?_; refine yR (es := [[_], [_]]) rfl rfl rfl rfl rfl ?_
    refine yC (k1) rfl rfl ?_; refine yMd rfl ?_; refine yO rfl ?_; refine yO rfl ?_; refine yO rfl ?_; refine yPd rfl rfl ?_; refine yQ ?_; refine pw_ct rfl ?_; refine pw_seq ?_; refine pw_region ?_; refine yC (k0) rfl rfl ?_
    refine yAd rfl ?_; refine yQ ?_; refine pw_ret ?_; refine q_then_ret ?_
    exact q_ret _ (.tmp rfl .nil) rfl
  | false =>
  rw [hg] at k1
  simp only [List.any_cons, List.any_nil, Bool.or_eq_false_iff] at hg
  obtain ⟨g1, g2, -⟩ := hg
  obtain ⟨a1, -, a2⟩ := bigE_small g1
  obtain ⟨b1, -, b2⟩ := bigE_small g2
  by_cases hn : 20 < n.length
  · have t0 : decide ((n.length : Int) > 20) = true := decide_eq_true (by omega)
    refine pcalls_of_pw Tryz.func8 rfl Tryz.ntmps8 Tryz.results8 (by simp) fun B w0 => ?_
    refine pw_seq ?_; refine pw_region ?_; refine yAd rfl ?_; refine yQ ?_; refine pw_seq ?_; refine pw_seq ?_; refine pw_region ?_; refine yMd rfl ?_; refine yMd rfl ?_; refine yR (es := [[_], [_]]) rfl rfl rfl rfl rfl ?_
    refine yC (k1) rfl rfl ?_; refine yMd rfl ?_; refine yMd rfl ?_; refine yNs rfl ?_; refine yB rfl rfl rfl rfl ?_; refine yVd rfl rfl ?_; refine yQ ?_; refine q_then ?_; rw [t0]; refine pw_ct rfl ?_; refine pw_seq ?_
    refine pw_region ?_; refine yC (k0) rfl rfl ?_; refine yAd rfl ?_; refine yQ ?_; refine pw_ret ?_; refine q_then_ret ?_
    exact q_ret _ (.tmp rfl .nil) rfl
  have t0 : decide ((n.length : Int) > 20) = false := decide_eq_false (by omega)
  have ha : ∀ c ∈ a, c.2.length ≤ 400 := fun c hc => by have := (a2 c hc).2; omega
  have hb : ∀ c ∈ b, c.2.length ≤ 400 := fun c hc => by have := (b2 c hc).2; omega
  have ha2 : ∀ c ∈ a, c.2.length ≤ 1000 := fun c hc => by have := (a2 c hc).2; omega
  have hb2 : ∀ c ∈ b, c.2.length ≤ 1000 := fun c hc => by have := (b2 c hc).2; omega
  have hna : ∀ c ∈ a, c.1.length ≤ 1000000 := fun c hc => by have := (a2 c hc).1; omega
  have hnb : ∀ c ∈ b, c.1.length ≤ 1000000 := fun c hc => by have := (b2 c hc).1; omega
  have m1 := wNormalE a (by omega) ha2
  have m2 := wRNormalE a (by omega) hna ha2
  have m3 := wZero a (by omega) ha2
  have m4 := wRZero a (by omega) hna ha2
  have m5 := wNames a (by omega) ha2
  have m6 := wRNames a (by omega) hna ha2
  have m7 := wAddE a b (by omega) (by omega) ha2 hb2
  have m8 := wRAddE a b (by omega) (by omega) hna hnb ha2 hb2
  have m9 := wScale a n (by omega) ha (by omega)
  have m10 := wRScale a n (by omega) hna ha (by omega)
  have l1 : (nmE a).length ≤ 1000000 := by
    unfold nmE
    split
    · exact Nat.le_trans (nf_len a) (by omega)
    · simp
  have l2 : (adR a b).length ≤ 1000000 := by
    unfold adR
    split
    · exact Nat.le_trans (nf_len _) (by rw [List.length_append]; omega)
    · simp
  have l3 : (scR a n).length ≤ 1000000 := by
    unfold scR
    split
    · exact Nat.le_trans (nf_len _) (by simp [scl]; omega)
    · simp
  have q1 := wEqC (nmE a) (nmE a) l1 l1
  have q2 := wEqS ((nmE a).map (·.1)) ((nmE a).map (·.1)) (by rw [List.length_map]; exact l1) (by rw [List.length_map]; exact l1)
  have q3 := wEqC (adR a b) (adR a b) l2 l2
  have q4 := wEqC (scR a n) (scR a n) l3 l3
  rw [decide_eq_true rfl] at q1 q2 q3 q4
  obtain ⟨x1, hx1⟩ : ∃ x, x = (nmE a).map dCf := ⟨_, rfl⟩
  obtain ⟨x2, hx2⟩ : ∃ x, x = ((nmE a).map (·.1)).map dC := ⟨_, rfl⟩
  obtain ⟨x3, hx3⟩ : ∃ x, x = (adR a b).map dCf := ⟨_, rfl⟩
  obtain ⟨x4, hx4⟩ : ∃ x, x = (scR a n).map dCf := ⟨_, rfl⟩
  obtain ⟨z, hz⟩ : ∃ x, x = decide (chE a = 0 ∧ nf a = []) := ⟨_, rfl⟩
  obtain ⟨i1, hi1⟩ : ∃ x, x = chE a := ⟨_, rfl⟩
  obtain ⟨i2, hi2⟩ : ∃ x, x = adE a b := ⟨_, rfl⟩
  obtain ⟨i3, hi3⟩ : ∃ x, x = scE a n := ⟨_, rfl⟩
  rw [← hz] at m3 m4
  rw [← hi1] at m1 m2 m3 m4 m5 m6
  rw [← hi2] at m7 m8
  rw [← hi3] at m9 m10
  rw [← hx1] at m1 m2 q1
  rw [← hx2] at m5 m6 q2
  rw [← hx3] at m7 m8 q3
  rw [← hx4] at m9 m10 q4
  have t1 : (i1 == i1) = true := by simp
  have t2 : (i2 == i2) = true := by simp
  have t3 : (i3 == i3) = true := by simp
  have t4 : (z == z) = true := by simp
  clear hx1 hx2 hx3 hx4 hz hi1 hi2 hi3 l1 l2 l3
  refine pcalls_of_pw Tryz.func8 rfl Tryz.ntmps8 Tryz.results8 (by simp) fun B w0 => ?_
  refine pw_seq ?_; refine pw_region ?_; refine yAd rfl ?_; refine yQ ?_; refine pw_seq ?_; refine pw_seq ?_; refine pw_region ?_; refine yMd rfl ?_; refine yMd rfl ?_; refine yR (es := [[_], [_]]) rfl rfl rfl rfl rfl ?_
  refine yC (k1) rfl rfl ?_; refine yMd rfl ?_; refine yMd rfl ?_; refine yNs rfl ?_; refine yB rfl rfl rfl rfl ?_; refine yVd rfl rfl ?_; refine yQ ?_; refine q_then ?_; rw [t0]; refine pw_cf rfl ?_; refine pw_skip ?_
  refine pw_seq ?_; refine pw_region ?_; refine yMd rfl ?_; refine yC (m1) rfl rfl ?_; refine yMp rfl ?_; refine yX rfl rfl ?_; refine yX rfl rfl ?_; refine yAd rfl ?_; refine yAd rfl ?_; refine yQ ?_; refine pw_seq ?_
  refine pw_region ?_; refine yMd rfl ?_; refine yC (m2) rfl rfl ?_; refine yMp rfl ?_; refine yX rfl rfl ?_; refine yX rfl rfl ?_; refine yAd rfl ?_; refine yAd rfl ?_; refine yQ ?_; refine pw_seq ?_; refine pw_region ?_
  refine yMd rfl ?_; refine yC (m3) rfl rfl ?_; refine yMp rfl ?_; refine yX rfl rfl ?_; refine yX rfl rfl ?_; refine yAd rfl ?_; refine yAd rfl ?_; refine yQ ?_; refine pw_seq ?_; refine pw_region ?_; refine yMd rfl ?_
  refine yC (m4) rfl rfl ?_; refine yMp rfl ?_; refine yX rfl rfl ?_; refine yX rfl rfl ?_; refine yAd rfl ?_; refine yAd rfl ?_; refine yQ ?_; refine pw_seq ?_; refine pw_region ?_; refine yMd rfl ?_; refine yC (m5) rfl rfl ?_
  refine yMp rfl ?_; refine yX rfl rfl ?_; refine yX rfl rfl ?_; refine yAd rfl ?_; refine yAd rfl ?_; refine yQ ?_; refine pw_seq ?_; refine pw_region ?_; refine yMd rfl ?_; refine yC (m6) rfl rfl ?_; refine yMp rfl ?_
  refine yX rfl rfl ?_; refine yX rfl rfl ?_; refine yAd rfl ?_; refine yAd rfl ?_; refine yQ ?_; refine pw_seq ?_; refine pw_region ?_; refine yMd rfl ?_; refine yMd rfl ?_; refine yC (m7) rfl rfl ?_; refine yMp rfl ?_
  refine yX rfl rfl ?_; refine yX rfl rfl ?_; refine yAd rfl ?_; refine yAd rfl ?_; refine yQ ?_; refine pw_seq ?_; refine pw_region ?_; refine yMd rfl ?_; refine yMd rfl ?_; refine yC (m8) rfl rfl ?_; refine yMp rfl ?_
  refine yX rfl rfl ?_; refine yX rfl rfl ?_; refine yAd rfl ?_; refine yAd rfl ?_; refine yQ ?_; refine pw_seq ?_; refine pw_region ?_; refine yMd rfl ?_; refine yMd rfl ?_; refine yC (m9) rfl rfl ?_; refine yMp rfl ?_
  refine yX rfl rfl ?_; refine yX rfl rfl ?_; refine yAd rfl ?_; refine yAd rfl ?_; refine yQ ?_; refine pw_seq ?_; refine pw_region ?_; refine yMd rfl ?_; refine yMd rfl ?_; refine yC (m10) rfl rfl ?_; refine yMp rfl ?_
  refine yX rfl rfl ?_; refine yX rfl rfl ?_; refine yAd rfl ?_; refine yAd rfl ?_; refine yQ ?_; refine pw_seq ?_; refine pw_region ?_; refine yMd rfl ?_; refine yMd rfl ?_; refine yC (q1) rfl rfl ?_; refine yMd rfl ?_
  refine yMd rfl ?_; refine yMd rfl ?_; refine yB rfl rfl rfl rfl ?_; refine yPd rfl rfl ?_; refine yMd rfl ?_; rw [t1]; refine yMd rfl ?_; refine yMd rfl ?_; refine yBb (c := true) Tryz.underlying4 t4 rfl rfl ?_
  refine yPd rfl rfl ?_; refine yMd rfl ?_; refine yMd rfl ?_; refine yMd rfl ?_; refine yB rfl rfl rfl rfl ?_; refine yPd rfl rfl ?_; refine yMd rfl ?_; rw [t1]; refine yMd rfl ?_; refine yMd rfl ?_; refine yC (q2) rfl rfl ?_
  refine yPd rfl rfl ?_; refine yMd rfl ?_; refine yMd rfl ?_; refine yMd rfl ?_; refine yB rfl rfl rfl rfl ?_; refine yPd rfl rfl ?_; refine yMd rfl ?_; rw [t1]; refine yMd rfl ?_; refine yMd rfl ?_; refine yC (q3) rfl rfl ?_
  refine yPd rfl rfl ?_; refine yMd rfl ?_; refine yMd rfl ?_; refine yMd rfl ?_; refine yB rfl rfl rfl rfl ?_; refine yPd rfl rfl ?_; refine yMd rfl ?_; rw [t2]; refine yMd rfl ?_; refine yMd rfl ?_; refine yC (q4) rfl rfl ?_
  refine yPd rfl rfl ?_; refine yMd rfl ?_; refine yMd rfl ?_; refine yMd rfl ?_; refine yB rfl rfl rfl rfl ?_; refine yPd rfl rfl ?_; refine yMd rfl ?_; rw [t3]; refine yC (k0) rfl rfl ?_; refine yPd rfl rfl ?_; refine yAd rfl ?_
  refine yQ ?_; refine pw_ret ?_
  exact q_ret _ (.tmp rfl .nil) rfl
end Go.Proofs.YtmfeinilbjfnpaaGreatDoor
