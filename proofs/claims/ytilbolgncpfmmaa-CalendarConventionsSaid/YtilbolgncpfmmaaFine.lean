/- The walk of fine and what the laws over valid calendars share, for this seat. -/
import Derived.Test.YtilbolgncpfmmaaAwake
namespace Go.Proofs.Ytilbolgncpfmmaa
open Go.RowKit

/-- a law's box of its calendar -/
structure Sc (w W : World) (v0 v1 : Value) : Prop where
  c0 : W.cell? ⟨w.heap.size, 0, none⟩ = some v0
  c1 : W.cell? ⟨w.heap.size, 1, none⟩ = some v1
  lt : w.heap.size < W.heap.size
  below : Below w.heap.size w W
theorem Sc.later {w W W' : World} {v0 v1 : Value} (h : Sc w W v0 v1) (hb : Below W.heap.size W W') : Sc w W' v0 v1 :=
  ⟨cell_of_below hb h.lt h.c0, cell_of_below hb h.lt h.c1, Nat.lt_of_lt_of_le h.lt hb.size, h.below.trans (hb.mono h.below.size)⟩
theorem Sc.start {w : World} {v0 v1 : Value} : Sc w (w.alloc (.cells #[v0, v1] 25)) v0 v1 :=
  ⟨by simp, by simp, by simp, (Below.refl _ _).alloc (Nat.le_refl _) _⟩

def fineB (we hs : List Int) (d : Int) : Bool := decide (great we hs = false ∧ chk we hs = 0 ∧ we.length < 7 ∧ -24567 ≤ d ∧ d ≤ 83005)
theorem fineB_iff {we hs : List Int} {d : Int} : fineB we hs d = true ↔ great we hs = false ∧ chk we hs = 0 ∧ we.length < 7 ∧ -24567 ≤ d ∧ d ≤ 83005 := by simp [fineB]

set_option maxHeartbeats 1000000 in
theorem fine_any (v0 v1 : Value) (we hs : List Int) (d : Int) (w : World) (h0 : IntsAt w w.heap.size v0 we) (h1 : IntsAt w w.heap.size v1 hs) :
    Calls Try.prog 28 #[.agg #[v0, v1], .int .i64 d] w fun e w' => e = .returned (.bool (fineB we hs d)) ∧ Below w.heap.size w w' := by
  have H0 := Lib.hid h0
  have H1 := Lib.hid h1
  obtain ⟨A0, n0, rfl, l0, -⟩ := h0
  clear h1
  go_enter Try.func28, Try.ntmps28
  go_wp2_with fail
  refine (Great_any _ _ we hs _ (ints_alloc H0.out _) (ints_alloc H1.out _)).mono ?_
  rintro e w1 ⟨rfl, hw1⟩
  have sc1 : Sc w w1 (.slice A0 we.length n0) v1 := by rw [← hw1]; exact Sc.start.later ((Below.refl _ _).alloc (Nat.le_refl _) _)
  clear hw1
  obtain ⟨c0, c1, lt1, hb1⟩ := id sc1
  have HB := Lib.hid hb1
  have SC := Lib.hid sc1
  clear hb1 sc1
  cases hg : great we hs
  · go_wp2_with fail
    refine (rCheck_any _ _ we hs _ (ints_later H0.out HB.out (Nat.le_refl _)) (ints_later H1.out HB.out (Nat.le_refl _))).mono ?_
    rintro e w2 ⟨rfl, hb2⟩
    have sc2 := SC.out.later hb2
    obtain ⟨c0, c1, lt2, hbb2⟩ := id sc2
    have HB2 := Lib.hid hbb2
    clear hb2 sc2 hbb2
    by_cases hc : chk we hs = 0
    · have e1 : (chk we hs == 0) = true := by simp [hc]
      have HC := Lib.hid hc
      clear hc
      by_cases h7 : we.length < 7
      · by_cases hd : -24567 ≤ d
        · go_wp2
          go_ret
          exact ⟨ret_bool (by rw [Bool.eq_iff_iff, fineB_iff]; simp [hg, HC.out, h7, hd]), HB2.out⟩
        · go_wp2
          go_ret
          exact ⟨ret_bool (by symm; rw [Bool.eq_false_iff, Ne, fineB_iff]; omega), HB2.out⟩
      · go_wp2
        go_ret
        exact ⟨ret_bool (by symm; rw [Bool.eq_false_iff, Ne, fineB_iff]; omega), HB2.out⟩
    · have e1 : (chk we hs == 0) = false := by simp [hc]
      have HC := Lib.hid hc
      clear hc
      go_wp2
      go_ret
      exact ⟨ret_bool (by symm; rw [Bool.eq_false_iff, Ne, fineB_iff]; exact fun h => HC.out h.2.1), HB2.out⟩
  · go_wp2
    go_ret
    exact ⟨ret_bool (by symm; rw [Bool.eq_false_iff, Ne, fineB_iff]; exact fun h => by rw [hg] at h; cases h.1), HB.out⟩
end Go.Proofs.Ytilbolgncpfmmaa
