/- The walks of the program's dates, for this seat. -/
import Derived.Test.YtilbolgncpfmmaaBase
import Derived.Test.YtilbolgncpfmmaaPlainD
namespace Go.Proofs.Ytilbolgncpfmmaa
open Go.RowKit

theorem leap_any (y : Int) (w : World) (h0 : 0 ≤ y) : Calls Try.prog 109 #[.int .i64 y] w fun e w' => e = .returned (.bool (lp y)) ∧ w = w' := by
  go_enter Try.func109, Try.ntmps109
  go_wp2
  all_goals
    go_ret
    exact ⟨ret_bool (by unfold lp; rw [Bool.eq_iff_iff]; simp_all), rfl⟩

set_option maxHeartbeats 1000000 in
theorem length_any (y m : Int) (w : World) (h0 : 0 ≤ y) (h1 : 1 ≤ m) (h2 : m ≤ 12) : Calls Try.prog 81 #[.int .i64 y, .int .i64 m] w fun e w' => e = .returned (.int .i64 (mlen y m)) ∧ Below w.heap.size w w' := by
  rcases (show m = 1 ∨ m = 2 ∨ m = 3 ∨ m = 4 ∨ m = 5 ∨ m = 6 ∨ m = 7 ∨ m = 8 ∨ m = 9 ∨ m = 10 ∨ m = 11 ∨ m = 12 by omega) with rfl | rfl | rfl | rfl | rfl | rfl | rfl | rfl | rfl | rfl | rfl | rfl
  all_goals
    go_enter Try.func81, Try.ntmps81
    go_wp2_with (go_at_call 109; refine (leap_any _ _ (by omega)).mono ?_; rintro e w' ⟨rfl, rfl⟩)
    all_goals
      go_ret
      exact ⟨ret_int (by first | rfl | (unfold mlen; simp_all)), (Below.refl _ _).alloc (Nat.le_refl _) _⟩

theorem begin_any (y : Int) (w : World) (h0 : 1900 ≤ y) (h1 : y ≤ 2201) : Calls Try.prog 80 #[.int .i64 y] w fun e w' => e = .returned (.int .i64 (bgn y)) ∧ w = w' := by
  go_enter Try.func80, Try.ntmps80
  go_wp2
  go_ret
  exact ⟨ret_int (by unfold bgn; omega), rfl⟩

set_option maxHeartbeats 1000000 in
theorem Of_yes (y m d : Int) (w : World) (h : okDate y m d = true) : Calls Try.prog 38 #[.int .i64 y, .int .i64 m, .int .i64 d] w fun e w' => e = .returned (.tuple #[.int .i64 (num y m d), .int .i64 0]) ∧ Below w.heap.size w w' := by
  obtain ⟨h1, h2, h3, h4, h5, h6⟩ := okDate_iff.1 h
  have hb := bgn_bd h1 (by omega)
  have hl := mlen_bd y m
  clear h
  have t1 : decide (mlen y m < d) = false := by simp; omega
  go_enter Try.func38, Try.ntmps38
  go_wp2_with (first | (go_at_call 81; refine (length_any _ _ _ (by omega) (by omega) (by omega)).mono ?_; rintro e w1 ⟨rfl, hb1⟩) | (go_at_call 80; refine (begin_any _ _ (by omega) (by omega)).mono ?_; rintro e w' ⟨rfl, rfl⟩))
  go_loopw [8, 9] (fun n k wr => ∃ j : Nat, (j : Int) + 1 ≤ m ∧ k = .int .i64 (j + 1) ∧ n = .int .i64 (bgn y + d - 1 + cumN y j) ∧ Below w.heap.size w wr) (fun _ k _ => (m - intOf k).toNat)
  case atStart => exact ⟨0, by omega, rfl, by simp [cumN], hb1⟩
  case round =>
    obtain ⟨j, hj, rfl, rfl, hbw⟩ := hrel
    have hc := cumN_bd y j
    have hl2 := mlen_bd y (j + 1)
    by_cases hlt : (j : Int) + 1 < m
    · go_wp2_with (go_at_call 81; refine (length_any _ _ _ (by omega) (by omega) (by omega)).mono ?_; rintro e w2 ⟨rfl, hb2⟩)
      go_roundw
      case rel => exact ⟨j + 1, by omega, by go_num, by rw [cumN]; congr 1; omega, hbw.trans (hb2.mono hbw.size)⟩
      case measure => simp only [intOf]; omega
    · have HM := Lib.hid (show (m - 1).toNat = j by omega)
      go_wp2
      go_ret2
      exact ⟨ret_two (by rw [num, HM.out]) rfl, hbw⟩

set_option maxHeartbeats 1000000 in
theorem Of_no (y m d : Int) (w : World) (h : okDate y m d = false) : Calls Try.prog 38 #[.int .i64 y, .int .i64 m, .int .i64 d] w fun e w' => e = .returned (.tuple #[.int .i64 0, .int .i64 13]) ∧ Below w.heap.size w w' := by
  have h' : ¬ (1900 ≤ y ∧ y ≤ 2199 ∧ 1 ≤ m ∧ m ≤ 12 ∧ 1 ≤ d ∧ d ≤ mlen y m) := by simpa [okDate] using h
  clear h
  by_cases h1 : 1900 ≤ y
  · by_cases h2 : y ≤ 2199
    · by_cases h3 : 1 ≤ m
      · by_cases h4 : m ≤ 12
        · by_cases h5 : 1 ≤ d
          · have h6 : mlen y m < d := by omega
            have t1 : decide (mlen y m < d) = true := by simp; omega
            clear h'
            go_enter Try.func38, Try.ntmps38
            go_wp2_with (go_at_call 81; refine (length_any _ _ _ (by omega) (by omega) (by omega)).mono ?_; rintro e w1 ⟨rfl, hb1⟩)
            go_ret2
            exact ⟨rfl, hb1⟩
          · clear h'
            go_enter Try.func38, Try.ntmps38
            go_wp2
            go_ret2
            exact ⟨rfl, Below.refl _ _⟩
        · clear h'
          go_enter Try.func38, Try.ntmps38
          go_wp2
          go_ret2
          exact ⟨rfl, Below.refl _ _⟩
      · clear h'
        go_enter Try.func38, Try.ntmps38
        go_wp2
        go_ret2
        exact ⟨rfl, Below.refl _ _⟩
    · clear h'
      go_enter Try.func38, Try.ntmps38
      go_wp2
      go_ret2
      exact ⟨rfl, Below.refl _ _⟩
  · clear h'
    go_enter Try.func38, Try.ntmps38
    go_wp2
    go_ret2
    exact ⟨rfl, Below.refl _ _⟩
theorem Of_any (y m d : Int) (w : World) : Calls Try.prog 38 #[.int .i64 y, .int .i64 m, .int .i64 d] w fun e w' => e = .returned (.tuple #[.int .i64 (ofV y m d), .int .i64 (ofE y m d)]) ∧ Below w.heap.size w w' := by
  cases h : okDate y m d
  · refine (Of_no y m d w h).mono ?_
    rintro e w' ⟨rfl, hb⟩
    exact ⟨by simp [ofV, ofE, h], hb⟩
  · refine (Of_yes y m d w h).mono ?_
    rintro e w' ⟨rfl, hb⟩
    exact ⟨by simp [ofV, ofE, h], hb⟩
end Go.Proofs.Ytilbolgncpfmmaa
