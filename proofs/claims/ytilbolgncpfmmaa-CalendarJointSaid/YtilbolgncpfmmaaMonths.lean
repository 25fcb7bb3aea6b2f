/- The walks of AddMonths, of the program and of the reference, for this seat. -/
import Derived.Test.YtilbolgncpfmmaaRefDate
import Derived.Test.YtilbolgncpfmmaaPlainM
namespace Go.Proofs.Ytilbolgncpfmmaa
open Go.RowKit

set_option maxHeartbeats 1000000 in
theorem AddMonths_any (d n : Int) (w : World) (hn : -9223372036854775808 ≤ n) (hn' : n ≤ 9223372036854775807) : Calls Try.prog 46 #[.int .i64 d, .int .i64 n] w fun e w' => e = .returned (.tuple #[.int .i64 (amV d n), .int .i64 (amE d n)]) ∧ Below w.heap.size w w' := by
  cases hv : vB d
  · have h13 : (dayE d != 0) = true := by simp [dayE, hv]
    have he : amE d n = 13 := by rw [amE, hv]; rfl
    have HE := Lib.hid he
    have HD := Lib.hid (show dayE d = 13 by rw [dayE, hv]; rfl)
    clear he hv
    go_enter Try.func46, Try.ntmps46
    go_wp2_with fail
    refine (Parts_any d _).mono ?_
    rintro e w1 ⟨rfl, hb1⟩
    have HB1 := Lib.hid hb1
    clear hb1
    go_wp2
    go_ret2
    exact ⟨ret_two (by rw [amV, HE.out]; rfl) (by rw [HE.out, HD.out]), HB1.out⟩
  · have h13 : (dayE d != 0) = false := by simp [dayE, hv]
    have hy : ptY d = pY d := by rw [ptY, if_pos hv]
    have hm : ptM d = pM d := by rw [ptM, if_pos hv]
    have hdd : ptD d = pD d := by rw [ptD, if_pos hv]
    obtain ⟨ho, -⟩ := parts_ok hv
    obtain ⟨a, b, c, f, g, h⟩ := okDate_iff.1 ho
    have hml := mlen_bd (pY d) (pM d)
    have EY := Lib.hid hy
    have EM := Lib.hid hm
    have ED := Lib.hid hdd
    have HV := Lib.hid hv
    clear hy hm hdd ho hv
    by_cases hr : n < -4800 ∨ 4800 < n
    · have he : amE d n = 2 := by rw [amE, if_pos HV.out, if_pos hr]
      have HE := Lib.hid he
      clear he
      have HR := Lib.hid hr
      rcases hr with hr | hr
      all_goals
        go_enter Try.func46, Try.ntmps46
        go_wp2_with fail
        refine (Parts_any d _).mono ?_
        rintro e w1 ⟨rfl, hb1⟩
        have HB1 := Lib.hid hb1
        clear hb1
        rw [EY.out, EM.out, ED.out]
        go_wp2
        go_ret2
        exact ⟨ret_two (by rw [amV, HE.out]; rfl) (by rw [HE.out]), HB1.out⟩
    · have n1 : -4800 ≤ n := by omega
      have n2 : n ≤ 4800 := by omega
      obtain ⟨k1, k2⟩ := amK_bd HV.out n1 n2
      obtain ⟨k, hk⟩ : ∃ k, k = 12 * pY d + pM d - 1 + n := ⟨_, rfl⟩
      have hkk : amK d n = k := hk.symm
      rw [hkk] at k1 k2
      by_cases hq : k / 12 < 1900 ∨ 2199 < k / 12
      · have he : amE d n = 13 := by rw [amE, if_pos HV.out, if_neg hr, hkk, if_pos hq]
        have HE := Lib.hid he
        clear he hkk hr
        rcases hq with hq | hq
        all_goals
          go_enter Try.func46, Try.ntmps46
          go_wp2_with fail
          refine (Parts_any d _).mono ?_
          rintro e w1 ⟨rfl, hb1⟩
          have HB1 := Lib.hid hb1
          clear hb1
          rw [EY.out, EM.out, ED.out]
          go_wp2
          go_ret2
          exact ⟨ret_two (by rw [amV, HE.out]; rfl) (by rw [HE.out]), HB1.out⟩
      · have he : amE d n = 0 := by rw [amE, if_pos HV.out, if_neg hr, hkk, if_neg hq]
        have hok := am_ok HV.out (n := n) (by rw [hkk]; omega) (by rw [hkk]; omega)
        rw [hkk] at hok
        have hN : amN d n = num (k / 12) (k % 12 + 1) (amD d n) := by rw [amN, hkk]
        have hD : amD d n = min (pD d) (mlen (k / 12) (k % 12 + 1)) := by rw [amD, hkk]
        rw [hD] at hN hok
        have HE := Lib.hid he
        have HOK := Lib.hid hok
        have HN := Lib.hid hN
        have hml2 := mlen_bd (k / 12) (k % 12 + 1)
        clear he hok hN hD hkk hr
        go_enter Try.func46, Try.ntmps46
        go_wp2_with fail
        refine (Parts_any d _).mono ?_
        rintro e w1 ⟨rfl, hb1⟩
        have HB1 := Lib.hid hb1
        clear hb1
        rw [EY.out, EM.out, ED.out]
        go_wp2_with fail
        rw [← hk]
        clear hk
        refine (length_any _ _ _ (by omega) (by omega) (by omega)).mono ?_
        rintro e w2 ⟨rfl, hb2⟩
        have HB2 := Lib.hid (HB1.out.trans (hb2.mono HB1.out.size))
        clear hb2
        rcases (show min (pD d) (mlen (k / 12) (k % 12 + 1)) = pD d ∧ pD d ≤ mlen (k / 12) (k % 12 + 1) ∨ min (pD d) (mlen (k / 12) (k % 12 + 1)) = mlen (k / 12) (k % 12 + 1) ∧ mlen (k / 12) (k % 12 + 1) < pD d by omega) with ⟨hx, hy⟩ | ⟨hx, hy⟩
        all_goals
          have HOK2 := HOK.out
          have HN2 := HN.out
          rw [hx] at HOK2 HN2
          have HOK3 := Lib.hid HOK2
          have HN3 := Lib.hid HN2
          clear hx HOK2 HN2
          go_wp2_with fail
          refine (Of_yes _ _ _ _ HOK3.out).mono ?_
          rintro e w3 ⟨rfl, hb3⟩
          have HB3 := Lib.hid (HB2.out.trans (hb3.mono HB2.out.size))
          clear hb3
          go_wp2
          go_ret2
          exact ⟨ret_two (by rw [amV, if_pos HE.out, HN3.out]) HE.out.symm, HB3.out⟩

set_option maxHeartbeats 1000000 in
theorem rOf_yes (y m d : Int) (w : World) (h : okDate y m d = true) : Calls Try.prog 116 #[.int .i64 y, .int .i64 m, .int .i64 d] w fun e w' => e = .returned (.tuple #[.int .i64 (num y m d), .int .i64 0]) ∧ w = w' := by
  obtain ⟨h1, h2, h3, h4, h5, h6⟩ := okDate_iff.1 h
  have hl := mlen_bd y m
  clear h
  have t1 : decide (mlen y m < d) = false := by simp; omega
  go_enter Try.func116, Try.ntmps116
  go_wp2_with (go_at_call 117; refine (rlength_any _ _ _ (by omega)).mono ?_; rintro e w' ⟨rfl, rfl⟩)
  go_loop [8, 9] (fun n t => ∃ z : Int, 1900 ≤ z ∧ z ≤ y ∧ t = .int .i64 z ∧ n = .int .i64 (-25567 + d - 1 + bgn z)) (fun _ t => (y - intOf t).toNat)
  case atStart => exact ⟨1900, by omega, h1, rfl, by rw [bgn_1900]; congr 1; omega⟩
  case round =>
    obtain ⟨z, hz1, hz2, rfl, rfl⟩ := hrel
    have hb := bgn_bd hz1 (show z ≤ 2201 by omega)
    by_cases hlt : z < y
    · cases hlp : lp z
      all_goals
        have hs : bgn (z + 1) = _ := bgn_succ z
        rw [lpI, hlp] at hs
        simp only [if_true, Bool.false_eq_true, if_false] at hs
        have HS := Lib.hid hs
        clear hs
        go_wp2_with (go_at_call 127; refine (rleap_any _ _ (by omega)).mono ?_; rintro e w' ⟨rfl, rfl⟩)
        go_round
        case rel => exact ⟨z + 1, by omega, by omega, rfl, by rw [HS.out]; congr 1; omega⟩
        case measure => simp only [intOf]; omega
    · obtain rfl : z = y := by omega
      go_wp2
      go_loop [8, 10] (fun n k => ∃ j : Nat, (j : Int) + 1 ≤ m ∧ k = .int .i64 (j + 1) ∧ n = .int .i64 (-25567 + d - 1 + bgn z + cumN z j)) (fun _ k => (m - intOf k).toNat)
      case atStart => exact ⟨0, by omega, rfl, by simp [cumN]⟩
      case round =>
        obtain ⟨j, hj, rfl, rfl⟩ := hrel
        have hc := cumN_bd z j
        have hl2 := mlen_bd z (j + 1)
        by_cases hlt : (j : Int) + 1 < m
        · go_wp2_with (go_at_call 117; refine (rlength_any _ _ _ (by omega)).mono ?_; rintro e w' ⟨rfl, rfl⟩)
          go_round
          case rel => exact ⟨j + 1, by omega, by go_num, by rw [cumN]; congr 1; omega⟩
          case measure => simp only [intOf]; omega
        · have HM := Lib.hid (show (m - 1).toNat = j by omega)
          go_wp2
          go_ret2
          exact ⟨ret_two (by rw [num, HM.out]; omega) rfl, rfl⟩

set_option maxHeartbeats 1000000 in
theorem rAddMonths_any (d n : Int) (w : World) (hn : -9223372036854775808 ≤ n) (hn' : n ≤ 9223372036854775807) : Calls Try.prog 88 #[.int .i64 d, .int .i64 n] w fun e w' => e = .returned (.tuple #[.int .i64 (amV d n), .int .i64 (amE d n)]) ∧ w = w' := by
  cases hv : vB d
  · have h13 : (dayE d != 0) = true := by simp [dayE, hv]
    have he : amE d n = 13 := by rw [amE, hv]; rfl
    have HE := Lib.hid he
    have HD := Lib.hid (show dayE d = 13 by rw [dayE, hv]; rfl)
    clear he hv
    go_enter Try.func88, Try.ntmps88
    go_wp2_with (go_at_call 108; refine (rParts_any _ _).mono ?_; rintro e w' ⟨rfl, rfl⟩)
    go_ret2
    exact ⟨ret_two (by rw [amV, HE.out]; rfl) (by rw [HE.out, HD.out]), rfl⟩
  · have h13 : (dayE d != 0) = false := by simp [dayE, hv]
    have hy : ptY d = pY d := by rw [ptY, if_pos hv]
    have hm : ptM d = pM d := by rw [ptM, if_pos hv]
    have hdd : ptD d = pD d := by rw [ptD, if_pos hv]
    obtain ⟨ho, -⟩ := parts_ok hv
    obtain ⟨a, b, c, f, g, h⟩ := okDate_iff.1 ho
    have hml := mlen_bd (pY d) (pM d)
    have EY := Lib.hid hy
    have EM := Lib.hid hm
    have ED := Lib.hid hdd
    have HV := Lib.hid hv
    clear hy hm hdd ho hv
    by_cases hr : n < -4800 ∨ 4800 < n
    · have he : amE d n = 2 := by rw [amE, if_pos HV.out, if_pos hr]
      have HE := Lib.hid he
      clear he
      rcases hr with hr | hr
      all_goals
        go_enter Try.func88, Try.ntmps88
        go_wp2_with fail
        refine (rParts_any d _).mono ?_
        rintro e w1 ⟨rfl, rfl⟩
        rw [EY.out, EM.out, ED.out]
        go_wp2
        go_ret2
        exact ⟨ret_two (by rw [amV, HE.out]; rfl) (by rw [HE.out]), rfl⟩
    · have n1 : -4800 ≤ n := by omega
      have n2 : n ≤ 4800 := by omega
      obtain ⟨k1, k2⟩ := amK_bd HV.out n1 n2
      obtain ⟨k, hk⟩ : ∃ k, k = 12 * pY d + pM d - 1 + n := ⟨_, rfl⟩
      have hkk : amK d n = k := hk.symm
      rw [hkk] at k1 k2
      by_cases hq : k < 22800 ∨ 26400 ≤ k
      · have he : amE d n = 13 := by rw [amE, if_pos HV.out, if_neg hr, hkk, if_pos (by omega)]
        have HE := Lib.hid he
        clear he hkk hr
        rcases hq with hq | hq
        all_goals
          go_enter Try.func88, Try.ntmps88
          go_wp2_with fail
          refine (rParts_any d _).mono ?_
          rintro e w1 ⟨rfl, rfl⟩
          rw [EY.out, EM.out, ED.out]
          go_wp2
          go_ret2
          exact ⟨ret_two (by rw [amV, HE.out]; rfl) (by rw [HE.out]), rfl⟩
      · have he : amE d n = 0 := by rw [amE, if_pos HV.out, if_neg hr, hkk, if_neg (by omega)]
        have hok := am_ok HV.out (n := n) (by rw [hkk]; omega) (by rw [hkk]; omega)
        rw [hkk] at hok
        have hN : amN d n = num (k / 12) (k % 12 + 1) (amD d n) := by rw [amN, hkk]
        have hD : amD d n = min (pD d) (mlen (k / 12) (k % 12 + 1)) := by rw [amD, hkk]
        rw [hD] at hN hok
        have HE := Lib.hid he
        have HOK := Lib.hid hok
        have HN := Lib.hid hN
        have hml2 := mlen_bd (k / 12) (k % 12 + 1)
        clear he hok hN hD hkk hr
        go_enter Try.func88, Try.ntmps88
        go_wp2_with fail
        refine (rParts_any d _).mono ?_
        rintro e w1 ⟨rfl, rfl⟩
        rw [EY.out, EM.out, ED.out]
        go_wp2_with fail
        rw [← hk]
        clear hk
        refine (rlength_any _ _ _ (by omega)).mono ?_
        rintro e w2 ⟨rfl, rfl⟩
        rcases (show min (pD d) (mlen (k / 12) (k % 12 + 1)) = pD d ∧ pD d ≤ mlen (k / 12) (k % 12 + 1) ∨ min (pD d) (mlen (k / 12) (k % 12 + 1)) = mlen (k / 12) (k % 12 + 1) ∧ mlen (k / 12) (k % 12 + 1) < pD d by omega) with ⟨hx, hy⟩ | ⟨hx, hy⟩
        all_goals
          have HOK2 := HOK.out
          have HN2 := HN.out
          rw [hx] at HOK2 HN2
          have HOK3 := Lib.hid HOK2
          have HN3 := Lib.hid HN2
          clear hx HOK2 HN2
          go_wp2_with fail
          refine (rOf_yes _ _ _ _ HOK3.out).mono ?_
          rintro e w3 ⟨rfl, rfl⟩
          go_wp2
          go_ret2
          exact ⟨ret_two (by rw [amV, if_pos HE.out, HN3.out]) HE.out.symm, rfl⟩
end Go.Proofs.Ytilbolgncpfmmaa
