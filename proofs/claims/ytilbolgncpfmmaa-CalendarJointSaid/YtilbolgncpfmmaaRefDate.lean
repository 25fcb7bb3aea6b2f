/- The walks of the reference's dates, for this seat. -/
import Derived.Test.YtilbolgncpfmmaaDate2
namespace Go.Proofs.Ytilbolgncpfmmaa
open Go.RowKit

theorem lp_alt (y : Int) : lp y = (y % 4 == 0 && (y % 100 != 0 || y % 400 == 0)) := by
  unfold lp
  by_cases h4 : y % 4 = 0
  · have e : (y % 4 == 0) = true := by rw [h4]; rfl
    rw [e]; simp
  · have h5 : y % 400 ≠ 0 := by omega
    have e : (y % 4 == 0) = false := beq_eq_false_iff_ne.2 h4
    have e2 : (y % 400 == 0) = false := beq_eq_false_iff_ne.2 h5
    rw [e, e2]; rfl
theorem rleap_any (y : Int) (w : World) (h0 : 0 ≤ y) : Calls Try.prog 127 #[.int .i64 y] w fun e w' => e = .returned (.bool (lp y)) ∧ w = w' := by
  go_enter Try.func127, Try.ntmps127
  go_wp2
  all_goals
    go_ret
    exact ⟨ret_bool (by rw [lp_alt]; rw [Bool.eq_iff_iff]; simp_all), rfl⟩
set_option maxHeartbeats 1000000 in
theorem rlength_any (y m : Int) (w : World) (h0 : 0 ≤ y) : Calls Try.prog 117 #[.int .i64 y, .int .i64 m] w fun e w' => e = .returned (.int .i64 (mlen y m)) ∧ w = w' := by
  by_cases h2 : m = 2
  · have t2 : (m == 2) = true := by simp [h2]
    have H2 := Lib.hid h2
    clear h2
    cases hl : lp y
    all_goals
      go_enter Try.func117, Try.ntmps117
      go_wp2_with (go_at_call 127; refine (rleap_any _ _ (by omega)).mono ?_; rintro e w' ⟨rfl, rfl⟩)
      go_ret
      exact ⟨ret_int (by unfold mlen; rw [if_pos H2.out, hl]; rfl), rfl⟩
  · have t2 : (m == 2) = false := by simp [h2]
    have H2 := Lib.hid h2
    clear h2
    go_enter Try.func117, Try.ntmps117
    go_wp2
    all_goals
      go_ret
      exact ⟨ret_int (by unfold mlen; rw [if_neg H2.out]; split <;> simp_all), rfl⟩

set_option maxHeartbeats 1000000 in
theorem rParts_any (d : Int) (w : World) : Calls Try.prog 108 #[.int .i64 d] w fun e w' => e = .returned (.tuple #[.int .i64 (ptY d), .int .i64 (ptM d), .int .i64 (ptD d), .int .i64 (dayE d)]) ∧ w = w' := by
  cases hv : vB d
  · have h13' : (dayE d != 0) = true := by simp [dayE, hv]
    go_enter Try.func108, Try.ntmps108
    go_wp2_with (go_at_call 115; refine (rdayCheck_any _ _).mono ?_; rintro e w' ⟨rfl, rfl⟩)
    refine bodyPost_ret (results_tmp4 rfl _ _ _) rfl ?_
    exact ⟨ret_four (by simp [ptY, hv]) (by simp [ptM, hv]) (by simp [ptD, hv]) (by simp [dayE, hv]), rfl⟩
  · obtain ⟨d1, d2⟩ := vB_iff.1 hv
    obtain ⟨y1, y2, y3, y4⟩ := yOf_spec (n := d + 25567) (by omega) (by omega)
    have HV := Lib.hid hv
    have h13' : (dayE d != 0) = false := by simp [dayE, hv]
    go_enter Try.func108, Try.ntmps108
    go_wp2_with (go_at_call 115; refine (rdayCheck_any _ _).mono ?_; rintro e w' ⟨rfl, rfl⟩)
    go_loop [6, 7] (fun n t => ∃ y r : Int, t = .int .i64 y ∧ n = .int .i64 r ∧ 1900 ≤ y ∧ y ≤ 2199 ∧ 0 ≤ r ∧ r ≤ 109572 ∧ Hid (bgn y + r = d + 25567)) (fun _ t => (2199 - intOf t).toNat)
    case atStart => exact ⟨1900, d + 25567, rfl, by go_num, by omega, by omega, by omega, by omega, Lib.hid (by rw [bgn_1900]; omega)⟩
    case round =>
      obtain ⟨y, r, rfl, rfl, a1, a2, a3, a4, HR⟩ := hrel
      have hls := lpI_bd y
      have hs := bgn_succ y
      have HLI := Lib.hid (show lpI y = if lp y then 1 else 0 from rfl)
      by_cases hc : 365 + lpI y ≤ r
      · have hy : y < 2199 := by
          rcases (show y < 2199 ∨ y = 2199 by omega) with h | h
          · exact h
          · subst h
            rw [show (2199 : Int) + 1 = 2200 from rfl, bgn_2200] at hs
            have := HR.out; omega
        cases hl : lp y
        all_goals
          have hli : lpI y = _ := HLI.out
          rw [hl] at hli
          have hli2 : 365 + lpI y = 365 + lpI y := rfl
          simp at hli
          have HRN := Lib.hid (show bgn (y + 1) + (r - (365 + lpI y)) = d + 25567 by have := HR.out; omega)
          rw [hli] at hc HRN
          clear hli hli2 hs hls HLI
          go_wp2_with (go_at_call 127; refine (rleap_any _ _ (by omega)).mono ?_; rintro e w' ⟨rfl, rfl⟩)
          go_round
          case rel => exact ⟨y + 1, _, rfl, rfl, by omega, by omega, by omega, by omega, HRN⟩
          case measure => simp only [intOf]; omega
      · have hyy : y = yOf (d + 25567) := by
          have := HR.out
          exact year_unique (n := d + 25567) (by omega) (by omega) y3 y4
        have HY := Lib.hid (show y = pY d from hyy)
        have HRR := Lib.hid (show r = d + 25567 - bgn y by have := HR.out; omega)
        have hr1 : r < 365 + lpI y := by omega
        have HR1 := Lib.hid hr1
        clear hyy hs
        cases hl : lp y
        all_goals
          have hli : lpI y = _ := HLI.out
          rw [hl] at hli
          simp at hli
          rw [hli] at hc hr1
          clear hli hls
          first | (have tt : decide (r < 365) = true := by simp; omega) | (have tt : decide (r < 366) = true := by simp; omega)
          go_wp2_with (go_at_call 127; refine (rleap_any _ _ (by omega)).mono ?_; rintro e w' ⟨rfl, rfl⟩)
          obtain ⟨R, hR⟩ : ∃ R, R = r := ⟨_, rfl⟩
          have HRe := Lib.hid hR
          clear hR
          go_loop [6, 8] (fun n k => ∃ (j : Nat) (r' : Int), j ≤ 11 ∧ k = .int .i64 (j + 1) ∧ n = .int .i64 r' ∧ 0 ≤ r' ∧ r' ≤ 366 ∧ Hid (r' = R - cumN y j) ∧ Hid (mon y 12 R 1 = mon y (12 - j) r' (j + 1))) (fun _ k => (13 - intOf k).toNat)
          case atStart => exact ⟨0, r, by omega, rfl, rfl, by omega, by omega, Lib.hid (by simp [cumN, HRe.out]), Lib.hid (by rw [HRe.out]; rfl)⟩
          case round =>
            obtain ⟨j, r', hj, rfl, rfl, hr, hr366, HRJ, HM⟩ := hrel
            have hl2 := mlen_bd y (j + 1)
            by_cases hlt : mlen y (j + 1) ≤ r'
            · have hj11 : j < 11 := by
                rcases (show j < 11 ∨ j = 11 by omega) with h | h
                · exact h
                · subst h
                  have h12 := mlen_sum y
                  rw [cumN] at h12
                  have e1 := HRJ.out
                  have e2 := HR1.out
                  have e3 := HRe.out
                  simp at hlt h12; omega
              go_wp2_with (go_at_call 117; refine (rlength_any _ _ _ (by omega)).mono ?_; rintro e w' ⟨rfl, rfl⟩)
              go_round
              case rel => exact ⟨j + 1, r' - mlen y (j + 1), by omega, by go_num, rfl, by omega, by omega, Lib.hid (by rw [cumN, HRJ.out]; omega), Lib.hid (by rw [HM.out, show 12 - j = (12 - (j + 1)) + 1 by omega, mon_next hlt]; congr 1)⟩
              case measure => simp only [intOf]; omega
            · have t1 : decide (mlen y (j + 1) ≤ r') = false := by simp; omega
              have hm : mon y 12 R 1 = ((j : Int) + 1, r') := by rw [HM.out, show 12 - j = (11 - j) + 1 by omega, mon_stop (by omega)]
              have HMM := Lib.hid hm
              clear hm
              go_wp2_with (go_at_call 117; refine (rlength_any _ _ _ (by omega)).mono ?_; rintro e w' ⟨rfl, rfl⟩)
              refine bodyPost_ret (results_tmp4 rfl _ _ _) rfl ?_
              have hRR : R = d + 25567 - bgn y := HRe.out.trans HRR.out
              exact ⟨ret_four (by rw [ptY, HV.out, ← HY.out]; rfl) (by rw [ptM, HV.out, pM, ← HY.out, ← hRR, HMM.out]; rfl) (by rw [ptD, HV.out, pD, ← HY.out, ← hRR, HMM.out]; rfl) (by simp [dayE, HV.out]), rfl⟩

theorem rsameMonth_any (a b : Int) (w : World) : Calls Try.prog 78 #[.int .i64 a, .int .i64 b] w fun e w' => e = .returned (.bool (sameM b a)) ∧ w = w' := by
  by_cases hy : ptY a = ptY b
  · have t1 : (ptY a == ptY b) = true := by simp [hy]
    have HY := Lib.hid hy
    clear hy
    by_cases hm : ptM a = ptM b
    · have t2 : (ptM a == ptM b) = true := by simp [hm]
      have HM := Lib.hid hm
      clear hm
      go_enter Try.func78, Try.ntmps78
      go_wp2_with (go_at_call 108; refine (rParts_any _ _).mono ?_; rintro e w' ⟨rfl, rfl⟩)
      go_ret
      exact ⟨ret_bool (by rw [sameM, HY.out, HM.out]; simp), rfl⟩
    · have t2 : (ptM a == ptM b) = false := by simp [hm]
      have HM := Lib.hid hm
      clear hm
      go_enter Try.func78, Try.ntmps78
      go_wp2_with (go_at_call 108; refine (rParts_any _ _).mono ?_; rintro e w' ⟨rfl, rfl⟩)
      go_ret
      exact ⟨ret_bool (by rw [sameM, decide_eq_false (p := ptM b = ptM a) (fun h => HM.out h.symm)]; simp), rfl⟩
  · have t1 : (ptY a == ptY b) = false := by simp [hy]
    have HY := Lib.hid hy
    clear hy
    go_enter Try.func78, Try.ntmps78
    go_wp2_with (go_at_call 108; refine (rParts_any _ _).mono ?_; rintro e w' ⟨rfl, rfl⟩)
    go_ret
    exact ⟨ret_bool (by rw [sameM, decide_eq_false (fun h => HY.out h.symm)]; simp), rfl⟩
end Go.Proofs.Ytilbolgncpfmmaa
