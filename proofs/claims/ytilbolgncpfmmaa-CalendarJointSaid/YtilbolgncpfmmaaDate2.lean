/- The walks of Parts and sameMonth, for this seat. -/
import Derived.Test.YtilbolgncpfmmaaDate
namespace Go.Proofs.Ytilbolgncpfmmaa
open Go.RowKit

theorem results_tmp4 {fn : Func} {t u v x : Tmp} (h : fn.results = #[.tmp t, .tmp u, .tmp v, .tmp x]) (tmps : Array Value) (P : Program) (w : World) :
    (results fn tmps).run P w = .ok (.tuple #[tmps.getD t undef, tmps.getD u undef, tmps.getD v undef, tmps.getD x undef]) w := by simp [results, h]
theorem ret_four {k : IntKind} {a b c d a' b' c' d' : Int} (h1 : a = a') (h2 : b = b') (h3 : c = c') (h4 : d = d') : Ending.returned (.tuple #[.int k a, .int k b, .int k c, .int k d]) = .returned (.tuple #[.int k a', .int k b', .int k c', .int k d']) := by rw [h1, h2, h3, h4]

def ptY (d : Int) : Int := if vB d then pY d else 0
def ptM (d : Int) : Int := if vB d then pM d else 0
def ptD (d : Int) : Int := if vB d then pD d else 0

set_option maxHeartbeats 1000000 in
theorem Parts_any (d : Int) (w : World) : Calls Try.prog 37 #[.int .i64 d] w fun e w' => e = .returned (.tuple #[.int .i64 (ptY d), .int .i64 (ptM d), .int .i64 (ptD d), .int .i64 (dayE d)]) ∧ Below w.heap.size w w' := by
  cases hv : vB d
  · go_enter Try.func37, Try.ntmps37
    go_wp2_with (go_at_call 79; refine (dvalid_any _ _).mono ?_; rintro e w' ⟨rfl, rfl⟩)
    refine bodyPost_ret (results_tmp4 rfl _ _ _) rfl ?_
    exact ⟨ret_four (by simp [ptY, hv]) (by simp [ptM, hv]) (by simp [ptD, hv]) (by simp [dayE, hv]), Below.refl _ _⟩
  · obtain ⟨d1, d2⟩ := vB_iff.1 hv
    obtain ⟨y1, y2, y3, y4⟩ := yOf_spec (n := d + 25567) (by omega) (by omega)
    have HV := Lib.hid hv
    go_enter Try.func37, Try.ntmps37
    go_wp2_with (go_at_call 79; refine (dvalid_any _ _).mono ?_; rintro e w' ⟨rfl, rfl⟩)
    go_loop [7] (fun t => ∃ y : Int, t = .int .i64 y ∧ 1900 ≤ y ∧ y ≤ 2199 ∧ bgn y ≤ d + 25567) (fun t => (2199 - intOf t).toNat)
    case atStart => exact ⟨_, by go_num, by omega, by omega, by unfold bgn; omega⟩
    case round =>
      obtain ⟨y, rfl, a1, a2, a3⟩ := hrel
      by_cases hc : bgn (y + 1) ≤ d + 25567
      · have hy : y < 2199 := by
          rcases (show y < 2199 ∨ y = 2199 by omega) with h | h
          · exact h
          · subst h; rw [show (2199 : Int) + 1 = 2200 from rfl, bgn_2200] at hc; omega
        go_wp2_with (go_at_call 80; refine (begin_any _ _ (by omega) (by omega)).mono ?_; rintro e w' ⟨rfl, rfl⟩)
        go_round
        case rel => exact ⟨y + 1, rfl, by omega, by omega, hc⟩
        case measure => simp only [intOf]; omega
      · have hyy : y = yOf (d + 25567) := year_unique a3 (by omega) y3 y4
        have HY := Lib.hid (show y = pY d from hyy)
        have hb := bgn_bd a1 (show y ≤ 2201 by omega)
        have hs := bgn_succ y
        have hls := lpI_bd y
        clear hyy
        go_wp2_with (go_at_call 80; refine (begin_any _ _ (by omega) (by omega)).mono ?_; rintro e w' ⟨rfl, rfl⟩)
        obtain ⟨R, hR⟩ : ∃ R, R = d + 25567 - bgn y := ⟨_, rfl⟩
        have hR0 : 0 ≤ R := by omega
        have hR1 : R < 365 + lpI y := by omega
        have hR2 : bgn y + R = d + 25567 := by omega
        have HR := Lib.hid hR
        rw [← hR]
        clear hR
        go_loopw [6, 8] (fun n k wr => ∃ (j : Nat) (r : Int), j ≤ 11 ∧ k = .int .i64 (j + 1) ∧ n = .int .i64 r ∧ 0 ≤ r ∧ Hid (r = R - cumN y j) ∧ Hid (mon y 12 R 1 = mon y (12 - j) r (j + 1)) ∧ Below w.heap.size w wr) (fun _ k _ => (13 - intOf k).toNat)
        case atStart => exact ⟨0, R, by omega, rfl, rfl, hR0, Lib.hid (by simp [cumN]), Lib.hid rfl, Below.refl _ _⟩
        case round =>
          obtain ⟨j, r, hj, rfl, rfl, hr, HRJ, HM, hbw⟩ := hrel
          have hl2 := mlen_bd y (j + 1)
          have hc := cumN_bd y j
          have hrb : r ≤ 366 := by have := HRJ.out; omega
          have HBW := Lib.hid hbw
          clear hbw
          by_cases hlt : mlen y (j + 1) ≤ r
          · have hj11 : j < 11 := by
              rcases (show j < 11 ∨ j = 11 by omega) with h | h
              · exact h
              · subst h
                have h12 := mlen_sum y
                rw [cumN] at h12
                have := HRJ.out
                simp at hlt h12; omega
            go_wp2_with fail
            refine (length_any _ _ _ (by omega) (by omega) (by omega)).mono ?_
            rintro e w2 ⟨rfl, hb2⟩
            have HB2 := Lib.hid (HBW.out.trans (hb2.mono HBW.out.size))
            clear hb2
            go_wp2_with fail
            refine (length_any _ _ _ (by omega) (by omega) (by omega)).mono ?_
            rintro e w3 ⟨rfl, hb3⟩
            have HB3 := Lib.hid (HB2.out.trans (hb3.mono HB2.out.size))
            clear hb3
            go_wp2
            go_roundw
            case rel => exact ⟨j + 1, r - mlen y (j + 1), by omega, by go_num, rfl, by omega, Lib.hid (by rw [cumN, HRJ.out]; omega), Lib.hid (by rw [HM.out, show 12 - j = (12 - (j + 1)) + 1 by omega, mon_next hlt]; congr 1), HB3.out⟩
            case measure => simp only [intOf]; omega
          · have t1 : decide (mlen y (j + 1) ≤ r) = false := by simp; omega
            go_wp2_with fail
            refine (length_any _ _ _ (by omega) (by omega) (by omega)).mono ?_
            rintro e w2 ⟨rfl, hb2⟩
            have HB2 := Lib.hid (HBW.out.trans (hb2.mono HBW.out.size))
            clear hb2
            have hm : mon y 12 R 1 = ((j : Int) + 1, r) := by rw [HM.out, show 12 - j = (11 - j) + 1 by omega, mon_stop (by omega)]
            have HMM := Lib.hid hm
            clear hm
            go_wp2
            refine bodyPost_ret (results_tmp4 rfl _ _ _) rfl ?_
            exact ⟨ret_four (by rw [ptY, HV.out, ← HY.out]; rfl) (by rw [ptM, HV.out, pM, ← HY.out, ← HR.out, HMM.out]; rfl) (by rw [ptD, HV.out, pD, ← HY.out, ← HR.out, HMM.out]; rfl) (by simp [dayE, HV.out]), HB2.out⟩

/-- two days of one month -/
def sameM (a b : Int) : Bool := decide (ptY a = ptY b) && decide (ptM a = ptM b)
theorem sameMonth_any (a b : Int) (w : World) : Calls Try.prog 77 #[.int .i64 a, .int .i64 b] w fun e w' => e = .returned (.bool (sameM a b)) ∧ Below w.heap.size w w' := by
  go_enter Try.func77, Try.ntmps77
  go_wp2_with fail
  refine (Parts_any a _).mono ?_
  rintro e w2 ⟨rfl, hb2⟩
  have HB2 := Lib.hid hb2
  clear hb2
  go_wp2_with fail
  refine (Parts_any b _).mono ?_
  rintro e w3 ⟨rfl, hb3⟩
  have HB3 := Lib.hid (HB2.out.trans (hb3.mono HB2.out.size))
  clear hb3
  go_wp2
  all_goals
    go_ret
    exact ⟨ret_bool (by rw [Bool.eq_iff_iff]; simp_all [sameM]), HB3.out⟩
end Go.Proofs.Ytilbolgncpfmmaa
