/- The walk of the law CalendarCounts, for this seat. -/
import Derived.Test.YtilbolgncpfmmaaFine
namespace Go.Proofs.Ytilbolgncpfmmaa
open Go.RowKit

theorem chkD_ok1 {we hs : List Int} {x : Int} (hc : chk we hs = 0) (hx : vB x = true) : chkD we hs [x] = 0 := by rw [chkD, if_pos hc]; simp [hx]
theorem chkD_ok2 {we hs : List Int} {x y : Int} (hc : chk we hs = 0) (hx : vB x = true) (hy : vB y = true) : chkD we hs [x, y] = 0 := by rw [chkD, if_pos hc]; simp [hx, hy]
theorem cnt_ok {we hs : List Int} {x y : Int} (hc : chk we hs = 0) (hx : vB x = true) (hy : vB y = true) (h : x ≤ y) : cntE we hs x y = 0 ∧ cntV we hs x y = cnt (isB we hs) (y - x).toNat x := by
  have h1 : cntE we hs x y = 0 := by rw [cntE, if_pos (chkD_ok2 hc hx hy), if_neg (by omega)]
  exact ⟨h1, by rw [cntV, if_pos h1]⟩

set_option maxRecDepth 100000 in
set_option maxHeartbeats 4000000 in
theorem counts_any (v0 v1 : Value) (we hs : List Int) (d a b : Int) (w : World) (h0 : IntsAt w w.heap.size v0 we) (h1 : IntsAt w w.heap.size v1 hs) (ha : 0 ≤ a) (ha' : a ≤ 255) (hb : 0 ≤ b) (hb' : b ≤ 255) :
    Calls Try.prog 5 #[.agg #[v0, v1], .int .i64 d, .int .u8 a, .int .u8 b] w fun e w' => e = .returned (.bool true) ∧ Below w.heap.size w w' := by
  have H0 := Lib.hid h0
  have H1 := Lib.hid h1
  obtain ⟨A1, n1, rfl, l1, -⟩ := h1
  clear h0
  go_enter Try.func5, Try.ntmps5
  go_wp2_with fail
  refine (fine_any _ _ we hs d _ (ints_alloc H0.out _) (ints_alloc H1.out _)).mono ?_
  rintro e w1 ⟨rfl, hw1⟩
  have sc1 : Sc w w1 v0 (.slice A1 hs.length n1) := Sc.start.later hw1
  clear hw1
  obtain ⟨c0, c1, lt1, hb1⟩ := id sc1
  have HB := Lib.hid hb1
  have SC := Lib.hid sc1
  clear hb1 sc1
  cases hf : fineB we hs d
  · go_wp2_with fail
    refine (awake_any _).mono ?_
    rintro e wz ⟨rfl, hbz⟩
    have HZ := Lib.hid (HB.out.trans (hbz.mono HB.out.size))
    clear hbz
    go_wp2
    go_ret
    exact ⟨rfl, HZ.out⟩
  · by_cases h20 : 20 < hs.length
    · go_wp2_with fail
      refine (awake_any _).mono ?_
      rintro e wz ⟨rfl, hbz⟩
      have HZ := Lib.hid (HB.out.trans (hbz.mono HB.out.size))
      clear hbz
      go_wp2
      go_ret
      exact ⟨rfl, HZ.out⟩
    · obtain ⟨-, hck, -, d1, d2⟩ := fineB_iff.1 hf
      have HK := Lib.hid hck
      clear hck
      obtain ⟨p, hp⟩ : ∃ p : Nat, a % 100 = p := ⟨(a % 100).toNat, by omega⟩
      obtain ⟨q, hq⟩ : ∃ q : Nat, b % 100 = q := ⟨(b % 100).toNat, by omega⟩
      have hp' : p < 100 := by omega
      have hq' : q < 100 := by omega
      have v1' : vB d = true := vB_iff.2 ⟨by omega, by omega⟩
      have v2' : vB (d + p) = true := vB_iff.2 ⟨by omega, by omega⟩
      have v3' : vB (d + p + q) = true := vB_iff.2 ⟨by omega, by omega⟩
      obtain ⟨x1, x2⟩ := cnt_ok HK.out v1' v2' (by omega)
      obtain ⟨y1, y2⟩ := cnt_ok HK.out v2' v3' (by omega)
      obtain ⟨z1, z2⟩ := cnt_ok HK.out v1' v3' (by omega)
      rw [show (d + p - d).toNat = p by omega] at x2
      rw [show (d + p + q - (d + p)).toNat = q by omega] at y2
      rw [show (d + p + q - d).toNat = p + q by omega] at z2
      have HX1 := Lib.hid x1
      have HX2 := Lib.hid x2
      have HY1 := Lib.hid y1
      have HY2 := Lib.hid y2
      have HZ1 := Lib.hid z1
      have HZ2 := Lib.hid z2
      have HV1 := Lib.hid v1'
      have HV3 := Lib.hid v3'
      clear x1 x2 y1 y2 z1 z2 v1' v2' v3'
      go_wp2_with fail
      clear hp hq
      refine (Count_any _ _ we hs d (d + p) _ (ints_later H0.out HB.out (Nat.le_refl _)) (ints_later H1.out HB.out (Nat.le_refl _))).mono ?_
      rintro e w2 ⟨rfl, hb2⟩
      have sc2 := SC.out.later hb2
      obtain ⟨c0, c1, lt2, hbb2⟩ := id sc2
      have HB2 := Lib.hid hbb2
      have SC2 := Lib.hid sc2
      clear hb2 sc2 hbb2
      rw [HX1.out, HX2.out]
      go_wp2_with fail
      refine (Count_any _ _ we hs (d + p) (d + p + q) _ (ints_later H0.out HB2.out (Nat.le_refl _)) (ints_later H1.out HB2.out (Nat.le_refl _))).mono ?_
      rintro e w3 ⟨rfl, hb3⟩
      have sc3 := SC2.out.later hb3
      obtain ⟨c0, c1, lt3, hbb3⟩ := id sc3
      have HB3 := Lib.hid hbb3
      have SC3 := Lib.hid sc3
      clear hb3 sc3 hbb3
      rw [HY1.out, HY2.out]
      go_wp2_with fail
      refine (Count_any _ _ we hs d (d + p + q) _ (ints_later H0.out HB3.out (Nat.le_refl _)) (ints_later H1.out HB3.out (Nat.le_refl _))).mono ?_
      rintro e w4 ⟨rfl, hb4⟩
      have sc4 := SC3.out.later hb4
      obtain ⟨c0, c1, lt4, hbb4⟩ := id sc4
      have HB4 := Lib.hid hbb4
      have SC4 := Lib.hid sc4
      clear hb4 sc4 hbb4
      rw [HZ1.out, HZ2.out]
      have ct1 := cnt_le (isB we hs) p d
      have ct2 := cnt_le (isB we hs) q (d + p)
      have ct3 := cnt_le (isB we hs) (p + q) d
      have CA := Lib.hid (cnt_add (isB we hs) p q d)
      go_wp2
      go_loopw [17, 18] (fun n i wr => ∃ k : Nat, k ≤ p + q ∧ i = .int .i64 (d + k) ∧ n = .int .i64 (cnt (isB we hs) k d : Int) ∧ Below w4.heap.size w4 wr) (fun _ i _ => (d + p + q - intOf i).toNat)
      case atStart => exact ⟨0, by omega, by simp, by simp [cnt], Below.refl _ _⟩
      case round =>
        obtain ⟨k, hk, rfl, rfl, hbr⟩ := hrel
        have scr := SC4.out.later hbr
        obtain ⟨e0, e1, ltr, hbbr⟩ := id scr
        have HBR := Lib.hid hbbr
        have HBR' := Lib.hid hbr
        have SCR := Lib.hid scr
        clear hbr scr hbbr c0 c1
        have hcl := cnt_le (isB we hs) k d
        by_cases hlt : k < p + q
        · have hv : vB (d + k) = true := vB_iff.2 ⟨by omega, by omega⟩
          have HC1 := Lib.hid (chkD_ok1 HK.out hv)
          clear hv
          cases hp : isB we hs (d + k)
          all_goals
            have HP := Lib.hid (show bizV we hs (d + k) = _ from by rw [bizV, if_pos HC1.out, hp])
            clear hp
            go_wp2_with fail
            refine (Business_any _ _ we hs (d + k) _ (ints_later H0.out HBR.out (Nat.le_refl _)) (ints_later H1.out HBR.out (Nat.le_refl _))).mono ?_
            rintro e w5 ⟨rfl, hb5⟩
            have HB5 := Lib.hid (HBR'.out.trans (hb5.mono HBR'.out.size))
            clear hb5
            rw [HC1.out, HP.out]
            go_wp2
            go_roundw
            case rel => exact ⟨k + 1, by omega, by congr 1; omega, by have := HP.out; rw [bizV, if_pos HC1.out] at this; rw [cnt, this]; rfl, HB5.out⟩
            case measure => simp only [intOf]; omega
        · obtain rfl : k = p + q := by omega
          have t1 : ((cnt (isB we hs) p d : Int) + (cnt (isB we hs) q (d + p) : Int) == (cnt (isB we hs) (p + q) d : Int)) = true := by rw [CA.out]; simp
          go_wp2_with fail
          refine (awake_any _).mono ?_
          rintro e wz ⟨rfl, hbz⟩
          have HZ := Lib.hid (HBR.out.trans (hbz.mono HBR.out.size))
          clear hbz
          go_wp2
          go_ret
          exact ⟨rfl, HZ.out⟩
end Go.Proofs.Ytilbolgncpfmmaa
