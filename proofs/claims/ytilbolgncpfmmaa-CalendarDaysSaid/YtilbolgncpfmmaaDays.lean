/- The walk of the law CalendarDays, for this seat. -/
import Derived.Test.YtilbolgncpfmmaaFine
import Derived.Test.YtilbolgncpfmmaaRefDays
namespace Go.Proofs.Ytilbolgncpfmmaa
open Go.RowKit

set_option maxRecDepth 100000 in
set_option maxHeartbeats 4000000 in
theorem days_law (v0 v1 : Value) (we hs : List Int) (d c : Int) (w : World) (h0 : IntsAt w w.heap.size v0 we) (h1 : IntsAt w w.heap.size v1 hs) :
    Calls Try.prog 6 #[.agg #[v0, v1], .int .i64 d, .int .i64 c] w fun e w' => e = .returned (.bool true) ∧ Below w.heap.size w w' := by
  have H0 := Lib.hid h0
  have H1 := Lib.hid h1
  obtain ⟨A0, n0, rfl, l0, -⟩ := h0
  clear h1
  go_enter Try.func6, Try.ntmps6
  go_wp2_with fail
  refine (Great_any _ _ we hs _ (ints_alloc H0.out _) (ints_alloc H1.out _)).mono ?_
  rintro e w1 ⟨rfl, hw1⟩
  have sc1 : Sc w w1 (.slice A0 we.length n0) v1 := by rw [← hw1]; exact Sc.start.later ((Below.refl _ _).alloc (Nat.le_refl _) _)
  clear hw1
  obtain ⟨c0, c1, lt1, hb1⟩ := id sc1
  have HB := Lib.hid hb1
  have SC := Lib.hid sc1
  clear hb1 sc1
  cases hg : great we hs
  · by_cases h7 : we.length = 7
    · have t7 : ((we.length : Int) == 7) = true := by simp; omega
      have H7 := Lib.hid h7
      clear h7
      go_wp2_with fail
      refine (rCheck_any _ _ we hs _ (ints_later H0.out HB.out (Nat.le_refl _)) (ints_later H1.out HB.out (Nat.le_refl _))).mono ?_
      rintro e w2 ⟨rfl, hb2⟩
      have sc2 := SC.out.later hb2
      obtain ⟨c0, c1, lt2, hbb2⟩ := id sc2
      have HB2 := Lib.hid hbb2
      have SC2 := Lib.hid sc2
      clear hb2 sc2 hbb2
      by_cases hc : chk we hs = 0
      · have e1 : (chk we hs == 0) = true := by simp [hc]
        clear hc
        by_cases g1 : -25167 < d
        · by_cases g2 : d < 83605
          · go_wp2_with fail
            refine (awake_any _).mono ?_
            rintro e wz ⟨rfl, hbz⟩
            have HZ := Lib.hid (HB2.out.trans (hbz.mono HB2.out.size))
            clear hbz
            go_wp2
            go_ret
            exact ⟨rfl, HZ.out⟩
          · have g2' : decide (d < 83605) = false := by simp; omega
            go_wp2_with fail
            refine (Business_any _ _ we hs d _ (ints_later H0.out HB2.out (Nat.le_refl _)) (ints_later H1.out HB2.out (Nat.le_refl _))).mono ?_
            rintro e w10 ⟨rfl, hb10⟩
            have sc10 := SC2.out.later hb10
            obtain ⟨c0, c1, lt10, hbb10⟩ := id sc10
            have HB10 := Lib.hid hbb10
            have SC10 := Lib.hid sc10
            clear hb10 sc10 hbb10
            go_wp2_with fail
            refine (rBusiness_any _ _ we hs d _ (ints_later H0.out HB10.out (Nat.le_refl _)) (ints_later H1.out HB10.out (Nat.le_refl _))).mono ?_
            rintro e w11 ⟨rfl, hb11⟩
            have sc11 := SC10.out.later hb11
            obtain ⟨c0, c1, lt11, hbb11⟩ := id sc11
            have HB11 := Lib.hid hbb11
            have SC11 := Lib.hid sc11
            clear hb11 sc11 hbb11
            go_wp2_with fail
            refine (Next_any _ _ we hs d _ (ints_later H0.out HB11.out (Nat.le_refl _)) (ints_later H1.out HB11.out (Nat.le_refl _))).mono ?_
            rintro e w12 ⟨rfl, hb12⟩
            have sc12 := SC11.out.later hb12
            obtain ⟨c0, c1, lt12, hbb12⟩ := id sc12
            have HB12 := Lib.hid hbb12
            have SC12 := Lib.hid sc12
            clear hb12 sc12 hbb12
            go_wp2_with fail
            refine (rNext_any _ _ we hs d _ (ints_later H0.out HB12.out (Nat.le_refl _)) (ints_later H1.out HB12.out (Nat.le_refl _))).mono ?_
            rintro e w13 ⟨rfl, hb13⟩
            have sc13 := SC12.out.later hb13
            obtain ⟨c0, c1, lt13, hbb13⟩ := id sc13
            have HB13 := Lib.hid hbb13
            have SC13 := Lib.hid sc13
            clear hb13 sc13 hbb13
            go_wp2_with fail
            refine (Previous_any _ _ we hs d _ (ints_later H0.out HB13.out (Nat.le_refl _)) (ints_later H1.out HB13.out (Nat.le_refl _))).mono ?_
            rintro e w14 ⟨rfl, hb14⟩
            have sc14 := SC13.out.later hb14
            obtain ⟨c0, c1, lt14, hbb14⟩ := id sc14
            have HB14 := Lib.hid hbb14
            have SC14 := Lib.hid sc14
            clear hb14 sc14 hbb14
            go_wp2_with fail
            refine (rPrevious_any _ _ we hs d _ (ints_later H0.out HB14.out (Nat.le_refl _)) (ints_later H1.out HB14.out (Nat.le_refl _))).mono ?_
            rintro e w15 ⟨rfl, hb15⟩
            have sc15 := SC14.out.later hb15
            obtain ⟨c0, c1, lt15, hbb15⟩ := id sc15
            have HB15 := Lib.hid hbb15
            have SC15 := Lib.hid sc15
            clear hb15 sc15 hbb15
            go_wp2_with fail
            refine (Adjust_any _ _ we hs d c _ (ints_later H0.out HB15.out (Nat.le_refl _)) (ints_later H1.out HB15.out (Nat.le_refl _))).mono ?_
            rintro e w16 ⟨rfl, hb16⟩
            have sc16 := SC15.out.later hb16
            obtain ⟨c0, c1, lt16, hbb16⟩ := id sc16
            have HB16 := Lib.hid hbb16
            have SC16 := Lib.hid sc16
            clear hb16 sc16 hbb16
            go_wp2_with fail
            refine (rAdjust_any _ _ we hs d c _ (ints_later H0.out HB16.out (Nat.le_refl _)) (ints_later H1.out HB16.out (Nat.le_refl _))).mono ?_
            rintro e w17 ⟨rfl, hb17⟩
            have sc17 := SC16.out.later hb17
            obtain ⟨c0, c1, lt17, hbb17⟩ := id sc17
            have HB17 := Lib.hid hbb17
            have SC17 := Lib.hid sc17
            clear hb17 sc17 hbb17
            go_wp2_with fail
            refine (awake_any _).mono ?_
            rintro e wz ⟨rfl, hbz⟩
            have HZ := Lib.hid (HB17.out.trans (hbz.mono HB17.out.size))
            clear hbz
            go_wp2
            go_ret
            exact ⟨rfl, HZ.out⟩
        · have g1' : decide (-25167 < d) = false := by simp; omega
          go_wp2_with fail
          refine (Business_any _ _ we hs d _ (ints_later H0.out HB2.out (Nat.le_refl _)) (ints_later H1.out HB2.out (Nat.le_refl _))).mono ?_
          rintro e w10 ⟨rfl, hb10⟩
          have sc10 := SC2.out.later hb10
          obtain ⟨c0, c1, lt10, hbb10⟩ := id sc10
          have HB10 := Lib.hid hbb10
          have SC10 := Lib.hid sc10
          clear hb10 sc10 hbb10
          go_wp2_with fail
          refine (rBusiness_any _ _ we hs d _ (ints_later H0.out HB10.out (Nat.le_refl _)) (ints_later H1.out HB10.out (Nat.le_refl _))).mono ?_
          rintro e w11 ⟨rfl, hb11⟩
          have sc11 := SC10.out.later hb11
          obtain ⟨c0, c1, lt11, hbb11⟩ := id sc11
          have HB11 := Lib.hid hbb11
          have SC11 := Lib.hid sc11
          clear hb11 sc11 hbb11
          go_wp2_with fail
          refine (Next_any _ _ we hs d _ (ints_later H0.out HB11.out (Nat.le_refl _)) (ints_later H1.out HB11.out (Nat.le_refl _))).mono ?_
          rintro e w12 ⟨rfl, hb12⟩
          have sc12 := SC11.out.later hb12
          obtain ⟨c0, c1, lt12, hbb12⟩ := id sc12
          have HB12 := Lib.hid hbb12
          have SC12 := Lib.hid sc12
          clear hb12 sc12 hbb12
          go_wp2_with fail
          refine (rNext_any _ _ we hs d _ (ints_later H0.out HB12.out (Nat.le_refl _)) (ints_later H1.out HB12.out (Nat.le_refl _))).mono ?_
          rintro e w13 ⟨rfl, hb13⟩
          have sc13 := SC12.out.later hb13
          obtain ⟨c0, c1, lt13, hbb13⟩ := id sc13
          have HB13 := Lib.hid hbb13
          have SC13 := Lib.hid sc13
          clear hb13 sc13 hbb13
          go_wp2_with fail
          refine (Previous_any _ _ we hs d _ (ints_later H0.out HB13.out (Nat.le_refl _)) (ints_later H1.out HB13.out (Nat.le_refl _))).mono ?_
          rintro e w14 ⟨rfl, hb14⟩
          have sc14 := SC13.out.later hb14
          obtain ⟨c0, c1, lt14, hbb14⟩ := id sc14
          have HB14 := Lib.hid hbb14
          have SC14 := Lib.hid sc14
          clear hb14 sc14 hbb14
          go_wp2_with fail
          refine (rPrevious_any _ _ we hs d _ (ints_later H0.out HB14.out (Nat.le_refl _)) (ints_later H1.out HB14.out (Nat.le_refl _))).mono ?_
          rintro e w15 ⟨rfl, hb15⟩
          have sc15 := SC14.out.later hb15
          obtain ⟨c0, c1, lt15, hbb15⟩ := id sc15
          have HB15 := Lib.hid hbb15
          have SC15 := Lib.hid sc15
          clear hb15 sc15 hbb15
          go_wp2_with fail
          refine (Adjust_any _ _ we hs d c _ (ints_later H0.out HB15.out (Nat.le_refl _)) (ints_later H1.out HB15.out (Nat.le_refl _))).mono ?_
          rintro e w16 ⟨rfl, hb16⟩
          have sc16 := SC15.out.later hb16
          obtain ⟨c0, c1, lt16, hbb16⟩ := id sc16
          have HB16 := Lib.hid hbb16
          have SC16 := Lib.hid sc16
          clear hb16 sc16 hbb16
          go_wp2_with fail
          refine (rAdjust_any _ _ we hs d c _ (ints_later H0.out HB16.out (Nat.le_refl _)) (ints_later H1.out HB16.out (Nat.le_refl _))).mono ?_
          rintro e w17 ⟨rfl, hb17⟩
          have sc17 := SC16.out.later hb17
          obtain ⟨c0, c1, lt17, hbb17⟩ := id sc17
          have HB17 := Lib.hid hbb17
          have SC17 := Lib.hid sc17
          clear hb17 sc17 hbb17
          go_wp2_with fail
          refine (awake_any _).mono ?_
          rintro e wz ⟨rfl, hbz⟩
          have HZ := Lib.hid (HB17.out.trans (hbz.mono HB17.out.size))
          clear hbz
          go_wp2
          go_ret
          exact ⟨rfl, HZ.out⟩
      · have e1 : (chk we hs == 0) = false := by simp [hc]
        clear hc
        go_wp2_with fail
        refine (Business_any _ _ we hs d _ (ints_later H0.out HB2.out (Nat.le_refl _)) (ints_later H1.out HB2.out (Nat.le_refl _))).mono ?_
        rintro e w10 ⟨rfl, hb10⟩
        have sc10 := SC2.out.later hb10
        obtain ⟨c0, c1, lt10, hbb10⟩ := id sc10
        have HB10 := Lib.hid hbb10
        have SC10 := Lib.hid sc10
        clear hb10 sc10 hbb10
        go_wp2_with fail
        refine (rBusiness_any _ _ we hs d _ (ints_later H0.out HB10.out (Nat.le_refl _)) (ints_later H1.out HB10.out (Nat.le_refl _))).mono ?_
        rintro e w11 ⟨rfl, hb11⟩
        have sc11 := SC10.out.later hb11
        obtain ⟨c0, c1, lt11, hbb11⟩ := id sc11
        have HB11 := Lib.hid hbb11
        have SC11 := Lib.hid sc11
        clear hb11 sc11 hbb11
        go_wp2_with fail
        refine (Next_any _ _ we hs d _ (ints_later H0.out HB11.out (Nat.le_refl _)) (ints_later H1.out HB11.out (Nat.le_refl _))).mono ?_
        rintro e w12 ⟨rfl, hb12⟩
        have sc12 := SC11.out.later hb12
        obtain ⟨c0, c1, lt12, hbb12⟩ := id sc12
        have HB12 := Lib.hid hbb12
        have SC12 := Lib.hid sc12
        clear hb12 sc12 hbb12
        go_wp2_with fail
        refine (rNext_any _ _ we hs d _ (ints_later H0.out HB12.out (Nat.le_refl _)) (ints_later H1.out HB12.out (Nat.le_refl _))).mono ?_
        rintro e w13 ⟨rfl, hb13⟩
        have sc13 := SC12.out.later hb13
        obtain ⟨c0, c1, lt13, hbb13⟩ := id sc13
        have HB13 := Lib.hid hbb13
        have SC13 := Lib.hid sc13
        clear hb13 sc13 hbb13
        go_wp2_with fail
        refine (Previous_any _ _ we hs d _ (ints_later H0.out HB13.out (Nat.le_refl _)) (ints_later H1.out HB13.out (Nat.le_refl _))).mono ?_
        rintro e w14 ⟨rfl, hb14⟩
        have sc14 := SC13.out.later hb14
        obtain ⟨c0, c1, lt14, hbb14⟩ := id sc14
        have HB14 := Lib.hid hbb14
        have SC14 := Lib.hid sc14
        clear hb14 sc14 hbb14
        go_wp2_with fail
        refine (rPrevious_any _ _ we hs d _ (ints_later H0.out HB14.out (Nat.le_refl _)) (ints_later H1.out HB14.out (Nat.le_refl _))).mono ?_
        rintro e w15 ⟨rfl, hb15⟩
        have sc15 := SC14.out.later hb15
        obtain ⟨c0, c1, lt15, hbb15⟩ := id sc15
        have HB15 := Lib.hid hbb15
        have SC15 := Lib.hid sc15
        clear hb15 sc15 hbb15
        go_wp2_with fail
        refine (Adjust_any _ _ we hs d c _ (ints_later H0.out HB15.out (Nat.le_refl _)) (ints_later H1.out HB15.out (Nat.le_refl _))).mono ?_
        rintro e w16 ⟨rfl, hb16⟩
        have sc16 := SC15.out.later hb16
        obtain ⟨c0, c1, lt16, hbb16⟩ := id sc16
        have HB16 := Lib.hid hbb16
        have SC16 := Lib.hid sc16
        clear hb16 sc16 hbb16
        go_wp2_with fail
        refine (rAdjust_any _ _ we hs d c _ (ints_later H0.out HB16.out (Nat.le_refl _)) (ints_later H1.out HB16.out (Nat.le_refl _))).mono ?_
        rintro e w17 ⟨rfl, hb17⟩
        have sc17 := SC16.out.later hb17
        obtain ⟨c0, c1, lt17, hbb17⟩ := id sc17
        have HB17 := Lib.hid hbb17
        have SC17 := Lib.hid sc17
        clear hb17 sc17 hbb17
        go_wp2_with fail
        refine (awake_any _).mono ?_
        rintro e wz ⟨rfl, hbz⟩
        have HZ := Lib.hid (HB17.out.trans (hbz.mono HB17.out.size))
        clear hbz
        go_wp2
        go_ret
        exact ⟨rfl, HZ.out⟩
    · have t7 : ((we.length : Int) == 7) = false := by simp; omega
      clear h7
      go_wp2_with fail
      refine (Business_any _ _ we hs d _ (ints_later H0.out HB.out (Nat.le_refl _)) (ints_later H1.out HB.out (Nat.le_refl _))).mono ?_
      rintro e w10 ⟨rfl, hb10⟩
      have sc10 := SC.out.later hb10
      obtain ⟨c0, c1, lt10, hbb10⟩ := id sc10
      have HB10 := Lib.hid hbb10
      have SC10 := Lib.hid sc10
      clear hb10 sc10 hbb10
      go_wp2_with fail
      refine (rBusiness_any _ _ we hs d _ (ints_later H0.out HB10.out (Nat.le_refl _)) (ints_later H1.out HB10.out (Nat.le_refl _))).mono ?_
      rintro e w11 ⟨rfl, hb11⟩
      have sc11 := SC10.out.later hb11
      obtain ⟨c0, c1, lt11, hbb11⟩ := id sc11
      have HB11 := Lib.hid hbb11
      have SC11 := Lib.hid sc11
      clear hb11 sc11 hbb11
      go_wp2_with fail
      refine (Next_any _ _ we hs d _ (ints_later H0.out HB11.out (Nat.le_refl _)) (ints_later H1.out HB11.out (Nat.le_refl _))).mono ?_
      rintro e w12 ⟨rfl, hb12⟩
      have sc12 := SC11.out.later hb12
      obtain ⟨c0, c1, lt12, hbb12⟩ := id sc12
      have HB12 := Lib.hid hbb12
      have SC12 := Lib.hid sc12
      clear hb12 sc12 hbb12
      go_wp2_with fail
      refine (rNext_any _ _ we hs d _ (ints_later H0.out HB12.out (Nat.le_refl _)) (ints_later H1.out HB12.out (Nat.le_refl _))).mono ?_
      rintro e w13 ⟨rfl, hb13⟩
      have sc13 := SC12.out.later hb13
      obtain ⟨c0, c1, lt13, hbb13⟩ := id sc13
      have HB13 := Lib.hid hbb13
      have SC13 := Lib.hid sc13
      clear hb13 sc13 hbb13
      go_wp2_with fail
      refine (Previous_any _ _ we hs d _ (ints_later H0.out HB13.out (Nat.le_refl _)) (ints_later H1.out HB13.out (Nat.le_refl _))).mono ?_
      rintro e w14 ⟨rfl, hb14⟩
      have sc14 := SC13.out.later hb14
      obtain ⟨c0, c1, lt14, hbb14⟩ := id sc14
      have HB14 := Lib.hid hbb14
      have SC14 := Lib.hid sc14
      clear hb14 sc14 hbb14
      go_wp2_with fail
      refine (rPrevious_any _ _ we hs d _ (ints_later H0.out HB14.out (Nat.le_refl _)) (ints_later H1.out HB14.out (Nat.le_refl _))).mono ?_
      rintro e w15 ⟨rfl, hb15⟩
      have sc15 := SC14.out.later hb15
      obtain ⟨c0, c1, lt15, hbb15⟩ := id sc15
      have HB15 := Lib.hid hbb15
      have SC15 := Lib.hid sc15
      clear hb15 sc15 hbb15
      go_wp2_with fail
      refine (Adjust_any _ _ we hs d c _ (ints_later H0.out HB15.out (Nat.le_refl _)) (ints_later H1.out HB15.out (Nat.le_refl _))).mono ?_
      rintro e w16 ⟨rfl, hb16⟩
      have sc16 := SC15.out.later hb16
      obtain ⟨c0, c1, lt16, hbb16⟩ := id sc16
      have HB16 := Lib.hid hbb16
      have SC16 := Lib.hid sc16
      clear hb16 sc16 hbb16
      go_wp2_with fail
      refine (rAdjust_any _ _ we hs d c _ (ints_later H0.out HB16.out (Nat.le_refl _)) (ints_later H1.out HB16.out (Nat.le_refl _))).mono ?_
      rintro e w17 ⟨rfl, hb17⟩
      have sc17 := SC16.out.later hb17
      obtain ⟨c0, c1, lt17, hbb17⟩ := id sc17
      have HB17 := Lib.hid hbb17
      have SC17 := Lib.hid sc17
      clear hb17 sc17 hbb17
      go_wp2_with fail
      refine (awake_any _).mono ?_
      rintro e wz ⟨rfl, hbz⟩
      have HZ := Lib.hid (HB17.out.trans (hbz.mono HB17.out.size))
      clear hbz
      go_wp2
      go_ret
      exact ⟨rfl, HZ.out⟩
  · go_wp2_with fail
    refine (awake_any _).mono ?_
    rintro e wz ⟨rfl, hbz⟩
    have HZ := Lib.hid (HB.out.trans (hbz.mono HB.out.size))
    clear hbz
    go_wp2
    go_ret
    exact ⟨rfl, HZ.out⟩
end Go.Proofs.Ytilbolgncpfmmaa
