/- The walk of the law CalendarNearest, for this seat. -/
import Derived.Test.YtilbolgncpfmmaaAdds
namespace Go.Proofs.Ytilbolgncpfmmaa
open Go.RowKit

structure NearFacts (we hs : List Int) (d a b : Int) : Prop where
  av : nextV we hs 1 d = a
  ae : nextE we hs 1 d = 0
  bv : nextV we hs (-1) d = b
  be : nextE we hs (-1) d = 0
  a1 : d ≤ a
  a2 : a < d + 147
  b1 : b ≤ d
  b2 : d - 147 < b
  iv : bizV we hs d = isB we hs d
  ie : chkD we hs [d] = 0
  ia : isB we hs d = decide (a = d)
  ib : isB we hs d = decide (b = d)
  each : ∀ x, b ≤ x → x ≤ a → chkD we hs [x] = 0 ∧ bizV we hs x = (decide (x = a) || decide (x = b))

theorem near_facts {we hs : List Int} {d : Int} (hc : chk we hs = 0) (hw : we.length < 7) (hh : hs.length ≤ 20) (d1 : -24567 ≤ d) (d2 : d ≤ 83005) : ∃ a b, NearFacts we hs d a b := by
  have hd := dense_isB hw hh
  obtain ⟨a, p1, p2, p3, p4, p5⟩ := next_near hd (d := d) (by omega) d2
  obtain ⟨b, q1, q2, q3, q4, q5⟩ := prev_near hd (d := d) d1 (by omega)
  have hcd := chkD_ok1 hc (vB_of (show -25567 ≤ d by omega) (by omega))
  have ea : isB we hs d = decide (a = d) := by
    by_cases h : a = d
    · rw [← h, p4]; simp
    · rw [p5 d (by omega) (by omega)]; simp [h]
  have eb : isB we hs d = decide (b = d) := by
    by_cases h : b = d
    · rw [← h, q4]; simp
    · rw [q5 d (by omega) (by omega)]; simp [h]
  refine ⟨a, b, ⟨?_, ?_, ?_, ?_, p2, p3, q2, q3, ?_, hcd, ea, eb, fun x h1 h2 => ?_⟩⟩
  · rw [nextV, if_pos hcd, firstO, p1]; rfl
  · rw [nextE, if_pos hcd, firstO, p1]; rfl
  · rw [nextV, if_pos hcd, firstO, q1]; rfl
  · rw [nextE, if_pos hcd, firstO, q1]; rfl
  · rw [bizV, if_pos hcd]
  · have hcx := chkD_ok1 hc (vB_of (show -25567 ≤ x by omega) (show x ≤ 84005 by omega))
    refine ⟨hcx, ?_⟩
    rw [bizV, if_pos hcx]
    by_cases e1 : x = a
    · rw [e1, p4]; simp
    · by_cases e2 : x = b
      · rw [e2, q4]; simp
      · have : isB we hs x = false := by
          rcases Int.lt_or_le x d with h | h
          · exact q5 x (by omega) (by omega)
          · exact p5 x h (by omega)
        rw [this]; simp [e1, e2]

set_option maxRecDepth 100000 in
set_option maxHeartbeats 1000000 in
theorem nearest_any (v0 v1 : Value) (we hs : List Int) (d : Int) (w : World) (h0 : IntsAt w w.heap.size v0 we) (h1 : IntsAt w w.heap.size v1 hs) :
    Calls Try.prog 7 #[.agg #[v0, v1], .int .i64 d] w fun e w' => e = .returned (.bool true) ∧ Below w.heap.size w w' := by
  have H0 := Lib.hid h0
  have H1 := Lib.hid h1
  obtain ⟨A1, n1, rfl, l1, -⟩ := h1
  clear h0
  go_enter Try.func7, Try.ntmps7
  go_wp2_with fail
  refine (fine_any _ _ we hs d _ (ints_alloc H0.out _) (ints_alloc H1.out _)).mono ?_
  rintro e w1 ⟨rfl, hw1⟩
  have sc1 : Sc w w1 v0 (.slice A1 hs.length n1) := Sc.start.later hw1
  clear hw1
  obtain ⟨c0, c1, lt1, hb1⟩ := id sc1
  have HB := Lib.hid hb1
  have SC := Lib.hid sc1
  clear hb1 sc1
  cases hf : fineB we hs d
  · go_wp2_with fail
    refine (awake_any _).mono ?_
    rintro e wz ⟨rfl, hbz⟩
    have HZ := Lib.hid (HB.out.trans (hbz.mono HB.out.size))
    clear hbz
    go_wp2
    go_ret
    exact ⟨rfl, HZ.out⟩
  · by_cases h20 : 20 < hs.length
    · go_wp2_with fail
      refine (awake_any _).mono ?_
      rintro e wz ⟨rfl, hbz⟩
      have HZ := Lib.hid (HB.out.trans (hbz.mono HB.out.size))
      clear hbz
      go_wp2
      go_ret
      exact ⟨rfl, HZ.out⟩
    · obtain ⟨-, hck, hw7, d1, d2⟩ := fineB_iff.1 hf
      obtain ⟨a, b, NF⟩ := near_facts hck hw7 (by omega) d1 d2
      have HNF := Lib.hid NF
      have a1 := NF.a1
      have a2 := NF.a2
      have b1 := NF.b1
      have b2 := NF.b2
      clear NF hck
      go_wp2_with fail
      refine (Next_any _ _ we hs d _ (ints_later H0.out HB.out (Nat.le_refl _)) (ints_later H1.out HB.out (Nat.le_refl _))).mono ?_
      rintro e w2 ⟨rfl, hb2⟩
      have sc2 := SC.out.later hb2
      obtain ⟨c0, c1, lt2, hbb2⟩ := id sc2
      have HB2 := Lib.hid hbb2
      have SC2 := Lib.hid sc2
      clear hb2 sc2 hbb2
      rw [HNF.out.av, HNF.out.ae]
      go_wp2_with fail
      refine (Previous_any _ _ we hs d _ (ints_later H0.out HB2.out (Nat.le_refl _)) (ints_later H1.out HB2.out (Nat.le_refl _))).mono ?_
      rintro e w3 ⟨rfl, hb3⟩
      have sc3 := SC2.out.later hb3
      obtain ⟨c0, c1, lt3, hbb3⟩ := id sc3
      have HB3 := Lib.hid hbb3
      have SC3 := Lib.hid sc3
      clear hb3 sc3 hbb3
      rw [HNF.out.bv, HNF.out.be]
      go_wp2_with fail
      refine (Business_any _ _ we hs d _ (ints_later H0.out HB3.out (Nat.le_refl _)) (ints_later H1.out HB3.out (Nat.le_refl _))).mono ?_
      rintro e w4 ⟨rfl, hb4⟩
      have sc4 := SC3.out.later hb4
      obtain ⟨c0, c1, lt4, hbb4⟩ := id sc4
      have HB4 := Lib.hid hbb4
      have SC4 := Lib.hid sc4
      clear hb4 sc4 hbb4
      rw [HNF.out.iv, HNF.out.ie]
      cases hi : isB we hs d
      all_goals
        have u1 := HNF.out.ia
        have u2 := HNF.out.ib
        rw [hi] at u1 u2
        have t1 : (a == d) = decide (a = d) := rfl
        have t2 : (b == d) = decide (b = d) := rfl
        rw [← u1] at t1
        rw [← u2] at t2
        clear u1 u2 hi
        go_wp2
        go_loopw [11] (fun i wr => ∃ x : Int, b ≤ x ∧ x ≤ a + 1 ∧ i = .int .i64 x ∧ Below w4.heap.size w4 wr) (fun i _ => (a + 1 - intOf i).toNat)
        case atStart => exact ⟨b, by omega, by omega, rfl, Below.refl _ _⟩
        case round =>
          obtain ⟨x, hx1, hx2, rfl, hbr⟩ := hrel
          have scr := SC4.out.later hbr
          obtain ⟨e0, e1, ltr, hbbr⟩ := id scr
          have HBR := Lib.hid hbbr
          have HBR' := Lib.hid hbr
          clear hbr scr hbbr c0 c1
          by_cases hlt : x ≤ a
          · obtain ⟨z1, z2⟩ := HNF.out.each x hx1 hlt
            have Z1 := Lib.hid z1
            have Z2 := Lib.hid z2
            clear z1 z2
            go_wp2_with fail
            refine (Business_any _ _ we hs x _ (ints_later H0.out HBR.out (Nat.le_refl _)) (ints_later H1.out HBR.out (Nat.le_refl _))).mono ?_
            rintro e w6 ⟨rfl, hb6⟩
            have HB6 := Lib.hid (HBR'.out.trans (hb6.mono HBR'.out.size))
            clear hb6
            rw [Z1.out, Z2.out]
            by_cases ea : x = a
            · have g1 : (x == a) = true := by simp [ea]
              have g2 : decide (x = a) = true := by simp [ea]
              rw [g2]
              clear ea g2
              go_wp2
              go_roundw
              case rel => exact ⟨x + 1, by omega, by omega, rfl, HB6.out⟩
              case measure => simp only [intOf]; omega
            · have g1 : (x == a) = false := by simp [ea]
              have g2 : decide (x = a) = false := by simp [ea]
              rw [g2]
              clear ea g2
              by_cases eb : x = b
              · have g3 : (x == b) = true := by simp [eb]
                have g4 : decide (x = b) = true := by simp [eb]
                rw [g4]
                clear eb g4
                go_wp2
                go_roundw
                case rel => exact ⟨x + 1, by omega, by omega, rfl, HB6.out⟩
                case measure => simp only [intOf]; omega
              · have g3 : (x == b) = false := by simp [eb]
                have g4 : decide (x = b) = false := by simp [eb]
                rw [g4]
                clear eb g4
                go_wp2
                go_roundw
                case rel => exact ⟨x + 1, by omega, by omega, rfl, HB6.out⟩
                case measure => simp only [intOf]; omega
          · go_wp2_with fail
            refine (awake_any _).mono ?_
            rintro e wz ⟨rfl, hbz⟩
            have HZ := Lib.hid (HBR.out.trans (hbz.mono HBR.out.size))
            clear hbz
            go_wp2
            go_ret
            exact ⟨rfl, HZ.out⟩
end Go.Proofs.Ytilbolgncpfmmaa
