/- The walks of the reference's Business, Next, Previous and Adjust, for this seat. -/
import Derived.Test.YtilbolgncpfmmaaAwake
import Derived.Test.YtilbolgncpfmmaaRefDate
namespace Go.Proofs.Ytilbolgncpfmmaa
open Go.RowKit

set_option maxHeartbeats 400000 in
theorem rNext_any (v0 v1 : Value) (we hs : List Int) (d : Int) (w : World) (h0 : IntsAt w w.heap.size v0 we) (h1 : IntsAt w w.heap.size v1 hs) :
    Calls Try.prog 32 #[.agg #[v0, v1], .int .i64 d] w fun e w' => e = .returned (.tuple #[.int .i64 (nextV we hs 1 d), .int .i64 (nextE we hs 1 d)]) ∧ Below w.heap.size w w' := by
  have HBA := Lib.hid (show ∀ o, Below w.heap.size w (w.alloc o) from fun o => (Below.refl _ _).alloc (Nat.le_refl _) o)
  have H0 := Lib.hid h0
  have H1 := Lib.hid h1
  clear h0 h1
  go_enter Try.func32, Try.ntmps32
  go_wp2_with fail
  refine (rcheck_any _ _ we hs d _ (ints_alloc H0.out _) (ints_alloc H1.out _)).mono ?_
  rintro e w1 ⟨rfl, hb⟩
  have hz1 : w.heap.size + 1 ≤ w1.heap.size := by have := hb.size; simpa using this
  have c0 : w1.cell? ⟨w.heap.size, 0, none⟩ = some v0 := cell_of_below hb (by simp) (by simp)
  have c1 : w1.cell? ⟨w.heap.size, 1, none⟩ = some v1 := cell_of_below hb (by simp) (by simp)
  have HBW := Lib.hid ((HBA.out _).trans (hb.mono (by simp)))
  clear hb
  by_cases hc : chkD we hs [d] = 0
  · have e1 : (chkD we hs [d] != 0) = false := by simp [hc]
    obtain ⟨hck, hv⟩ := chkD_one hc
    have HC := Lib.hid hc
    have HV := Lib.hid hv
    clear hc hck hv
    go_wp2_with fail
    refine (rfrom_any _ _ we hs d 1 _ (ints_later H0.out HBW.out (Nat.le_refl _)) (ints_later H1.out HBW.out (Nat.le_refl _)) (Start.of_valid (.inl rfl) HV.out)).mono ?_
    rintro e w2 ⟨rfl, hb2⟩
    have HB2 := Lib.hid hb2
    clear hb2
    go_wp2
    go_ret2
    exact ⟨ret_two (by rw [nextV, if_pos HC.out]) (by rw [nextE, if_pos HC.out]), HBW.out.trans (HB2.out.mono (by omega))⟩
  · have e1 : (chkD we hs [d] != 0) = true := by simp [hc]
    have HC := Lib.hid hc
    clear hc
    go_wp2
    go_ret2
    exact ⟨ret_two (by rw [nextV, if_neg HC.out]) (by rw [nextE, if_neg HC.out]), HBW.out⟩

set_option maxHeartbeats 400000 in
theorem rPrevious_any (v0 v1 : Value) (we hs : List Int) (d : Int) (w : World) (h0 : IntsAt w w.heap.size v0 we) (h1 : IntsAt w w.heap.size v1 hs) :
    Calls Try.prog 34 #[.agg #[v0, v1], .int .i64 d] w fun e w' => e = .returned (.tuple #[.int .i64 (nextV we hs (-1) d), .int .i64 (nextE we hs (-1) d)]) ∧ Below w.heap.size w w' := by
  have HBA := Lib.hid (show ∀ o, Below w.heap.size w (w.alloc o) from fun o => (Below.refl _ _).alloc (Nat.le_refl _) o)
  have H0 := Lib.hid h0
  have H1 := Lib.hid h1
  clear h0 h1
  go_enter Try.func34, Try.ntmps34
  go_wp2_with fail
  refine (rcheck_any _ _ we hs d _ (ints_alloc H0.out _) (ints_alloc H1.out _)).mono ?_
  rintro e w1 ⟨rfl, hb⟩
  have hz1 : w.heap.size + 1 ≤ w1.heap.size := by have := hb.size; simpa using this
  have c0 : w1.cell? ⟨w.heap.size, 0, none⟩ = some v0 := cell_of_below hb (by simp) (by simp)
  have c1 : w1.cell? ⟨w.heap.size, 1, none⟩ = some v1 := cell_of_below hb (by simp) (by simp)
  have HBW := Lib.hid ((HBA.out _).trans (hb.mono (by simp)))
  clear hb
  by_cases hc : chkD we hs [d] = 0
  · have e1 : (chkD we hs [d] != 0) = false := by simp [hc]
    obtain ⟨hck, hv⟩ := chkD_one hc
    have HC := Lib.hid hc
    have HV := Lib.hid hv
    clear hc hck hv
    go_wp2_with fail
    refine (rfrom_any _ _ we hs d (-1) _ (ints_later H0.out HBW.out (Nat.le_refl _)) (ints_later H1.out HBW.out (Nat.le_refl _)) (Start.of_valid (.inr rfl) HV.out)).mono ?_
    rintro e w2 ⟨rfl, hb2⟩
    have HB2 := Lib.hid hb2
    clear hb2
    go_wp2
    go_ret2
    exact ⟨ret_two (by rw [nextV, if_pos HC.out]) (by rw [nextE, if_pos HC.out]), HBW.out.trans (HB2.out.mono (by omega))⟩
  · have e1 : (chkD we hs [d] != 0) = true := by simp [hc]
    have HC := Lib.hid hc
    clear hc
    go_wp2
    go_ret2
    exact ⟨ret_two (by rw [nextV, if_neg HC.out]) (by rw [nextE, if_neg HC.out]), HBW.out⟩

set_option maxHeartbeats 400000 in
theorem rBusiness_any (v0 v1 : Value) (we hs : List Int) (d : Int) (w : World) (h0 : IntsAt w w.heap.size v0 we) (h1 : IntsAt w w.heap.size v1 hs) :
    Calls Try.prog 31 #[.agg #[v0, v1], .int .i64 d] w fun e w' => e = .returned (.tuple #[.bool (bizV we hs d), .int .i64 (chkD we hs [d])]) ∧ Below w.heap.size w w' := by
  have HBA := Lib.hid (show ∀ o, Below w.heap.size w (w.alloc o) from fun o => (Below.refl _ _).alloc (Nat.le_refl _) o)
  have H0 := Lib.hid h0
  have H1 := Lib.hid h1
  clear h0 h1
  go_enter Try.func31, Try.ntmps31
  go_wp2_with fail
  refine (rcheck_any _ _ we hs d _ (ints_alloc H0.out _) (ints_alloc H1.out _)).mono ?_
  rintro e w1 ⟨rfl, hb⟩
  have hz1 : w.heap.size + 1 ≤ w1.heap.size := by have := hb.size; simpa using this
  have c0 : w1.cell? ⟨w.heap.size, 0, none⟩ = some v0 := cell_of_below hb (by simp) (by simp)
  have c1 : w1.cell? ⟨w.heap.size, 1, none⟩ = some v1 := cell_of_below hb (by simp) (by simp)
  have HBW := Lib.hid ((HBA.out _).trans (hb.mono (by simp)))
  clear hb
  by_cases hc : chkD we hs [d] = 0
  · have e1 : (chkD we hs [d] != 0) = false := by simp [hc]
    obtain ⟨hck, hv⟩ := chkD_one hc
    have HC := Lib.hid hc
    have HV := Lib.hid hv
    clear hc hck hv
    go_wp2_with fail
    refine (rIs_any _ _ we hs d _ (ints_later H0.out HBW.out (Nat.le_refl _)) (ints_later H1.out HBW.out (Nat.le_refl _)) HV.out).mono ?_
    rintro e w2 ⟨rfl, rfl⟩
    go_wp2
    go_ret2
    exact ⟨ret_bi (by rw [bizV, if_pos HC.out]) HC.out.symm, HBW.out.alloc (by omega) _⟩
  · have e1 : (chkD we hs [d] != 0) = true := by simp [hc]
    have HC := Lib.hid hc
    clear hc
    go_wp2
    go_ret2
    exact ⟨ret_bi (by rw [bizV, if_neg HC.out]) rfl, HBW.out⟩
set_option maxHeartbeats 1000000 in
theorem rAdjust_any (v0 v1 : Value) (we hs : List Int) (d c : Int) (w : World) (h0 : IntsAt w w.heap.size v0 we) (h1 : IntsAt w w.heap.size v1 hs) :
    Calls Try.prog 36 #[.agg #[v0, v1], .int .i64 d, .int .i64 c] w fun e w' => e = .returned (.tuple #[.int .i64 (adjV we hs d c), .int .i64 (adjE we hs d c)]) ∧ Below w.heap.size w w' := by
  have HBA := Lib.hid (show ∀ o, Below w.heap.size w (w.alloc o) from fun o => (Below.refl _ _).alloc (Nat.le_refl _) o)
  have H0 := Lib.hid h0
  have H1 := Lib.hid h1
  clear h0 h1
  go_enter Try.func36, Try.ntmps36
  go_wp2_with fail
  refine (rcheck_any _ _ we hs d _ (ints_alloc H0.out _) (ints_alloc H1.out _)).mono ?_
  rintro e w1 ⟨rfl, hb⟩
  have hz1 : w.heap.size + 1 ≤ w1.heap.size := by have := hb.size; simpa using this
  have c0 : w1.cell? ⟨w.heap.size, 0, none⟩ = some v0 := cell_of_below hb (by simp) (by simp)
  have c1 : w1.cell? ⟨w.heap.size, 1, none⟩ = some v1 := cell_of_below hb (by simp) (by simp)
  have HBW := Lib.hid ((HBA.out _).trans (hb.mono (by simp)))
  clear hb
  have I0 := Lib.hid (ints_later H0.out HBW.out (Nat.le_refl _))
  have I1 := Lib.hid (ints_later H1.out HBW.out (Nat.le_refl _))
  by_cases hc : chkD we hs [d] = 0
  · have e1 : (chkD we hs [d] != 0) = false := by simp [hc]
    obtain ⟨hck, hv⟩ := chkD_one hc
    have HC := Lib.hid hc
    have HV := Lib.hid hv
    clear hc hck hv
    rcases (show c = 1 ∨ c = 2 ∨ c = 3 ∨ c = 4 ∨ (c < 1 ∨ 4 < c) by omega) with rfl | rfl | rfl | rfl | hcc
    · have HA := Lib.hid (adj_eq (c := 1) (o := some d) HC.out (by omega) (by omega) (by simp [adjOpt]))
      go_wp2
      go_ret2
      exact ⟨ret_two HA.out.1.symm HA.out.2.symm, HBW.out⟩
    · have HA := Lib.hid (adj_eq (c := 2) (o := firstO we hs 1 d) HC.out (by omega) (by omega) (by simp [adjOpt]))
      go_wp2_with fail
      refine (rfrom_any _ _ we hs d 1 _ I0.out I1.out (Start.of_valid (.inl rfl) HV.out)).mono ?_
      rintro e w2 ⟨rfl, hb2⟩
      have HB2 := Lib.hid hb2
      clear hb2
      go_wp2
      go_ret2
      exact ⟨ret_two HA.out.1.symm HA.out.2.symm, HBW.out.trans (HB2.out.mono (by omega))⟩
    · go_wp2_with fail
      refine (rfrom_any _ _ we hs d 1 _ I0.out I1.out (Start.of_valid (.inl rfl) HV.out)).mono ?_
      rintro e w2 ⟨rfl, hb2⟩
      have hz2 : w.heap.size + 1 ≤ w2.heap.size := by have := hb2.size; omega
      have d0 : w2.cell? ⟨w.heap.size, 0, none⟩ = some v0 := cell_of_below hb2 (by omega) c0
      have d1 : w2.cell? ⟨w.heap.size, 1, none⟩ = some v1 := cell_of_below hb2 (by omega) c1
      have HB2 := Lib.hid (HBW.out.trans (hb2.mono (by omega)))
      clear hb2
      have J0 := Lib.hid (ints_later H0.out HB2.out (Nat.le_refl _))
      have J1 := Lib.hid (ints_later H1.out HB2.out (Nat.le_refl _))
      by_cases ho : oE (firstO we hs 1 d) = 0
      · have g1 : (oE (firstO we hs 1 d) == 0) = true := by simp [ho]
        obtain ⟨y, hy⟩ := oE_some ho
        have HY := Lib.hid hy
        have HO := Lib.hid ho
        clear hy ho
        cases hm : sameM (oV (firstO we hs 1 d)) d
        · have HA := Lib.hid (adj_eq (c := 3) (o := firstO we hs (-1) d) HC.out (by omega) (by omega) (by simp [adjOpt, hm]))
          go_wp2_with fail
          refine (rsameMonth_any _ _ _).mono ?_
          rintro e w3 ⟨rfl, rfl⟩
          have HB3 := HB2
          go_wp2_with fail
          refine (rfrom_any _ _ we hs d (-1) _ (ints_later H0.out HB3.out (Nat.le_refl _)) (ints_later H1.out HB3.out (Nat.le_refl _)) (Start.of_valid (.inr rfl) HV.out)).mono ?_
          rintro e w4 ⟨rfl, hb4⟩
          have HB4 := Lib.hid (HB3.out.trans (hb4.mono (by omega)))
          clear hb4
          go_wp2
          go_ret2
          exact ⟨ret_two HA.out.1.symm HA.out.2.symm, HB4.out⟩
        · have HA := Lib.hid (adj_eq (c := 3) (o := firstO we hs 1 d) HC.out (by omega) (by omega) (by simp [adjOpt, hm, HO.out]))
          go_wp2_with fail
          refine (rsameMonth_any _ _ _).mono ?_
          rintro e w3 ⟨rfl, rfl⟩
          have HB3 := HB2
          go_wp2
          go_ret2
          exact ⟨ret_two HA.out.1.symm (HO.out.symm.trans HA.out.2.symm), HB3.out⟩
      · have g1 : (oE (firstO we hs 1 d) == 0) = false := by simp [ho]
        have HA := Lib.hid (adj_eq (c := 3) (o := firstO we hs (-1) d) HC.out (by omega) (by omega) (by simp [adjOpt, ho]))
        clear ho
        go_wp2_with fail
        refine (rfrom_any _ _ we hs d (-1) _ J0.out J1.out (Start.of_valid (.inr rfl) HV.out)).mono ?_
        rintro e w4 ⟨rfl, hb4⟩
        have HB4 := Lib.hid (HB2.out.trans (hb4.mono (by omega)))
        clear hb4
        go_wp2
        go_ret2
        exact ⟨ret_two HA.out.1.symm HA.out.2.symm, HB4.out⟩
    · have HA := Lib.hid (adj_eq (c := 4) (o := firstO we hs (-1) d) HC.out (by omega) (by omega) (by simp [adjOpt]))
      go_wp2_with fail
      refine (rfrom_any _ _ we hs d (-1) _ I0.out I1.out (Start.of_valid (.inr rfl) HV.out)).mono ?_
      rintro e w2 ⟨rfl, hb2⟩
      have HB2 := Lib.hid hb2
      clear hb2
      go_wp2
      go_ret2
      exact ⟨ret_two HA.out.1.symm HA.out.2.symm, HBW.out.trans (HB2.out.mono (by omega))⟩
    · have u1 : (c == 1) = false := by simp; omega
      have u2 : (c == 2) = false := by simp; omega
      have u3 : (c == 3) = false := by simp; omega
      have u4 : (c == 4) = false := by simp; omega
      have HN := Lib.hid (show ¬ (1 ≤ c ∧ c ≤ 4) by omega)
      clear hcc
      go_wp2
      go_ret2
      exact ⟨ret_two (by rw [adjV, if_pos HC.out, if_neg HN.out]) (by rw [adjE, if_pos HC.out, if_neg HN.out]), HBW.out⟩
  · have e1 : (chkD we hs [d] != 0) = true := by simp [hc]
    have HC := Lib.hid hc
    clear hc
    go_wp2
    go_ret2
    exact ⟨ret_two (by rw [adjV, if_neg HC.out]) (by rw [adjE, if_neg HC.out]), HBW.out⟩

end Go.Proofs.Ytilbolgncpfmmaa
