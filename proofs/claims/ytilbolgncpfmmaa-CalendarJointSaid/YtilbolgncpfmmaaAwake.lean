/- The walks of Adjust and of the chapter's examples, for this seat. -/
import Derived.Test.YtilbolgncpfmmaaCal
import Derived.Test.YtilbolgncpfmmaaDate2
import Derived.Deep.RegionHeld3
namespace Go.Proofs.Ytilbolgncpfmmaa
open Go.RowKit

/-- what Adjust returns, of a valid calendar and day -/
def adjOpt (we hs : List Int) (d c : Int) : Option Int :=
  if c = 1 then some d else if c = 2 then firstO we hs 1 d
  else if c = 3 then (if oE (firstO we hs 1 d) = 0 ∧ sameM (oV (firstO we hs 1 d)) d = true then firstO we hs 1 d else firstO we hs (-1) d)
  else firstO we hs (-1) d
def adjV (we hs : List Int) (d c : Int) : Int := if chkD we hs [d] = 0 then (if 1 ≤ c ∧ c ≤ 4 then oV (adjOpt we hs d c) else 0) else 0
def adjE (we hs : List Int) (d c : Int) : Int := if chkD we hs [d] = 0 then (if 1 ≤ c ∧ c ≤ 4 then oE (adjOpt we hs d c) else 7) else chkD we hs [d]
theorem adj_eq {we hs : List Int} {d c : Int} {o : Option Int} (hc : chkD we hs [d] = 0) (h1 : 1 ≤ c) (h2 : c ≤ 4) (h : adjOpt we hs d c = o) : adjV we hs d c = oV o ∧ adjE we hs d c = oE o := by
  rw [adjV, adjE, if_pos hc, if_pos hc, if_pos ⟨h1, h2⟩, if_pos ⟨h1, h2⟩, h]; exact ⟨rfl, rfl⟩

set_option maxHeartbeats 1000000 in
theorem Adjust_any (v0 v1 : Value) (we hs : List Int) (d c : Int) (w : World) (h0 : IntsAt w w.heap.size v0 we) (h1 : IntsAt w w.heap.size v1 hs) :
    Calls Try.prog 35 #[.agg #[v0, v1], .int .i64 d, .int .i64 c] w fun e w' => e = .returned (.tuple #[.int .i64 (adjV we hs d c), .int .i64 (adjE we hs d c)]) ∧ Below w.heap.size w w' := by
  have HBA := Lib.hid (show ∀ o o', Below w.heap.size w ((w.alloc o).alloc o') from fun o o' => ((Below.refl _ _).alloc (Nat.le_refl _) o).alloc (by simp) o')
  have H0 := Lib.hid h0
  have H1 := Lib.hid h1
  clear h0 h1
  go_enter Try.func35, Try.ntmps35
  go_wp2_with fail
  refine (check_any _ _ _ we hs [d] _ (ints_alloc (ints_alloc H0.out _) _) (ints_alloc (ints_alloc H1.out _) _) (ints_one _ _ _ (by simp))).mono ?_
  rintro e w1 ⟨rfl, hb⟩
  have hz1 : w.heap.size + 1 + 1 ≤ w1.heap.size := by have := hb.size; simpa using this
  have c0 : w1.cell? ⟨w.heap.size, 0, none⟩ = some v0 := cell_of_below hb (by simp; omega) (by simp)
  have c1 : w1.cell? ⟨w.heap.size, 1, none⟩ = some v1 := cell_of_below hb (by simp; omega) (by simp)
  have HBW := Lib.hid ((HBA.out _ _).trans (hb.mono (by simp; omega)))
  clear hb
  have I0 := Lib.hid (ints_later H0.out HBW.out (Nat.le_refl _))
  have I1 := Lib.hid (ints_later H1.out HBW.out (Nat.le_refl _))
  by_cases hc : chkD we hs [d] = 0
  · have e1 : (chkD we hs [d] != 0) = false := by simp [hc]
    obtain ⟨hck, hv⟩ := chkD_one hc
    have HC := Lib.hid hc
    have HK := Lib.hid hck
    have HV := Lib.hid hv
    clear hc hck hv
    rcases (show c = 1 ∨ c = 2 ∨ c = 3 ∨ c = 4 ∨ (c < 1 ∨ 4 < c) by omega) with rfl | rfl | rfl | rfl | hcc
    · have HA := Lib.hid (adj_eq (c := 1) (o := some d) HC.out (by omega) (by omega) (by simp [adjOpt]))
      go_wp2
      go_ret2
      exact ⟨ret_two HA.out.1.symm HA.out.2.symm, HBW.out⟩
    · have HA := Lib.hid (adj_eq (c := 2) (o := firstO we hs 1 d) HC.out (by omega) (by omega) (by simp [adjOpt]))
      go_wp2_with fail
      refine (first_any _ _ we hs d 1 _ I0.out I1.out (Start.of_valid (.inl rfl) HV.out) HK.out).mono ?_
      rintro e w2 ⟨rfl, hb2⟩
      have HB2 := Lib.hid hb2
      clear hb2
      go_wp2
      go_ret2
      exact ⟨ret_two HA.out.1.symm HA.out.2.symm, HBW.out.trans (HB2.out.mono (by omega))⟩
    · go_wp2_with fail
      refine (first_any _ _ we hs d 1 _ I0.out I1.out (Start.of_valid (.inl rfl) HV.out) HK.out).mono ?_
      rintro e w2 ⟨rfl, hb2⟩
      have hz2 : w.heap.size + 1 + 1 ≤ w2.heap.size := by have := hb2.size; omega
      have d0 : w2.cell? ⟨w.heap.size, 0, none⟩ = some v0 := cell_of_below hb2 (by omega) c0
      have d1 : w2.cell? ⟨w.heap.size, 1, none⟩ = some v1 := cell_of_below hb2 (by omega) c1
      have HB2 := Lib.hid (HBW.out.trans (hb2.mono (by omega)))
      clear hb2
      have J0 := Lib.hid (ints_later H0.out HB2.out (Nat.le_refl _))
      have J1 := Lib.hid (ints_later H1.out HB2.out (Nat.le_refl _))
      by_cases ho : oE (firstO we hs 1 d) = 0
      · have g1 : (oE (firstO we hs 1 d) == 0) = true := by simp [ho]
        obtain ⟨y, hy⟩ := oE_some ho
        have HY := Lib.hid hy
        have HO := Lib.hid ho
        clear hy ho
        cases hm : sameM (oV (firstO we hs 1 d)) d
        · have HA := Lib.hid (adj_eq (c := 3) (o := firstO we hs (-1) d) HC.out (by omega) (by omega) (by simp [adjOpt, hm]))
          go_wp2_with fail
          refine (sameMonth_any _ _ _).mono ?_
          rintro e w3 ⟨rfl, hb3⟩
          have hz3 : w.heap.size + 1 + 1 ≤ w3.heap.size := by have := hb3.size; omega
          have d2 : w3.cell? ⟨w.heap.size, 0, none⟩ = some v0 := cell_of_below hb3 (by omega) d0
          have d3 : w3.cell? ⟨w.heap.size, 1, none⟩ = some v1 := cell_of_below hb3 (by omega) d1
          have HB3 := Lib.hid (HB2.out.trans (hb3.mono (by omega)))
          clear hb3
          go_wp2_with fail
          refine (first_any _ _ we hs d (-1) _ (ints_later H0.out HB3.out (Nat.le_refl _)) (ints_later H1.out HB3.out (Nat.le_refl _)) (Start.of_valid (.inr rfl) HV.out) HK.out).mono ?_
          rintro e w4 ⟨rfl, hb4⟩
          have HB4 := Lib.hid (HB3.out.trans (hb4.mono (by omega)))
          clear hb4
          go_wp2
          go_ret2
          exact ⟨ret_two HA.out.1.symm HA.out.2.symm, HB4.out⟩
        · have HA := Lib.hid (adj_eq (c := 3) (o := firstO we hs 1 d) HC.out (by omega) (by omega) (by simp [adjOpt, hm, HO.out]))
          go_wp2_with fail
          refine (sameMonth_any _ _ _).mono ?_
          rintro e w3 ⟨rfl, hb3⟩
          have HB3 := Lib.hid (HB2.out.trans (hb3.mono (by omega)))
          clear hb3
          go_wp2
          go_ret2
          exact ⟨ret_two HA.out.1.symm (HO.out.symm.trans HA.out.2.symm), HB3.out⟩
      · have g1 : (oE (firstO we hs 1 d) == 0) = false := by simp [ho]
        have HA := Lib.hid (adj_eq (c := 3) (o := firstO we hs (-1) d) HC.out (by omega) (by omega) (by simp [adjOpt, ho]))
        clear ho
        go_wp2_with fail
        refine (first_any _ _ we hs d (-1) _ J0.out J1.out (Start.of_valid (.inr rfl) HV.out) HK.out).mono ?_
        rintro e w4 ⟨rfl, hb4⟩
        have HB4 := Lib.hid (HB2.out.trans (hb4.mono (by omega)))
        clear hb4
        go_wp2
        go_ret2
        exact ⟨ret_two HA.out.1.symm HA.out.2.symm, HB4.out⟩
    · have HA := Lib.hid (adj_eq (c := 4) (o := firstO we hs (-1) d) HC.out (by omega) (by omega) (by simp [adjOpt]))
      go_wp2_with fail
      refine (first_any _ _ we hs d (-1) _ I0.out I1.out (Start.of_valid (.inr rfl) HV.out) HK.out).mono ?_
      rintro e w2 ⟨rfl, hb2⟩
      have HB2 := Lib.hid hb2
      clear hb2
      go_wp2
      go_ret2
      exact ⟨ret_two HA.out.1.symm HA.out.2.symm, HBW.out.trans (HB2.out.mono (by omega))⟩
    · have u1 : (c == 1) = false := by simp; omega
      have u2 : (c == 2) = false := by simp; omega
      have u3 : (c == 3) = false := by simp; omega
      have u4 : (c == 4) = false := by simp; omega
      have HN := Lib.hid (show ¬ (1 ≤ c ∧ c ≤ 4) by omega)
      clear hcc
      go_wp2
      go_ret2
      exact ⟨ret_two (by rw [adjV, if_pos HC.out, if_neg HN.out]) (by rw [adjE, if_pos HC.out, if_neg HN.out]), HBW.out⟩
  · have e1 : (chkD we hs [d] != 0) = true := by simp [hc]
    have HC := Lib.hid hc
    clear hc
    go_wp2
    go_ret2
    exact ⟨ret_two (by rw [adjV, if_neg HC.out]) (by rw [adjE, if_neg HC.out]), HBW.out⟩

theorem day_any (m d : Int) (w : World) : Calls Try.prog 68 #[.int .i64 m, .int .i64 d] w fun e w' => e = .returned (.int .i64 (ofV 2024 m d)) ∧ Below w.heap.size w w' := by
  go_enter Try.func68, Try.ntmps68
  go_wp2_with (go_at_call 38; refine (Of_any _ _ _ _).mono ?_; rintro e w' ⟨rfl, hb⟩)
  go_ret
  exact ⟨rfl, hb⟩

theorem below_undrew {B : Nat} {W w' : World} (h : Below B W.drew w') : Below B W w' := ⟨h.os, h.tape, h.output, h.size, h.block⟩
theorem d23 : ofV 2024 12 23 = 20080 := by decide +kernel
theorem d30 : ofV 2024 12 30 = 20087 := by decide +kernel
theorem day_at {m d v : Int} (h : ofV 2024 m d = v) (w : World) : Calls Try.prog 68 #[.int .i64 m, .int .i64 d] w fun e w' => e = .returned (.int .i64 v) ∧ Below w.heap.size w w' := by
  rw [← h]; exact day_any m d w

set_option maxHeartbeats 2000000 in
theorem awake_any (w : World) : Calls Try.prog 22 #[] w fun e w' => e = .returned (.bool true) ∧ Below w.heap.size w w' := by
  go_enter Try.func22, Try.ntmps22
  go_wp2_with fail
  refine (day_at (v := 20082) (by decide +kernel) _).mono ?_
  rintro e w1 ⟨rfl, hb1⟩
  have hz1 : w.heap.size + 1 ≤ w1.heap.size := by have := hb1.size; simpa using this
  have i0 : IntsAt w1 w1.heap.size (.slice (some ⟨w.heap.size, 0, none⟩) 2 2) [5, 6] := ints_later (ints_two w 5 6 3 rfl) hb1 (Nat.le_refl _)
  have HBW := Lib.hid (((Below.refl w.heap.size w).alloc (Nat.le_refl _) (.cells #[.int .i64 5, .int .i64 6] 3)).trans (hb1.mono (by simp)))
  have I0 := Lib.hid i0
  clear hb1 i0
  go_wp2
  have i1 := ints_alloc (ints_one w1 20082 26 rfl) (.cells #[.slice (some ⟨w.heap.size, 0, none⟩) 2 2, .slice (some ⟨w1.heap.size, 0, none⟩) 1 1] 25)
  have i0 := ints_alloc (ints_alloc I0.out (.cells #[.int .i64 20082] 26)) (.cells #[.slice (some ⟨w.heap.size, 0, none⟩) 2 2, .slice (some ⟨w1.heap.size, 0, none⟩) 1 1] 25)
  have k0 : ((w1.alloc (.cells #[.int .i64 20082] 26)).alloc (.cells #[.slice (some ⟨w.heap.size, 0, none⟩) 2 2, .slice (some ⟨w1.heap.size, 0, none⟩) 1 1] 25)).cell? ⟨w1.heap.size + 1, 0, none⟩ = some (.slice (some ⟨w.heap.size, 0, none⟩) 2 2) := by simp
  have k1 : ((w1.alloc (.cells #[.int .i64 20082] 26)).alloc (.cells #[.slice (some ⟨w.heap.size, 0, none⟩) 2 2, .slice (some ⟨w1.heap.size, 0, none⟩) 1 1] 25)).cell? ⟨w1.heap.size + 1, 1, none⟩ = some (.slice (some ⟨w1.heap.size, 0, none⟩) 1 1) := by simp
  have hsz : w1.heap.size + 1 < ((w1.alloc (.cells #[.int .i64 20082] 26)).alloc (.cells #[.slice (some ⟨w.heap.size, 0, none⟩) 2 2, .slice (some ⟨w1.heap.size, 0, none⟩) 1 1] 25)).heap.size := by simp
  have hBW0 := (HBW.out.alloc (by omega) (.cells #[.int .i64 20082] 26)).alloc (by simp; omega) (.cells #[.slice (some ⟨w.heap.size, 0, none⟩) 2 2, .slice (some ⟨w1.heap.size, 0, none⟩) 1 1] 25)
  clear I0
  generalize ((w1.alloc (.cells #[.int .i64 20082] 26)).alloc (.cells #[.slice (some ⟨w.heap.size, 0, none⟩) 2 2, .slice (some ⟨w1.heap.size, 0, none⟩) 1 1] 25)) = W0 at *
  obtain ⟨B, hB⟩ : ∃ B, B = w1.heap.size + 1 := ⟨_, rfl⟩
  rw [← hB] at k0 k1 hsz ⊢
  have HIW00 := Lib.hid i0
  have HIW01 := Lib.hid i1
  have HBW0 := Lib.hid hBW0
  have kW00 := k0
  have kW01 := k1
  have hszW0 := hsz
  clear i0 i1 hBW0 hB HBW k0 k1 hsz
  go_region_held3 (fun w' => w'.cell? ⟨B, 0, none⟩ = some (.slice (some ⟨w.heap.size, 0, none⟩) 2 2) ∧ w'.cell? ⟨B, 1, none⟩ = some (.slice (some ⟨w1.heap.size, 0, none⟩) 1 1))
    (first | exact ⟨kW00, kW01⟩ | exact ⟨cell_of_below hb1a hszW0 kW00, cell_of_below hb1a hszW0 kW01⟩ | exact ⟨cell_of_below hb1b (Nat.lt_of_lt_of_le hszW0 hb1a.size) (cell_of_below hb1a hszW0 kW00), cell_of_below hb1b (Nat.lt_of_lt_of_le hszW0 hb1a.size) (cell_of_below hb1a hszW0 kW01)⟩)
    (first | (go_at_call 68; refine (day_at (v := 20082) (by decide +kernel) _).mono ?_; rintro e x1 ⟨rfl, hb1a'⟩; have hb1a := below_undrew hb1a'; clear hb1a') | (go_at_call 29; refine (Next_any _ _ [5, 6] [20082] 20082 _ (ints_later HIW00.out hb1a (Nat.le_refl _)) (ints_later HIW01.out hb1a (Nat.le_refl _))).mono ?_; rintro e W1 ⟨rfl, hb1b⟩))
  have hbc1 : Below W0.heap.size W0 W1 := hb1a.trans (hb1b.mono hb1a.size)
  have kW10 := cell_of_below hbc1 hszW0 kW00
  have kW11 := cell_of_below hbc1 hszW0 kW01
  have hszW1 : B < W1.heap.size := Nat.lt_of_lt_of_le hszW0 hbc1.size
  have HIW10 := Lib.hid (ints_later HIW00.out hbc1 (Nat.le_refl _))
  have HIW11 := Lib.hid (ints_later HIW01.out hbc1 (Nat.le_refl _))
  have HBW1 := Lib.hid (HBW0.out.trans (hbc1.mono HBW0.out.size))
  clear hb1a hb1b hbc1 kW00 kW01 hszW0 HIW00 HIW01 HBW0
  rw [show nextV [5, 6] [20082] 1 20082 = 20083 by decide +kernel, show nextE [5, 6] [20082] 1 20082 = 0 by decide +kernel]
  go_wp2
  go_region_held3 (fun w' => w'.cell? ⟨B, 0, none⟩ = some (.slice (some ⟨w.heap.size, 0, none⟩) 2 2) ∧ w'.cell? ⟨B, 1, none⟩ = some (.slice (some ⟨w1.heap.size, 0, none⟩) 1 1))
    (first | exact ⟨kW10, kW11⟩ | exact ⟨cell_of_below hb2a hszW1 kW10, cell_of_below hb2a hszW1 kW11⟩ | exact ⟨cell_of_below hb2b (Nat.lt_of_lt_of_le hszW1 hb2a.size) (cell_of_below hb2a hszW1 kW10), cell_of_below hb2b (Nat.lt_of_lt_of_le hszW1 hb2a.size) (cell_of_below hb2a hszW1 kW11)⟩)
    (first | (go_at_call 68; refine (day_at (v := 20081) (by decide +kernel) _).mono ?_; rintro e x2 ⟨rfl, hb2a'⟩; have hb2a := below_undrew hb2a'; clear hb2a') | (go_at_call 23; refine (Add_any _ _ [5, 6] [20082] 20081 2 _ (ints_later HIW10.out hb2a (Nat.le_refl _)) (ints_later HIW11.out hb2a (Nat.le_refl _)) (by omega) (by omega)).mono ?_; rintro e W2 ⟨rfl, hb2b⟩))
  have hbc2 : Below W1.heap.size W1 W2 := hb2a.trans (hb2b.mono hb2a.size)
  have kW20 := cell_of_below hbc2 hszW1 kW10
  have kW21 := cell_of_below hbc2 hszW1 kW11
  have hszW2 : B < W2.heap.size := Nat.lt_of_lt_of_le hszW1 hbc2.size
  have HIW20 := Lib.hid (ints_later HIW10.out hbc2 (Nat.le_refl _))
  have HIW21 := Lib.hid (ints_later HIW11.out hbc2 (Nat.le_refl _))
  have HBW2 := Lib.hid (HBW1.out.trans (hbc2.mono HBW1.out.size))
  clear hb2a hb2b hbc2 kW10 kW11 hszW1 HIW10 HIW11 HBW1
  rw [show addV [5, 6] [20082] 20081 2 = 20084 by decide +kernel, show addE [5, 6] [20082] 20081 2 = 0 by decide +kernel]
  go_wp2
  go_region_held3 (fun w' => w'.cell? ⟨B, 0, none⟩ = some (.slice (some ⟨w.heap.size, 0, none⟩) 2 2) ∧ w'.cell? ⟨B, 1, none⟩ = some (.slice (some ⟨w1.heap.size, 0, none⟩) 1 1))
    (first | exact ⟨kW20, kW21⟩ | exact ⟨cell_of_below hb3a hszW2 kW20, cell_of_below hb3a hszW2 kW21⟩ | exact ⟨cell_of_below hb3b (Nat.lt_of_lt_of_le hszW2 hb3a.size) (cell_of_below hb3a hszW2 kW20), cell_of_below hb3b (Nat.lt_of_lt_of_le hszW2 hb3a.size) (cell_of_below hb3a hszW2 kW21)⟩)
    (first | (go_at_call 68; refine (day_at (v := 20057) (by decide +kernel) _).mono ?_; rintro e x3 ⟨rfl, hb3a'⟩; have hb3a := below_undrew hb3a'; clear hb3a') | (go_at_call 35; refine (Adjust_any _ _ [5, 6] [20082] 20057 2 _ (ints_later HIW20.out hb3a (Nat.le_refl _)) (ints_later HIW21.out hb3a (Nat.le_refl _))).mono ?_; rintro e W3 ⟨rfl, hb3b⟩))
  have hbc3 : Below W2.heap.size W2 W3 := hb3a.trans (hb3b.mono hb3a.size)
  have kW30 := cell_of_below hbc3 hszW2 kW20
  have kW31 := cell_of_below hbc3 hszW2 kW21
  have hszW3 : B < W3.heap.size := Nat.lt_of_lt_of_le hszW2 hbc3.size
  have HIW30 := Lib.hid (ints_later HIW20.out hbc3 (Nat.le_refl _))
  have HIW31 := Lib.hid (ints_later HIW21.out hbc3 (Nat.le_refl _))
  have HBW3 := Lib.hid (HBW2.out.trans (hbc3.mono HBW2.out.size))
  clear hb3a hb3b hbc3 kW20 kW21 hszW2 HIW20 HIW21 HBW2
  rw [show adjV [5, 6] [20082] 20057 2 = 20059 by decide +kernel, show adjE [5, 6] [20082] 20057 2 = 0 by decide +kernel]
  go_wp2
  go_region_held3 (fun w' => w'.cell? ⟨B, 0, none⟩ = some (.slice (some ⟨w.heap.size, 0, none⟩) 2 2) ∧ w'.cell? ⟨B, 1, none⟩ = some (.slice (some ⟨w1.heap.size, 0, none⟩) 1 1))
    (first | exact ⟨kW30, kW31⟩ | exact ⟨cell_of_below hb4a hszW3 kW30, cell_of_below hb4a hszW3 kW31⟩ | exact ⟨cell_of_below hb4b (Nat.lt_of_lt_of_le hszW3 hb4a.size) (cell_of_below hb4a hszW3 kW30), cell_of_below hb4b (Nat.lt_of_lt_of_le hszW3 hb4a.size) (cell_of_below hb4a hszW3 kW31)⟩)
    (first | (go_at_call 68; refine (day_at (v := 20057) (by decide +kernel) _).mono ?_; rintro e x4 ⟨rfl, hb4a'⟩; have hb4a := below_undrew hb4a'; clear hb4a') | (go_at_call 35; refine (Adjust_any _ _ [5, 6] [20082] 20057 3 _ (ints_later HIW30.out hb4a (Nat.le_refl _)) (ints_later HIW31.out hb4a (Nat.le_refl _))).mono ?_; rintro e W4 ⟨rfl, hb4b⟩))
  have hbc4 : Below W3.heap.size W3 W4 := hb4a.trans (hb4b.mono hb4a.size)
  have kW40 := cell_of_below hbc4 hszW3 kW30
  have kW41 := cell_of_below hbc4 hszW3 kW31
  have hszW4 : B < W4.heap.size := Nat.lt_of_lt_of_le hszW3 hbc4.size
  have HIW40 := Lib.hid (ints_later HIW30.out hbc4 (Nat.le_refl _))
  have HIW41 := Lib.hid (ints_later HIW31.out hbc4 (Nat.le_refl _))
  have HBW4 := Lib.hid (HBW3.out.trans (hbc4.mono HBW3.out.size))
  clear hb4a hb4b hbc4 kW30 kW31 hszW3 HIW30 HIW31 HBW3
  rw [show adjV [5, 6] [20082] 20057 3 = 20056 by decide +kernel, show adjE [5, 6] [20082] 20057 3 = 0 by decide +kernel]
  go_wp2
  go_region_held3 (fun w' => w'.cell? ⟨B, 0, none⟩ = some (.slice (some ⟨w.heap.size, 0, none⟩) 2 2) ∧ w'.cell? ⟨B, 1, none⟩ = some (.slice (some ⟨w1.heap.size, 0, none⟩) 1 1))
    (first | exact ⟨kW40, kW41⟩ | exact ⟨cell_of_below hb5a hszW4 kW40, cell_of_below hb5a hszW4 kW41⟩ | exact ⟨cell_of_below hb5b hszW4 kW40, cell_of_below hb5b hszW4 kW41⟩ | exact ⟨cell_of_below hb5c hszW4 kW40, cell_of_below hb5c hszW4 kW41⟩)
    (first | (go_at_call 68; ((with_reducible refine (day_at (m := 12) (d := 23) (v := 20080) d23 _).mono ?_)); rintro e x5 ⟨rfl, hb5a'⟩; have hb5a := below_undrew hb5a'; clear hb5a') | (go_at_call 68; ((with_reducible refine (day_at (m := 12) (d := 30) (v := 20087) d30 _).mono ?_)); rintro e x6 ⟨rfl, hb5b'⟩; have hb5b := hb5a.trans (hb5b'.mono hb5a.size); clear hb5b') | (go_at_call 26; refine (Count_any _ _ [5, 6] [20082] 20080 20087 _ (ints_later HIW40.out hb5b (Nat.le_refl _)) (ints_later HIW41.out hb5b (Nat.le_refl _))).mono ?_; rintro e W5 ⟨rfl, hb5c'⟩; have hb5c := hb5b.trans (hb5c'.mono hb5b.size); clear hb5c'))
  rw [show cntV [5, 6] [20082] 20080 20087 = 4 by decide +kernel, show cntE [5, 6] [20082] 20080 20087 = 0 by decide +kernel]
  have HBX := Lib.hid (HBW4.out.trans (hb5c.mono HBW4.out.size))
  clear hb5a hb5b hb5c kW40 kW41 hszW4 HIW40 HIW41 HBW4
  go_wp2_with fail
  refine (day_at (v := 20083) (by decide +kernel) _).mono ?_
  rintro e y0 ⟨rfl, hy⟩
  have HY0 := Lib.hid (HBX.out.trans (hy.mono HBX.out.size))
  clear hy HBX
  go_wp2_with fail
  refine (day_at (v := 20084) (by decide +kernel) _).mono ?_
  rintro e y1 ⟨rfl, hy⟩
  have HY1 := Lib.hid (HY0.out.trans (hy.mono HY0.out.size))
  clear hy HY0
  go_wp2_with fail
  refine (day_at (v := 20059) (by decide +kernel) _).mono ?_
  rintro e y2 ⟨rfl, hy⟩
  have HY2 := Lib.hid (HY1.out.trans (hy.mono HY1.out.size))
  clear hy HY1
  go_wp2_with fail
  refine (day_at (v := 20056) (by decide +kernel) _).mono ?_
  rintro e y3 ⟨rfl, hy⟩
  have HY3 := Lib.hid (HY2.out.trans (hy.mono HY2.out.size))
  clear hy HY2
  go_wp2
  go_ret
  exact ⟨rfl, HY3.out⟩
end Go.Proofs.Ytilbolgncpfmmaa
