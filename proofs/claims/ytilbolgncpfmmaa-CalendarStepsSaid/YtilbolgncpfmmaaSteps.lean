/- The walk of the law CalendarSteps, for this seat: for every calendar, day, number and period it returns true. -/
import Derived.Test.YtilbolgncpfmmaaAwake
namespace Go.Proofs.Ytilbolgncpfmmaa
open Go.RowKit

theorem add_far {we hs : List Int} {d n : Int} (h : nearB n = true) (hf : ¬ (-400 ≤ n ∧ n ≤ 400)) : addV we hs d n = 0 ∧ (addE we hs d n = 13 ∨ (addE we hs d n = 1 ∧ chk we hs ≠ 0)) := by
  have hn : 109572 < n ∨ n < -109572 := by simp [nearB] at h; omega
  by_cases hc : chkD we hs [d] = 0
  · obtain ⟨hck, hv⟩ := chkD_one hc
    have hnone : addOpt we hs d n = none := by
      rw [addOpt, if_neg (by omega)]
      have hs1 : sg n = 1 ∨ sg n = -1 := by unfold sg; split <;> simp
      rw [show n.natAbs = (n.natAbs - 1) + 1 by omega, addO_eq _ _ (Start.of_step hs1 hv)]
      exact List.getElem?_eq_none (by have := blR_length_step (isB we hs) (sg n) d hs1 hv; omega)
    rw [addV, addE, if_pos hc, if_pos hc, hnone]
    exact ⟨rfl, .inl rfl⟩
  · rw [addV, addE, if_neg hc, if_neg hc]
    refine ⟨rfl, ?_⟩
    unfold chkD at hc ⊢
    by_cases h0 : chk we hs = 0
    · rw [if_pos h0] at hc ⊢
      cases ha : [d].all vB
      · simp
      · rw [ha] at hc; simp at hc
    · rw [if_neg h0]; exact .inr ⟨rfl, h0⟩

/-- what the law has in memory: its boxes of the calendar and of the period -/
structure St (w W : World) (v0 v1 : Value) (a b : Int) : Prop where
  c0 : W.cell? ⟨w.heap.size, 0, none⟩ = some v0
  c1 : W.cell? ⟨w.heap.size, 1, none⟩ = some v1
  c2 : W.cell? ⟨w.heap.size + 1, 0, none⟩ = some (.int .i64 a)
  c3 : W.cell? ⟨w.heap.size + 1, 1, none⟩ = some (.int .i64 b)
  lt : w.heap.size + 1 < W.heap.size
  below : Below w.heap.size w W
theorem St.later {w W W' : World} {v0 v1 : Value} {a b : Int} (h : St w W v0 v1 a b) (hb : Below W.heap.size W W') : St w W' v0 v1 a b :=
  ⟨cell_of_below hb (by have := h.lt; omega) h.c0, cell_of_below hb (by have := h.lt; omega) h.c1, cell_of_below hb h.lt h.c2, cell_of_below hb h.lt h.c3, Nat.lt_of_lt_of_le h.lt hb.size, h.below.trans (hb.mono h.below.size)⟩
theorem St.start {w : World} {v0 v1 : Value} {a b : Int} : St w ((w.alloc (.cells #[v0, v1] 25)).alloc (.cells #[.int .i64 a, .int .i64 b] 28)) v0 v1 a b :=
  ⟨by simp, by simp, by simp, by simp, by simp, ((Below.refl _ _).alloc (Nat.le_refl _) _).alloc (by simp) _⟩
theorem ret_true {b : Bool} (h : b = true) : Ending.returned (.bool b) = .returned (.bool true) := by rw [h]

set_option maxRecDepth 100000 in
set_option maxHeartbeats 4000000 in
theorem steps_any (v0 v1 : Value) (we hs : List Int) (d n a b : Int) (w : World) (h0 : IntsAt w w.heap.size v0 we) (h1 : IntsAt w w.heap.size v1 hs) (hn : -9223372036854775808 ≤ n) (hn' : n ≤ 9223372036854775807) :
    Calls Try.prog 3 #[.agg #[v0, v1], .int .i64 d, .int .i64 n, .agg #[.int .i64 a, .int .i64 b]] w fun e w' => e = .returned (.bool true) ∧ Below w.heap.size w w' := by
  have H0 := Lib.hid h0
  have H1 := Lib.hid h1
  clear h0 h1
  go_enter Try.func3, Try.ntmps3
  go_wp2_with fail
  refine (Great_any _ _ we hs _ (ints_alloc (ints_alloc H0.out _) _) (ints_alloc (ints_alloc H1.out _) _)).mono ?_
  rintro e w1 ⟨rfl, hw1⟩
  have st1 : St w w1 v0 v1 a b := by rw [← hw1]; exact St.start.later ((Below.refl _ _).alloc (Nat.le_refl _) _)
  clear hw1
  obtain ⟨c0, c1, c2, c3, lt1, hb1⟩ := id st1
  have HB := Lib.hid hb1
  have ST := Lib.hid st1
  clear hb1 st1
  cases hg : great we hs
  · cases hnear : nearB n
    · go_wp2_with (go_at_call 21; refine (near_any _ _).mono ?_; rintro e w' ⟨rfl, rfl⟩)
      refine (awake_any _).mono ?_
      rintro e wz ⟨rfl, hbz⟩
      have HZ := Lib.hid (HB.out.trans (hbz.mono HB.out.size))
      clear hbz
      go_wp2
      go_ret
      exact ⟨rfl, HZ.out⟩
    · by_cases p1 : -25567 ≤ a
      · by_cases p2 : b ≤ 84005
        · by_cases p3 : 1000 < wrap64 (b - a)
          · go_wp2_with (go_at_call 21; refine (near_any _ _).mono ?_; rintro e w' ⟨rfl, rfl⟩)
            refine (awake_any _).mono ?_
            rintro e wz ⟨rfl, hbz⟩
            have HZ := Lib.hid (HB.out.trans (hbz.mono HB.out.size))
            clear hbz
            go_wp2
            go_ret
            exact ⟨rfl, HZ.out⟩
          · rcases (show (-400 ≤ n ∧ n ≤ 400) ∨ n < -400 ∨ 400 < n by omega) with ⟨n1, n2⟩ | hlo | hhi
            · have q1 : -400 ≤ n := by omega
              have q2 : n ≤ 400 := by omega
              go_wp2_with (go_at_call 21; refine (near_any _ _).mono ?_; rintro e w' ⟨rfl, rfl⟩)
              refine (Add_any _ _ we hs d n _ (ints_later H0.out HB.out (Nat.le_refl _)) (ints_later H1.out HB.out (Nat.le_refl _)) hn hn').mono ?_
              rintro e w2 ⟨rfl, hb2⟩
              have st2 := ST.out.later hb2
              obtain ⟨c0, c1, c2, c3, lt2, hbb2⟩ := id st2
              have HB2 := Lib.hid hbb2
              have ST2 := Lib.hid st2
              clear hb2 st2 hbb2
              go_wp2_with fail
              refine (rAdd_any _ _ we hs d n _ (ints_later H0.out HB2.out (Nat.le_refl _)) (ints_later H1.out HB2.out (Nat.le_refl _)) hn hn').mono ?_
              rintro e w3 ⟨rfl, hb3⟩
              have st3 := ST2.out.later hb3
              obtain ⟨c0, c1, c2, c3, lt3, hbb3⟩ := id st3
              have HB3 := Lib.hid hbb3
              have ST3 := Lib.hid st3
              clear hb3 st3 hbb3
              go_wp2_with fail
              refine (Count_any _ _ we hs a b _ (ints_later H0.out HB3.out (Nat.le_refl _)) (ints_later H1.out HB3.out (Nat.le_refl _))).mono ?_
              rintro e w4 ⟨rfl, hb4⟩
              have st4 := ST3.out.later hb4
              obtain ⟨c0, c1, c2, c3, lt4, hbb4⟩ := id st4
              have HB4 := Lib.hid hbb4
              have ST4 := Lib.hid st4
              clear hb4 st4 hbb4
              go_wp2_with fail
              refine (rCount_any _ _ we hs a b _ (ints_later H0.out HB4.out (Nat.le_refl _)) (ints_later H1.out HB4.out (Nat.le_refl _))).mono ?_
              rintro e w5 ⟨rfl, hb5⟩
              have st5 := ST4.out.later hb5
              obtain ⟨c0, c1, c2, c3, lt5, hbb5⟩ := id st5
              have HB5 := Lib.hid hbb5
              have ST5 := Lib.hid st5
              clear hb5 st5 hbb5
              go_wp2_with fail
              refine (awake_any _).mono ?_
              rintro e wz ⟨rfl, hbz⟩
              have HZ := Lib.hid (HB5.out.trans (hbz.mono HB5.out.size))
              clear hbz
              go_wp2
              go_ret
              exact ⟨rfl, HZ.out⟩
            · obtain ⟨hz, hee⟩ := add_far (we := we) (hs := hs) (d := d) hnear (by omega)
              have e1 : (addV we hs d n == 0) = true := by simp [hz]
              clear hz
              go_wp2_with (go_at_call 21; refine (near_any _ _).mono ?_; rintro e w' ⟨rfl, rfl⟩)
              refine (Add_any _ _ we hs d n _ (ints_later H0.out HB.out (Nat.le_refl _)) (ints_later H1.out HB.out (Nat.le_refl _)) hn hn').mono ?_
              rintro e w2 ⟨rfl, hb2⟩
              have st2 := ST.out.later hb2
              obtain ⟨c0, c1, c2, c3, lt2, hbb2⟩ := id st2
              have HB2 := Lib.hid hbb2
              have ST2 := Lib.hid st2
              clear hb2 st2 hbb2
              rcases hee with h13 | ⟨h1, hck⟩
              · have e2 : (addE we hs d n == 13) = true := by simp [h13]
                clear h13
                go_wp2_with fail
                refine (awake_any _).mono ?_
                rintro e wz ⟨rfl, hbz⟩
                have HZ := Lib.hid (HB2.out.trans (hbz.mono HB2.out.size))
                clear hbz
                go_wp2
                go_ret
                exact ⟨rfl, HZ.out⟩
              · have e2 : (addE we hs d n == 13) = false := by simp [h1]
                have e3 : (addE we hs d n == 1) = true := by simp [h1]
                have e4 : (chk we hs != 0) = true := by simp [hck]
                clear h1 hck
                go_wp2_with fail
                refine (rCheck_any _ _ we hs _ (ints_later H0.out HB2.out (Nat.le_refl _)) (ints_later H1.out HB2.out (Nat.le_refl _))).mono ?_
                rintro e w3 ⟨rfl, hb3⟩
                have HB3 := Lib.hid (HB2.out.trans (hb3.mono HB2.out.size))
                clear hb3
                go_wp2_with fail
                refine (awake_any _).mono ?_
                rintro e wz ⟨rfl, hbz⟩
                have HZ := Lib.hid (HB3.out.trans (hbz.mono HB3.out.size))
                clear hbz
                go_wp2
                go_ret
                exact ⟨rfl, HZ.out⟩
            · obtain ⟨hz, hee⟩ := add_far (we := we) (hs := hs) (d := d) hnear (by omega)
              have e1 : (addV we hs d n == 0) = true := by simp [hz]
              clear hz
              go_wp2_with (go_at_call 21; refine (near_any _ _).mono ?_; rintro e w' ⟨rfl, rfl⟩)
              refine (Add_any _ _ we hs d n _ (ints_later H0.out HB.out (Nat.le_refl _)) (ints_later H1.out HB.out (Nat.le_refl _)) hn hn').mono ?_
              rintro e w2 ⟨rfl, hb2⟩
              have st2 := ST.out.later hb2
              obtain ⟨c0, c1, c2, c3, lt2, hbb2⟩ := id st2
              have HB2 := Lib.hid hbb2
              have ST2 := Lib.hid st2
              clear hb2 st2 hbb2
              rcases hee with h13 | ⟨h1, hck⟩
              · have e2 : (addE we hs d n == 13) = true := by simp [h13]
                clear h13
                go_wp2_with fail
                refine (awake_any _).mono ?_
                rintro e wz ⟨rfl, hbz⟩
                have HZ := Lib.hid (HB2.out.trans (hbz.mono HB2.out.size))
                clear hbz
                go_wp2
                go_ret
                exact ⟨rfl, HZ.out⟩
              · have e2 : (addE we hs d n == 13) = false := by simp [h1]
                have e3 : (addE we hs d n == 1) = true := by simp [h1]
                have e4 : (chk we hs != 0) = true := by simp [hck]
                clear h1 hck
                go_wp2_with fail
                refine (rCheck_any _ _ we hs _ (ints_later H0.out HB2.out (Nat.le_refl _)) (ints_later H1.out HB2.out (Nat.le_refl _))).mono ?_
                rintro e w3 ⟨rfl, hb3⟩
                have HB3 := Lib.hid (HB2.out.trans (hb3.mono HB2.out.size))
                clear hb3
                go_wp2_with fail
                refine (awake_any _).mono ?_
                rintro e wz ⟨rfl, hbz⟩
                have HZ := Lib.hid (HB3.out.trans (hbz.mono HB3.out.size))
                clear hbz
                go_wp2
                go_ret
                exact ⟨rfl, HZ.out⟩
        · rcases (show (-400 ≤ n ∧ n ≤ 400) ∨ n < -400 ∨ 400 < n by omega) with ⟨n1, n2⟩ | hlo | hhi
          · have q1 : -400 ≤ n := by omega
            have q2 : n ≤ 400 := by omega
            go_wp2_with (go_at_call 21; refine (near_any _ _).mono ?_; rintro e w' ⟨rfl, rfl⟩)
            refine (Add_any _ _ we hs d n _ (ints_later H0.out HB.out (Nat.le_refl _)) (ints_later H1.out HB.out (Nat.le_refl _)) hn hn').mono ?_
            rintro e w2 ⟨rfl, hb2⟩
            have st2 := ST.out.later hb2
            obtain ⟨c0, c1, c2, c3, lt2, hbb2⟩ := id st2
            have HB2 := Lib.hid hbb2
            have ST2 := Lib.hid st2
            clear hb2 st2 hbb2
            go_wp2_with fail
            refine (rAdd_any _ _ we hs d n _ (ints_later H0.out HB2.out (Nat.le_refl _)) (ints_later H1.out HB2.out (Nat.le_refl _)) hn hn').mono ?_
            rintro e w3 ⟨rfl, hb3⟩
            have st3 := ST2.out.later hb3
            obtain ⟨c0, c1, c2, c3, lt3, hbb3⟩ := id st3
            have HB3 := Lib.hid hbb3
            have ST3 := Lib.hid st3
            clear hb3 st3 hbb3
            go_wp2_with fail
            refine (Count_any _ _ we hs a b _ (ints_later H0.out HB3.out (Nat.le_refl _)) (ints_later H1.out HB3.out (Nat.le_refl _))).mono ?_
            rintro e w4 ⟨rfl, hb4⟩
            have st4 := ST3.out.later hb4
            obtain ⟨c0, c1, c2, c3, lt4, hbb4⟩ := id st4
            have HB4 := Lib.hid hbb4
            have ST4 := Lib.hid st4
            clear hb4 st4 hbb4
            go_wp2_with fail
            refine (rCount_any _ _ we hs a b _ (ints_later H0.out HB4.out (Nat.le_refl _)) (ints_later H1.out HB4.out (Nat.le_refl _))).mono ?_
            rintro e w5 ⟨rfl, hb5⟩
            have st5 := ST4.out.later hb5
            obtain ⟨c0, c1, c2, c3, lt5, hbb5⟩ := id st5
            have HB5 := Lib.hid hbb5
            have ST5 := Lib.hid st5
            clear hb5 st5 hbb5
            go_wp2_with fail
            refine (awake_any _).mono ?_
            rintro e wz ⟨rfl, hbz⟩
            have HZ := Lib.hid (HB5.out.trans (hbz.mono HB5.out.size))
            clear hbz
            go_wp2
            go_ret
            exact ⟨rfl, HZ.out⟩
          · obtain ⟨hz, hee⟩ := add_far (we := we) (hs := hs) (d := d) hnear (by omega)
            have e1 : (addV we hs d n == 0) = true := by simp [hz]
            clear hz
            go_wp2_with (go_at_call 21; refine (near_any _ _).mono ?_; rintro e w' ⟨rfl, rfl⟩)
            refine (Add_any _ _ we hs d n _ (ints_later H0.out HB.out (Nat.le_refl _)) (ints_later H1.out HB.out (Nat.le_refl _)) hn hn').mono ?_
            rintro e w2 ⟨rfl, hb2⟩
            have st2 := ST.out.later hb2
            obtain ⟨c0, c1, c2, c3, lt2, hbb2⟩ := id st2
            have HB2 := Lib.hid hbb2
            have ST2 := Lib.hid st2
            clear hb2 st2 hbb2
            rcases hee with h13 | ⟨h1, hck⟩
            · have e2 : (addE we hs d n == 13) = true := by simp [h13]
              clear h13
              go_wp2_with fail
              refine (awake_any _).mono ?_
              rintro e wz ⟨rfl, hbz⟩
              have HZ := Lib.hid (HB2.out.trans (hbz.mono HB2.out.size))
              clear hbz
              go_wp2
              go_ret
              exact ⟨rfl, HZ.out⟩
            · have e2 : (addE we hs d n == 13) = false := by simp [h1]
              have e3 : (addE we hs d n == 1) = true := by simp [h1]
              have e4 : (chk we hs != 0) = true := by simp [hck]
              clear h1 hck
              go_wp2_with fail
              refine (rCheck_any _ _ we hs _ (ints_later H0.out HB2.out (Nat.le_refl _)) (ints_later H1.out HB2.out (Nat.le_refl _))).mono ?_
              rintro e w3 ⟨rfl, hb3⟩
              have HB3 := Lib.hid (HB2.out.trans (hb3.mono HB2.out.size))
              clear hb3
              go_wp2_with fail
              refine (awake_any _).mono ?_
              rintro e wz ⟨rfl, hbz⟩
              have HZ := Lib.hid (HB3.out.trans (hbz.mono HB3.out.size))
              clear hbz
              go_wp2
              go_ret
              exact ⟨rfl, HZ.out⟩
          · obtain ⟨hz, hee⟩ := add_far (we := we) (hs := hs) (d := d) hnear (by omega)
            have e1 : (addV we hs d n == 0) = true := by simp [hz]
            clear hz
            go_wp2_with (go_at_call 21; refine (near_any _ _).mono ?_; rintro e w' ⟨rfl, rfl⟩)
            refine (Add_any _ _ we hs d n _ (ints_later H0.out HB.out (Nat.le_refl _)) (ints_later H1.out HB.out (Nat.le_refl _)) hn hn').mono ?_
            rintro e w2 ⟨rfl, hb2⟩
            have st2 := ST.out.later hb2
            obtain ⟨c0, c1, c2, c3, lt2, hbb2⟩ := id st2
            have HB2 := Lib.hid hbb2
            have ST2 := Lib.hid st2
            clear hb2 st2 hbb2
            rcases hee with h13 | ⟨h1, hck⟩
            · have e2 : (addE we hs d n == 13) = true := by simp [h13]
              clear h13
              go_wp2_with fail
              refine (awake_any _).mono ?_
              rintro e wz ⟨rfl, hbz⟩
              have HZ := Lib.hid (HB2.out.trans (hbz.mono HB2.out.size))
              clear hbz
              go_wp2
              go_ret
              exact ⟨rfl, HZ.out⟩
            · have e2 : (addE we hs d n == 13) = false := by simp [h1]
              have e3 : (addE we hs d n == 1) = true := by simp [h1]
              have e4 : (chk we hs != 0) = true := by simp [hck]
              clear h1 hck
              go_wp2_with fail
              refine (rCheck_any _ _ we hs _ (ints_later H0.out HB2.out (Nat.le_refl _)) (ints_later H1.out HB2.out (Nat.le_refl _))).mono ?_
              rintro e w3 ⟨rfl, hb3⟩
              have HB3 := Lib.hid (HB2.out.trans (hb3.mono HB2.out.size))
              clear hb3
              go_wp2_with fail
              refine (awake_any _).mono ?_
              rintro e wz ⟨rfl, hbz⟩
              have HZ := Lib.hid (HB3.out.trans (hbz.mono HB3.out.size))
              clear hbz
              go_wp2
              go_ret
              exact ⟨rfl, HZ.out⟩
      · rcases (show (-400 ≤ n ∧ n ≤ 400) ∨ n < -400 ∨ 400 < n by omega) with ⟨n1, n2⟩ | hlo | hhi
        · have q1 : -400 ≤ n := by omega
          have q2 : n ≤ 400 := by omega
          go_wp2_with (go_at_call 21; refine (near_any _ _).mono ?_; rintro e w' ⟨rfl, rfl⟩)
          refine (Add_any _ _ we hs d n _ (ints_later H0.out HB.out (Nat.le_refl _)) (ints_later H1.out HB.out (Nat.le_refl _)) hn hn').mono ?_
          rintro e w2 ⟨rfl, hb2⟩
          have st2 := ST.out.later hb2
          obtain ⟨c0, c1, c2, c3, lt2, hbb2⟩ := id st2
          have HB2 := Lib.hid hbb2
          have ST2 := Lib.hid st2
          clear hb2 st2 hbb2
          go_wp2_with fail
          refine (rAdd_any _ _ we hs d n _ (ints_later H0.out HB2.out (Nat.le_refl _)) (ints_later H1.out HB2.out (Nat.le_refl _)) hn hn').mono ?_
          rintro e w3 ⟨rfl, hb3⟩
          have st3 := ST2.out.later hb3
          obtain ⟨c0, c1, c2, c3, lt3, hbb3⟩ := id st3
          have HB3 := Lib.hid hbb3
          have ST3 := Lib.hid st3
          clear hb3 st3 hbb3
          go_wp2_with fail
          refine (Count_any _ _ we hs a b _ (ints_later H0.out HB3.out (Nat.le_refl _)) (ints_later H1.out HB3.out (Nat.le_refl _))).mono ?_
          rintro e w4 ⟨rfl, hb4⟩
          have st4 := ST3.out.later hb4
          obtain ⟨c0, c1, c2, c3, lt4, hbb4⟩ := id st4
          have HB4 := Lib.hid hbb4
          have ST4 := Lib.hid st4
          clear hb4 st4 hbb4
          go_wp2_with fail
          refine (rCount_any _ _ we hs a b _ (ints_later H0.out HB4.out (Nat.le_refl _)) (ints_later H1.out HB4.out (Nat.le_refl _))).mono ?_
          rintro e w5 ⟨rfl, hb5⟩
          have st5 := ST4.out.later hb5
          obtain ⟨c0, c1, c2, c3, lt5, hbb5⟩ := id st5
          have HB5 := Lib.hid hbb5
          have ST5 := Lib.hid st5
          clear hb5 st5 hbb5
          go_wp2_with fail
          refine (awake_any _).mono ?_
          rintro e wz ⟨rfl, hbz⟩
          have HZ := Lib.hid (HB5.out.trans (hbz.mono HB5.out.size))
          clear hbz
          go_wp2
          go_ret
          exact ⟨rfl, HZ.out⟩
        · obtain ⟨hz, hee⟩ := add_far (we := we) (hs := hs) (d := d) hnear (by omega)
          have e1 : (addV we hs d n == 0) = true := by simp [hz]
          clear hz
          go_wp2_with (go_at_call 21; refine (near_any _ _).mono ?_; rintro e w' ⟨rfl, rfl⟩)
          refine (Add_any _ _ we hs d n _ (ints_later H0.out HB.out (Nat.le_refl _)) (ints_later H1.out HB.out (Nat.le_refl _)) hn hn').mono ?_
          rintro e w2 ⟨rfl, hb2⟩
          have st2 := ST.out.later hb2
          obtain ⟨c0, c1, c2, c3, lt2, hbb2⟩ := id st2
          have HB2 := Lib.hid hbb2
          have ST2 := Lib.hid st2
          clear hb2 st2 hbb2
          rcases hee with h13 | ⟨h1, hck⟩
          · have e2 : (addE we hs d n == 13) = true := by simp [h13]
            clear h13
            go_wp2_with fail
            refine (awake_any _).mono ?_
            rintro e wz ⟨rfl, hbz⟩
            have HZ := Lib.hid (HB2.out.trans (hbz.mono HB2.out.size))
            clear hbz
            go_wp2
            go_ret
            exact ⟨rfl, HZ.out⟩
          · have e2 : (addE we hs d n == 13) = false := by simp [h1]
            have e3 : (addE we hs d n == 1) = true := by simp [h1]
            have e4 : (chk we hs != 0) = true := by simp [hck]
            clear h1 hck
            go_wp2_with fail
            refine (rCheck_any _ _ we hs _ (ints_later H0.out HB2.out (Nat.le_refl _)) (ints_later H1.out HB2.out (Nat.le_refl _))).mono ?_
            rintro e w3 ⟨rfl, hb3⟩
            have HB3 := Lib.hid (HB2.out.trans (hb3.mono HB2.out.size))
            clear hb3
            go_wp2_with fail
            refine (awake_any _).mono ?_
            rintro e wz ⟨rfl, hbz⟩
            have HZ := Lib.hid (HB3.out.trans (hbz.mono HB3.out.size))
            clear hbz
            go_wp2
            go_ret
            exact ⟨rfl, HZ.out⟩
        · obtain ⟨hz, hee⟩ := add_far (we := we) (hs := hs) (d := d) hnear (by omega)
          have e1 : (addV we hs d n == 0) = true := by simp [hz]
          clear hz
          go_wp2_with (go_at_call 21; refine (near_any _ _).mono ?_; rintro e w' ⟨rfl, rfl⟩)
          refine (Add_any _ _ we hs d n _ (ints_later H0.out HB.out (Nat.le_refl _)) (ints_later H1.out HB.out (Nat.le_refl _)) hn hn').mono ?_
          rintro e w2 ⟨rfl, hb2⟩
          have st2 := ST.out.later hb2
          obtain ⟨c0, c1, c2, c3, lt2, hbb2⟩ := id st2
          have HB2 := Lib.hid hbb2
          have ST2 := Lib.hid st2
          clear hb2 st2 hbb2
          rcases hee with h13 | ⟨h1, hck⟩
          · have e2 : (addE we hs d n == 13) = true := by simp [h13]
            clear h13
            go_wp2_with fail
            refine (awake_any _).mono ?_
            rintro e wz ⟨rfl, hbz⟩
            have HZ := Lib.hid (HB2.out.trans (hbz.mono HB2.out.size))
            clear hbz
            go_wp2
            go_ret
            exact ⟨rfl, HZ.out⟩
          · have e2 : (addE we hs d n == 13) = false := by simp [h1]
            have e3 : (addE we hs d n == 1) = true := by simp [h1]
            have e4 : (chk we hs != 0) = true := by simp [hck]
            clear h1 hck
            go_wp2_with fail
            refine (rCheck_any _ _ we hs _ (ints_later H0.out HB2.out (Nat.le_refl _)) (ints_later H1.out HB2.out (Nat.le_refl _))).mono ?_
            rintro e w3 ⟨rfl, hb3⟩
            have HB3 := Lib.hid (HB2.out.trans (hb3.mono HB2.out.size))
            clear hb3
            go_wp2_with fail
            refine (awake_any _).mono ?_
            rintro e wz ⟨rfl, hbz⟩
            have HZ := Lib.hid (HB3.out.trans (hbz.mono HB3.out.size))
            clear hbz
            go_wp2
            go_ret
            exact ⟨rfl, HZ.out⟩
  · go_wp2_with fail
    refine (awake_any _).mono ?_
    rintro e wz ⟨rfl, hbz⟩
    have HZ := Lib.hid (HB.out.trans (hbz.mono HB.out.size))
    clear hbz
    go_wp2
    go_ret
    exact ⟨rfl, HZ.out⟩

end Go.Proofs.Ytilbolgncpfmmaa
