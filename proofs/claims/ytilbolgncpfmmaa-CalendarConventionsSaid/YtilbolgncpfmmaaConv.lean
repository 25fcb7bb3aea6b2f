/- The walk of the law CalendarConventions, for this seat. -/
import Derived.Test.YtilbolgncpfmmaaAdds
namespace Go.Proofs.Ytilbolgncpfmmaa
open Go.RowKit

def lastV (d : Int) : Int := if vB d then num (pY d) (pM d) (mlen (pY d) (pM d)) else 0

theorem num_first (y m e : Int) : num y m e = num y m 1 + e - 1 := by unfold num; omega
theorem okDate_in {y m d : Int} (h : okDate y m d = true) {e : Int} (h1 : 1 ≤ e) (h2 : e ≤ mlen y m) : okDate y m e = true := by
  obtain ⟨a, b, c, f, -, -⟩ := okDate_iff.1 h
  exact okDate_iff.2 ⟨a, b, c, f, h1, h2⟩
theorem month_iff {d z : Int} (hd : vB d = true) (hz : vB z = true) : (pY z = pY d ∧ pM z = pM d) ↔ (num (pY d) (pM d) 1 ≤ z ∧ z ≤ num (pY d) (pM d) (mlen (pY d) (pM d))) := by
  obtain ⟨h1, h2⟩ := parts_ok hd
  obtain ⟨k1, k2⟩ := parts_ok hz
  obtain ⟨-, -, -, -, k5, k6⟩ := okDate_iff.1 k1
  constructor
  · rintro ⟨e1, e2⟩
    rw [e1, e2] at k2 k6
    rw [num_first] at k2 ⊢
    rw [num_first (pY d) (pM d) (mlen (pY d) (pM d))]
    omega
  · rintro ⟨e1, e2⟩
    rw [num_first (pY d) (pM d) (mlen (pY d) (pM d))] at e2
    have ho := okDate_in h1 (e := z - num (pY d) (pM d) 1 + 1) (by omega) (by omega)
    have hn : num (pY d) (pM d) (z - num (pY d) (pM d) 1 + 1) = z := by rw [num_first]; omega
    obtain ⟨a, b, -⟩ := parts_num ho
    rw [hn] at a b
    exact ⟨a, b⟩

set_option maxHeartbeats 400000 in
theorem Last_any (d : Int) (w : World) (hv : vB d = true) : Calls Try.prog 39 #[.int .i64 d] w fun e w' => e = .returned (.tuple #[.int .i64 (lastV d), .int .i64 0]) ∧ Below w.heap.size w w' := by
  obtain ⟨ho, -⟩ := parts_ok hv
  obtain ⟨y1, y2, m1, m2, -, -⟩ := okDate_iff.1 ho
  have hl := mlen_bd (pY d) (pM d)
  have e1 : ptY d = pY d := by rw [ptY, if_pos hv]
  have e2 : ptM d = pM d := by rw [ptM, if_pos hv]
  have e3 : dayE d = 0 := by rw [dayE, if_pos hv]
  have E1 := Lib.hid e1
  have E2 := Lib.hid e2
  have E3 := Lib.hid e3
  have HL := Lib.hid (show lastV d = num (pY d) (pM d) (mlen (pY d) (pM d)) by rw [lastV, if_pos hv])
  have HO := Lib.hid (okDate_in ho (e := mlen (pY d) (pM d)) (by omega) (by omega))
  clear ho e1 e2 e3
  go_enter Try.func39, Try.ntmps39
  go_wp2_with fail
  refine (Parts_any d _).mono ?_
  rintro e w1 ⟨rfl, hb1⟩
  have HB1 := Lib.hid hb1
  clear hb1
  rw [E1.out, E2.out, E3.out]
  go_wp2_with fail
  refine (length_any _ _ _ (by omega) (by omega) (by omega)).mono ?_
  rintro e w2 ⟨rfl, hb2⟩
  have HB2 := Lib.hid (HB1.out.trans (hb2.mono HB1.out.size))
  clear hb2
  go_wp2_with fail
  refine (Of_yes _ _ _ _ HO.out).mono ?_
  rintro e w3 ⟨rfl, hb3⟩
  have HB3 := Lib.hid (HB2.out.trans (hb3.mono HB2.out.size))
  clear hb3
  go_wp2
  go_ret2
  exact ⟨ret_two HL.out.symm rfl, HB3.out⟩

structure ConvF (we hs : List Int) (d c x : Int) : Prop where
  av : adjV we hs d c = x
  ae : adjE we hs d c = 0
  bv : adjV we hs x c = x
  be : adjE we hs x c = 0
  iv : bizV we hs x = true
  ie : chkD we hs [x] = 0
  xv : vB x = true
  mo : c = 3 → ¬ (ptY x = ptY d ∧ ptM x = ptM d) → cntV we hs (num (pY d) (pM d) 1) (lastV d + 1) = 0 ∧ cntE we hs (num (pY d) (pM d) 1) (lastV d + 1) = 0

theorem first_self' {we hs : List Int} {f : Int} (hv : vB f = true) (hp : isB we hs f = true) : firstO we hs (-1) f = some f := by
  rw [firstO, blR_yes (Start.of_valid (.inr rfl) hv) hv hp]; rfl
theorem sameM_self (x : Int) : sameM x x = true := by simp [sameM]

theorem conv_facts {we hs : List Int} {d : Int} (hc : chk we hs = 0) (hw : we.length < 7) (hh : hs.length ≤ 20) (d1 : -24567 ≤ d) (d2 : d ≤ 83005) (c : Int) (hc1 : 2 ≤ c) (hc2 : c ≤ 4) : ∃ x, ConvF we hs d c x := by
  have hd := dense_isB hw hh
  obtain ⟨a, p1, p2, p3, p4, p5⟩ := next_near hd (d := d) (by omega) d2
  obtain ⟨b, q1, q2, q3, q4, q5⟩ := prev_near hd (d := d) d1 (by omega)
  have hvd : vB d = true := vB_of (by omega) (by omega)
  have hva : vB a = true := vB_of (by omega) (by omega)
  have hvb : vB b = true := vB_of (by omega) (by omega)
  have hcd := chkD_ok1 hc hvd
  have fa : firstO we hs 1 d = some a := p1
  have fb : firstO we hs (-1) d = some b := q1
  have main : ∀ x, vB x = true → isB we hs x = true → adjOpt we hs d c = some x → (c = 3 → ¬ (ptY x = ptY d ∧ ptM x = ptM d) → cntV we hs (num (pY d) (pM d) 1) (lastV d + 1) = 0 ∧ cntE we hs (num (pY d) (pM d) 1) (lastV d + 1) = 0) → ConvF we hs d c x := by
    intro x hvx hpx hox hmo
    have hcx := chkD_ok1 hc hvx
    obtain ⟨u1, u2⟩ := adj_eq (o := some x) hcd (by omega) hc2 hox
    have hxx : adjOpt we hs x c = some x := by
      rw [adjOpt, if_neg (by omega)]
      by_cases h2 : c = 2
      · rw [if_pos h2]; exact first_self hvx hpx
      · rw [if_neg h2]
        by_cases h3 : c = 3
        · rw [if_pos h3, first_self hvx hpx, if_pos ⟨rfl, sameM_self x⟩]
        · rw [if_neg h3]; exact first_self' hvx hpx
    obtain ⟨u3, u4⟩ := adj_eq (o := some x) hcx (by omega) hc2 hxx
    exact ⟨u1, u2, u3, u4, by rw [bizV, if_pos hcx]; exact hpx, hcx, hvx, hmo⟩
  by_cases h2 : c = 2
  · exact ⟨a, main a hva p4 (by rw [adjOpt, if_neg (by omega), if_pos h2]; exact fa) (fun h => by omega)⟩
  · by_cases h3 : c = 3
    · by_cases hs3 : sameM a d = true
      · refine ⟨a, main a hva p4 (by rw [adjOpt, if_neg (by omega), if_neg h2, if_pos h3, fa, if_pos ⟨rfl, hs3⟩]) (fun _ hn => ?_)⟩
        exact absurd (by simpa [sameM] using hs3) hn
      · refine ⟨b, main b hvb q4 (by rw [adjOpt, if_neg (by omega), if_neg h2, if_pos h3, fa, if_neg (fun h => hs3 h.2)]; exact fb) (fun _ hn => ?_)⟩
        have na : ¬ (pY a = pY d ∧ pM a = pM d) := fun h => hs3 (by simp [sameM, ptY, ptM, hva, hvd, h.1, h.2])
        have nb : ¬ (pY b = pY d ∧ pM b = pM d) := fun h => hn (by simp [ptY, ptM, hvb, hvd, h.1, h.2])
        rw [month_iff hvd hva] at na
        rw [month_iff hvd hvb] at nb
        obtain ⟨i1, i2⟩ := (month_iff hvd hvd).1 ⟨rfl, rfl⟩
        have hl : lastV d = num (pY d) (pM d) (mlen (pY d) (pM d)) := by rw [lastV, if_pos hvd]
        have hml := mlen_bd (pY d) (pM d)
        have hnf := num_first (pY d) (pM d) (mlen (pY d) (pM d))
        obtain ⟨ho, hnum⟩ := parts_ok hvd
        have hv1 := num_valid (okDate_in ho (e := 1) (by omega) (by omega))
        have hv2 : vB (lastV d + 1) = true := vB_of (by rw [hl]; omega) (by rw [hl]; omega)
        obtain ⟨t1, t2⟩ := cnt_ok hc hv1 hv2 (by rw [hl]; omega)
        refine ⟨?_, t1⟩
        rw [t2, cnt_zero]
        · rfl
        · intro z hz1 hz2
          rcases Int.lt_or_le z d with h | h
          · exact q5 z (by omega) (by omega)
          · exact p5 z h (by rw [hl] at hz2; omega)
    · exact ⟨b, main b hvb q4 (by rw [adjOpt, if_neg (by omega), if_neg h2, if_neg h3]; exact fb) (fun h => by omega)⟩

set_option maxRecDepth 100000 in
set_option maxHeartbeats 4000000 in
theorem conv_any (v0 v1 : Value) (we hs : List Int) (d : Int) (w : World) (h0 : IntsAt w w.heap.size v0 we) (h1 : IntsAt w w.heap.size v1 hs) :
    Calls Try.prog 8 #[.agg #[v0, v1], .int .i64 d] w fun e w' => e = .returned (.bool true) ∧ Below w.heap.size w w' := by
  have H0 := Lib.hid h0
  have H1 := Lib.hid h1
  obtain ⟨A1, n1, rfl, l1, -⟩ := h1
  clear h0
  go_enter Try.func8, Try.ntmps8
  go_wp2_with fail
  refine (fine_any _ _ we hs d _ (ints_alloc H0.out _) (ints_alloc H1.out _)).mono ?_
  rintro e w1 ⟨rfl, hw1⟩
  have sc1 : Sc w w1 v0 (.slice A1 hs.length n1) := Sc.start.later hw1
  clear hw1
  obtain ⟨c0, c1, lt1, hb1⟩ := id sc1
  have HB := Lib.hid hb1
  have SC := Lib.hid sc1
  clear hb1 sc1
  cases hf : fineB we hs d
  · go_wp2_with fail
    refine (awake_any _).mono ?_
    rintro e wz ⟨rfl, hbz⟩
    have HZ := Lib.hid (HB.out.trans (hbz.mono HB.out.size))
    clear hbz
    go_wp2
    go_ret
    exact ⟨rfl, HZ.out⟩
  · by_cases h20 : 20 < hs.length
    · go_wp2_with fail
      refine (awake_any _).mono ?_
      rintro e wz ⟨rfl, hbz⟩
      have HZ := Lib.hid (HB.out.trans (hbz.mono HB.out.size))
      clear hbz
      go_wp2
      go_ret
      exact ⟨rfl, HZ.out⟩
    · obtain ⟨-, hck, hw7, d1, d2⟩ := fineB_iff.1 hf
      have hh20 : hs.length ≤ 20 := by omega
      have hvd : vB d = true := vB_of (by omega) (by omega)
      obtain ⟨ho, hnum⟩ := parts_ok hvd
      have hml := mlen_bd (pY d) (pM d)
      have OK1 := Lib.hid (okDate_in ho (e := 1) (by omega) (by omega))
      have hl1 : lastV d ≤ 84005 ∧ -25567 ≤ lastV d := by
        have := num_valid (okDate_in ho (e := mlen (pY d) (pM d)) (by omega) (by omega))
        rw [lastV, if_pos hvd]; simp only [vB, decide_eq_true_eq] at this; omega
      obtain ⟨hl2, hl3⟩ := hl1
      have EY := Lib.hid (show ptY d = pY d by rw [ptY, if_pos hvd])
      have EM := Lib.hid (show ptM d = pM d by rw [ptM, if_pos hvd])
      have ED := Lib.hid (show dayE d = 0 by rw [dayE, if_pos hvd])
      have HVD := Lib.hid hvd
      have HK := Lib.hid hck
      have HC1 := Lib.hid (chkD_ok1 hck hvd)
      clear hvd ho hnum hck hf
      go_wp2_with fail
      refine (Parts_any d _).mono ?_
      rintro e w2 ⟨rfl, hb2⟩
      have sc2 := SC.out.later hb2
      obtain ⟨c0, c1, lt2, hbb2⟩ := id sc2
      have HB2 := Lib.hid hbb2
      have SC2 := Lib.hid sc2
      clear hb2 sc2 hbb2
      rw [EY.out, EM.out, ED.out]
      go_wp2
      have sc3 : Sc w (w2.alloc (.cells #[.int .i64 2, .int .i64 3, .int .i64 4] 3)) v0 (.slice A1 hs.length n1) := SC2.out.later ((Below.refl _ _).alloc (Nat.le_refl _) _)
      have hz3 : w2.heap.size < (w2.alloc (.cells #[.int .i64 2, .int .i64 3, .int .i64 4] 3)).heap.size := by simp
      have q0 : (w2.alloc (.cells #[.int .i64 2, .int .i64 3, .int .i64 4] 3)).cell? ⟨w2.heap.size, 0, none⟩ = some (.int .i64 2) := by simp
      have q1 : (w2.alloc (.cells #[.int .i64 2, .int .i64 3, .int .i64 4] 3)).cell? ⟨w2.heap.size, 1, none⟩ = some (.int .i64 3) := by simp
      have q2 : (w2.alloc (.cells #[.int .i64 2, .int .i64 3, .int .i64 4] 3)).cell? ⟨w2.heap.size, 2, none⟩ = some (.int .i64 4) := by simp
      generalize w2.alloc (.cells #[.int .i64 2, .int .i64 3, .int .i64 4] 3) = w3 at *
      have SC3 := Lib.hid sc3
      clear sc3
      obtain ⟨B, hB⟩ : ∃ B, B = w2.heap.size := ⟨_, rfl⟩
      rw [← hB] at hz3 q0 q1 q2 ⊢
      clear hB c0 c1
      have HQ := Lib.hid (show ∀ k : Nat, k < 3 → w3.cell? ⟨B, k, none⟩ = some (.int .i64 ((k : Int) + 2)) from fun k hk => by
        rcases (show k = 0 ∨ k = 1 ∨ k = 2 by omega) with rfl | rfl | rfl
        · exact q0
        · exact q1
        · exact q2)
      clear q0 q1 q2
      go_loopw [49] (fun i wr => ∃ k : Nat, k ≤ 3 ∧ i = .int .i64 k ∧ Below w3.heap.size w3 wr) (fun i _ => 3 - (intOf i).toNat)
      case atStart => exact ⟨0, by omega, rfl, Below.refl _ _⟩
      case round =>
        obtain ⟨k, hk, rfl, hbr⟩ := hrel
        have scr := SC3.out.later hbr
        obtain ⟨c0, c1, ltr, hbbr⟩ := id scr
        have HBr := Lib.hid hbbr
        have SCr := Lib.hid scr
        have HLr := Lib.hid hbr
        clear scr hbbr
        by_cases hlt : k < 3
        · have hck : wr.cell? ⟨B, k, none⟩ = some (.int .i64 ((k : Int) + 2)) := cell_of_below hbr hz3 (HQ.out k hlt)
          clear hbr
          obtain ⟨x, F⟩ := conv_facts HK.out hw7 hh20 d1 d2 ((k : Int) + 2) (by omega) (by omega)
          have HF := Lib.hid F
          have DX := Lib.hid (show dayE x = 0 by rw [dayE, if_pos F.xv])
          clear F
          by_cases hk1 : k = 1
          · have t3 : ((k : Int) + 2 == 3) = true := by simp; omega
            have HK1 := Lib.hid (show (k : Int) + 2 = 3 by omega)
            clear hk1
            by_cases hy : ptY x = ptY d
            · have ty : (ptY x != pY d) = false := by rw [← EY.out, hy]; simp
              by_cases hm : ptM x = ptM d
              · have tm : (ptM x != pM d) = false := by rw [← EM.out, hm]; simp
                clear hy hm
                go_wp2_with fail
                refine (Adjust_any _ _ we hs d ((k : Int) + 2) _ (ints_later H0.out HBr.out (Nat.le_refl _)) (ints_later H1.out HBr.out (Nat.le_refl _))).mono ?_
                rintro e w20 ⟨rfl, hb20⟩
                have sc20 := SCr.out.later hb20
                obtain ⟨c0, c1, lt20, hbb20⟩ := id sc20
                have HB20 := Lib.hid hbb20
                have SC20 := Lib.hid sc20
                have HL20 := Lib.hid (HLr.out.trans (hb20.mono HLr.out.size))
                clear hb20 sc20 hbb20
                rw [HF.out.av, HF.out.ae]
                go_wp2_with fail
                refine (Adjust_any _ _ we hs x ((k : Int) + 2) _ (ints_later H0.out HB20.out (Nat.le_refl _)) (ints_later H1.out HB20.out (Nat.le_refl _))).mono ?_
                rintro e w21 ⟨rfl, hb21⟩
                have sc21 := SC20.out.later hb21
                obtain ⟨c0, c1, lt21, hbb21⟩ := id sc21
                have HB21 := Lib.hid hbb21
                have SC21 := Lib.hid sc21
                have HL21 := Lib.hid (HL20.out.trans (hb21.mono HL20.out.size))
                clear hb21 sc21 hbb21
                rw [HF.out.bv, HF.out.be]
                go_wp2_with fail
                refine (Business_any _ _ we hs x _ (ints_later H0.out HB21.out (Nat.le_refl _)) (ints_later H1.out HB21.out (Nat.le_refl _))).mono ?_
                rintro e w22 ⟨rfl, hb22⟩
                have sc22 := SC21.out.later hb22
                obtain ⟨c0, c1, lt22, hbb22⟩ := id sc22
                have HB22 := Lib.hid hbb22
                have SC22 := Lib.hid sc22
                have HL22 := Lib.hid (HL21.out.trans (hb22.mono HL21.out.size))
                clear hb22 sc22 hbb22
                rw [HF.out.iv, HF.out.ie]
                go_wp2_with fail
                refine (Parts_any x _).mono ?_
                rintro e w23 ⟨rfl, hb23⟩
                have sc23 := SC22.out.later hb23
                obtain ⟨c0, c1, lt23, hbb23⟩ := id sc23
                have HB23 := Lib.hid hbb23
                have SC23 := Lib.hid sc23
                have HL23 := Lib.hid (HL22.out.trans (hb23.mono HL22.out.size))
                clear hb23 sc23 hbb23
                rw [DX.out]
                go_wp2
                go_roundw
                case rel => exact ⟨k + 1, by omega, by go_num, HL23.out⟩
                case measure => simp [intOf]; omega
              · have tm : (ptM x != pM d) = true := by rw [← EM.out]; simp [hm]
                have HM := Lib.hid (HF.out.mo HK1.out (fun h => hm h.2))
                clear hy hm
                go_wp2_with fail
                refine (Adjust_any _ _ we hs d ((k : Int) + 2) _ (ints_later H0.out HBr.out (Nat.le_refl _)) (ints_later H1.out HBr.out (Nat.le_refl _))).mono ?_
                rintro e w20 ⟨rfl, hb20⟩
                have sc20 := SCr.out.later hb20
                obtain ⟨c0, c1, lt20, hbb20⟩ := id sc20
                have HB20 := Lib.hid hbb20
                have SC20 := Lib.hid sc20
                have HL20 := Lib.hid (HLr.out.trans (hb20.mono HLr.out.size))
                clear hb20 sc20 hbb20
                rw [HF.out.av, HF.out.ae]
                go_wp2_with fail
                refine (Adjust_any _ _ we hs x ((k : Int) + 2) _ (ints_later H0.out HB20.out (Nat.le_refl _)) (ints_later H1.out HB20.out (Nat.le_refl _))).mono ?_
                rintro e w21 ⟨rfl, hb21⟩
                have sc21 := SC20.out.later hb21
                obtain ⟨c0, c1, lt21, hbb21⟩ := id sc21
                have HB21 := Lib.hid hbb21
                have SC21 := Lib.hid sc21
                have HL21 := Lib.hid (HL20.out.trans (hb21.mono HL20.out.size))
                clear hb21 sc21 hbb21
                rw [HF.out.bv, HF.out.be]
                go_wp2_with fail
                refine (Business_any _ _ we hs x _ (ints_later H0.out HB21.out (Nat.le_refl _)) (ints_later H1.out HB21.out (Nat.le_refl _))).mono ?_
                rintro e w22 ⟨rfl, hb22⟩
                have sc22 := SC21.out.later hb22
                obtain ⟨c0, c1, lt22, hbb22⟩ := id sc22
                have HB22 := Lib.hid hbb22
                have SC22 := Lib.hid sc22
                have HL22 := Lib.hid (HL21.out.trans (hb22.mono HL21.out.size))
                clear hb22 sc22 hbb22
                rw [HF.out.iv, HF.out.ie]
                go_wp2_with fail
                refine (Parts_any x _).mono ?_
                rintro e w23 ⟨rfl, hb23⟩
                have sc23 := SC22.out.later hb23
                obtain ⟨c0, c1, lt23, hbb23⟩ := id sc23
                have HB23 := Lib.hid hbb23
                have SC23 := Lib.hid sc23
                have HL23 := Lib.hid (HL22.out.trans (hb23.mono HL22.out.size))
                clear hb23 sc23 hbb23
                rw [DX.out]
                go_wp2_with fail
                refine (Of_yes (pY d) (pM d) 1 _ OK1.out).mono ?_
                rintro e w24 ⟨rfl, hb24⟩
                have sc24 := SC23.out.later hb24
                obtain ⟨c0, c1, lt24, hbb24⟩ := id sc24
                have HB24 := Lib.hid hbb24
                have SC24 := Lib.hid sc24
                have HL24 := Lib.hid (HL23.out.trans (hb24.mono HL23.out.size))
                clear hb24 sc24 hbb24
                go_wp2_with fail
                refine (Last_any d _ HVD.out).mono ?_
                rintro e w25 ⟨rfl, hb25⟩
                have sc25 := SC24.out.later hb25
                obtain ⟨c0, c1, lt25, hbb25⟩ := id sc25
                have HB25 := Lib.hid hbb25
                have SC25 := Lib.hid sc25
                have HL25 := Lib.hid (HL24.out.trans (hb25.mono HL24.out.size))
                clear hb25 sc25 hbb25
                go_wp2_with fail
                refine (Count_any _ _ we hs (num (pY d) (pM d) 1) (lastV d + 1) _ (ints_later H0.out HB25.out (Nat.le_refl _)) (ints_later H1.out HB25.out (Nat.le_refl _))).mono ?_
                rintro e w26 ⟨rfl, hb26⟩
                have sc26 := SC25.out.later hb26
                obtain ⟨c0, c1, lt26, hbb26⟩ := id sc26
                have HB26 := Lib.hid hbb26
                have SC26 := Lib.hid sc26
                have HL26 := Lib.hid (HL25.out.trans (hb26.mono HL25.out.size))
                clear hb26 sc26 hbb26
                rw [HM.out.1, HM.out.2]
                go_wp2
                go_roundw
                case rel => exact ⟨k + 1, by omega, by go_num, HL26.out⟩
                case measure => simp [intOf]; omega
            · have ty : (ptY x != pY d) = true := by rw [← EY.out]; simp [hy]
              have HM := Lib.hid (HF.out.mo HK1.out (fun h => hy h.1))
              clear hy
              go_wp2_with fail
              refine (Adjust_any _ _ we hs d ((k : Int) + 2) _ (ints_later H0.out HBr.out (Nat.le_refl _)) (ints_later H1.out HBr.out (Nat.le_refl _))).mono ?_
              rintro e w20 ⟨rfl, hb20⟩
              have sc20 := SCr.out.later hb20
              obtain ⟨c0, c1, lt20, hbb20⟩ := id sc20
              have HB20 := Lib.hid hbb20
              have SC20 := Lib.hid sc20
              have HL20 := Lib.hid (HLr.out.trans (hb20.mono HLr.out.size))
              clear hb20 sc20 hbb20
              rw [HF.out.av, HF.out.ae]
              go_wp2_with fail
              refine (Adjust_any _ _ we hs x ((k : Int) + 2) _ (ints_later H0.out HB20.out (Nat.le_refl _)) (ints_later H1.out HB20.out (Nat.le_refl _))).mono ?_
              rintro e w21 ⟨rfl, hb21⟩
              have sc21 := SC20.out.later hb21
              obtain ⟨c0, c1, lt21, hbb21⟩ := id sc21
              have HB21 := Lib.hid hbb21
              have SC21 := Lib.hid sc21
              have HL21 := Lib.hid (HL20.out.trans (hb21.mono HL20.out.size))
              clear hb21 sc21 hbb21
              rw [HF.out.bv, HF.out.be]
              go_wp2_with fail
              refine (Business_any _ _ we hs x _ (ints_later H0.out HB21.out (Nat.le_refl _)) (ints_later H1.out HB21.out (Nat.le_refl _))).mono ?_
              rintro e w22 ⟨rfl, hb22⟩
              have sc22 := SC21.out.later hb22
              obtain ⟨c0, c1, lt22, hbb22⟩ := id sc22
              have HB22 := Lib.hid hbb22
              have SC22 := Lib.hid sc22
              have HL22 := Lib.hid (HL21.out.trans (hb22.mono HL21.out.size))
              clear hb22 sc22 hbb22
              rw [HF.out.iv, HF.out.ie]
              go_wp2_with fail
              refine (Parts_any x _).mono ?_
              rintro e w23 ⟨rfl, hb23⟩
              have sc23 := SC22.out.later hb23
              obtain ⟨c0, c1, lt23, hbb23⟩ := id sc23
              have HB23 := Lib.hid hbb23
              have SC23 := Lib.hid sc23
              have HL23 := Lib.hid (HL22.out.trans (hb23.mono HL22.out.size))
              clear hb23 sc23 hbb23
              rw [DX.out]
              go_wp2_with fail
              refine (Of_yes (pY d) (pM d) 1 _ OK1.out).mono ?_
              rintro e w24 ⟨rfl, hb24⟩
              have sc24 := SC23.out.later hb24
              obtain ⟨c0, c1, lt24, hbb24⟩ := id sc24
              have HB24 := Lib.hid hbb24
              have SC24 := Lib.hid sc24
              have HL24 := Lib.hid (HL23.out.trans (hb24.mono HL23.out.size))
              clear hb24 sc24 hbb24
              go_wp2_with fail
              refine (Last_any d _ HVD.out).mono ?_
              rintro e w25 ⟨rfl, hb25⟩
              have sc25 := SC24.out.later hb25
              obtain ⟨c0, c1, lt25, hbb25⟩ := id sc25
              have HB25 := Lib.hid hbb25
              have SC25 := Lib.hid sc25
              have HL25 := Lib.hid (HL24.out.trans (hb25.mono HL24.out.size))
              clear hb25 sc25 hbb25
              go_wp2_with fail
              refine (Count_any _ _ we hs (num (pY d) (pM d) 1) (lastV d + 1) _ (ints_later H0.out HB25.out (Nat.le_refl _)) (ints_later H1.out HB25.out (Nat.le_refl _))).mono ?_
              rintro e w26 ⟨rfl, hb26⟩
              have sc26 := SC25.out.later hb26
              obtain ⟨c0, c1, lt26, hbb26⟩ := id sc26
              have HB26 := Lib.hid hbb26
              have SC26 := Lib.hid sc26
              have HL26 := Lib.hid (HL25.out.trans (hb26.mono HL25.out.size))
              clear hb26 sc26 hbb26
              rw [HM.out.1, HM.out.2]
              go_wp2
              go_roundw
              case rel => exact ⟨k + 1, by omega, by go_num, HL26.out⟩
              case measure => simp [intOf]; omega
          · have t3 : ((k : Int) + 2 == 3) = false := by simp; omega
            clear hk1
            go_wp2_with fail
            refine (Adjust_any _ _ we hs d ((k : Int) + 2) _ (ints_later H0.out HBr.out (Nat.le_refl _)) (ints_later H1.out HBr.out (Nat.le_refl _))).mono ?_
            rintro e w20 ⟨rfl, hb20⟩
            have sc20 := SCr.out.later hb20
            obtain ⟨c0, c1, lt20, hbb20⟩ := id sc20
            have HB20 := Lib.hid hbb20
            have SC20 := Lib.hid sc20
            have HL20 := Lib.hid (HLr.out.trans (hb20.mono HLr.out.size))
            clear hb20 sc20 hbb20
            rw [HF.out.av, HF.out.ae]
            go_wp2_with fail
            refine (Adjust_any _ _ we hs x ((k : Int) + 2) _ (ints_later H0.out HB20.out (Nat.le_refl _)) (ints_later H1.out HB20.out (Nat.le_refl _))).mono ?_
            rintro e w21 ⟨rfl, hb21⟩
            have sc21 := SC20.out.later hb21
            obtain ⟨c0, c1, lt21, hbb21⟩ := id sc21
            have HB21 := Lib.hid hbb21
            have SC21 := Lib.hid sc21
            have HL21 := Lib.hid (HL20.out.trans (hb21.mono HL20.out.size))
            clear hb21 sc21 hbb21
            rw [HF.out.bv, HF.out.be]
            go_wp2_with fail
            refine (Business_any _ _ we hs x _ (ints_later H0.out HB21.out (Nat.le_refl _)) (ints_later H1.out HB21.out (Nat.le_refl _))).mono ?_
            rintro e w22 ⟨rfl, hb22⟩
            have sc22 := SC21.out.later hb22
            obtain ⟨c0, c1, lt22, hbb22⟩ := id sc22
            have HB22 := Lib.hid hbb22
            have SC22 := Lib.hid sc22
            have HL22 := Lib.hid (HL21.out.trans (hb22.mono HL21.out.size))
            clear hb22 sc22 hbb22
            rw [HF.out.iv, HF.out.ie]
            go_wp2_with fail
            refine (Parts_any x _).mono ?_
            rintro e w23 ⟨rfl, hb23⟩
            have sc23 := SC22.out.later hb23
            obtain ⟨c0, c1, lt23, hbb23⟩ := id sc23
            have HB23 := Lib.hid hbb23
            have SC23 := Lib.hid sc23
            have HL23 := Lib.hid (HL22.out.trans (hb23.mono HL22.out.size))
            clear hb23 sc23 hbb23
            rw [DX.out]
            go_wp2
            go_roundw
            case rel => exact ⟨k + 1, by omega, by go_num, HL23.out⟩
            case measure => simp [intOf]; omega
        · clear hbr
          obtain ⟨u1, u2⟩ := adj_eq (c := 1) (o := some d) HC1.out (by omega) (by omega) (by simp [adjOpt])
          have U1 := Lib.hid (show adjV we hs d 1 = d from u1)
          have U2 := Lib.hid (show adjE we hs d 1 = 0 from u2)
          clear u1 u2
          go_wp2_with fail
          refine (Adjust_any _ _ we hs d 1 _ (ints_later H0.out HBr.out (Nat.le_refl _)) (ints_later H1.out HBr.out (Nat.le_refl _))).mono ?_
          rintro e w30 ⟨rfl, hb30⟩
          have sc30 := SCr.out.later hb30
          obtain ⟨c0, c1, lt30, hbb30⟩ := id sc30
          have HB30 := Lib.hid hbb30
          have SC30 := Lib.hid sc30
          have HL30 := Lib.hid (HLr.out.trans (hb30.mono HLr.out.size))
          clear hb30 sc30 hbb30
          rw [U1.out, U2.out]
          go_wp2_with fail
          refine (awake_any _).mono ?_
          rintro e wz ⟨rfl, hbz⟩
          have HZ := Lib.hid (HB30.out.trans (hbz.mono HB30.out.size))
          clear hbz
          go_wp2
          go_ret
          exact ⟨rfl, HZ.out⟩
end Go.Proofs.Ytilbolgncpfmmaa
