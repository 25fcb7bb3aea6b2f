/- The walk of the law CalendarAdds, for this seat. -/
import Derived.Test.YtilbolgncpfmmaaCounts
import Derived.Test.YtilbolgncpfmmaaPlainB
namespace Go.Proofs.Ytilbolgncpfmmaa
open Go.RowKit

theorem dense_isB {we hs : List Int} (hw : we.length < 7) (hh : hs.length ≤ 20) : Dense (isB we hs) :=
  dense_of hw hh fun x h1 h2 h3 h4 => by
    unfold isB memB wkd
    rw [vB_of h1 h2, h3]
    simp only [if_true]
    rw [h4]; rfl

/-- the i-th business day behind f -/
def nthB (we hs : List Int) (f : Int) (i : Nat) : Int := oV (addO (isB we hs) 1 i f)

structure AddFacts (we hs : List Int) (d f : Int) (k : Nat) : Prop where
  nv : nextV we hs 1 d = f
  ne : nextE we hs 1 d = 0
  f1 : -24567 ≤ f
  f2 : f ≤ 83151
  tv : addV we hs f k = nthB we hs f k
  te : addE we hs f k = 0
  bv : addV we hs (nthB we hs f k) (-k) = f
  be : addE we hs (nthB we hs f k) (-k) = 0
  cv : cntV we hs f (nthB we hs f k) = k
  ce : cntE we hs f (nthB we hs f k) = 0
  s0 : nthB we hs f 0 = f
  step : ∀ i, i < k → addV we hs (nthB we hs f i) 1 = nthB we hs f (i + 1) ∧ addE we hs (nthB we hs f i) 1 = 0 ∧ nthB we hs f i < nthB we hs f (i + 1)

theorem addOpt_pos {we hs : List Int} {f : Int} {k : Nat} (hk : 0 < k) : addOpt we hs f k = addO (isB we hs) 1 k f := by
  rw [addOpt, if_neg (by omega), show sg (k : Int) = 1 by (unfold sg; rw [if_neg (by omega)]), Int.natAbs_natCast]
theorem addOpt_neg {we hs : List Int} {f : Int} {k : Nat} (hk : 0 < k) : addOpt we hs f (-k) = addO (isB we hs) (-1) k f := by
  rw [addOpt, if_neg (by omega), show sg (-(k : Int)) = -1 by (unfold sg; rw [if_pos (by omega)]), Int.natAbs_neg, Int.natAbs_natCast]
theorem first_self {we hs : List Int} {f : Int} (hv : vB f = true) (hp : isB we hs f = true) : firstO we hs 1 f = some f := by
  rw [firstO, blR_yes (Start.of_valid (.inl rfl) hv) hv hp]; rfl
theorem add_of {we hs : List Int} {d n y : Int} (hc : chk we hs = 0) (hv : vB d = true) (h : addOpt we hs d n = some y) : addV we hs d n = y ∧ addE we hs d n = 0 := by
  rw [addV, addE, if_pos (chkD_ok1 hc hv), if_pos (chkD_ok1 hc hv), h]; exact ⟨rfl, rfl⟩

theorem add_facts {we hs : List Int} {d : Int} (hc : chk we hs = 0) (hw : we.length < 7) (hh : hs.length ≤ 20) (d1 : -24567 ≤ d) (d2 : d ≤ 83005) (k : Nat) (hk : k ≤ 59) : ∃ f, AddFacts we hs d f k := by
  have hd := dense_isB hw hh
  obtain ⟨f, a1, a2, a3, a4, -⟩ := next_near hd (d := d) (by omega) d2
  have hvf : vB f = true := vB_of (by omega) (by omega)
  have ch : ∀ i, i ≤ 59 → addO (isB we hs) 1 i f = some (nthB we hs f i) ∧ addO (isB we hs) (-1) i (nthB we hs f i) = some f ∧ f ≤ nthB we hs f i ∧ nthB we hs f i ≤ f + 553 ∧ isB we hs (nthB we hs f i) = true ∧ cnt (isB we hs) (nthB we hs f i - f).toNat f = i := by
    intro i hi
    obtain ⟨y, b1, b2, b3, b4, b5, b6⟩ := chain hd (f := f) (by omega) (by omega) a4 i hi
    have : nthB we hs f i = y := by rw [nthB, b1]; rfl
    rw [this]; exact ⟨b1, b2, b3, b4, b5, b6⟩
  have hv : ∀ i, i ≤ 59 → vB (nthB we hs f i) = true := fun i hi => by
    obtain ⟨-, -, h3, h4, -⟩ := ch i hi; exact vB_of (by omega) (by omega)
  obtain ⟨c1, c2, c3, c4, c5, c6⟩ := ch k hk
  have s0 : nthB we hs f 0 = f := rfl
  have ht : addOpt we hs f k = some (nthB we hs f k) := by
    rcases Nat.eq_zero_or_pos k with h | h
    · subst h; rw [addOpt, if_pos (by omega)]; exact first_self hvf a4
    · rw [addOpt_pos h]; exact c1
  have hb : addOpt we hs (nthB we hs f k) (-k) = some f := by
    rcases Nat.eq_zero_or_pos k with h | h
    · subst h; rw [s0, addOpt, if_pos (by omega)]; exact first_self hvf a4
    · rw [addOpt_neg h]; exact c2
  obtain ⟨e1, e2⟩ := cnt_ok hc hvf (hv k hk) c3
  refine ⟨f, ⟨?_, ?_, by omega, by omega, (add_of hc hvf ht).1, (add_of hc hvf ht).2, (add_of hc (hv k hk) hb).1, (add_of hc (hv k hk) hb).2, by rw [e2, c6], e1, s0, fun i hi => ?_⟩⟩
  · rw [nextV, if_pos (chkD_ok1 hc (vB_of (by omega) (by omega))), firstO, a1]; rfl
  · rw [nextE, if_pos (chkD_ok1 hc (vB_of (by omega) (by omega))), firstO, a1]; rfl
  · obtain ⟨g1, -, g3, g4, g5, -⟩ := ch i (by omega)
    obtain ⟨g1', -⟩ := ch (i + 1) (by omega)
    have h1 := g1'
    rw [addO_snoc, g1, Option.bind_some] at h1
    have hone : addOpt we hs (nthB we hs f i) 1 = some (nthB we hs f (i + 1)) := by
      have := addOpt_pos (we := we) (hs := hs) (f := nthB we hs f i) (k := 1) (by omega)
      rw [show ((1 : Nat) : Int) = 1 from rfl] at this
      rw [this, addO, h1]; rfl
    refine ⟨(add_of hc (hv i (by omega)) hone).1, (add_of hc (hv i (by omega)) hone).2, ?_⟩
    cases hbl : blR (isB we hs) 1 (nthB we hs f i + 1) with
    | nil => rw [hbl] at h1; cases h1
    | cons q t =>
      rw [hbl] at h1
      have hq : q = nthB we hs f (i + 1) := by simpa using h1
      obtain ⟨u1, -⟩ := head_next (p := isB we hs) _ _ hbl
      omega

set_option maxRecDepth 100000 in
set_option maxHeartbeats 1000000 in
theorem adds_any (v0 v1 : Value) (we hs : List Int) (d a : Int) (w : World) (h0 : IntsAt w w.heap.size v0 we) (h1 : IntsAt w w.heap.size v1 hs) (ha : 0 ≤ a) (ha' : a ≤ 255) :
    Calls Try.prog 4 #[.agg #[v0, v1], .int .i64 d, .int .u8 a] w fun e w' => e = .returned (.bool true) ∧ Below w.heap.size w w' := by
  have H0 := Lib.hid h0
  have H1 := Lib.hid h1
  obtain ⟨A1, n1, rfl, l1, -⟩ := h1
  clear h0
  go_enter Try.func4, Try.ntmps4
  go_wp2_with fail
  refine (fine_any _ _ we hs d _ (ints_alloc H0.out _) (ints_alloc H1.out _)).mono ?_
  rintro e w1 ⟨rfl, hw1⟩
  have sc1 : Sc w w1 v0 (.slice A1 hs.length n1) := Sc.start.later hw1
  clear hw1
  obtain ⟨c0, c1, lt1, hb1⟩ := id sc1
  have HB := Lib.hid hb1
  have SC := Lib.hid sc1
  clear hb1 sc1
  cases hf : fineB we hs d
  · go_wp2_with fail
    refine (awake_any _).mono ?_
    rintro e wz ⟨rfl, hbz⟩
    have HZ := Lib.hid (HB.out.trans (hbz.mono HB.out.size))
    clear hbz
    go_wp2
    go_ret
    exact ⟨rfl, HZ.out⟩
  · by_cases h20 : 20 < hs.length
    · go_wp2_with fail
      refine (awake_any _).mono ?_
      rintro e wz ⟨rfl, hbz⟩
      have HZ := Lib.hid (HB.out.trans (hbz.mono HB.out.size))
      clear hbz
      go_wp2
      go_ret
      exact ⟨rfl, HZ.out⟩
    · obtain ⟨-, hck, hw7, d1, d2⟩ := fineB_iff.1 hf
      obtain ⟨k, hk⟩ : ∃ k : Nat, a % 60 = k := ⟨(a % 60).toNat, by omega⟩
      have hk' : k < 60 := by omega
      obtain ⟨f, AF⟩ := add_facts hck hw7 (by omega) d1 d2 k (by omega)
      have HAF := Lib.hid AF
      have f1 := AF.f1
      have f2 := AF.f2
      clear AF hck
      go_wp2_with fail
      refine (Next_any _ _ we hs d _ (ints_later H0.out HB.out (Nat.le_refl _)) (ints_later H1.out HB.out (Nat.le_refl _))).mono ?_
      rintro e w2 ⟨rfl, hb2⟩
      have sc2 := SC.out.later hb2
      obtain ⟨c0, c1, lt2, hbb2⟩ := id sc2
      have HB2 := Lib.hid hbb2
      have SC2 := Lib.hid sc2
      clear hb2 sc2 hbb2
      rw [HAF.out.nv, HAF.out.ne]
      go_wp2_with fail
      refine (Add_any _ _ we hs f k _ (ints_later H0.out HB2.out (Nat.le_refl _)) (ints_later H1.out HB2.out (Nat.le_refl _)) (by omega) (by omega)).mono ?_
      rintro e w3 ⟨rfl, hb3⟩
      have sc3 := SC2.out.later hb3
      obtain ⟨c0, c1, lt3, hbb3⟩ := id sc3
      have HB3 := Lib.hid hbb3
      have SC3 := Lib.hid sc3
      clear hb3 sc3 hbb3
      rw [HAF.out.tv, HAF.out.te]
      go_wp2_with fail
      refine (Add_any _ _ we hs (nthB we hs f k) (-k) _ (ints_later H0.out HB3.out (Nat.le_refl _)) (ints_later H1.out HB3.out (Nat.le_refl _)) (by omega) (by omega)).mono ?_
      rintro e w4 ⟨rfl, hb4⟩
      have sc4 := SC3.out.later hb4
      obtain ⟨c0, c1, lt4, hbb4⟩ := id sc4
      have HB4 := Lib.hid hbb4
      have SC4 := Lib.hid sc4
      clear hb4 sc4 hbb4
      rw [HAF.out.bv, HAF.out.be]
      go_wp2_with fail
      refine (Count_any _ _ we hs f (nthB we hs f k) _ (ints_later H0.out HB4.out (Nat.le_refl _)) (ints_later H1.out HB4.out (Nat.le_refl _))).mono ?_
      rintro e w5 ⟨rfl, hb5⟩
      have sc5 := SC4.out.later hb5
      obtain ⟨c0, c1, lt5, hbb5⟩ := id sc5
      have HB5 := Lib.hid hbb5
      have SC5 := Lib.hid sc5
      clear hb5 sc5 hbb5
      rw [HAF.out.cv, HAF.out.ce]
      go_wp2
      go_loopw [16, 88] (fun x i wr => ∃ j : Nat, j ≤ k ∧ i = .int .i64 j ∧ x = .int .i64 (nthB we hs f j) ∧ Below w5.heap.size w5 wr) (fun _ i _ => k - (intOf i).toNat)
      case atStart => exact ⟨0, by omega, rfl, by rw [HAF.out.s0], Below.refl _ _⟩
      case round =>
        obtain ⟨j, hj, rfl, rfl, hbr⟩ := hrel
        have scr := SC5.out.later hbr
        obtain ⟨e0, e1, ltr, hbbr⟩ := id scr
        have HBR := Lib.hid hbbr
        have HBR' := Lib.hid hbr
        clear hbr scr hbbr c0 c1
        by_cases hlt : j < k
        · obtain ⟨t1, t2, t3⟩ := HAF.out.step j hlt
          have T1 := Lib.hid t1
          have T2 := Lib.hid t2
          clear t1 t2
          go_wp2_with fail
          refine (Add_any _ _ we hs (nthB we hs f j) 1 _ (ints_later H0.out HBR.out (Nat.le_refl _)) (ints_later H1.out HBR.out (Nat.le_refl _)) (by omega) (by omega)).mono ?_
          rintro e w6 ⟨rfl, hb6⟩
          have HB6 := Lib.hid (HBR'.out.trans (hb6.mono HBR'.out.size))
          clear hb6
          rw [T1.out, T2.out]
          go_wp2
          go_roundw
          case rel => exact ⟨j + 1, by omega, by go_num, rfl, HB6.out⟩
          case measure => simp [intOf]; omega
        · obtain rfl : j = k := by omega
          go_wp2_with fail
          refine (awake_any _).mono ?_
          rintro e wz ⟨rfl, hbz⟩
          have HZ := Lib.hid (HBR.out.trans (hbz.mono HBR.out.size))
          clear hbz
          go_wp2
          go_ret
          exact ⟨rfl, HZ.out⟩
end Go.Proofs.Ytilbolgncpfmmaa
