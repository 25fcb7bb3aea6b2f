/- The walks of the reference's from, Add and Count, for this seat. -/
import Derived.Test.YtilbolgncpfmmaaBiz
import Derived.Test.YtilbolgncpfmmaaPlain2
namespace Go.Proofs.Ytilbolgncpfmmaa
open Go.RowKit

/-- what from returns -/
def firstO (we hs : List Int) (s d : Int) : Option Int := (blR (isB we hs) s d).head?

theorem cell_of_below {B : Nat} {w w' : World} {b o : Nat} {v : Value} (hb : Below B w w') (hl : b < B) (h : w.cell? ⟨b, o, none⟩ = some v) : w'.cell? ⟨b, o, none⟩ = some v := (hb.cell (p := ⟨b, o, none⟩) hl).trans h

set_option maxHeartbeats 400000 in
theorem rfrom_any (v0 v1 : Value) (we hs : List Int) (d s : Int) (w : World) (h0 : IntsAt w w.heap.size v0 we) (h1 : IntsAt w w.heap.size v1 hs) (hst : Start s d) :
    Calls Try.prog 74 #[.agg #[v0, v1], .int .i64 d, .int .i64 s] w fun e w' => e = .returned (.tuple #[.int .i64 (oV (firstO we hs s d)), .int .i64 (oE (firstO we hs s d))]) ∧ Below w.heap.size w w' := by
  obtain ⟨sb1, sb2, sb3, sb4⟩ := hst.bounds
  go_enter Try.func74, Try.ntmps74
  go_wp2
  go_loopw [1] (fun i wr => ∃ x : Int, i = .int .i64 x ∧ Hid (firstO we hs s x = firstO we hs s d) ∧ Hid (Start s x) ∧ Below (w.heap.size + 1) (w.alloc (.cells #[v0, v1] 25)) wr) (fun i _ => room s (intOf i))
  case atStart => exact ⟨d, rfl, Lib.hid rfl, Lib.hid hst, Below.refl _ _⟩
  case round =>
    obtain ⟨x, rfl, HX, HS, hb⟩ := hrel
    obtain ⟨b1, b2, -, -⟩ := HS.out.bounds
    have c0 : wr.cell? ⟨w.heap.size, 0, none⟩ = some v0 := cell_of_below hb (by omega) (by simp)
    have c1 : wr.cell? ⟨w.heap.size, 1, none⟩ = some v1 := cell_of_below hb (by omega) (by simp)
    have hsz : w.heap.size + 1 ≤ wr.heap.size := by have := hb.size; simp at this; omega
    have hbw : Below w.heap.size w wr := ((Below.refl _ _).alloc (Nat.le_refl _) _).trans (hb.mono (by omega))
    have H0 := Lib.hid ((h0.below hbw).more (B' := wr.heap.size) (by omega))
    have H1 := Lib.hid ((h1.below hbw).more (B' := wr.heap.size) (by omega))
    have HB := Lib.hid hb
    have HBW := Lib.hid hbw
    clear hb hbw
    cases hv : vB x
    · go_wp2_with (go_at_call 72; refine (rday_any _ _).mono ?_; rintro e w' ⟨rfl, rfl⟩)
      go_ret2
      exact ⟨by rw [← HX.out, firstO, blR_out HS.out hv]; rfl, HBW.out⟩
    · cases hp : isB we hs x
      · go_wp2_with (first | (go_at_call 72; refine (rday_any _ _).mono ?_; rintro e w' ⟨rfl, rfl⟩) | (go_at_call 75; refine (rIs_any _ _ we hs _ _ H0.out H1.out hv).mono ?_; rintro e w' ⟨rfl, rfl⟩))
        go_roundw
        case rel => exact ⟨x + s, rfl, Lib.hid (by rw [← HX.out, firstO, firstO, blR_no HS.out hv hp]), Lib.hid (HS.out.next hv), HB.out.alloc hsz _⟩
        case measure => simp only [intOf]; rw [room_in HS.out hv]; omega
      · go_wp2_with (first | (go_at_call 72; refine (rday_any _ _).mono ?_; rintro e w' ⟨rfl, rfl⟩) | (go_at_call 75; refine (rIs_any _ _ we hs _ _ H0.out H1.out hv).mono ?_; rintro e w' ⟨rfl, rfl⟩))
        go_ret2
        exact ⟨by rw [← HX.out, firstO, blR_yes HS.out hv hp]; rfl, HBW.out.alloc (by omega) _⟩

/-- the direction of a number of days -/
def sg (n : Int) : Int := if n < 0 then -1 else 1
def addOpt (we hs : List Int) (d n : Int) : Option Int := if n = 0 then firstO we hs 1 d else addO (isB we hs) (sg n) n.natAbs d
/-- what Add returns: the day, the error -/
def addV (we hs : List Int) (d n : Int) : Int := if chkD we hs [d] = 0 then oV (addOpt we hs d n) else 0
def addE (we hs : List Int) (d n : Int) : Int := if chkD we hs [d] = 0 then oE (addOpt we hs d n) else chkD we hs [d]

theorem chkD_one {we hs : List Int} {d : Int} (h : chkD we hs [d] = 0) : chk we hs = 0 ∧ vB d = true := by
  unfold chkD at h
  by_cases hc : chk we hs = 0
  · rw [if_pos hc] at h
    cases hv : vB d
    · simp [hv] at h
    · exact ⟨hc, rfl⟩
  · rw [if_neg hc] at h; omega

theorem ints_alloc {w : World} {v : Value} {zs : List Int} (h : IntsAt w w.heap.size v zs) (o : Obj) : IntsAt (w.alloc o) (w.alloc o).heap.size v zs := (h.below ((Below.refl _ _).alloc (Nat.le_refl _) o)).more (by simp)
theorem ints_later {w w' : World} {B : Nat} {v : Value} {zs : List Int} (h : IntsAt w B v zs) (hb : Below B w w') (hB : B ≤ w.heap.size) : IntsAt w' w'.heap.size v zs := (h.below hb).more (Nat.le_trans hB hb.size)

theorem add_zero {we hs : List Int} {d n : Int} (hn : n = 0) : addOpt we hs d n = firstO we hs 1 d := by rw [addOpt, if_pos hn]
theorem add_step {p : Int → Bool} {s x y : Int} {k : Nat} (h : (blR p s (x + s)).head? = some y) : addO p s (k + 1) x = addO p s k y := by rw [addO, h]; rfl
theorem add_end {p : Int → Bool} {s x : Int} {k : Nat} (h : (blR p s (x + s)).head? = none) : addO p s (k + 1) x = none := by rw [addO, h]; rfl
theorem oE_some {o : Option Int} (h : oE o = 0) : ∃ y, o = some y := by
  cases o with
  | none => simp [oE] at h
  | some y => exact ⟨y, rfl⟩
theorem oE_none {o : Option Int} (h : oE o ≠ 0) : o = none := by
  cases o with
  | none => rfl
  | some y => simp [oE] at h
theorem head_valid {p : Int → Bool} {s d y : Int} (hs : Start s d) (h : (blR p s d).head? = some y) : vB y = true ∧ p y = true := by
  cases hb : blR p s d with
  | nil => rw [hb] at h; cases h
  | cons a t => rw [hb] at h; obtain rfl : a = y := by simpa using h
                obtain ⟨h1, h2, _⟩ := blR_tail hs hb; exact ⟨h1, h2⟩

set_option maxHeartbeats 1000000 in
theorem rAdd_any (v0 v1 : Value) (we hs : List Int) (d n : Int) (w : World) (h0 : IntsAt w w.heap.size v0 we) (h1 : IntsAt w w.heap.size v1 hs) (hn : -9223372036854775808 ≤ n) (hn' : n ≤ 9223372036854775807) :
    Calls Try.prog 25 #[.agg #[v0, v1], .int .i64 d, .int .i64 n] w fun e w' => e = .returned (.tuple #[.int .i64 (addV we hs d n), .int .i64 (addE we hs d n)]) ∧ Below w.heap.size w w' := by
  have hbA : Below w.heap.size w (w.alloc (.cells #[v0, v1] 25)) := (Below.refl _ _).alloc (Nat.le_refl _) _
  have HBA := Lib.hid hbA
  clear hbA
  have H0 := Lib.hid h0
  have H1 := Lib.hid h1
  clear h0 h1
  go_enter Try.func25, Try.ntmps25
  go_wp2_with fail
  refine (rcheck_any _ _ we hs d _ (ints_alloc H0.out _) (ints_alloc H1.out _)).mono ?_
  rintro e w1 ⟨rfl, hb⟩
  have hz1 : w.heap.size + 1 ≤ w1.heap.size := by have := hb.size; simpa using this
  have c0 : w1.cell? ⟨w.heap.size, 0, none⟩ = some v0 := cell_of_below hb (by simp) (by simp)
  have c1 : w1.cell? ⟨w.heap.size, 1, none⟩ = some v1 := cell_of_below hb (by simp) (by simp)
  have HBW := Lib.hid (HBA.out.trans (hb.mono (by simp)))
  clear hb
  have I0 := Lib.hid (ints_later H0.out HBW.out (Nat.le_refl _))
  have I1 := Lib.hid (ints_later H1.out HBW.out (Nat.le_refl _))
  by_cases hc : chkD we hs [d] = 0
  · have e1 : (chkD we hs [d] != 0) = false := by simp [hc]
    obtain ⟨hck, hv⟩ := chkD_one hc
    have HC := Lib.hid hc
    have HV := Lib.hid hv
    clear hc hck hv
    by_cases hn0 : n = 0
    · have e2 : (n == 0) = true := by simp [hn0]
      have HN := Lib.hid hn0
      clear hn0
      go_wp2_with fail
      refine (rfrom_any _ _ we hs d 1 _ I0.out I1.out (Start.of_valid (.inl rfl) HV.out)).mono ?_
      rintro e w2 ⟨rfl, hb2⟩
      have HB2 := Lib.hid hb2
      clear hb2
      go_wp2
      go_ret2
      exact ⟨ret_two (by rw [addV, if_pos HC.out, add_zero HN.out]) (by rw [addE, if_pos HC.out, add_zero HN.out]), HBW.out.trans (HB2.out.mono (by omega))⟩
    · have e2 : (n == 0) = false := by simp [hn0]
      have e3 : (n != 0) = true := by simp [hn0]
      have HN := Lib.hid hn0
      clear hn0
      have hsg : sg n = 1 ∨ sg n = -1 := by unfold sg; split <;> simp
      obtain ⟨s, hs'⟩ : ∃ s, s = sg n := ⟨_, rfl⟩
      have hgoal : addOpt we hs d n = addO (isB we hs) s n.natAbs d := by rw [addOpt, if_neg HN.out, hs']
      have HG := Lib.hid hgoal
      rw [← hs'] at hsg
      have HSG := Lib.hid hsg
      clear hgoal hsg
      have hsn : (s = 1 ∧ 0 < n) ∨ (s = -1 ∧ n < 0) := by
        have := HN.out; unfold sg at hs'; split at hs' <;> omega
      clear hs'
      rcases hsn with ⟨rfl, hpos⟩ | ⟨rfl, hneg⟩
      · go_wp2
        go_loopw [1, 2] (fun a b wr => ∃ (x m : Int), a = .int .i64 x ∧ b = .int .i64 m ∧ 0 ≤ m ∧ m ≤ 9223372036854775807 ∧ Hid (addO (isB we hs) 1 m.natAbs x = addOpt we hs d n) ∧ Hid (vB x = true) ∧ Below w1.heap.size w1 wr) (fun _ b _ => (intOf b).natAbs)
        case atStart => exact ⟨d, n, rfl, rfl, by omega, by omega, Lib.hid HG.out.symm, Lib.hid HV.out, Below.refl _ _⟩
        case round =>
          obtain ⟨x, m, rfl, rfl, hm0, hm1, HX, HVX, hb⟩ := hrel
          have hx := vB_iff.1 HVX.out
          obtain ⟨x1, x2⟩ := hx
          have hz2 : w.heap.size + 1 ≤ wr.heap.size := by have := hb.size; omega
          have d0 : wr.cell? ⟨w.heap.size, 0, none⟩ = some v0 := cell_of_below hb (by omega) c0
          have d1 : wr.cell? ⟨w.heap.size, 1, none⟩ = some v1 := cell_of_below hb (by omega) c1
          have J0 := Lib.hid (ints_later I0.out hb (Nat.le_refl _))
          have J1 := Lib.hid (ints_later I1.out hb (Nat.le_refl _))
          have HB := Lib.hid hb
          have HZ := Lib.hid hb.size
          clear hb
          by_cases hm : m = 0
          · have f3 : (m != 0) = false := by simp [hm]
            have HM := Lib.hid hm
            clear hm
            go_wp2
            go_ret2
            refine ⟨ret_two (by rw [addV, if_pos HC.out, ← HX.out, HM.out]; rfl) (by rw [addE, if_pos HC.out, ← HX.out, HM.out]; rfl), HBW.out.trans (HB.out.mono (by omega))⟩
          · have f3 : (m != 0) = true := by simp [hm]
            have HM := Lib.hid (show m.natAbs = (m - 1).natAbs + 1 by omega)
            have hmp : 1 ≤ m := by omega
            clear hm
            go_wp2_with fail
            refine (rfrom_any _ _ we hs (x + 1) 1 _ J0.out J1.out (Start.of_step (.inl rfl) HVX.out)).mono ?_
            rintro e w2 ⟨rfl, hb2⟩
            have HB2 := Lib.hid hb2
            clear hb2
            by_cases ho : oE (firstO we hs 1 (x + 1)) = 0
            · have g3 : (oE (firstO we hs 1 (x + 1)) != 0) = false := by simp [ho]
              obtain ⟨y, hy⟩ := oE_some ho
              have HY := Lib.hid hy
              clear hy ho
              go_wp2
              go_roundw
              case rel => exact ⟨oV (firstO we hs 1 (x + 1)), m - 1, rfl, rfl, by omega, by omega, Lib.hid (by rw [← HX.out, HM.out, add_step HY.out, HY.out]; rfl), Lib.hid (by rw [HY.out]; exact (head_valid (Start.of_step (.inl rfl) HVX.out) HY.out).1), HB.out.trans (HB2.out.mono HZ.out)⟩
              case measure => simp only [intOf]; omega
            · have g3 : (oE (firstO we hs 1 (x + 1)) != 0) = true := by simp [ho]
              have HO := Lib.hid (oE_none ho)
              clear ho
              go_wp2
              go_ret2
              exact ⟨ret_two (by rw [addV, if_pos HC.out, ← HX.out, HM.out, add_end HO.out]; rfl) (by rw [addE, if_pos HC.out, ← HX.out, HM.out, add_end HO.out, HO.out]), HBW.out.trans ((HB.out.trans (HB2.out.mono HZ.out)).mono (by omega))⟩
      · go_wp2
        go_loopw [1, 2] (fun a b wr => ∃ (x m : Int), a = .int .i64 x ∧ b = .int .i64 m ∧ -9223372036854775808 ≤ m ∧ m ≤ 0 ∧ Hid (addO (isB we hs) (-1) m.natAbs x = addOpt we hs d n) ∧ Hid (vB x = true) ∧ Below w1.heap.size w1 wr) (fun _ b _ => (intOf b).natAbs)
        case atStart => exact ⟨d, n, rfl, rfl, by omega, by omega, Lib.hid HG.out.symm, Lib.hid HV.out, Below.refl _ _⟩
        case round =>
          obtain ⟨x, m, rfl, rfl, hm0, hm1, HX, HVX, hb⟩ := hrel
          have hx := vB_iff.1 HVX.out
          obtain ⟨x1, x2⟩ := hx
          have hz2 : w.heap.size + 1 ≤ wr.heap.size := by have := hb.size; omega
          have d0 : wr.cell? ⟨w.heap.size, 0, none⟩ = some v0 := cell_of_below hb (by omega) c0
          have d1 : wr.cell? ⟨w.heap.size, 1, none⟩ = some v1 := cell_of_below hb (by omega) c1
          have J0 := Lib.hid (ints_later I0.out hb (Nat.le_refl _))
          have J1 := Lib.hid (ints_later I1.out hb (Nat.le_refl _))
          have HB := Lib.hid hb
          have HZ := Lib.hid hb.size
          clear hb
          by_cases hm : m = 0
          · have f3 : (m != 0) = false := by simp [hm]
            have HM := Lib.hid hm
            clear hm
            go_wp2
            go_ret2
            refine ⟨ret_two (by rw [addV, if_pos HC.out, ← HX.out, HM.out]; rfl) (by rw [addE, if_pos HC.out, ← HX.out, HM.out]; rfl), HBW.out.trans (HB.out.mono (by omega))⟩
          · have f3 : (m != 0) = true := by simp [hm]
            have HM := Lib.hid (show m.natAbs = (m - -1).natAbs + 1 by omega)
            have hmp : m ≤ -1 := by omega
            clear hm
            go_wp2_with fail
            refine (rfrom_any _ _ we hs (x + -1) (-1) _ J0.out J1.out (Start.of_step (.inr rfl) HVX.out)).mono ?_
            rintro e w2 ⟨rfl, hb2⟩
            have HB2 := Lib.hid hb2
            clear hb2
            by_cases ho : oE (firstO we hs (-1) (x + -1)) = 0
            · have g3 : (oE (firstO we hs (-1) (x + -1)) != 0) = false := by simp [ho]
              obtain ⟨y, hy⟩ := oE_some ho
              have HY := Lib.hid hy
              clear hy ho
              go_wp2
              go_roundw
              case rel => exact ⟨oV (firstO we hs (-1) (x + -1)), m - -1, rfl, rfl, by omega, by omega, Lib.hid (by rw [← HX.out, HM.out, add_step HY.out, HY.out]; rfl), Lib.hid (by rw [HY.out]; exact (head_valid (Start.of_step (.inr rfl) HVX.out) HY.out).1), HB.out.trans (HB2.out.mono HZ.out)⟩
              case measure => simp only [intOf]; omega
            · have g3 : (oE (firstO we hs (-1) (x + -1)) != 0) = true := by simp [ho]
              have HO := Lib.hid (oE_none ho)
              clear ho
              go_wp2
              go_ret2
              exact ⟨ret_two (by rw [addV, if_pos HC.out, ← HX.out, HM.out, add_end HO.out]; rfl) (by rw [addE, if_pos HC.out, ← HX.out, HM.out, add_end HO.out, HO.out]), HBW.out.trans ((HB.out.trans (HB2.out.mono HZ.out)).mono (by omega))⟩
  · have e1 : (chkD we hs [d] != 0) = true := by simp [hc]
    have HC := Lib.hid hc
    clear hc
    go_wp2
    go_ret2
    exact ⟨ret_two (by rw [addV, if_neg HC.out]) (by rw [addE, if_neg HC.out]), HBW.out⟩

/-- what Count returns: the number, the error -/
def cntE (we hs : List Int) (a b : Int) : Int := if chkD we hs [a, b] = 0 then (if b < a then 8 else 0) else chkD we hs [a, b]
def cntV (we hs : List Int) (a b : Int) : Int := if cntE we hs a b = 0 then (cnt (isB we hs) (b - a).toNat a : Int) else 0

theorem chkD_two (we hs : List Int) (a b : Int) : chkD we hs [a, b] = if chkD we hs [a] = 0 then (if vB b then 0 else 13) else chkD we hs [a] := by
  unfold chkD
  by_cases hc : chk we hs = 0
  · simp only [if_pos hc]
    cases ha : vB a <;> cases hb : vB b <;> simp [ha, hb]
  · simp only [if_neg hc]; simp

set_option maxHeartbeats 1000000 in
theorem rCount_any (v0 v1 : Value) (we hs : List Int) (a b : Int) (w : World) (h0 : IntsAt w w.heap.size v0 we) (h1 : IntsAt w w.heap.size v1 hs) :
    Calls Try.prog 27 #[.agg #[v0, v1], .agg #[.int .i64 a, .int .i64 b]] w fun e w' => e = .returned (.tuple #[.int .i64 (cntV we hs a b), .int .i64 (cntE we hs a b)]) ∧ Below w.heap.size w w' := by
  have hbA : ∀ o o', Below w.heap.size w ((w.alloc o).alloc o') := fun o o' => ((Below.refl _ _).alloc (Nat.le_refl _) o).alloc (by simp) o'
  have HBA := Lib.hid hbA
  clear hbA
  have H0 := Lib.hid h0
  have H1 := Lib.hid h1
  clear h0 h1
  go_enter Try.func27, Try.ntmps27
  go_wp2_with fail
  refine (rcheck_any _ _ we hs a _ (ints_alloc (ints_alloc H0.out _) _) (ints_alloc (ints_alloc H1.out _) _)).mono ?_
  rintro e w1 ⟨rfl, hb⟩
  have hz1 : w.heap.size + 1 + 1 ≤ w1.heap.size := by have := hb.size; simpa using this
  have c0 : w1.cell? ⟨w.heap.size, 0, none⟩ = some v0 := cell_of_below hb (by simp; omega) (by simp)
  have c1 : w1.cell? ⟨w.heap.size, 1, none⟩ = some v1 := cell_of_below hb (by simp; omega) (by simp)
  have c2 : w1.cell? ⟨w.heap.size + 1, 0, none⟩ = some (.int .i64 a) := cell_of_below hb (by simp) (by simp)
  have c3 : w1.cell? ⟨w.heap.size + 1, 1, none⟩ = some (.int .i64 b) := cell_of_below hb (by simp) (by simp)
  have HBW := Lib.hid ((HBA.out _ _).trans (hb.mono (by simp; omega)))
  clear hb
  have I0 := Lib.hid (ints_later H0.out HBW.out (Nat.le_refl _))
  have I1 := Lib.hid (ints_later H1.out HBW.out (Nat.le_refl _))
  by_cases hc : chkD we hs [a] = 0
  · have e1 : (chkD we hs [a] != 0) = false := by simp [hc]
    obtain ⟨hck, hv⟩ := chkD_one hc
    have HC := Lib.hid hc
    have HV := Lib.hid hv
    clear hc hck hv
    cases hvb : vB b
    · go_wp2_with (go_at_call 72; refine (rday_any _ _).mono ?_; rintro e w' ⟨rfl, rfl⟩)
      go_ret2
      have he : cntE we hs a b = 13 := by rw [cntE, chkD_two, if_pos HC.out, hvb]; simp
      exact ⟨ret_two (by rw [cntV, he]; rfl) he.symm, HBW.out⟩
    · have he : cntE we hs a b = if b < a then 8 else 0 := by rw [cntE, chkD_two, if_pos HC.out, hvb]; simp
      have HE := Lib.hid he
      clear he
      obtain ⟨a1, a2⟩ := vB_iff.1 HV.out
      obtain ⟨b1, b2⟩ := vB_iff.1 hvb
      by_cases hab : b < a
      · go_wp2_with (go_at_call 72; refine (rday_any _ _).mono ?_; rintro e w' ⟨rfl, rfl⟩)
        go_ret2
        exact ⟨ret_two (by rw [cntV, HE.out, if_pos hab]; rfl) (by rw [HE.out, if_pos hab]), HBW.out⟩
      · have he : cntE we hs a b = 0 := by rw [HE.out, if_neg hab]
        have HE' := Lib.hid he
        clear he HE
        go_wp2_with (go_at_call 72; refine (rday_any _ _).mono ?_; rintro e w' ⟨rfl, rfl⟩)
        go_loopw [7, 8] (fun n x wr => ∃ k : Nat, a + k ≤ b ∧ x = .int .i64 (a + k) ∧ n = .int .i64 (cnt (isB we hs) k a : Int) ∧ Below w1.heap.size w1 wr) (fun _ x _ => (b - intOf x).toNat)
        case atStart => exact ⟨0, by omega, by simp, by simp [cnt], Below.refl _ _⟩
        case round =>
          obtain ⟨k, hk, rfl, rfl, hb⟩ := hrel
          have hz2 : w.heap.size + 1 + 1 ≤ wr.heap.size := by have := hb.size; omega
          have d0 : wr.cell? ⟨w.heap.size, 0, none⟩ = some v0 := cell_of_below hb (by omega) c0
          have d1 : wr.cell? ⟨w.heap.size, 1, none⟩ = some v1 := cell_of_below hb (by omega) c1
          have d3 : wr.cell? ⟨w.heap.size + 1, 1, none⟩ = some (.int .i64 b) := cell_of_below hb (by omega) c3
          have J0 := Lib.hid (ints_later I0.out hb (Nat.le_refl _))
          have J1 := Lib.hid (ints_later I1.out hb (Nat.le_refl _))
          have HB := Lib.hid hb
          have HZ := Lib.hid hb.size
          clear hb
          have hcl := cnt_le (isB we hs) k a
          by_cases hlt : a + k < b
          · have hvx : vB (a + k) = true := vB_iff.2 ⟨by omega, by omega⟩
            have HVX := Lib.hid hvx
            clear hvx
            cases hp : isB we hs (a + k)
            · go_wp2_with (go_at_call 75; refine (rIs_any _ _ we hs _ _ J0.out J1.out HVX.out).mono ?_; rintro e w' ⟨rfl, rfl⟩)
              go_roundw
              case rel => exact ⟨k + 1, by omega, by congr 1; omega, by rw [cnt, hp]; rfl, HB.out.alloc HZ.out _⟩
              case measure => simp only [intOf]; omega
            · go_wp2_with (go_at_call 75; refine (rIs_any _ _ we hs _ _ J0.out J1.out HVX.out).mono ?_; rintro e w' ⟨rfl, rfl⟩)
              go_roundw
              case rel => exact ⟨k + 1, by omega, by congr 1; omega, by rw [cnt, hp]; rfl, HB.out.alloc HZ.out _⟩
              case measure => simp only [intOf]; omega
          · have HK := Lib.hid (show (b - a).toNat = k by omega)
            go_wp2
            go_ret2
            exact ⟨ret_two (by rw [cntV, if_pos HE'.out, HK.out]) HE'.out.symm, HBW.out.trans (HB.out.mono (by omega))⟩
  · have e1 : (chkD we hs [a] != 0) = true := by simp [hc]
    have he : cntE we hs a b = chkD we hs [a] := by rw [cntE, chkD_two, if_neg hc, if_neg hc]
    have he2 : cntE we hs a b ≠ 0 := by rw [he]; exact hc
    have HE := Lib.hid he
    have HE2 := Lib.hid he2
    clear hc he he2
    go_wp2
    go_ret2
    exact ⟨ret_two (by rw [cntV, if_neg HE2.out]) HE.out.symm, HBW.out⟩
end Go.Proofs.Ytilbolgncpfmmaa
