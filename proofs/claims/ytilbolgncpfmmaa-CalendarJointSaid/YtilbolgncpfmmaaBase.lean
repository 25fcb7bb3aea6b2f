/- The walks of the calendar's checks, for this seat: what Check, check, Great, near and Weekday return, of the program and of the reference. Conditions: the two slices of a calendar read as lists of integers. -/
import Derived.Test.YtilbolgncpfmmaaProg
import Derived.Test.YtilbolgncpfmmaaPlain
import Derived.WalkKit
import Derived.WalkLawsBesides
import Derived.WalkSpells
import Derived.Lib.Hide
import Derived.Deep.QuietTactic
import Derived.BigQuiet
namespace Go.Proofs.Ytilbolgncpfmmaa
open Go.RowKit

theorem below_drewN {B : Nat} {a w : World} (h : Below B a w) (n : Nat) : Below B a (w.drewN n) := ⟨h.os, h.tape, h.output, h.size, h.block⟩
theorem ret_int {k : IntKind} {a b : Int} (h : a = b) : Ending.returned (.int k a) = .returned (.int k b) := by rw [h]
theorem ret_bool {a b : Bool} (h : a = b) : Ending.returned (.bool a) = .returned (.bool b) := by rw [h]
theorem ret_two {k l : IntKind} {a b c d : Int} (h : a = b) (h' : c = d) : Ending.returned (.tuple #[.int k a, .int l c]) = .returned (.tuple #[.int k b, .int l d]) := by rw [h, h']

/-- the slice value v reads as the integers zs; its row lies below B -/
def IntsAt (w : World) (B : Nat) (v : Value) (zs : List Int) : Prop :=
  ∃ A c, v = .slice A zs.length c ∧ zs.length ≤ 9223372036854775807 ∧ (0 < zs.length → ∃ b off, A = some ⟨b, off, none⟩ ∧ b < B ∧ ∀ i, i < zs.length → w.cell? ⟨b, off + i, none⟩ = some (.int .i64 (zs[i]?.getD 0)))

theorem IntsAt.below {w w' : World} {B : Nat} {v : Value} {zs : List Int} (h : IntsAt w B v zs) (hb : Below B w w') : IntsAt w' B v zs := by
  obtain ⟨A, c, hv, hl, hc⟩ := h
  refine ⟨A, c, hv, hl, fun h0 => ?_⟩
  obtain ⟨b, off, hA, hlt, hcell⟩ := hc h0
  exact ⟨b, off, hA, hlt, fun i hi => (hb.cell (p := ⟨b, off + i, none⟩) hlt).trans (hcell i hi)⟩
theorem IntsAt.more {w : World} {B B' : Nat} {v : Value} {zs : List Int} (h : IntsAt w B v zs) (hb : B ≤ B') : IntsAt w B' v zs := by
  obtain ⟨A, c, hv, hl, hc⟩ := h
  refine ⟨A, c, hv, hl, fun h0 => ?_⟩
  obtain ⟨b, off, hA, hlt, hcell⟩ := hc h0
  exact ⟨b, off, hA, by omega, hcell⟩

theorem valid_any (d : Int) (w : World) : Calls Try.prog 99 #[.int .i64 d] w fun e w' => e = .returned (.bool (vB d)) ∧ w = w' := by
  by_cases h1 : -25567 ≤ d
  · by_cases h2 : d ≤ 84005
    · go_enter Try.func99, Try.ntmps99
      go_wp2
      go_ret
      exact ⟨by simp [vB, h1, h2], rfl⟩
    · go_enter Try.func99, Try.ntmps99
      go_wp2
      go_ret
      exact ⟨by simp [vB, h2], rfl⟩
  · go_enter Try.func99, Try.ntmps99
    go_wp2
    go_ret
    exact ⟨by simp [vB]; omega, rfl⟩
theorem rday_any (d : Int) (w : World) : Calls Try.prog 72 #[.int .i64 d] w fun e w' => e = .returned (.bool (vB d)) ∧ w = w' := by
  by_cases h1 : -25567 ≤ d
  · by_cases h2 : d ≤ 84005
    · go_enter Try.func72, Try.ntmps72
      go_wp2
      go_ret
      exact ⟨by simp [vB, h1, h2], rfl⟩
    · go_enter Try.func72, Try.ntmps72
      go_wp2
      go_ret
      exact ⟨by simp [vB, h2], rfl⟩
  · go_enter Try.func72, Try.ntmps72
    go_wp2
    go_ret
    exact ⟨by simp [vB]; omega, rfl⟩
theorem dvalid_any (d : Int) (w : World) : Calls Try.prog 79 #[.int .i64 d] w fun e w' => e = .returned (.bool (vB d)) ∧ w = w' := by
  by_cases h1 : -25567 ≤ d
  · by_cases h2 : d ≤ 84005
    · go_enter Try.func79, Try.ntmps79
      go_wp2
      go_ret
      exact ⟨by simp [vB, h1, h2], rfl⟩
    · go_enter Try.func79, Try.ntmps79
      go_wp2
      go_ret
      exact ⟨by simp [vB, h2], rfl⟩
  · go_enter Try.func79, Try.ntmps79
    go_wp2
    go_ret
    exact ⟨by simp [vB]; omega, rfl⟩

set_option maxHeartbeats 400000 in
theorem Check_any (v0 v1 : Value) (we hs : List Int) (w : World) (h0 : IntsAt w w.heap.size v0 we) (h1 : IntsAt w w.heap.size v1 hs) :
    Calls Try.prog 62 #[.agg #[v0, v1]] w fun e w' => e = .returned (.int .i64 (chk we hs)) ∧ w.alloc (.cells #[v0, v1] 25) = w' := by
  obtain ⟨A0, c0, rfl, l0, hc0⟩ := h0
  obtain ⟨A1, c1, rfl, l1, hc1⟩ := h1
  have HC0 := Lib.hid hc0
  have HC1 := Lib.hid hc1
  clear hc0 hc1
  go_enter Try.func62, Try.ntmps62
  go_wp2
  go_loop [10] (fun i => ∃ k : Nat, k ≤ we.length ∧ i = .int .i64 k ∧ (∀ j, j < k → errW we j = 0)) (fun i => we.length - (intOf i).toNat)
  case atStart => exact ⟨0, Nat.zero_le _, rfl, fun j hj => by omega⟩
  case round =>
    obtain ⟨k, hk, rfl, hz⟩ := hrel
    have HZ := Lib.hid hz
    clear hz
    by_cases hlt : k < we.length
    · obtain ⟨b, off, rfl, hb, hcell⟩ := HC0.out (by omega)
      obtain ⟨x, hx⟩ : ∃ x, x = we[k]?.getD 0 := ⟨_, rfl⟩
      obtain ⟨y, hy⟩ : ∃ y, y = we[k - 1]?.getD 0 := ⟨_, rfl⟩
      have hck : (w.alloc (.cells #[.slice (some ⟨b, off, none⟩) we.length c0, .slice A1 hs.length c1] 25)).cell? ⟨b, off + k, none⟩ = some (.int .i64 x) := by
        rw [World.cell?_alloc_lt _ _ _ hb, hx]; exact hcell k hlt
      have hcp : 0 < k → (w.alloc (.cells #[.slice (some ⟨b, off, none⟩) we.length c0, .slice A1 hs.length c1] 25)).cell? ⟨b, off + (k - 1), none⟩ = some (.int .i64 y) := fun _ => by
        rw [World.cell?_alloc_lt _ _ _ hb, hy]; exact hcell (k - 1) (by omega)
      clear hcell
      have HX := Lib.hid hx
      have HY := Lib.hid hy
      clear hx hy
      go_wp2
      all_goals first
        | (go_ret; exact ⟨ret_int (chk_we HZ.out hlt (errW_eq HX.out HY.out (if_pos (by omega))) (by decide)).symm, rfl⟩)
        | (go_ret; exact ⟨ret_int (chk_we HZ.out hlt (errW_eq HX.out HY.out ((if_neg (by omega)).trans (if_pos (by omega)))) (by decide)).symm, rfl⟩)
        | (go_round
           case rel => exact ⟨k + 1, by omega, by go_num, all_snoc HZ.out (errW_eq HX.out HY.out ((if_neg (by omega)).trans (if_neg (by omega))))⟩
           case measure => simp [intOf]; omega)
    · obtain rfl : k = we.length := by omega
      clear HC0
      by_cases hl : 1000 < hs.length
      · go_wp2
        go_ret
        exact ⟨ret_int (chk_lim HZ.out hl).symm, rfl⟩
      · go_wp2
        go_loop [41] (fun i => ∃ k : Nat, k ≤ hs.length ∧ i = .int .i64 k ∧ (∀ j, j < k → errH hs j = 0)) (fun i => hs.length - (intOf i).toNat)
        case atStart => exact ⟨0, Nat.zero_le _, rfl, fun j hj => by omega⟩
        case round =>
          obtain ⟨k, hk, rfl, hz⟩ := hrel
          have HZ2 := Lib.hid hz
          clear hz
          by_cases hlt : k < hs.length
          · obtain ⟨b, off, rfl, hb, hcell⟩ := HC1.out (by omega)
            obtain ⟨x, hx⟩ : ∃ x, x = hs[k]?.getD 0 := ⟨_, rfl⟩
            obtain ⟨y, hy⟩ : ∃ y, y = hs[k - 1]?.getD 0 := ⟨_, rfl⟩
            have hck : (w.alloc (.cells #[.slice A0 we.length c0, .slice (some ⟨b, off, none⟩) hs.length c1] 25)).cell? ⟨b, off + k, none⟩ = some (.int .i64 x) := by
              rw [World.cell?_alloc_lt _ _ _ hb, hx]; exact hcell k hlt
            have hcp : 0 < k → (w.alloc (.cells #[.slice A0 we.length c0, .slice (some ⟨b, off, none⟩) hs.length c1] 25)).cell? ⟨b, off + (k - 1), none⟩ = some (.int .i64 y) := fun _ => by
              rw [World.cell?_alloc_lt _ _ _ hb, hy]; exact hcell (k - 1) (by omega)
            clear hcell
            have HX := Lib.hid hx
            have HY := Lib.hid hy
            clear hx hy
            cases hv : vB x
            all_goals
              go_wp2_with (go_at_call 99; refine (valid_any _ _).mono ?_; rintro e w' ⟨rfl, rfl⟩)
            all_goals first
              | (go_ret; exact ⟨ret_int (chk_hs HZ.out hl HZ2.out hlt (errH_eq HX.out HY.out (if_pos hv)) (by decide)).symm, rfl⟩)
              | (go_ret; exact ⟨ret_int (chk_hs HZ.out hl HZ2.out hlt (errH_eq HX.out HY.out ((if_neg (by rw [hv]; simp)).trans (if_pos (by omega)))) (by decide)).symm, rfl⟩)
              | (go_round
                 case rel => exact ⟨k + 1, by omega, by go_num, all_snoc HZ2.out (errH_eq HX.out HY.out ((if_neg (by rw [hv]; simp)).trans (if_neg (by omega))))⟩
                 case measure => simp [intOf]; omega)
          · obtain rfl : k = hs.length := by omega
            go_wp2
            go_ret
            exact ⟨ret_int (chk_ok HZ.out hl HZ2.out).symm, rfl⟩

set_option maxHeartbeats 1000000 in
theorem rCheck_any (v0 v1 : Value) (we hs : List Int) (w : World) (h0 : IntsAt w w.heap.size v0 we) (h1 : IntsAt w w.heap.size v1 hs) :
    Calls Try.prog 24 #[.agg #[v0, v1]] w fun e w' => e = .returned (.int .i64 (chk we hs)) ∧ Below w.heap.size w w' := by
  obtain ⟨A0, c0, rfl, l0, hc0⟩ := h0
  obtain ⟨A1, c1, rfl, l1, hc1⟩ := h1
  have HC0 := Lib.hid hc0
  have HC1 := Lib.hid hc1
  clear hc0 hc1
  have hB : ∀ o n, Below w.heap.size w ((w.alloc o).drewN n) := fun o n => below_drewN ((Below.refl _ _).alloc (Nat.le_refl _) _) n
  have HB := Lib.hid hB
  clear hB
  go_enter Try.func24, Try.ntmps24
  go_wp2
  go_loopw [3] (fun i wr => ∃ (k nq : Nat), k ≤ we.length ∧ i = .int .i64 k ∧ wr = (w.alloc (.cells #[.slice A0 we.length c0, .slice A1 hs.length c1] 25)).drewN nq ∧ (∀ j, j < k → errW we j = 0)) (fun i _ => we.length - (intOf i).toNat)
  case atStart => exact ⟨0, 0, Nat.zero_le _, rfl, rfl, fun j hj => by omega⟩
  case round =>
    obtain ⟨k, nq, hk, rfl, rfl, hz⟩ := hrel
    have HZ := Lib.hid hz
    clear hz
    by_cases hlt : k < we.length
    · obtain ⟨b, off, rfl, hb, hcell⟩ := HC0.out (by omega)
      obtain ⟨x, hx⟩ : ∃ x, x = we[k]?.getD 0 := ⟨_, rfl⟩
      obtain ⟨y, hy⟩ : ∃ y, y = we[k - 1]?.getD 0 := ⟨_, rfl⟩
      have hck : (w.alloc (.cells #[.slice (some ⟨b, off, none⟩) we.length c0, .slice A1 hs.length c1] 25)).cell? ⟨b, off + k, none⟩ = some (.int .i64 x) := by
        rw [World.cell?_alloc_lt _ _ _ hb, hx]; exact hcell k hlt
      have hcp : 0 < k → (w.alloc (.cells #[.slice (some ⟨b, off, none⟩) we.length c0, .slice A1 hs.length c1] 25)).cell? ⟨b, off + (k - 1), none⟩ = some (.int .i64 y) := fun _ => by
        rw [World.cell?_alloc_lt _ _ _ hb, hy]; exact hcell (k - 1) (by omega)
      clear hcell
      have HX := Lib.hid hx
      have HY := Lib.hid hy
      clear hx hy
      by_cases hbad : x < 0 ∨ 6 < x
      · have HBAD := Lib.hid hbad
        rcases hbad with hb1 | hb1
        all_goals
          go_wp2
          go_ret
          exact ⟨ret_int (chk_we HZ.out hlt (errW_eq HX.out HY.out (if_pos HBAD.out)) (by decide)).symm, HB.out _ _⟩
      · have hx0 : 0 ≤ x := by omega
        have hx6 : x ≤ 6 := by omega
        have HBAD := Lib.hid hbad
        clear hbad
        by_cases hk0 : 0 < k
        · have hcp' := hcp hk0
          clear hcp
          by_cases hxy : x ≤ y
          · go_wp2
            go_quiet (fail)
            go_wp2
            go_ret
            exact ⟨ret_int (chk_we HZ.out hlt (errW_eq HX.out HY.out ((if_neg HBAD.out).trans (if_pos (by omega)))) (by decide)).symm, below_drewN (HB.out _ _) _⟩
          · go_wp2
            go_quiet (fail)
            go_wp2
            go_roundw
            case rel => exact ⟨k + 1, _, by omega, by go_num, rfl, all_snoc HZ.out (errW_eq HX.out HY.out ((if_neg HBAD.out).trans (if_neg (by omega))))⟩
            case measure => simp [intOf]; omega
        · clear hcp
          have hd : decide (0 < k) = false := by simp; omega
          go_wp2
          go_quiet (fail)
          go_wp2
          go_roundw
          case rel => exact ⟨k + 1, _, by omega, by go_num, rfl, all_snoc HZ.out (errW_eq HX.out HY.out ((if_neg HBAD.out).trans (if_neg (by omega))))⟩
          case measure => simp [intOf]; omega
    · obtain rfl : k = we.length := by omega
      clear HC0
      by_cases hl : 1000 < hs.length
      · go_wp2
        go_ret
        exact ⟨ret_int (chk_lim HZ.out hl).symm, HB.out _ _⟩
      · go_wp2
        go_loopw [4] (fun i wr => ∃ (k nq : Nat), k ≤ hs.length ∧ i = .int .i64 k ∧ wr = (w.alloc (.cells #[.slice A0 we.length c0, .slice A1 hs.length c1] 25)).drewN nq ∧ (∀ j, j < k → errH hs j = 0)) (fun i _ => hs.length - (intOf i).toNat)
        case atStart => exact ⟨0, nq, Nat.zero_le _, rfl, rfl, fun j hj => by omega⟩
        case round =>
          obtain ⟨k, nq, hk, rfl, rfl, hz⟩ := hrel
          have HZ2 := Lib.hid hz
          clear hz
          by_cases hlt : k < hs.length
          · obtain ⟨b, off, rfl, hb, hcell⟩ := HC1.out (by omega)
            obtain ⟨x, hx⟩ : ∃ x, x = hs[k]?.getD 0 := ⟨_, rfl⟩
            obtain ⟨y, hy⟩ : ∃ y, y = hs[k - 1]?.getD 0 := ⟨_, rfl⟩
            have hck : (w.alloc (.cells #[.slice A0 we.length c0, .slice (some ⟨b, off, none⟩) hs.length c1] 25)).cell? ⟨b, off + k, none⟩ = some (.int .i64 x) := by
              rw [World.cell?_alloc_lt _ _ _ hb, hx]; exact hcell k hlt
            have hcp : 0 < k → (w.alloc (.cells #[.slice A0 we.length c0, .slice (some ⟨b, off, none⟩) hs.length c1] 25)).cell? ⟨b, off + (k - 1), none⟩ = some (.int .i64 y) := fun _ => by
              rw [World.cell?_alloc_lt _ _ _ hb, hy]; exact hcell (k - 1) (by omega)
            clear hcell
            have HX := Lib.hid hx
            have HY := Lib.hid hy
            clear hx hy
            cases hv : vB x
            · go_wp2_with (go_at_call 72; refine (rday_any _ _).mono ?_; rintro e w' ⟨rfl, rfl⟩)
              go_ret
              exact ⟨ret_int (chk_hs HZ.out hl HZ2.out hlt (errH_eq HX.out HY.out (if_pos hv)) (by decide)).symm, HB.out _ _⟩
            · by_cases hk0 : 0 < k
              · have hcp' := hcp hk0
                clear hcp
                by_cases hxy : x ≤ y
                · go_wp2_with (go_at_call 72; refine (rday_any _ _).mono ?_; rintro e w' ⟨rfl, rfl⟩)
                  go_quiet (fail)
                  go_wp2
                  go_ret
                  exact ⟨ret_int (chk_hs HZ.out hl HZ2.out hlt (errH_eq HX.out HY.out ((if_neg (by rw [hv]; simp)).trans (if_pos (by omega)))) (by decide)).symm, below_drewN (HB.out _ _) _⟩
                · go_wp2_with (go_at_call 72; refine (rday_any _ _).mono ?_; rintro e w' ⟨rfl, rfl⟩)
                  go_quiet (fail)
                  go_wp2
                  go_roundw
                  case rel => exact ⟨k + 1, _, by omega, by go_num, rfl, all_snoc HZ2.out (errH_eq HX.out HY.out ((if_neg (by rw [hv]; simp)).trans (if_neg (by omega))))⟩
                  case measure => simp [intOf]; omega
              · clear hcp
                have hd : decide (0 < k) = false := by simp; omega
                go_wp2_with (go_at_call 72; refine (rday_any _ _).mono ?_; rintro e w' ⟨rfl, rfl⟩)
                go_quiet (fail)
                go_wp2
                go_roundw
                case rel => exact ⟨k + 1, _, by omega, by go_num, rfl, all_snoc HZ2.out (errH_eq HX.out HY.out ((if_neg (by rw [hv]; simp)).trans (if_neg (by omega))))⟩
                case measure => simp [intOf]; omega
          · obtain rfl : k = hs.length := by omega
            go_wp2
            go_ret
            exact ⟨ret_int (chk_ok HZ.out hl HZ2.out).symm, HB.out _ _⟩

def nearB (n : Int) : Bool := decide (-400 ≤ n) && decide (n ≤ 400) || decide (109572 < n) || decide (n < -109572)

theorem near_any (n : Int) (w : World) : Calls Try.prog 21 #[.int .i64 n] w fun e w' => e = .returned (.bool (nearB n)) ∧ w = w' := by
  go_enter Try.func21, Try.ntmps21
  go_wp2
  all_goals
    go_ret
    exact ⟨ret_bool (by rw [Bool.eq_iff_iff]; simp [nearB]; try omega), rfl⟩

theorem Great_any (v0 v1 : Value) (we hs : List Int) (w : World) (h0 : IntsAt w w.heap.size v0 we) (h1 : IntsAt w w.heap.size v1 hs) :
    Calls Try.prog 20 #[.agg #[v0, v1]] w fun e w' => e = .returned (.bool (great we hs)) ∧ w.alloc (.cells #[v0, v1] 25) = w' := by
  obtain ⟨A0, c0, rfl, l0, hc0⟩ := h0
  obtain ⟨A1, c1, rfl, l1, hc1⟩ := h1
  clear hc0 hc1
  go_enter Try.func20, Try.ntmps20
  go_wp2
  all_goals
    go_ret
    exact ⟨ret_bool (by rw [Bool.eq_iff_iff]; simp [great]; try omega), rfl⟩

theorem vB_iff {d : Int} : vB d = true ↔ -25567 ≤ d ∧ d ≤ 84005 := by simp [vB]

/-- what Weekday returns -/
def wkd (d : Int) : Int := if vB d then (d + 25567) % 7 else 0
def dayE (d : Int) : Int := if vB d then 0 else 13

theorem weekday_any (d : Int) (w : World) : Calls Try.prog 106 #[.int .i64 d] w fun e w' => e = .returned (.tuple #[.int .i64 (wkd d), .int .i64 (dayE d)]) ∧ w = w' := by
  cases hv : vB d
  · go_enter Try.func106, Try.ntmps106
    go_wp2_with (go_at_call 79; refine (dvalid_any _ _).mono ?_; rintro e w' ⟨rfl, rfl⟩)
    go_ret2
    exact ⟨by simp [wkd, dayE, hv], rfl⟩
  · obtain ⟨a1, a2⟩ := vB_iff.1 hv
    go_enter Try.func106, Try.ntmps106
    go_wp2_with (go_at_call 79; refine (dvalid_any _ _).mono ?_; rintro e w' ⟨rfl, rfl⟩)
    go_ret2
    exact ⟨ret_two (by simp only [wkd, hv]; simp; omega) (by simp [dayE, hv]), rfl⟩

theorem rdayCheck_any (d : Int) (w : World) : Calls Try.prog 115 #[.int .i64 d] w fun e w' => e = .returned (.int .i64 (dayE d)) ∧ w = w' := by
  by_cases h1 : -25567 ≤ d
  · by_cases h2 : d ≤ 84005
    · go_enter Try.func115, Try.ntmps115
      go_wp2
      go_ret
      exact ⟨by simp [dayE, vB, h1, h2], rfl⟩
    · go_enter Try.func115, Try.ntmps115
      go_wp2
      go_ret
      exact ⟨by simp [dayE, vB, h2], rfl⟩
  · go_enter Try.func115, Try.ntmps115
    go_wp2
    go_ret
    exact ⟨ret_int (by simp [dayE, vB]; omega), rfl⟩

theorem rweekday_any (d : Int) (w : World) : Calls Try.prog 102 #[.int .i64 d] w fun e w' => e = .returned (.tuple #[.int .i64 (wkd d), .int .i64 (dayE d)]) ∧ w = w' := by
  cases hv : vB d
  · have h13 : (dayE d == 0) = false := by simp [dayE, hv]
    have h13' : (dayE d != 0) = true := by simp [dayE, hv]
    go_enter Try.func102, Try.ntmps102
    go_wp2_with (go_at_call 115; refine (rdayCheck_any _ _).mono ?_; rintro e w' ⟨rfl, rfl⟩)
    go_ret2
    exact ⟨ret_two (by simp [wkd, hv]) (by simp [dayE, hv]), rfl⟩
  · have h13 : (dayE d == 0) = true := by simp [dayE, hv]
    have h13' : (dayE d != 0) = false := by simp [dayE, hv]
    obtain ⟨a1, a2⟩ := vB_iff.1 hv
    go_enter Try.func102, Try.ntmps102
    go_wp2_with (go_at_call 115; refine (rdayCheck_any _ _).mono ?_; rintro e w' ⟨rfl, rfl⟩)
    go_ret2
    exact ⟨ret_two (by simp [wkd, hv]) (by simp [dayE, hv]), rfl⟩

/-- what check returns -/
def chkD (we hs ds : List Int) : Int := if chk we hs = 0 then (if ds.all vB then 0 else 13) else 1
theorem all_take_snoc {ds : List Int} {k : Nat} (h : ∀ j, j < k → vB (ds[j]?.getD 0) = true) (hk : vB (ds[k]?.getD 0) = true) : ∀ j, j < k + 1 → vB (ds[j]?.getD 0) = true := by
  intro j hj
  by_cases e : j = k
  · subst e; exact hk
  · exact h j (by omega)
theorem all_vB {ds : List Int} (h : ∀ j, j < ds.length → vB (ds[j]?.getD 0) = true) : ds.all vB = true := by
  rw [List.all_eq_true]
  intro x hx
  obtain ⟨j, hj, rfl⟩ := List.getElem_of_mem hx
  have := h j hj
  simpa [hj] using this
theorem not_all_vB {ds : List Int} {k : Nat} (hk : k < ds.length) (h : vB (ds[k]?.getD 0) = false) : ds.all vB = false := by
  rw [List.all_eq_false]
  exact ⟨ds[k], List.getElem_mem hk, by simpa [hk] using h⟩

set_option maxHeartbeats 400000 in
theorem check_any (v0 v1 vd : Value) (we hs ds : List Int) (w : World) (h0 : IntsAt w w.heap.size v0 we) (h1 : IntsAt w w.heap.size v1 hs) (h2 : IntsAt w w.heap.size vd ds) :
    Calls Try.prog 69 #[.agg #[v0, v1], vd] w fun e w' => e = .returned (.int .i64 (chkD we hs ds)) ∧ Below w.heap.size w w' := by
  obtain ⟨A0, c0, rfl, l0, hc0⟩ := h2
  have HC0 := Lib.hid hc0
  clear hc0
  have h0' : ∀ o, IntsAt (w.alloc o) (w.alloc o).heap.size v0 we := fun o => (h0.below ((Below.refl _ _).alloc (Nat.le_refl _) o)).more (by simp)
  have h1' : ∀ o, IntsAt (w.alloc o) (w.alloc o).heap.size v1 hs := fun o => (h1.below ((Below.refl _ _).alloc (Nat.le_refl _) o)).more (by simp)
  have H0 := Lib.hid h0'
  have H1 := Lib.hid h1'
  clear h0 h1 h0' h1'
  have hB : ∀ o o', Below w.heap.size w ((w.alloc o).alloc o') := fun o o' => ((Below.refl _ _).alloc (Nat.le_refl _) o).alloc (by simp) o'
  have HB := Lib.hid hB
  clear hB
  by_cases hc : chk we hs = 0
  · have hb1 : (chk we hs == 0) = true := by simp [hc]
    have hb2 : (chk we hs != 0) = false := by simp [hc]
    have HC := Lib.hid hc
    clear hc
    go_enter Try.func69, Try.ntmps69
    go_wp2_with (go_at_call 62; refine (Check_any _ _ we hs _ (H0.out _) (H1.out _)).mono ?_; rintro e w' ⟨rfl, rfl⟩)
    go_loop [12] (fun i => ∃ k : Nat, k ≤ ds.length ∧ i = .int .i64 k ∧ (∀ j, j < k → vB (ds[j]?.getD 0) = true)) (fun i => ds.length - (intOf i).toNat)
    case atStart => exact ⟨0, Nat.zero_le _, rfl, fun j hj => by omega⟩
    case round =>
      obtain ⟨k, hk, rfl, hz⟩ := hrel
      have HZ := Lib.hid hz
      clear hz
      by_cases hlt : k < ds.length
      · obtain ⟨b, off, rfl, hb, hcell⟩ := HC0.out (by omega)
        obtain ⟨x, hx⟩ : ∃ x, x = ds[k]?.getD 0 := ⟨_, rfl⟩
        have hck : ∀ o o', ((w.alloc o).alloc o').cell? ⟨b, off + k, none⟩ = some (.int .i64 x) := fun o o' => by
          rw [hx]; exact ((HB.out o o').cell (p := ⟨b, off + k, none⟩) hb).trans (hcell k hlt)
        clear hcell
        have HX := Lib.hid hx
        clear hx
        cases hv : vB x
        all_goals
          go_wp2_with (go_at_call 99; refine (valid_any _ _).mono ?_; rintro e w' ⟨rfl, rfl⟩)
        · go_ret
          exact ⟨ret_int (by rw [chkD, if_pos HC.out, not_all_vB hlt (by rw [← HX.out]; exact hv)]; rfl), HB.out _ _⟩
        · go_round
          case rel => exact ⟨k + 1, by omega, by go_num, all_take_snoc HZ.out (by rw [← HX.out]; exact hv)⟩
          case measure => simp [intOf]; omega
      · obtain rfl : k = ds.length := by omega
        go_wp2
        go_ret
        exact ⟨ret_int (by rw [chkD, if_pos HC.out, all_vB HZ.out]; rfl), HB.out _ _⟩
  · have hb1 : (chk we hs == 0) = false := by simp [hc]
    have hb2 : (chk we hs != 0) = true := by simp [hc]
    have HC := Lib.hid hc
    clear hc
    go_enter Try.func69, Try.ntmps69
    go_wp2_with (go_at_call 62; refine (Check_any _ _ we hs _ (H0.out _) (H1.out _)).mono ?_; rintro e w' ⟨rfl, rfl⟩)
    go_ret
    exact ⟨ret_int (by rw [chkD, if_neg HC.out]), HB.out _ _⟩

theorem rcheck_any (v0 v1 : Value) (we hs : List Int) (d : Int) (w : World) (h0 : IntsAt w w.heap.size v0 we) (h1 : IntsAt w w.heap.size v1 hs) :
    Calls Try.prog 73 #[.agg #[v0, v1], .int .i64 d] w fun e w' => e = .returned (.int .i64 (chkD we hs [d])) ∧ Below w.heap.size w w' := by
  have h0' : ∀ o, IntsAt (w.alloc o) (w.alloc o).heap.size v0 we := fun o => (h0.below ((Below.refl _ _).alloc (Nat.le_refl _) o)).more (by simp)
  have h1' : ∀ o, IntsAt (w.alloc o) (w.alloc o).heap.size v1 hs := fun o => (h1.below ((Below.refl _ _).alloc (Nat.le_refl _) o)).more (by simp)
  have H0 := Lib.hid h0'
  have H1 := Lib.hid h1'
  clear h0 h1 h0' h1'
  have hB : ∀ o, Below w.heap.size w (w.alloc o) := fun o => ((Below.refl _ _).alloc (Nat.le_refl _) o)
  have HB := Lib.hid hB
  clear hB
  by_cases hc : chk we hs = 0
  · have hb1 : (chk we hs == 0) = true := by simp [hc]
    have hb2 : (chk we hs != 0) = false := by simp [hc]
    have HC := Lib.hid hc
    clear hc
    cases hv : vB d
    all_goals
      go_enter Try.func73, Try.ntmps73
      go_wp2_with (first | (go_at_call 24; refine (rCheck_any _ _ we hs _ (H0.out _) (H1.out _)).mono ?_; rintro e w' ⟨rfl, hbw⟩) | (go_at_call 72; refine (rday_any _ _).mono ?_; rintro e w' ⟨rfl, rfl⟩))
      go_ret
      exact ⟨ret_int (by rw [chkD, if_pos HC.out]; simp [hv]), (HB.out _).trans (hbw.mono (by simp))⟩
  · have hb1 : (chk we hs == 0) = false := by simp [hc]
    have hb2 : (chk we hs != 0) = true := by simp [hc]
    have HC := Lib.hid hc
    clear hc
    go_enter Try.func73, Try.ntmps73
    go_wp2_with (go_at_call 24; refine (rCheck_any _ _ we hs _ (H0.out _) (H1.out _)).mono ?_; rintro e w' ⟨rfl, hbw⟩)
    go_ret
    exact ⟨ret_int (by rw [chkD, if_neg HC.out]), (HB.out _).trans (hbw.mono (by simp))⟩

end Go.Proofs.Ytilbolgncpfmmaa
