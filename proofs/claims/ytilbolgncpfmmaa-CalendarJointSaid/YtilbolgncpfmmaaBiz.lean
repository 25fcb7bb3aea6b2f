/- The walks of business days, for this seat. -/
import Derived.Test.YtilbolgncpfmmaaBase
namespace Go.Proofs.Ytilbolgncpfmmaa
open Go.RowKit

def cmpI (a b : Int) : Int := if a < b then -1 else if b < a then 1 else 0

theorem compare_any (a b : Int) (w : World) : Calls Try.prog 105 #[.int .i64 a, .int .i64 b] w fun e w' => e = .returned (.int .i64 (cmpI a b)) ∧ w = w' := by
  by_cases h1 : a < b
  · go_enter Try.func105, Try.ntmps105
    go_wp2
    go_ret
    exact ⟨by simp [cmpI, h1], rfl⟩
  · by_cases h2 : b < a
    · go_enter Try.func105, Try.ntmps105
      go_wp2
      go_ret
      exact ⟨by simp [cmpI, h1, h2], rfl⟩
    · go_enter Try.func105, Try.ntmps105
      go_wp2
      go_ret
      exact ⟨ret_int (by rw [cmpI, if_neg (by omega), if_neg (by omega)]), rfl⟩
theorem compare1_any (a b : Int) (w : World) : Calls Try.prog 104 #[.int .i64 a, .int .i64 b] w fun e w' => e = .returned (.int .i64 (cmpI a b)) ∧ w = w' := by
  go_enter Try.func104, Try.ntmps104
  go_wp2_with (go_at_call 105; refine (compare_any _ _ _).mono ?_; rintro e w' ⟨rfl, rfl⟩)
  go_ret
  exact ⟨rfl, rfl⟩

/-- x is one of zs -/
def memB (zs : List Int) (x : Int) : Bool := zs.contains x
def IdxPost (f : Bool) (w : World) (e : Ending) (w' : World) : Prop := ∃ i : Int, e = .returned (.int .i64 i) ∧ (0 ≤ i ↔ f = true) ∧ w = w'
/-- what BinarySearchFunc returns: some index, and whether d is there -/
def Found (f : Bool) (w : World) (e : Ending) (w' : World) : Prop := ∃ i : Int, e = .returned (.tuple #[.int .i64 i, .bool f]) ∧ w = w'

theorem ret_ib {k : IntKind} {a b : Int} {c d : Bool} (h : a = b) (h' : c = d) : Ending.returned (.tuple #[.int k a, .bool c]) = .returned (.tuple #[.int k b, .bool d]) := by rw [h, h']
theorem lo_step {hs : List Int} {d x : Int} {m : Nat} (hsort : ∀ i j, i < j → j < hs.length → hs[i]?.getD 0 < hs[j]?.getD 0) (hx : x = hs[m]?.getD 0) (h : x < d) (hm : m < hs.length) :
    ∀ t, t < m + 1 → hs[t]?.getD 0 < d := by
  intro t ht
  by_cases e : t = m
  · subst e; rw [← hx]; exact h
  · have := hsort t m (by omega) hm; rw [← hx] at this; omega
theorem hi_step {hs : List Int} {d x : Int} {m : Nat} (hsort : ∀ i j, i < j → j < hs.length → hs[i]?.getD 0 < hs[j]?.getD 0) (hx : x = hs[m]?.getD 0) (h : ¬ x < d) :
    ∀ t, m ≤ t → t < hs.length → d ≤ hs[t]?.getD 0 := by
  intro t ht hl
  by_cases e : t = m
  · subst e; rw [← hx]; omega
  · have := hsort m t (by omega) hl; rw [← hx] at this; omega
theorem found_here {hs : List Int} {d x : Int} {i : Nat} (hsort : ∀ i j, i < j → j < hs.length → hs[i]?.getD 0 < hs[j]?.getD 0) (hx : x = hs[i]?.getD 0) (hlo : ∀ t, t < i → hs[t]?.getD 0 < d)
    (hhi : ∀ t, i ≤ t → t < hs.length → d ≤ hs[t]?.getD 0) (hi : i < hs.length) : (cmpI x d == 0) = memB hs d := by
  unfold memB
  have hge := hhi i (Nat.le_refl _) hi
  rw [← hx] at hge
  rw [Bool.eq_iff_iff]
  simp only [beq_iff_eq, List.contains_iff_mem]
  constructor
  · intro h
    have : x = d := by
      unfold cmpI at h
      split at h
      · omega
      · split at h
        · omega
        · omega
    rw [← this, hx]
    simp [hi]
  · intro hm
    obtain ⟨t, ht, rfl⟩ := List.getElem_of_mem hm
    have hti : t = i := by
      rcases Nat.lt_trichotomy t i with h | h | h
      · have := hlo t h; simp [ht] at this
      · exact h
      · have := hsort i t h ht; rw [← hx] at this; simp [ht] at this; omega
    subst hti
    have : x = hs[t] := by rw [hx]; simp [ht]
    simp [cmpI, this]
theorem found_none {hs : List Int} {d : Int} {i : Nat} (hlo : ∀ t, t < i → hs[t]?.getD 0 < d) (hi : ¬ i < hs.length) : false = memB hs d := by
  unfold memB
  symm
  rw [Bool.eq_false_iff]
  intro hm
  rw [List.contains_iff_mem] at hm
  obtain ⟨t, ht, rfl⟩ := List.getElem_of_mem hm
  have := hlo t (by omega)
  simp [ht] at this

set_option maxHeartbeats 400000 in
theorem search_any (v : Value) (hs : List Int) (d : Int) (w : World) (h0 : IntsAt w w.heap.size v hs) (hl : hs.length ≤ 1000) (hsort : ∀ i j, i < j → j < hs.length → hs[i]?.getD 0 < hs[j]?.getD 0) :
    Calls Try.prog 103 #[v, .int .i64 d, .func (.func 104) #[] #[]] w (Found (memB hs d) w) := by
  obtain ⟨A, c, rfl, l0, hc0⟩ := h0
  have HC := Lib.hid hc0
  have HS := Lib.hid hsort
  clear hc0 hsort
  go_enter Try.func103, Try.ntmps103
  go_wp2
  go_loop [9, 10] (fun a b => ∃ i j : Nat, i ≤ j ∧ j ≤ hs.length ∧ a = .int .i64 i ∧ b = .int .i64 j ∧ (∀ t, t < i → hs[t]?.getD 0 < d) ∧ (∀ t, j ≤ t → t < hs.length → d ≤ hs[t]?.getD 0)) (fun a b => (intOf b - intOf a).toNat)
  case atStart => exact ⟨0, hs.length, Nat.zero_le _, Nat.le_refl _, rfl, rfl, fun t ht => by omega, fun t ht => by omega⟩
  case round =>
    obtain ⟨i, j, hij, hj, rfl, rfl, hlo, hhi⟩ := hrel
    have HLO := Lib.hid hlo
    have HHI := Lib.hid hhi
    clear hlo hhi
    by_cases hlt : i < j
    · obtain ⟨b, off, rfl, hb, hcell⟩ := HC.out (by omega)
      obtain ⟨x, hx⟩ : ∃ x, x = hs[(i + j) / 2]?.getD 0 := ⟨_, rfl⟩
      have hck : w.cell? ⟨b, off + (i + j) / 2, none⟩ = some (.int .i64 x) := by rw [hx]; exact hcell _ (by omega)
      clear hcell
      have HX := Lib.hid hx
      clear hx
      by_cases hc1 : x < d
      · have h1 : decide (cmpI x d < 0) = true := by simp [cmpI, hc1]
        have h1' : cmpI x d < 0 := by simp [cmpI, hc1]
        go_wp2_with (go_at_call 104; refine (compare1_any _ _ _).mono ?_; rintro e w' ⟨rfl, rfl⟩)
        go_round
        case rel => exact ⟨(i + j) / 2 + 1, j, by omega, hj, by go_num, rfl, lo_step HS.out HX.out hc1 (by omega), HHI.out⟩
        case measure => simp [intOf]; omega
      · have h1 : decide (cmpI x d < 0) = false := by simp only [cmpI, if_neg hc1]; split <;> simp
        have h1' : ¬ cmpI x d < 0 := by simpa using h1
        go_wp2_with (go_at_call 104; refine (compare1_any _ _ _).mono ?_; rintro e w' ⟨rfl, rfl⟩)
        go_round
        case rel => exact ⟨i, (i + j) / 2, by omega, by omega, rfl, by go_num, HLO.out, hi_step HS.out HX.out (by omega)⟩
        case measure => simp [intOf]; omega
    · obtain rfl : i = j := by omega
      by_cases hend : i < hs.length
      · obtain ⟨b, off, rfl, hb, hcell⟩ := HC.out (by omega)
        obtain ⟨x, hx⟩ : ∃ x, x = hs[i]?.getD 0 := ⟨_, rfl⟩
        have hck : w.cell? ⟨b, off + i, none⟩ = some (.int .i64 x) := by rw [hx]; exact hcell _ (by omega)
        clear hcell
        have HX := Lib.hid hx
        clear hx
        go_wp2_with (go_at_call 104; refine (compare1_any _ _ _).mono ?_; rintro e w' ⟨rfl, rfl⟩)
        go_ret2
        exact ⟨i, ret_ib rfl (found_here HS.out HX.out HLO.out HHI.out hend), rfl⟩
      · go_wp2
        go_ret2
        exact ⟨i, ret_ib rfl (found_none HLO.out hend), rfl⟩

theorem mem_at {zs : List Int} {k : Nat} {x : Int} (hk : k < zs.length) (h : x = zs[k]?.getD 0) : memB zs x = true := by
  rw [memB, List.contains_iff_mem, h]; simp [hk]
theorem ne_snoc {zs : List Int} {k : Nat} {x : Int} (h : ∀ j, j < k → zs[j]?.getD 0 ≠ x) (hk : zs[k]?.getD 0 ≠ x) : ∀ j, j < k + 1 → zs[j]?.getD 0 ≠ x := by
  intro j hj
  by_cases e : j = k
  · subst e; exact hk
  · exact h j (by omega)
theorem not_mem {zs : List Int} {x : Int} (h : ∀ j, j < zs.length → zs[j]?.getD 0 ≠ x) : ¬ memB zs x = true := by
  rw [memB, List.contains_iff_mem]
  intro hm
  obtain ⟨t, ht, rfl⟩ := List.getElem_of_mem hm
  exact h t ht (by simp [ht])

set_option maxHeartbeats 400000 in
theorem index_any (v : Value) (zs : List Int) (x : Int) (w : World) (h0 : IntsAt w w.heap.size v zs) :
    Calls Try.prog 126 #[v, .int .i64 x] w fun e w' => IdxPost (memB zs x) w e w' := by
  obtain ⟨A, c, rfl, l0, hc0⟩ := h0
  have HC := Lib.hid hc0
  clear hc0
  go_enter Try.func126, Try.ntmps126
  go_wp2
  go_loop [8] (fun i => ∃ k : Nat, k ≤ zs.length ∧ i = .int .i64 k ∧ (∀ j, j < k → zs[j]?.getD 0 ≠ x)) (fun i => zs.length - (intOf i).toNat)
  case atStart => exact ⟨0, Nat.zero_le _, rfl, fun j hj => by omega⟩
  case round =>
    obtain ⟨k, hk, rfl, hz⟩ := hrel
    have HZ := Lib.hid hz
    clear hz
    by_cases hlt : k < zs.length
    · obtain ⟨b, off, rfl, hb, hcell⟩ := HC.out (by omega)
      obtain ⟨y, hy⟩ : ∃ y, y = zs[k]?.getD 0 := ⟨_, rfl⟩
      have hck : w.cell? ⟨b, off + k, none⟩ = some (.int .i64 y) := by rw [hy]; exact hcell _ (by omega)
      clear hcell
      have HY := Lib.hid hy
      clear hy
      by_cases he : x = y
      · have h1 : (x == y) = true := by simp [he]
        have HE := Lib.hid he
        clear he
        go_wp2
        go_ret
        exact ⟨k, rfl, iff_of_true (by omega) (mem_at hlt (HE.out.trans HY.out)), rfl⟩
      · have h1 : (x == y) = false := by simp [he]
        have HE := Lib.hid he
        clear he
        go_wp2
        go_round
        case rel => exact ⟨k + 1, by omega, by go_num, ne_snoc HZ.out (by rw [← HY.out]; exact fun h => HE.out h.symm)⟩
        case measure => simp [intOf]; omega
    · obtain rfl : k = zs.length := by omega
      go_wp2
      go_ret
      exact ⟨-1, rfl, iff_of_false (by omega) (not_mem HZ.out), rfl⟩

theorem contains_any (v : Value) (zs : List Int) (x : Int) (w : World) (h0 : IntsAt w w.heap.size v zs) :
    Calls Try.prog 107 #[v, .int .i64 x] w fun e w' => e = .returned (.bool (memB zs x)) ∧ w = w' := by
  go_enter Try.func107, Try.ntmps107
  go_wp2_with fail
  refine (index_any _ _ _ _ h0).mono ?_
  rintro e w' ⟨i, rfl, hi, rfl⟩
  have HI := Lib.hid hi
  clear hi
  go_wp2
  go_ret
  exact ⟨ret_bool (by rw [Bool.eq_iff_iff, ← HI.out]; simp), rfl⟩

/-- a business day -/
def isB (we hs : List Int) (d : Int) : Bool := !memB hs d && !memB we (wkd d)

theorem sorted_of {hs : List Int} (h : ∀ i, i < hs.length → errH hs i = 0) : ∀ i j, i < j → j < hs.length → hs[i]?.getD 0 < hs[j]?.getD 0 := by
  have step : ∀ i, 0 < i → i < hs.length → hs[i - 1]?.getD 0 < hs[i]?.getD 0 := by
    intro i h0 hi
    have := h i hi
    unfold errH at this
    split at this
    · omega
    · split at this
      · omega
      · omega
  intro i j hij
  induction j with
  | zero => omega
  | succ j ih =>
    intro hj
    have h1 := step (j + 1) (by omega) hj
    simp only [Nat.add_sub_cancel] at h1
    by_cases e : i = j
    · subst e; exact h1
    · have := ih (by omega) (by omega); omega
theorem chk_zero {we hs : List Int} (h : chk we hs = 0) : (∀ i, i < we.length → errW we i = 0) ∧ hs.length ≤ 1000 ∧ (∀ i, i < hs.length → errH hs i = 0) := by
  unfold chk at h
  by_cases h0 : fe (errW we) we.length = 0
  · rw [if_pos h0] at h
    by_cases h1 : 1000 < hs.length
    · rw [if_pos h1] at h; omega
    · rw [if_neg h1] at h; exact ⟨fe_zero _ _ h0, by omega, fe_zero _ _ h⟩
  · rw [if_neg h0] at h; exact absurd h h0

theorem business_any (v0 v1 : Value) (we hs : List Int) (d : Int) (w : World) (h0 : IntsAt w w.heap.size v0 we) (h1 : IntsAt w w.heap.size v1 hs) (hc : chk we hs = 0) :
    Calls Try.prog 76 #[.agg #[v0, v1], .int .i64 d] w fun e w' => e = .returned (.bool (isB we hs d)) ∧ w.alloc (.cells #[v0, v1] 25) = w' := by
  obtain ⟨-, hl, hsort⟩ := chk_zero hc
  have HS := Lib.hid (sorted_of hsort)
  have h0' : ∀ o, IntsAt (w.alloc o) (w.alloc o).heap.size v0 we := fun o => (h0.below ((Below.refl _ _).alloc (Nat.le_refl _) o)).more (by simp)
  have h1' : ∀ o, IntsAt (w.alloc o) (w.alloc o).heap.size v1 hs := fun o => (h1.below ((Below.refl _ _).alloc (Nat.le_refl _) o)).more (by simp)
  have H0 := Lib.hid h0'
  have H1 := Lib.hid h1'
  obtain ⟨A0, c0, rfl, l0, -⟩ := h0
  obtain ⟨A1, c1, rfl, l1, -⟩ := h1
  clear h0' h1' hc hsort
  cases hd : memB hs d
  · cases hw : memB we (wkd d)
    all_goals
      have HW := Lib.hid hw
      have HD := Lib.hid hd
      clear hw hd
      go_enter Try.func76, Try.ntmps76
      go_wp2_with fail
      refine (search_any _ hs d _ (H1.out _) hl HS.out).mono ?_
      rintro e w' ⟨i, rfl, rfl⟩
      rw [HD.out]
      go_wp2_with (first | (go_at_call 106; refine (weekday_any _ _).mono ?_; rintro e w' ⟨rfl, rfl⟩) | (go_at_call 107; refine (contains_any _ we _ _ (H0.out _)).mono ?_; rintro e w' ⟨rfl, rfl⟩))
      go_ret
      exact ⟨ret_bool (by rw [isB, HD.out, HW.out]; simp), rfl⟩
  · have HD := Lib.hid hd
    clear hd
    go_enter Try.func76, Try.ntmps76
    go_wp2_with fail
    refine (search_any _ hs d _ (H1.out _) hl HS.out).mono ?_
    rintro e w' ⟨i, rfl, rfl⟩
    rw [HD.out]
    go_wp2
    go_ret
    exact ⟨ret_bool (by rw [isB, HD.out]; rfl), rfl⟩

set_option maxHeartbeats 400000 in
theorem rIs_any (v0 v1 : Value) (we hs : List Int) (d : Int) (w : World) (h0 : IntsAt w w.heap.size v0 we) (h1 : IntsAt w w.heap.size v1 hs) (hv : vB d = true) :
    Calls Try.prog 75 #[.agg #[v0, v1], .int .i64 d] w fun e w' => e = .returned (.bool (isB we hs d)) ∧ w.alloc (.cells #[v0, v1] 25) = w' := by
  obtain ⟨A0, c0, rfl, l0, hc0⟩ := h0
  obtain ⟨A1, c1, rfl, l1, hc1⟩ := h1
  have HC0 := Lib.hid hc0
  have HC1 := Lib.hid hc1
  clear hc0 hc1
  go_enter Try.func75, Try.ntmps75
  go_wp2_with (first | (go_at_call 72; refine (rday_any _ _).mono ?_; rintro e w' ⟨rfl, rfl⟩) | (go_at_call 102; refine (rweekday_any _ _).mono ?_; rintro e w' ⟨rfl, rfl⟩))
  go_loop [7] (fun i => ∃ k : Nat, k ≤ we.length ∧ i = .int .i64 k ∧ (∀ j, j < k → we[j]?.getD 0 ≠ wkd d)) (fun i => we.length - (intOf i).toNat)
  case atStart => exact ⟨0, Nat.zero_le _, rfl, fun j hj => by omega⟩
  case round =>
    obtain ⟨k, hk, rfl, hz⟩ := hrel
    have HZ := Lib.hid hz
    clear hz
    by_cases hlt : k < we.length
    · obtain ⟨b, off, rfl, hb, hcell⟩ := HC0.out (by omega)
      obtain ⟨y, hy⟩ : ∃ y, y = we[k]?.getD 0 := ⟨_, rfl⟩
      have hck : ∀ o, (w.alloc o).cell? ⟨b, off + k, none⟩ = some (.int .i64 y) := fun o => by
        rw [World.cell?_alloc_lt _ _ _ hb, hy]; exact hcell k hlt
      clear hcell
      have HY := Lib.hid hy
      clear hy
      by_cases he : y = wkd d
      · have e1 : (y == wkd d) = true := by simp [he]
        have HE := Lib.hid he
        clear he
        go_wp2
        go_ret
        exact ⟨ret_bool (by rw [isB, mem_at hlt (HE.out.symm.trans HY.out)]; simp), rfl⟩
      · have e1 : (y == wkd d) = false := by simp [he]
        have HE := Lib.hid he
        clear he
        go_wp2
        go_round
        case rel => exact ⟨k + 1, by omega, by go_num, ne_snoc HZ.out (by rw [← HY.out]; exact HE.out)⟩
        case measure => simp [intOf]; omega
    · obtain rfl : k = we.length := by omega
      clear HC0
      go_wp2
      go_loop [8] (fun i => ∃ k : Nat, k ≤ hs.length ∧ i = .int .i64 k ∧ (∀ j, j < k → hs[j]?.getD 0 ≠ d)) (fun i => hs.length - (intOf i).toNat)
      case atStart => exact ⟨0, Nat.zero_le _, rfl, fun j hj => by omega⟩
      case round =>
        obtain ⟨k, hk, rfl, hz⟩ := hrel
        have HZ2 := Lib.hid hz
        clear hz
        by_cases hlt : k < hs.length
        · obtain ⟨b, off, rfl, hb, hcell⟩ := HC1.out (by omega)
          obtain ⟨y, hy⟩ : ∃ y, y = hs[k]?.getD 0 := ⟨_, rfl⟩
          have hck : ∀ o, (w.alloc o).cell? ⟨b, off + k, none⟩ = some (.int .i64 y) := fun o => by
            rw [World.cell?_alloc_lt _ _ _ hb, hy]; exact hcell k hlt
          clear hcell
          have HY := Lib.hid hy
          clear hy
          by_cases he : y = d
          · have e1 : (y == d) = true := by simp [he]
            have HE := Lib.hid he
            clear he
            go_wp2
            go_ret
            exact ⟨ret_bool (by rw [isB, mem_at hlt (HE.out.symm.trans HY.out)]; simp), rfl⟩
          · have e1 : (y == d) = false := by simp [he]
            have HE := Lib.hid he
            clear he
            go_wp2
            go_round
            case rel => exact ⟨k + 1, by omega, by go_num, ne_snoc HZ2.out (by rw [← HY.out]; exact HE.out)⟩
            case measure => simp [intOf]; omega
        · obtain rfl : k = hs.length := by omega
          go_wp2
          go_ret
          exact ⟨ret_bool (by rw [isB, Bool.eq_false_iff.2 (not_mem HZ.out), Bool.eq_false_iff.2 (not_mem HZ2.out)]; rfl), rfl⟩
end Go.Proofs.Ytilbolgncpfmmaa
