/- The walks of slices.Equal at []Period, []int and []Day, for this seat. -/
import Derived.Test.YtilbolgncpfmmaaEqS
namespace Go.Proofs.Ytilbolgncpfmmaa
open Go.RowKit

theorem getP_ext {ps qs : List (Int × Int)} (hl : ps.length = qs.length) (h : ∀ j, j < ps.length → getP ps j = getP qs j) : ps = qs := by
  apply List.ext_getElem? 
  intro i
  by_cases hi : i < ps.length
  · have := h i hi
    unfold getP at this
    rw [List.getElem?_eq_getElem hi, List.getElem?_eq_getElem (by omega)] at this ⊢
    exact congrArg some this
  · rw [List.getElem?_eq_none (by omega), List.getElem?_eq_none (by omega)]

set_option maxHeartbeats 1000000 in
theorem eqPer_any (v v' : Value) (ps qs : List (Int × Int)) (w : World) (h0 : PersAt w w.heap.size v ps) (h1 : PersAt w w.heap.size v' qs) :
    Calls Try.prog 42 #[v, v'] w fun e w' => e = .returned (.bool (ps == qs)) ∧ ∃ n, w' = w.drewN n := by
  obtain ⟨A, c, rfl, hcc, l0, hc0⟩ := h0
  obtain ⟨A', c', rfl, hcc', l1, hc1⟩ := h1
  have HC := Lib.hid hc0
  have HC' := Lib.hid hc1
  have HCC := Lib.hid (And.intro hcc hcc')
  clear hc0 hc1 hcc hcc'
  by_cases hl : ps.length = qs.length
  · have t : ((ps.length : Int) != (qs.length : Int)) = false := by simp [hl]
    have HL := Lib.hid hl
    clear hl
    go_enter Try.func42, Try.ntmps42
    go_wp2
    go_loopw [13] (fun i wr => ∃ k : Nat, k ≤ ps.length ∧ i = .int .i64 k ∧ Hid ((∃ n, wr = w.drewN n) ∧ (∀ j, j < k → getP ps j = getP qs j))) (fun i _ => ps.length - (intOf i).toNat)
    case atStart => exact ⟨0, Nat.zero_le _, rfl, Lib.hid ⟨⟨0, rfl⟩, fun j hj => by omega⟩⟩
    case round =>
      obtain ⟨k, hk, rfl, HR⟩ := hrel
      obtain ⟨⟨n, hw⟩, hz⟩ := HR.out
      by_cases hlt : k < ps.length
      · have HLL := HL.out
        obtain ⟨b, off, rfl, hb, hcell⟩ := HC.out (by omega)
        obtain ⟨b', off', rfl, hb', hcell'⟩ := HC'.out (by omega)
        obtain ⟨x, hx⟩ : ∃ x, x = (getP ps k).1 := ⟨_, rfl⟩
        obtain ⟨y, hy⟩ : ∃ y, y = (getP ps k).2 := ⟨_, rfl⟩
        obtain ⟨x', hx'⟩ : ∃ x, x = (getP qs k).1 := ⟨_, rfl⟩
        obtain ⟨y', hy'⟩ : ∃ y, y = (getP qs k).2 := ⟨_, rfl⟩
        have c1 : wr.cell? ⟨b, off + k * 2, none⟩ = some (.int .i64 x) := by rw [hx, hw]; exact (hcell k hlt).1
        have c2 : wr.cell? ⟨b, off + k * 2 + 1, none⟩ = some (.int .i64 y) := by rw [hy, hw]; exact (hcell k hlt).2
        have c3 : wr.cell? ⟨b', off' + k * 2, none⟩ = some (.int .i64 x') := by rw [hx', hw]; exact (hcell' k (by omega)).1
        have c4 : wr.cell? ⟨b', off' + k * 2 + 1, none⟩ = some (.int .i64 y') := by rw [hy', hw]; exact (hcell' k (by omega)).2
        have HZ := Lib.hid hz
        have HXY := Lib.hid (And.intro (And.intro hx hy) (And.intro hx' hy'))
        have HW := Lib.hid hw
        have i1 : (k : Int) < ps.length := by omega
        have i2 : (k : Int) < qs.length := by omega
        have HLQ := Lib.hid HLL
        clear hcell hcell' hz hx hy hx' hy' HLL hw
        have e1 := neqPer x y x' y'
        cases t1 : (x == x' && y == y')
        · rw [t1] at e1
          go_wp2_with fail
          go_quiet (fail)
          go_wp2
          go_ret
          refine ⟨ret_bool ?_, ?_⟩
          · cases h : ps == qs
            · rfl
            · have h := eq_of_beq h
              subst h
              have := HXY.out
              rw [this.1.1, this.1.2, this.2.1, this.2.2] at t1
              simp at t1
          · exact ⟨n + nq, by rw [HW.out, World.drewN_drewN]⟩
        · rw [t1] at e1
          go_wp2_with fail
          go_quiet (fail)
          go_wp2
          go_roundw
          case rel =>
            refine ⟨k + 1, by omega, by go_num, Lib.hid ⟨⟨n + nq, by rw [HW.out, World.drewN_drewN]⟩, fun j hj => ?_⟩⟩
            by_cases e : j = k
            · subst e
              have := HXY.out
              simp at t1
              exact Prod.ext (by rw [← this.1.1, ← this.2.1, t1.1]) (by rw [← this.1.2, ← this.2.2, t1.2])
            · exact HZ.out j (by omega)
          case measure => simp [intOf]; omega
      · obtain rfl : k = ps.length := by omega
        have HZ := Lib.hid hz
        have HW := Lib.hid hw
        clear hz hw
        go_wp2
        go_ret
        exact ⟨ret_bool (by rw [getP_ext HL.out HZ.out]; simp), n, HW.out⟩
  · have t : ((ps.length : Int) != (qs.length : Int)) = true := by simp; omega
    have HL := Lib.hid hl
    clear hl
    go_enter Try.func42, Try.ntmps42
    go_wp2
    go_ret
    exact ⟨ret_bool (by have := HL.out; cases h : ps == qs; rfl; exact absurd (congrArg List.length (eq_of_beq h)) this), 0, rfl⟩
end Go.Proofs.Ytilbolgncpfmmaa
