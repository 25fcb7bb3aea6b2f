/- The walks of schedule's regular and Equal of periods, for this seat. -/
import Derived.Test.YtilbolgncpfmmaaSch
namespace Go.Proofs.Ytilbolgncpfmmaa
open Go.RowKit

def sReg (a b m : Int) : Bool := (amE a m == 0 && amV a m == b) || (amE b (-m) == 0 && amV b (-m) == a)

set_option maxHeartbeats 1000000 in
theorem regular_any (a b m : Int) (w : World) (hm : -4800 ≤ m) (hm' : m ≤ 4800) :
    Calls Try.prog 90 #[.agg #[.int .i64 a, .int .i64 b], .int .i64 m] w fun e w' => e = .returned (.bool (sReg a b m)) ∧ Below w.heap.size w w' := by
  obtain ⟨x, hx⟩ : ∃ x, x = amV a m := ⟨_, rfl⟩
  obtain ⟨e, he⟩ : ∃ e, e = amE a m := ⟨_, rfl⟩
  obtain ⟨y, hy⟩ : ∃ y, y = amV b (-m) := ⟨_, rfl⟩
  obtain ⟨f, hf⟩ : ∃ f, f = amE b (-m) := ⟨_, rfl⟩
  have HV := Lib.hid (show sReg a b m = ((e == 0 && x == b) || (f == 0 && y == a)) by rw [sReg, hx, he, hy, hf])
  have C1 := Lib.hid (show ∀ w, Calls Try.prog 46 #[.int .i64 a, .int .i64 m] w fun e' w' => e' = .returned (.tuple #[.int .i64 x, .int .i64 e]) ∧ Below w.heap.size w w' from fun w => by rw [hx, he]; exact AddMonths_any a m w (by omega) (by omega))
  have C2 := Lib.hid (show ∀ w, Calls Try.prog 46 #[.int .i64 b, .int .i64 (-m)] w fun e' w' => e' = .returned (.tuple #[.int .i64 y, .int .i64 f]) ∧ Below w.heap.size w w' from fun w => by rw [hy, hf]; exact AddMonths_any b (-m) w (by omega) (by omega))
  clear hx he hy hf
  have HA := Lib.hid (show ∀ o, Below w.heap.size w (w.alloc o) from fun o => (Below.refl _ _).alloc (Nat.le_refl _) o)
  go_enter Try.func90, Try.ntmps90
  go_wp2_with fail
  refine (C1.out _).mono ?_
  rintro e' w1 ⟨rfl, hb1⟩
  have p1 := (Box.new w 28 #[.int .i64 a, .int .i64 b]).below hb1 (by simp)
  have c0 : w1.cell? ⟨w.heap.size, 0, none⟩ = some (.int .i64 a) := p1.cell 0
  have c1 : w1.cell? ⟨w.heap.size, 1, none⟩ = some (.int .i64 b) := p1.cell 1
  have P1 := Lib.hid p1
  have HB1 := Lib.hid hb1
  have hs1 : w.heap.size + 1 ≤ w1.heap.size := by have := hb1.size; simpa using this
  clear p1 hb1
  go_wp2_with fail
  refine (C2.out _).mono ?_
  rintro e' w2 ⟨rfl, hb2⟩
  have p2 := P1.out.below hb2 (by omega)
  have d0 : w2.cell? ⟨w.heap.size, 0, none⟩ = some (.int .i64 a) := p2.cell 0
  have d1 : w2.cell? ⟨w.heap.size, 1, none⟩ = some (.int .i64 b) := p2.cell 1
  have HB2 := Lib.hid (show Below w.heap.size w w2 from ((HA.out _).trans (HB1.out.mono (by simp))).trans (hb2.mono (by omega)))
  clear p2 hb2 c0 c1
  cases t1 : (e == 0) <;> cases t2 : (x == b) <;> cases t3 : (f == 0) <;> cases t4 : (y == a)
  all_goals
    go_wp2
    go_ret
    exact ⟨ret_bool (by rw [HV.out]; simp_all), HB2.out⟩
end Go.Proofs.Ytilbolgncpfmmaa
