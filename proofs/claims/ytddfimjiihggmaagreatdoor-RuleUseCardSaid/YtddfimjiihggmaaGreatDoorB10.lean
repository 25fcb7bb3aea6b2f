/- Walks: the reference's long numbers: groups, comparisons, sums, differences, products. -/
import Derived.Test.YtddfimjiihggmaaGreatDoorB9
set_option maxHeartbeats 16000000
set_option maxRecDepth 20000
namespace Go.Proofs.YtddfimjiihggmaaGreatDoor
open Go.RowKit Px
structure MulOk (m n : List Nat) (i : Nat) (O : List Nat) : Prop where
 len : O.length = m.length + n.length
 ok : gok O
 val : gval O = gval (m.take i) * gval n
 hi : ∀ j, i + n.length ≤ j → gat O j = 0
theorem MulOk.zero (m n : List Nat) : MulOk m n 0 (List.replicate (m.length + n.length) 0) :=
 ⟨by simp, fun x hx => by rw [List.eq_of_mem_replicate hx]; omega, by simp [gval_zeros, gval], fun j _ => by
  simp only [gat, List.getElem?_replicate]
  split <;> rfl⟩
theorem MulOk.next {m n O : List Nat} {i x k : Nat} (h : MulOk m n i O) (hm : gok m) (hn : gok n) (hx : m[i]? = some x) (hk : n.length ≤ k) (hk2 : k ≤ n.length + 1) (hc : (mulI O x n i k).2 = 0) (hi : i < m.length) : MulOk m n (i + 1) (mulI O x n i k).1 := by
 have hx9 : x < 1000000000 := hm x (List.mem_of_getElem? hx)
 obtain ⟨q1, q2, -, q4, q5⟩ := mulI_spec (i := i) h.ok hn hx9 k (by rw [h.len]; omega)
 rw [hc, List.take_of_length_le hk, Nat.mul_zero, Nat.add_zero] at q4
 refine ⟨q1.trans h.len, q2, ?_, fun j hj => ?_⟩
 · rw [q4, h.val, gval_take, gat_get hx, Nat.add_mul, Nat.mul_assoc]
 · rw [q5 j (by omega)]
   exact h.hi j (by omega)
open Go.RowKit Px Go.Sort Go.Lib
end Go.Proofs.YtddfimjiihggmaaGreatDoor
namespace Go.Proofs.YtddfimjiihggmaaGreatDoor.Px
open Go.RowKit
section
variable {P : Program} {B : Nat} {w0 : Cx} {Q : Exit → PS → Prop} {st : PS} {c : Code}
end
section
variable {P : Program} {sq : Bool} {ops : Array Oper} {K : PS → Prop} {rest : List Oper} {st : PS} {d : Option Nat} {ty : TypeId} {pos : String} {af : Array Edge} {gd : Option (Nat × Bool)}
end
section
variable {P : Program} {ops : Array Oper} {K : PS → Prop} {rest : List Oper} {st : PS} {ty ty2 : TypeId} {pos pos2 : String} {af af2 : Array Edge} {gd gd2 : Option (Nat × Bool)}
end
section
variable {P : Program} {B : Nat} {w0 : Cx} {st : PS} {l : List Oper}
end
section
variable {P : Program} {ops : Array Oper} {K : PS → Prop} {rest : List Oper} {st : PS}
end
end Go.Proofs.YtddfimjiihggmaaGreatDoor.Px
namespace Go.Proofs.YtddfimjiihggmaaGreatDoor
open Go.RowKit Px
theorem toDs_vs (vs : List Value) : toDs (vs.map fun u => SV.d (.val u)) = some (vs.map DV.val) := toDs_map (fun u => DV.val u) vs
end Go.Proofs.YtddfimjiihggmaaGreatDoor