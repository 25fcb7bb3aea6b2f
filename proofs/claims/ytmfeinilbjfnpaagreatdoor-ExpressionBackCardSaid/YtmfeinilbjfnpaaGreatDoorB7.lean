/- Walks: the reference's long numbers: groups, comparisons, sums, differences, products. -/
import Derived.Test.YtmfeinilbjfnpaaGreatDoorB5
import Derived.Test.YtmfeinilbjfnpaaGreatDoorB6
import Derived.Test.YtmfeinilbjfnpaaGreatDoorB4
namespace Go.Proofs.YtmfeinilbjfnpaaGreatDoor
open Go.RowKit Px

abbrev dJ (x : Nat) : List DV := [dI x]
abbrev dJm (b : Bool) (l : List Nat) : List DV := [dB b, .sl 1 (l.map dJ)]
/-- the order of two numbers in groups -/
def ordR (l r : List Nat) : Int := if l.length < r.length then -1 else if r.length < l.length then 1 else cmpT l r l.length
abbrev jT (n : Nat) : Nat := 3 * 100000 + n
end Go.Proofs.YtmfeinilbjfnpaaGreatDoor
namespace Go.Proofs.YtmfeinilbjfnpaaGreatDoor
open Go.RowKit Px

abbrev vJ (l : List Nat) : List Value := l.map fun x : Nat => Value.int .i64 (x : Int)
abbrev cJ (l : List Nat) : List SV := (vJ l).map fun u => SV.d (.val u)
/-- a row of the product done: what is kept -/
structure MulOk (m n : List Nat) (i : Nat) (O : List Nat) : Prop where
  len : O.length = m.length + n.length
  ok : gok O
  val : gval O = gval (m.take i) * gval n
  hi : ∀ j, i + n.length ≤ j → gat O j = 0
theorem MulOk.zero (m n : List Nat) : MulOk m n 0 (List.replicate (m.length + n.length) 0) :=
  ⟨by simp, fun x hx => by rw [List.eq_of_mem_replicate hx]; omega, by simp [gval_zeros, gval], fun j _ => by
    simp only [gat, List.getElem?_replicate]
    split <;> rfl⟩
theorem MulOk.next {m n O : List Nat} {i x k : Nat} (h : MulOk m n i O) (hm : gok m) (hn : gok n) (hx : m[i]? = some x) (hk : n.length ≤ k) (hk2 : k ≤ n.length + 1) (hc : (mulI O x n i k).2 = 0) (hi : i < m.length) : MulOk m n (i + 1) (mulI O x n i k).1 := by
  have hx9 : x < 1000000000 := hm x (List.mem_of_getElem? hx)
  obtain ⟨q1, q2, -, q4, q5⟩ := mulI_spec (i := i) h.ok hn hx9 k (by rw [h.len]; omega)
  rw [hc, List.take_of_length_le hk, Nat.mul_zero, Nat.add_zero] at q4
  refine ⟨q1.trans h.len, q2, ?_, fun j hj => ?_⟩
  · rw [q4, h.val, gval_take, gat_get hx, Nat.add_mul, Nat.mul_assoc]
  · rw [q5 j (by omega)]
    exact h.hi j (by omega)
end Go.Proofs.YtmfeinilbjfnpaaGreatDoor
namespace Go.Proofs.YtmfeinilbjfnpaaGreatDoor
open Go.RowKit Px

/-- the last k digits -/
def lowd (y : Nat) : Nat → Str
  | 0 => []
  | k + 1 => dig (y / 10 ^ k % 10) :: lowd y k
end Go.Proofs.YtmfeinilbjfnpaaGreatDoor
namespace Go.Proofs.YtmfeinilbjfnpaaGreatDoor
open Go.RowKit Px

/-- the sum of two signed numbers -/
def addJ (b1 : Bool) (x : Nat) (b2 : Bool) (y : Nat) : Bool × Nat := if b1 = b2 then (b1, x + y) else if y ≤ x then (b1, x - y) else (b2, y - x)
end Go.Proofs.YtmfeinilbjfnpaaGreatDoor
set_option maxHeartbeats 1000000
namespace Go.Proofs.YtmfeinilbjfnpaaGreatDoor
open Go.RowKit Px Go.Sort Go.Lib

/-- how many terms stand ahead of a name -/
def posC (O : List Cf) (nm : Str) : Nat := (O.takeWhile fun d => ltS d.1 nm).length
def insC (c : Cf) (O : List Cf) : List Cf := match O[posC O c.1]? with
  | some d => if d.1 = c.1 then O.set (posC O c.1) (d.1, addI d.2 c.2) else O.take (posC O c.1) ++ c :: O.drop (posC O c.1)
  | none => O.take (posC O c.1) ++ c :: O.drop (posC O c.1)
/-- the terms after the first ones -/
def rnI (e : List Cf) : Nat → List Cf
  | 0 => []
  | i + 1 => match e[i]? with
    | none => rnI e i
    | some c => insC c (rnI e i)
end Go.Proofs.YtmfeinilbjfnpaaGreatDoor
set_option maxHeartbeats 1000000
namespace Go.Proofs.YtmfeinilbjfnpaaGreatDoor.Px
open Go.RowKit

def emptyS : SV → Bool
  | .d (.sl _ []) => true
  | .ts _ _ [] => true
  | .d (.val (.slice none 0 0)) => true
  | _ => false
section
variable {P : Program} {B : Nat} {w0 : Cx} {Q : Exit → PS → Prop} {st : PS} {c : Code}
end

section
variable {P : Program} {sq : Bool} {ops : Array Oper} {K : PS → Prop} {rest : List Oper} {st : PS} {d : Option Nat} {ty : TypeId} {pos : String} {af : Array Edge} {gd : Option (Nat × Bool)}

end

section
variable {P : Program} {ops : Array Oper} {K : PS → Prop} {rest : List Oper} {st : PS} {ty ty2 : TypeId} {pos pos2 : String} {af af2 : Array Edge} {gd gd2 : Option (Nat × Bool)}
end
section
variable {P : Program} {B : Nat} {w0 : Cx} {st : PS} {l : List Oper}
end
section
variable {P : Program} {ops : Array Oper} {K : PS → Prop} {rest : List Oper} {st : PS}
end
end Go.Proofs.YtmfeinilbjfnpaaGreatDoor.Px
namespace Go.Proofs.YtmfeinilbjfnpaaGreatDoor
open Go.RowKit Px

abbrev vC (l : List Cf) : List Value := l.flatMap fun h => [vS h.1, vS h.2]
abbrev cC (l : List Cf) : List SV := (vC l).map fun u => SV.d (.val u)
abbrev cT : Nat := 36
abbrev rsS : Nat → List Cf → SV
  | 0, _ => .d (.val (.slice none 0 0))
  | _ + 1, O => .bs 79 O.length cT 2
abbrev rsB : Nat → List Cf → List (Nat × List SV)
  | 0, _ => []
  | _ + 1, O => [(79, cC O)]
abbrev kT : Nat := cT * 100000 + 7
def keepF (c : Cf) : Bool := !(c.2 == [])
end Go.Proofs.YtmfeinilbjfnpaaGreatDoor
namespace Go.Proofs.YtmfeinilbjfnpaaGreatDoor
open Go.RowKit Px

end Go.Proofs.YtmfeinilbjfnpaaGreatDoor
