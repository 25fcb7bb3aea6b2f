/- Walks: the reference's long numbers: groups, comparisons, sums, differences, products. -/
import Derived.Test.YtddfimjiihggmaaGreatDoorB7
import Derived.Test.YtddfimjiihggmaaGreatDoorB4
import Derived.Test.YtddfimjiihggmaaGreatDoorB9
import Derived.Test.YtddfimjiihggmaaGreatDoorB8
set_option maxHeartbeats 16000000
set_option maxRecDepth 20000
namespace Go.Proofs.YtddfimjiihggmaaGreatDoor
open Go.RowKit Px
structure MulOk (m n : List Nat) (i : Nat) (O : List Nat) : Prop where
 len : O.length = m.length + n.length
 ok : gok O
 val : gval O = gval (m.take i) * gval n
 hi : ∀ j, i + n.length ≤ j → gat O j = 0
theorem MulOk.zero (m n : List Nat) : MulOk m n 0 (List.replicate (m.length + n.length) 0) :=
 ⟨by simp, fun x hx => by rw [List.eq_of_mem_replicate hx]; omega, by simp [gval_zeros, gval], fun j _ => by
  simp only [gat, List.getElem?_replicate]
  split <;> rfl⟩
theorem MulOk.next {m n O : List Nat} {i x k : Nat} (h : MulOk m n i O) (hm : gok m) (hn : gok n) (hx : m[i]? = some x) (hk : n.length ≤ k) (hk2 : k ≤ n.length + 1) (hc : (mulI O x n i k).2 = 0) (hi : i < m.length) : MulOk m n (i + 1) (mulI O x n i k).1 := by
 have hx9 : x < 1000000000 := hm x (List.mem_of_getElem? hx)
 obtain ⟨q1, q2, -, q4, q5⟩ := mulI_spec (i := i) h.ok hn hx9 k (by rw [h.len]; omega)
 rw [hc, List.take_of_length_le hk, Nat.mul_zero, Nat.add_zero] at q4
 refine ⟨q1.trans h.len, q2, ?_, fun j hj => ?_⟩
 · rw [q4, h.val, gval_take, gat_get hx, Nat.add_mul, Nat.mul_assoc]
 · rw [q5 j (by omega)]
   exact h.hi j (by omega)
open Go.RowKit Px Go.Sort Go.Lib
end Go.Proofs.YtddfimjiihggmaaGreatDoor
namespace Go.Proofs.YtddfimjiihggmaaGreatDoor.Px
open Go.RowKit
section
variable {P : Program} {B : Nat} {w0 : Cx} {Q : Exit → PS → Prop} {st : PS} {c : Code}
end
section
variable {P : Program} {sq : Bool} {ops : Array Oper} {K : PS → Prop} {rest : List Oper} {st : PS} {d : Option Nat} {ty : TypeId} {pos : String} {af : Array Edge} {gd : Option (Nat × Bool)}
end
section
variable {P : Program} {ops : Array Oper} {K : PS → Prop} {rest : List Oper} {st : PS} {ty ty2 : TypeId} {pos pos2 : String} {af af2 : Array Edge} {gd gd2 : Option (Nat × Bool)}
end
section
variable {P : Program} {B : Nat} {w0 : Cx} {st : PS} {l : List Oper}
end
section
variable {P : Program} {ops : Array Oper} {K : PS → Prop} {rest : List Oper} {st : PS}
end
end Go.Proofs.YtddfimjiihggmaaGreatDoor.Px
namespace Go.Proofs.YtddfimjiihggmaaGreatDoor
open Go.RowKit Px
def okD (d : Str) : Bool := d.all isD && (!(d == []) && !(decide (d.head? = some 48) && !(d == [48])))
theorem cutB_nn {c : UInt8} {s : Str} (h : ∀ x ∈ s, x ≠ c) : cutB c s = none := by
 induction s with
 | nil => rfl
 | cons b l ih => rw [cutB, if_neg (h b (List.mem_cons_self ..)), ih fun x hx => h x (List.mem_cons_of_mem _ hx)]; rfl
theorem cutB_at {c : UInt8} {s : Str} {i : Nat} (h : ∀ x ∈ s.take i, x ≠ c) (hi : s[i]? = some c) : cutB c s = some (s.take i, s.drop (i + 1)) := by
 induction i generalizing s with
 | zero =>
  cases s with
  | nil => cases hi
  | cons b l =>
   have : b = c := by simpa using hi
   rw [cutB, if_pos this]; rfl
 | succ i ih =>
  cases s with
  | nil => cases hi
  | cons b l =>
   rw [cutB, if_neg (h b (by simp)), ih (fun x hx => h x (by simp [hx])) (by simpa using hi)]
   rfl
theorem prT_okD {d : Str} : okD d = true ↔ prT d = d ∧ d.head? ≠ some 45 := by
 constructor
 · intro h
   unfold okD at h
   simp only [Bool.and_eq_true] at h
   obtain ⟨h1, h2, h3⟩ := h
   cases d with
   | nil => simp at h2
   | cons x l =>
   have hx : isD x = true := by rw [List.all_cons, Bool.and_eq_true] at h1; exact h1.1
   have hx45 : (x :: l).head? ≠ some 45 := fun e => by
    have e : x = 45 := by simpa using e
    rw [e] at hx
    cases hx
   refine ⟨?_, hx45⟩
   by_cases h48 : x :: l = [48]
   · rw [h48]; kernel_rfl
   have hx48 : x ≠ 48 := fun e => by
    rw [e] at h3 h48
    rw [show ((48 :: l : Str) == [48]) = false by simpa using h48] at h3
    simp at h3
   have hb : bod (x :: l) = x :: l := by rw [bod, if_neg hx45]
   have hg : dgs (x :: l) = (x :: l, false) := by
    unfold dgs
    rw [hb, if_pos h1, List.dropWhile_cons, if_neg (by simpa using hx48), decide_eq_false hx45]
    rfl
   have hc : canon (val (x :: l)) = x :: l := by rw [canon_val, hg]; rfl
   unfold prT
   rw [hc, if_neg (by simp)]
 · rintro ⟨h1, h2⟩
   unfold prT at h1
   split at h1
   · rw [← h1]; rfl
   · rename_i hne
     rw [canon_val] at h1
     split at h1
     · rw [← h1] at h2; simp at h2
     · have ha := dgs_all d
       have hh := dgs_head d
       rw [h1] at ha hh
       have hne2 : d ≠ [] := fun e => hne (by rw [e]; kernel_rfl)
       unfold okD
       rw [ha, decide_eq_false hh]
       simpa using hne2
def finP (l : List (Bool × Str)) (zs : List Cf) : Int × List Cf := if l.all (fun p => (tmS p).isSome) then (if 16 < (zs ++ l.filterMap tmS).length then (4, []) else (0, nf (zs ++ l.filterMap tmS))) else (3, [])
theorem finP_paE (s : Str) (h0 : s ≠ [48]) : finP (ptsL s) [] = (paE s, paR s) := by
 rw [paE, paR, if_neg h0, if_neg h0]
 show (if okT s = true then (if 16 < ([] ++ lsT s).length then ((4 : Int), ([] : List Cf)) else (0, nf ([] ++ lsT s))) else (3, [])) = _
 rw [List.nil_append]
 by_cases h : okT s = true
 · rw [if_pos h, if_pos h, if_pos h]
   by_cases h2 : 16 < (lsT s).length
   · rw [if_pos h2, if_pos h2, if_pos h2]
   · rw [if_neg h2, if_neg h2, if_neg h2]
 · rw [if_neg h, if_neg h, if_neg h]
theorem ct_cons2 {a : UInt8} {X : Str} (h : a ≠ 32) : ctT 32 (a :: 32 :: X) = [a] ∧ ctR 32 (a :: 32 :: X) = X := by
 have : cutB 32 (a :: 32 :: X) = some ([a], X) := by rw [cutB, if_neg h, cutB, if_pos rfl]; rfl
 rw [ctT, ctR, this]
 exact ⟨rfl, rfl⟩
end Go.Proofs.YtddfimjiihggmaaGreatDoor
