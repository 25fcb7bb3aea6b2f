/- Walks: the laws of heirs and origins. -/
import Derived.Test.YtkfoogabijnamaaGreatDoorB8
import Derived.Test.YtkfoogabijnamaaGreatDoorB4
import Derived.Lib.SliceRun
import Derived.Test.YtkfoogabijnamaaGreatDoorB3
import Derived.Shelf.SlicesQ.Reverse
import Derived.Ground.SlgnProg
import Derived.Test.YtkfoogabijnamaaGreatDoorProg
namespace Go.Proofs.YtkfoogabijnamaaGreatDoor
open Go.RowKit Px

end Go.Proofs.YtkfoogabijnamaaGreatDoor
set_option maxHeartbeats 1000000
namespace Go.Proofs.YtkfoogabijnamaaGreatDoor.Px
open Go.RowKit

def Rbq (p : Prop) (_ : Nat → Nat → Prop) (_ : World) (v : Value) : Prop := v = .bool false ∨ (v = .bool true ∧ p)
/-- a bool that may be true only if p -/
abbrev dBq (p : Prop) : DV := .abs (Rbq p)
theorem Rbq.mono {p : Prop} (F F' : Nat → Nat → Prop) (w w' : World) (v : Value) (h : Rbq p F w v) (_ : Kp F w F' w') : Rbq p F' w' v := h
theorem DRep.of_bq {F : Nat → Nat → Prop} {w : World} {v : Value} {p : Prop} (h : Rbq p F w v) : DRep F w v (dBq p) :=
  .abs Rbq.mono (by rcases h with rfl | ⟨rfl, -⟩ <;> rfl) h
theorem DRep.bq {F : Nat → Nat → Prop} {w : World} {v : Value} {p : Prop} (h : DRep F w v (dBq p)) : Rbq p F w v := by
  generalize e : dBq p = x at h
  cases h with
  | abs hR h1 h => cases e; exact h
  | _ => cases e
section
variable {P : Program} {sq : Bool} {ops : Array Oper} {K : PS → Prop} {rest : List Oper} {st : PS} {d : Option Nat} {ty : TypeId} {pos : String} {af : Array Edge} {gd : Option (Nat × Bool)}
theorem ls_equ (t t' : TypeId) (x : Operand) {te k : Nat} {es : List (List DV)} (hp : P.underlying t = some (.slice te)) (hx : asSl (st.ev x) = some (k, es)) (hd : dstOk ⟨d, .binOp .eql t x (.const (.slice none 0 0)) t', ty, pos, af, gd⟩ st = true) : LocS P ⟨d, .binOp .eql t x (.const (.slice none 0 0)) t', ty, pos, af, gd⟩ st (.d (dBq (es = []))) .no := fun st2 ha =>
  OpS.value (ha.dst hd) fun _ _ g a w h => by
    have h1 := h.eval x
    rw [ha.ev x (by simp [Op.operands])] at h1
    obtain ⟨A, c, news, hv, -, -, -, -, hcell, -⟩ := DRep.row (h1.asSl hx)
    have h5 : a.eval (.const (.slice none 0 0)) = .slice none 0 0 := rfl
    refine ⟨.bool A.isNone, w, ?_, Below.refl _ _, DRep.of_bq ?_⟩
    · simp only [execOp, hv, h5]
      simp [eqGuard, Lib.run_eql_slice_nil w t te _ _ _ _ _ hp, Result.andThen]
    · cases A with
      | some A => exact .inl rfl
      | none =>
        refine .inr ⟨rfl, ?_⟩
        cases es with
        | nil => rfl
        | cons e es =>
          obtain ⟨b, off, h2, -⟩ := hcell (by simp)
          cases h2
/-- a slice compared with nil: either way -/
theorem yEu {t t' : Nat} {x : Operand} {te k : Nat} {es : List (List DV)} (hp : P.underlying t = some (.slice te)) (hx : asSl (st.ev x) = some (k, es)) (h : YR P sq ops K rest (st.put d (.d (dBq (es = []))))) (hd : dstOk ⟨d, .binOp .eql t x (.const (.slice none 0 0)) t', ty, pos, af, gd⟩ st = true := by kernel_rfl) (hk : opOk ⟨d, .binOp .eql t x (.const (.slice none 0 0)) t', ty, pos, af, gd⟩ st .no = true := by kernel_rfl) (hw : st.want ops ⟨d, .binOp .eql t x (.const (.slice none 0 0)) t', ty, pos, af, gd⟩ = some true := by rfl) :
    YR P sq ops K (⟨d, .binOp .eql t x (.const (.slice none 0 0)) t', ty, pos, af, gd⟩ :: rest) st := yr_v (ls_equ t t' x hp hx hd) hk hw h
/-- nothing is appended to a row that may be written -/
theorem yTw0 {T E k bytes n i : Nat} {x y : Operand} [hA : AppOf P T E k bytes] (hx : st.ev x = .bs i n E k) (hy : asSl (st.ev y) = some (k, [])) (h : YR P sq ops K rest (st.put d (.bs i n E k))) (hd : dstOk ⟨d, .call { callee := .builtin .append, args := #[x, y], argTypes := #[T, T] }, ty, pos, af, gd⟩ st = true := by kernel_rfl) (hk : opOk ⟨d, .call { callee := .builtin .append, args := #[x, y], argTypes := #[T, T] }, ty, pos, af, gd⟩ st .no = true := by kernel_rfl) (hw : st.want ops ⟨d, .call { callee := .builtin .append, args := #[x, y], argTypes := #[T, T] }, ty, pos, af, gd⟩ = some true := by rfl) :
    YR P sq ops K (⟨d, .call { callee := .builtin .append, args := #[x, y], argTypes := #[T, T] }, ty, pos, af, gd⟩ :: rest) st := yr_v (fun st2 ha =>
  OpS.value (ha.dst hd) fun _ _ g a w hr => by
    have h1 := hr.eval x
    rw [ha.ev x (by simp [Op.operands, Call.operands]), hx] at h1
    have h1' := h1
    obtain ⟨b, c, p1, p2, p3, p4, p5⟩ := h1
    have h3 := hr.eval y
    rw [ha.ev y (by simp [Op.operands, Call.operands])] at h3
    obtain ⟨A2, c2, news, hv2, hc2, hm2, hk2, hl2, hcell2, hone2, hrep2⟩ := DRep.row (h3.asSl hy)
    obtain ⟨ti, z, q1, q2, q3, q4, q5⟩ := hA.inf
    refine ⟨a.eval x, w, ?_, Below.refl _ _, h1'⟩
    have r : (Builtin.append_ #[T, T] ty #[a.eval x, .slice A2 ([] : List (List DV)).length c2]).run P w = .ok (a.eval x) w := by
      rw [p2]
      cases A2 <;> simp [Builtin.append_, run_underlying hA.und, sizeOf, typeInfo, q1, Builtin.lenOf, Builtin.firstCells, loadCells, loadCellsFrom, storeCells, p3]
    simp only [execOp, resolve, invoke, builtin, Sem.run_bind, Sem.run_pure, Result.andThen_ok, List.map_toArray, List.map_cons, List.map_nil, hv2, r]) hk hw h
variable {B : Nat} {w0 : Cx} {Q : Exit → PS → Prop} {c : Code}
/-- both ways -/
theorem pw_bq (s : Nat) {p : Prop} (hs : st.get s = .d (dBq p)) (h1 : PW P B w0 c Q (st.put (some s) (.d (.val (.bool false))))) (h2 : p → PW P B w0 c Q (st.put (some s) (.d (.val (.bool true))))) : PW P B w0 c Q st := fun g a w hr => by
  have hv := hr.slots s
  rw [hs] at hv
  have hq : Rbq p (Fx g) w (a.tmps.getD s undef) := DRep.bq hv
  rcases hq with hq | ⟨hq, hp⟩
  · refine h1 g a w { hr with lim := hr.lim, size := hr.size, boxes := hr.boxes, maps := hr.maps, dom := hr.dom, tdom := hr.tdom, tlen := hr.tlen, glob := hr.glob, slots := fun j => ?_ }
    rw [get_put]
    by_cases e : j = s
    · rw [if_pos e, e, hq]; exact DRep.val _ rfl
    · rw [if_neg e]; exact hr.slots j
  · refine h2 hp g a w { hr with lim := hr.lim, size := hr.size, boxes := hr.boxes, maps := hr.maps, dom := hr.dom, tdom := hr.tdom, tlen := hr.tlen, glob := hr.glob, slots := fun j => ?_ }
    rw [get_put]
    by_cases e : j = s
    · rw [if_pos e, e, hq]; exact DRep.val _ rfl
    · rw [if_neg e]; exact hr.slots j
end
end Go.Proofs.YtkfoogabijnamaaGreatDoor.Px
set_option maxHeartbeats 1000000
namespace Go.Proofs.YtkfoogabijnamaaGreatDoor.Px
open Go.RowKit

/-- a function without captured variables, as a value -/
abbrev vF (f : FuncId) : Value := .func (.func f) #[] #[]
def cst : Operand → Operand
  | .func f => .const (vF f)
  | x => x
section
variable {P : Program} {sq : Bool} {ops : Array Oper} {K : PS → Prop} {rest : List Oper} {st : PS} {d : Option Nat} {ty : TypeId} {pos : String} {af : Array Edge} {gd : Option (Nat × Bool)}
variable {B : Nat} {w0 : Cx} {Q : Exit → PS → Prop} {c : Code}
end
end Go.Proofs.YtkfoogabijnamaaGreatDoor.Px
namespace Go.Proofs.YtkfoogabijnamaaGreatDoor
open Go.RowKit Px

abbrev vSt (l : List Stp) : List Value := l.flatMap fun s => [vS s.c, vS s.f, vS s.t, vS s.q, vS s.m, vS s.k]
abbrev cSt (l : List Stp) : List SV := (vSt l).map fun u => SV.d (.val u)
theorem vSt_len (l : List Stp) : (vSt l).length = l.length * 6 := by
  induction l with
  | nil => rfl
  | cons s l ih =>
    show (vS s.c :: vS s.f :: vS s.t :: vS s.q :: vS s.m :: vS s.k :: vSt l).length = _
    simp only [List.length_cons, ih]
    omega
theorem chunk_vSt (l : List Stp) {n : Nat} (h : l.length = n) : chunk 6 n ((vSt l).map .val) = l.map dSp := by
  subst h
  induction l with
  | nil => rfl
  | cons x l ih =>
    show [dS x.c, dS x.f, dS x.t, dS x.q, dS x.m, dS x.k] :: chunk 6 l.length ((vSt l).map .val) = dSp x :: l.map dSp
    rw [ih]
    rfl
theorem toDs_vs (vs : List Value) : toDs (vs.map fun u => SV.d (.val u)) = some (vs.map DV.val) := toDs_map (fun u => DV.val u) vs
theorem noTs_vs (vs : List Value) (t : Nat) : ((vs.map fun u => SV.d (.val u)).all fun x => x.noTs t) = true := by
  rw [List.all_eq_true]
  intro x hx
  rw [List.mem_map] at hx
  obtain ⟨u, -, rfl⟩ := hx
  rfl
abbrev sT5 : Nat := 45 * 100000 + 5
set_option maxRecDepth 20000 in
set_option maxHeartbeats 1000000 in
theorem wCloneS (l : List Stp) (hl : l.length * 96 ≤ 140737488351232) : POwn Tryz.prog 35 [dSl l] 45 6 (l.map dSp) := by
  rcases Nat.eq_zero_or_pos l.length with h0 | h0
  · obtain rfl : l = [] := List.eq_nil_of_length_eq_zero h0
    refine pown_of_pw (t := sT5) Tryz.func35 rfl Tryz.ntmps35 Tryz.results35 (by simp) rfl fun B w0 => ?_
    refine pw_seq ?_; refine pw_region ?_; refine yAd rfl ?_; refine yQ ?_; refine pw_seq ?_; refine pw_seq ?_; refine pw_region ?_; refine yMd rfl ?_; refine yEu Tryz.underlying22 rfl ?_; refine yQ ?_; refine q_then ?_
    refine pw_bq 4 rfl ?_ fun _ => ?_
    · refine pw_cf rfl ?_; refine pw_skip ?_; refine pw_seq ?_; refine pw_region ?_; refine yEb rfl ?_; refine yMd rfl ?_; refine yTw0 rfl rfl ?_; refine yAw rfl ?_; refine yQ ?_
      refine pw_tkb 2 5 sT5 (n := 0) (es := []) (ds := []) rfl rfl rfl rfl rfl rfl rfl rfl ?_; refine pw_ret ?_
      exact q_own rfl rfl
    · refine pw_ct rfl ?_
      refine pw_seq ?_
      refine pw_region ?_
      refine yAd rfl ?_
      refine yQ ?_
      refine pw_tok 2 sT5 6 rfl rfl rfl ?_
      refine pw_ret ?_
      refine q_then_ret ?_
      exact q_own rfl rfl
  · refine pown_of_pw (t := sT5) Tryz.func35 rfl Tryz.ntmps35 Tryz.results35 (by simp) rfl fun B w0 => ?_
    refine pw_seq ?_; refine pw_region ?_; refine yAd rfl ?_; refine yQ ?_; refine pw_seq ?_; refine pw_seq ?_; refine pw_region ?_; refine yMd rfl ?_; refine yEn Tryz.underlying22 (by simp; omega) rfl ?_; refine yQ ?_
    refine pw_cf rfl ?_; refine pw_skip ?_; refine pw_seq ?_; refine pw_region ?_; refine yEb rfl ?_; refine yMd rfl ?_
    refine yTw (us := []) (vs := vSt l) (m := l.length) (n := 0) h0 (by omega) (by omega) (chunk_vSt l rfl) (vSt_len l) rfl rfl rfl rfl ?_; refine yAw rfl ?_; refine yQ ?_
    refine pw_tkb 2 5 sT5 (n := 0 + l.length) (es := l.map dSp) (ds := (vSt l).map .val) (by rw [List.length_map, vSt_len]; omega) (chunk_vSt l (by simp)) (toDs_vs _) rfl rfl rfl rfl (noTs_box1 (i := 5) (cs := cSt l) rfl rfl (noTs_vs _ _)) ?_
    refine pw_ret ?_
    exact q_own rfl (congrArg some (by simp))

/-! the functions that the law calls -/
def fnR (l : List Stp) : Nat → Str → List Str
  | 0, id => parR l id
  | 1, id => heiR l id
  | 2, id => orgR l id
  | _, id => cauR l id
def phR (R : List Stp → Str → List Str) (xs : List DV) (r : SV) : Prop := ∃ (l : List Stp) (id : Str), bdL 1000 l ∧ chkE l = 0 ∧ xs = [dSl l, dS id] ∧ r = .tup [dStrs (R l id), dI 0]
abbrev dFns : DV := .sl 1 [[.val (vF 13)], [.val (vF 17)], [.val (vF 15)], [.val (vF 19)]]
abbrev sT15 : Nat := 45 * 100000 + 15
end Go.Proofs.YtkfoogabijnamaaGreatDoor
namespace Go.Proofs
open Go.Shelf
def Tryz.revStep_ren : Go.Shelf.Ren := ⟨fun | 35 => 44 | n => n, fun | 22 => 22 | 23 => 45 | 3 => 3 | 4 => 4 | 0 => 0 | n => n, fun | n => n⟩
theorem Tryz.revStep : Go.Proofs.SlLaysE0.n35 Tryz.prog Tryz.revStep_ren := {
  mixed := by kernel_rfl
  f35 := ⟨Tryz.f44.name, by decide, Tryz.func44.trans (congrArg some (by kernel_rfl))⟩
  t0 := Tryz.underlying0
  a0 := Tryz.isAgg0
  z0 := Tryz.sizeOf0
  v0 := Tryz.zeroValue0
  t3 := Tryz.underlying3
  a3 := Tryz.isAgg3
  z3 := Tryz.sizeOf3
  v3 := Tryz.zeroValue3
  t4 := Tryz.underlying4
  a4 := Tryz.isAgg4
  z4 := Tryz.sizeOf4
  v4 := Tryz.zeroValue4
  t22 := Tryz.underlying22
  a22 := Tryz.isAgg22
  z22 := Tryz.sizeOf22
  v22 := Tryz.zeroValue22 }
end Go.Proofs
namespace Go.Proofs.YtkfoogabijnamaaGreatDoor
open Go.RowKit Px Go.Sort Go.Shelf

def encSp (s : Stp) : List Value := [vS s.c, vS s.f, vS s.t, vS s.q, vS s.m, vS s.k]
instance : Inhabited Stp := ⟨⟨[], [], [], [], [], []⟩⟩
theorem vSt_get (l : List Stp) (t : Nat) (h : t < l.length * 6) : (vSt l)[t]? = some ((encSp l[t / 6]!)[t % 6]!) := by
  induction l generalizing t with
  | nil => simp at h
  | cons x l ih =>
    have e : vSt (x :: l) = encSp x ++ vSt l := rfl
    rw [e]
    rw [List.length_cons] at h
    have hl : (encSp x).length = 6 := rfl
    by_cases h6 : t < 6
    · rw [List.getElem?_append_left (by omega)]
      have e1 : t / 6 = 0 := by omega
      have e2 : t % 6 = t := by omega
      rw [e1, e2]
      have : (x :: l)[0]! = x := rfl
      rw [this, List.getElem?_eq_getElem (by omega), getElem!_pos (encSp x) t (by omega)]
    · rw [List.getElem?_append_right (by omega), hl, ih (t - 6) (by omega)]
      have e1 : t / 6 = (t - 6) / 6 + 1 := by omega
      have e2 : t % 6 = (t - 6) % 6 := by omega
      rw [e1, e2]
      rfl
theorem flat_list (l : List Stp) : flatK encSp 6 l.toArray = (vSt l).toArray := by
  refine ext_get! (by rw [size_flatK, List.size_toArray, List.size_toArray, vSt_len]) fun t ht => ?_
  have ht' : t < l.length * 6 := by simpa using ht
  rw [get_flatK encSp 6 l.toArray t (by simpa using ht')]
  have h1 := vSt_get l t ht'
  have h2 : t < (vSt l).length := by rw [vSt_len]; exact ht'
  rw [getElem!_pos (vSt l).toArray t (by simpa using h2)]
  rw [List.getElem?_eq_getElem h2] at h1
  have h3 : l.toArray[t / 6]! = l[t / 6]! := by simp
  rw [h3, List.getElem_toArray]
  exact (Option.some.inj h1).symm
theorem take_putV (cur : Array Value) (ts : List Value) (h : ts.length ≤ cur.size) : (putCells id 0 ts.toArray cur).toList.take ts.length = ts := by
  apply List.ext_getElem?
  intro j
  by_cases hj : j < ts.length
  · rw [List.getElem?_take_of_lt hj, Array.getElem?_toList]
    simp [putCells, hj, show j < cur.size by omega]
  · rw [List.getElem?_take_eq_none (by omega), List.getElem?_eq_none (by omega)]
theorem rev_row (l : List Stp) (hl : l.length ≤ 1000000) : PRow Tryz.prog 44 45 6 [] (vSt l) (vSt l.reverse) := by
  intro w v n hown hone
  have hn : n = l.length := by
    have := hown.1
    rw [vSt_len] at this
    omega
  subst hn
  have hlr : (vSt l.reverse).length = l.length * 6 := by rw [vSt_len, List.length_reverse]
  rcases hown.2 with ⟨rfl, h0⟩ | ⟨g, cap, cur, rfl, hg, hb, hn, hcap, hsz, ht⟩
  · have hz : l = [] := List.eq_nil_of_length_eq_zero h0
    subst hz
    refine (AnyQ.slices_Reverse_empty Tryz.revStep none 0 w).mono ?_
    rintro e w' ⟨rfl, rfl⟩
    exact ⟨rfl, hown, hone, rfl, rfl, rfl, Nat.le_refl _, fun _ _ _ => rfl⟩
  · have hH : HoldsK encSp 6 w g 0 l.toArray := by
      unfold HoldsK
      rw [flat_list]
      intro j hj
      have hj' : j < (vSt l).length := by simpa using hj
      refine ⟨?_, by simp [World.frozen?, hb]⟩
      have h1 : (cur.toList.take (l.length * 6))[j]? = (vSt l)[j]? := by rw [ht]
      rw [List.getElem?_take_of_lt (by rw [← vSt_len]; exact hj')] at h1
      simp only [World.cell?, hb, Nat.zero_add]
      simp only [Option.isSome_none, Bool.false_eq_true, if_false]
      rw [← Array.getElem?_toList, h1, List.getElem?_eq_getElem hj', getElem!_pos (vSt l).toArray j (by simpa using hj')]
      simp
    have h := AnyQ.slices_Reverse Tryz.revStep 6 (fun w => Tryz.isAgg45 w) (fun w => Tryz.sizeOf45 w) encSp (fun _ => rfl) (fun x v hv => by
      simp only [encSp, List.mem_cons, List.not_mem_nil, or_false] at hv
      rcases hv with rfl | rfl | rfl | rfl | rfl | rfl <;> rfl) g 0 cap l.toArray w hH (by simp; omega)
    simp only [List.size_toArray] at h
    refine h.mono ?_
    rintro e w' ⟨rfl, q, rfl⟩
    have hfl : putRowK encSp 6 (Sort.ahead w q) g 0 l.toArray.reverse = putRow id (Sort.ahead w q) g 0 (vSt l.reverse).toArray := by
      unfold putRowK
      rw [← flat_list]
      simp
    rw [hfl]
    have hheap : (putRow id (Sort.ahead w q) g 0 (vSt l.reverse).toArray).heap[g]? = some (.cells (putCells id 0 (vSt l.reverse).toArray cur) 45 (0, 0)) := by
      simp [putRow, mapBlock, Sort.ahead, Array.getElem?_modify, hb, onCells]
    refine ⟨rfl, ⟨hlr, .inr ⟨g, cap, _, rfl, hg, hheap, hn, hcap, by simp [putCells, hsz], ?_⟩⟩, fun u hu => ?_, ?_⟩
    · rw [← hlr]
      exact take_putV cur _ (by rw [hlr, hsz]; exact Nat.mul_le_mul_right _ hn)
    · obtain ⟨s, -, hs⟩ := List.mem_flatMap.1 hu
      simp only [List.mem_cons, List.not_mem_nil, or_false] at hs
      rcases hs with rfl | rfl | rfl | rfl | rfl | rfl <;> rfl
    · refine ⟨rfl, rfl, rfl, by simp, fun k hk hne => ?_⟩
      have : g ≠ k := fun e => hne (by rw [e]; rfl)
      simp [putRow, mapBlock, Sort.ahead, Array.getElem?_modify, this]
end Go.Proofs.YtkfoogabijnamaaGreatDoor
namespace Go.Proofs.YtkfoogabijnamaaGreatDoor
open Go.RowKit Px

namespace Px
section
variable {P : Program} {sq : Bool} {ops : Array Oper} {K : PS → Prop} {rest : List Oper} {st : PS} {d : Option Nat} {ty : TypeId} {pos : String} {af : Array Edge} {gd : Option (Nat × Bool)}
theorem run_rem (t : Nat) (o1 o2 : Operand) (x y : Int) (hy : y ≠ 0) (w : World) : (eqGuard .rem t o1 o2 (.int .i64 x) (.int .i64 y) >>= fun _ => binOp .rem t (.int .i64 x) (.int .i64 y)).run P w = .ok (.int .i64 (x.tmod y)) w := by
  simp [eqGuard, binOp, Op.intDiv, hy]
theorem yBm {t t' : Nat} {x y : Operand} {a b c : Int} (hb : b ≠ 0) (hc : a.tmod b = c) (hx : st.ev x = .d (.val (.int .i64 a))) (hy : st.ev y = .d (.val (.int .i64 b))) (h : YR P sq ops K rest (st.put d (.d (.val (.int .i64 c))))) (hd : dstOk ⟨d, .binOp .rem t x y t', ty, pos, af, gd⟩ st = true := by kernel_rfl) (hk : opOk ⟨d, .binOp .rem t x y t', ty, pos, af, gd⟩ st .no = true := by kernel_rfl) (hw : st.want ops ⟨d, .binOp .rem t x y t', ty, pos, af, gd⟩ = some true := by rfl) :
    YR P sq ops K (⟨d, .binOp .rem t x y t', ty, pos, af, gd⟩ :: rest) st := by
  subst hc
  exact yr_v (ls_bin_run .rem t t' x y hx hy (run_rem t x y a b hb) rfl hd) hk hw h
end
end Px
def tot {α : Type} (css : List (List α)) (k : Nat) : Nat := ((css.take k).flatten).length
theorem tot_succ {α : Type} {css : List (List α)} {k : Nat} {c : List α} (h : css[k]? = some c) : tot css (k + 1) = tot css k + c.length := by
  unfold tot
  rw [List.take_add_one, h]
  simp
theorem tot_le {α : Type} (css : List (List α)) (k : Nat) : tot css k ≤ css.flatten.length := by
  unfold tot
  have : css.flatten = (css.take k).flatten ++ (css.drop k).flatten := by rw [← List.flatten_append, List.take_append_drop]
  rw [this, List.length_append]
  omega

set_option maxRecDepth 20000 in
set_option maxHeartbeats 1000000 in
theorem wGrowS (n : Nat) (hn : n ≤ 1000000) : POwn Tryz.prog 74 [.val (.slice none 0 0), dI n] 45 6 [] := by
  have t1 : decide ((n : Int) < 0) = false := decide_eq_false (by omega)
  have hw : IntKind.i64.wrap ((n : Int) - IntKind.i64.wrap (0 - 0)) = n := by rw [show IntKind.i64.wrap (0 - 0) = 0 by decide, Int.sub_zero]; exact wrapI _ (by omega)
  rcases Nat.eq_zero_or_pos n with rfl | h0
  · refine own_nil ?_
    refine pcalls_of_pw Tryz.func74 rfl Tryz.ntmps74 Tryz.results74 (by simp) fun B w0 => ?_
    refine pw_seq ?_; refine pw_region ?_; refine yAd rfl ?_; refine yQ ?_; refine pw_seq ?_; refine pw_seq ?_; refine pw_region ?_; refine yMd rfl ?_; refine yB rfl rfl rfl rfl ?_; refine yQ ?_; refine pw_cf rfl ?_; refine pw_skip ?_
    refine pw_seq ?_; refine pw_seq ?_; refine pw_region ?_; refine yMd rfl ?_; refine yMd rfl ?_; refine yNc rfl ?_; refine yMd rfl ?_; refine yNl rfl ?_; refine yB rfl rfl rfl rfl ?_; refine yB rfl rfl rfl rfl ?_; refine yAd rfl ?_
    refine yQ ?_; refine pw_seq ?_; refine pw_region ?_; refine yMd rfl ?_; refine yB rfl rfl rfl rfl ?_; refine yQ ?_; refine pw_cf rfl ?_; refine pw_skip ?_; refine pw_seq ?_; refine pw_region ?_; refine yMd rfl ?_; refine yAd rfl ?_
    refine yQ ?_; refine pw_ret ?_
    exact q_ret _ (.tmp rfl .nil) rfl
  · have t2 : decide ((n : Int) > 0) = true := decide_eq_true (by omega)
    refine pown_of_pw (t := 45 * 100000 + 4) Tryz.func74 rfl Tryz.ntmps74 Tryz.results74 (by simp) rfl fun B w0 => ?_
    refine pw_seq ?_; refine pw_region ?_; refine yAd rfl ?_; refine yQ ?_; refine pw_seq ?_; refine pw_seq ?_; refine pw_region ?_; refine yMd rfl ?_; refine yB rfl rfl rfl rfl ?_; refine yQ ?_; refine pw_cf rfl ?_; refine pw_skip ?_
    refine pw_seq ?_; refine pw_seq ?_; refine pw_region ?_; refine yMd rfl ?_; refine yMd rfl ?_; refine yNc rfl ?_; refine yMd rfl ?_; refine yNl rfl ?_; refine yB rfl rfl rfl rfl ?_; refine yB rfl rfl rfl rfl ?_; refine yAd rfl ?_
    refine yQ ?_; refine pw_seq ?_; refine pw_region ?_; refine yMd rfl ?_; refine yB rfl rfl rfl rfl ?_; refine yQ ?_; refine q_then ?_; rw [t1]; rw [hw]; rw [t2]; refine pw_ct rfl ?_; refine pw_region ?_; refine yMd rfl ?_
    refine yMd rfl ?_; refine yNc rfl ?_; refine ySz rfl rfl ?_; refine yMd rfl ?_; refine yAz (by omega) Tryz.underlying3 rfl rfl h0 (by omega) (by omega) rfl ?_; refine yMd rfl ?_; refine yNl rfl ?_
    refine yDb (by omega) (by omega) rfl rfl ?_; refine yAw rfl ?_; refine yQ ?_; refine pw_tkz 0 22 (45 * 100000 + 4) 6 rfl rfl rfl rfl rfl ?_; refine pw_seq ?_; refine pw_region ?_; refine yMt rfl ?_; refine yAt rfl ?_; refine yQ ?_
    refine pw_ret ?_
    exact q_own rfl rfl
set_option maxRecDepth 20000 in
set_option maxHeartbeats 1000000 in
theorem wConcatS (css : List (List Stp)) (hl : css.length ≤ 1000) (ht : (css.flatten).length ≤ 1000000) : PCalls Tryz.prog 45 [.sl 1 (css.map fun c => [.sl 6 (c.map dSp)])] (.d (.sl 6 (css.flatten.map dSp))) := by
  refine pcalls_of_pw Tryz.func45 rfl Tryz.ntmps45 Tryz.results45 (by simp) fun B w0 => ?_
  refine pw_seq ?_; refine pw_region ?_; refine yAd rfl ?_; refine yQ ?_; refine pw_seq ?_; refine pw_region ?_; refine yAd rfl ?_; refine yQ ?_; refine pw_seq ?_; refine pw_seq ?_; refine pw_region ?_; refine yMd rfl ?_
  refine yN rfl ?_; refine yMd rfl ?_; refine yQ ?_; refine pw_block ?_
  refine pw_loop (fun k : Nat => ⟨36, [(0, .d (.sl 1 (css.map fun c => [.sl 6 (c.map dSp)]))), (9, .d (.sl 1 (css.map fun c => [.sl 6 (c.map dSp)]))), (10, .d (dI css.length)), (11, .d (dI k)), (3, .d (dI (tot css k)))], [], []⟩) (fun k => k ≤ css.length) (fun k => css.length - k) 0 (Nat.zero_le _) ⟨rfl, ⟨.refl _, .refl _, .of_eq ?_, .refl _, .refl _, trivial⟩, trivial, trivial, rfl⟩ ?_
  · exact congrArg (fun n : Nat => SV.d (dI n)) (by simp)
  intro k hk
  refine pw_seq ?_; refine pw_region ?_; refine yB rfl rfl rfl rfl ?_; refine yQ ?_; refine pw_seq ?_
  refine pw_cond rfl (fun h => ?_) (fun h => ?_)
  · simp at h
    obtain ⟨c, gk⟩ : ∃ c, css[k]? = some c := ⟨_, List.getElem?_eq_getElem h⟩
    have ek := ix (fun c => [.sl 6 (c.map dSp)]) css k k c rfl gk
    have hts := tot_succ gk
    have htl := tot_le css (k + 1)
    have hw1 := wrapI ((k : Int) + 1) (by omega)
    have hw2 : IntKind.i64.wrap ((tot css k : Int) + ((c.map dSp).length : Int)) = (tot css (k + 1) : Int) := by rw [List.length_map, wrapI _ (by omega)]; omega
    have h0 : decide ((tot css (k + 1) : Int) < 0) = false := decide_eq_false (by omega)
    refine pw_skip ?_; refine pw_seq ?_; refine pw_block ?_; refine pw_seq ?_; refine pw_region ?_; refine yW ek (by omega) rfl rfl ?_; refine yLr rfl rfl ?_; refine yAd rfl ?_; refine yQ ?_; refine pw_seq ?_; refine pw_region ?_
    refine yMd rfl ?_; refine yMd rfl ?_; refine yN rfl ?_; refine yB rfl rfl rfl rfl ?_; refine yAd rfl ?_; refine yQ ?_; refine pw_seq ?_; refine pw_region ?_; refine yMd rfl ?_; refine yB rfl rfl rfl rfl ?_; refine yQ ?_
    refine q_then ?_; rw [hw2]; refine pw_cf rfl ?_; refine pw_skip ?_; refine pw_region ?_; refine yB rfl rfl rfl rfl ?_; refine yMd rfl ?_; refine yQ ?_; refine q_then ?_; rw [h0]
    refine ⟨k + 1, by omega, by omega, rfl, ⟨.refl _, .refl _, .refl _, .of_eq (congrArg (fun n => SV.d (dI n)) hw1), .refl _, trivial⟩, trivial, trivial, rfl⟩
  · simp at h
    obtain rfl : k = css.length := by omega
    have ht2 : tot css css.length = css.flatten.length := by rw [tot, List.take_length]
    have c1 := wGrowS (tot css css.length) (by omega)
    refine pw_exit ?_; refine pw_seq ?_; refine pw_region ?_; refine yMd rfl ?_; refine yCo (t := 45 * 100000 + 6) c1 rfl rfl rfl rfl ?_; refine yAt rfl ?_; refine yQ ?_; refine pw_seq ?_; refine pw_seq ?_; refine pw_region ?_
    refine yMd rfl ?_; refine yN rfl ?_; refine yMd rfl ?_; refine yQ ?_; refine pw_block ?_
    refine pw_loop (fun k : Nat => ⟨36, [(25, .d (.sl 1 (css.map fun c => [.sl 6 (c.map dSp)]))), (26, .d (dI css.length)), (27, .d (dI k)), (6, .ts (45 * 100000 + 6) 6 (((css.take k).flatten).map dSp))], [], [(45 * 100000 + 6, (((css.take k).flatten).map dSp).length)]⟩) (fun k => k ≤ css.length) (fun k => css.length - k) 0 (Nat.zero_le _) ⟨rfl, ⟨.refl _, .of_eq ?_, .refl _, .refl _, trivial⟩, trivial, ⟨rfl, trivial⟩, rfl⟩ ?_
    · exact congrArg (fun n : Nat => SV.d (dI n)) (by simp)
    intro k hk
    refine pw_seq ?_; refine pw_region ?_; refine yB rfl rfl rfl rfl ?_; refine yQ ?_; refine pw_seq ?_
    refine pw_cond rfl (fun h => ?_) (fun h => ?_)
    · simp at h
      obtain ⟨c, gk⟩ : ∃ c, css[k]? = some c := ⟨_, List.getElem?_eq_getElem h⟩
      have ek := ix (fun c => [.sl 6 (c.map dSp)]) css k k c rfl gk
      have hts := tot_succ gk
      have htl := tot_le css (k + 1)
      have hw1 := wrapI ((k : Int) + 1) (by omega)
      have hfl : (css.take (k + 1)).flatten = (css.take k).flatten ++ c := by rw [List.take_add_one, gk]; simp
      have hln : ((css.take k).flatten).length = tot css k := rfl
      obtain ⟨zs, hz⟩ : ∃ zs, zs = (css.take k).flatten := ⟨_, rfl⟩
      rw [← hz] at hfl hln ⊢
      refine pw_skip ?_; refine pw_seq ?_; refine pw_block ?_; refine pw_seq ?_; refine pw_region ?_; refine yW ek (by omega) rfl rfl ?_; refine yLr rfl rfl ?_; refine yAd rfl ?_; refine yQ ?_; refine pw_region ?_; refine yMt rfl ?_
      refine yMd rfl ?_; refine yT (es' := (zs ++ c).map dSp) (m := ((zs ++ c).map dSp).length) (by simp; omega) (by simp; omega) rfl rfl rfl rfl rfl (by simp) (by simp) ?_; refine yAt rfl ?_; refine yQ ?_; refine pw_region ?_
      refine yB rfl rfl rfl rfl ?_; refine yMd rfl ?_; refine yQ ?_; refine q_then ?_
      refine ⟨k + 1, by omega, by omega, rfl, ⟨.refl _, .refl _, .of_eq (congrArg (fun n => SV.d (dI n)) hw1), .of_eq ?_, trivial⟩, trivial, ⟨?_, trivial⟩, rfl⟩
      · rw [hfl]; rfl
      · rw [hfl]; rfl
    · simp at h
      obtain rfl : k = css.length := by omega
      rw [List.take_length]
      refine pw_exit ?_; refine pw_seq ?_; refine pw_region ?_; refine yMt rfl ?_; refine yAt rfl ?_; refine yQ ?_; refine pw_ret ?_
      exact q_ret _ (.tmp rfl .nil) rfl


set_option maxRecDepth 20000 in
set_option maxHeartbeats 1000000 in
theorem wRevE : PCalls Tryz.prog 44 [dSl []] (.tup []) := by
  refine pcalls_of_pw Tryz.func44 rfl Tryz.ntmps44 Tryz.results44 (by simp) fun B w0 => ?_
  refine pw_seq ?_; refine pw_region ?_; refine yMd rfl ?_; refine yN rfl ?_; refine yB rfl rfl rfl rfl ?_; refine yAd rfl ?_; refine yAd rfl ?_; refine yQ ?_; refine pw_block ?_
  refine pw_loop (fun _ : Nat => ⟨28, [(2, .d (dI 0)), (3, .d (dI (-1)))], [], []⟩) (fun _ => True) (fun _ => 0) 0 trivial ⟨rfl, ⟨.refl _, .refl _, trivial⟩, trivial, trivial, rfl⟩ ?_
  intro _ _
  refine pw_seq ?_; refine pw_seq ?_; refine pw_region ?_; refine yMd rfl ?_; refine yMd rfl ?_; refine yB rfl rfl rfl rfl ?_; refine yQ ?_; refine pw_cf rfl ?_; refine pw_exit ?_; refine q_then_exit ?_; refine q_then_exit ?_
  refine q_blk_same ?_
  exact q_end _ .nil rfl
theorem bdL_perm {l r : List Stp} (h : l.Perm r) (hb : bdL 1000 l) : bdL 1000 r := ⟨by rw [← h.length_eq]; exact hb.1, fun s hs => hb.2 s (h.mem_iff.2 hs)⟩
theorem orgR_len' (l : List Stp) (id : Str) : (orgR l id).length ≤ l.length := filt_len (orgF l id) (·.t) l
theorem cauR_len (l : List Stp) (id : Str) : (cauR l id).length ≤ l.length := filt_len (cauF l id) (·.c) l
set_option maxRecDepth 20000 in
set_option maxHeartbeats 8000000 in
theorem lawOrder (l : List Stp) (id : Str) (u : Int) (hu0 : 0 ≤ u) (hu1 : u ≤ 255) : PCalls Tryz.prog 10 [dSl l, dS id, .val (.int .u8 u)] (.d (dB true)) := by
  have k0 := wAwake
  have k1 := wBigL l
  cases hg : bigL l with
  | true =>
    rw [hg] at k1
    refine pcalls_of_pw Tryz.func10 rfl Tryz.ntmps10 Tryz.results10 (by simp) fun B w0 => ?_
    refine pw_seq ?_; refine pw_region ?_; refine yAd rfl ?_; refine yQ ?_; refine pw_seq ?_; refine pw_seq ?_; refine pw_region ?_; refine yMd rfl ?_; refine yC (k1) rfl rfl ?_; refine yMd rfl ?_; refine yO rfl ?_; refine yO rfl ?_
    refine yO rfl ?_; refine yPd rfl rfl ?_; refine yMd rfl ?_; refine yO rfl ?_; refine yO rfl ?_; refine yO rfl ?_; refine yPd rfl rfl ?_; refine yQ ?_; refine pw_ct rfl ?_; refine pw_seq ?_; refine pw_region ?_
    refine yC (k0) rfl rfl ?_; refine yAd rfl ?_; refine yQ ?_; refine pw_ret ?_; refine q_then_ret ?_
    exact q_ret _ (.tmp rfl .nil) rfl
  | false =>
  rw [hg] at k1
  by_cases hn : 60 < id.length
  · have t0 : decide ((id.length : Int) > 60) = true := decide_eq_true (by omega)
    refine pcalls_of_pw Tryz.func10 rfl Tryz.ntmps10 Tryz.results10 (by simp) fun B w0 => ?_
    refine pw_seq ?_; refine pw_region ?_; refine yAd rfl ?_; refine yQ ?_; refine pw_seq ?_; refine pw_seq ?_; refine pw_region ?_; refine yMd rfl ?_; refine yC (k1) rfl rfl ?_; refine yMd rfl ?_; refine yMd rfl ?_; refine yNs rfl ?_
    refine yB rfl rfl rfl rfl ?_; refine yVd rfl rfl ?_; refine yMd rfl ?_; rw [t0]; refine yO rfl ?_; refine yO rfl ?_; refine yO rfl ?_; refine yPd rfl rfl ?_; refine yQ ?_; refine pw_ct rfl ?_; refine pw_seq ?_; refine pw_region ?_
    refine yC (k0) rfl rfl ?_; refine yAd rfl ?_; refine yQ ?_; refine pw_ret ?_; refine q_then_ret ?_
    exact q_ret _ (.tmp rfl .nil) rfl
  have t0 : decide ((id.length : Int) > 60) = false := decide_eq_false (by omega)
  have hb := bigL_bd hg
  have hll := hb.1
  have k2 := wChk l hb
  by_cases hc : chkE l = 0
  rotate_left
  · have t1 : (chkE l != 0) = true := by simpa using hc
    refine pcalls_of_pw Tryz.func10 rfl Tryz.ntmps10 Tryz.results10 (by simp) fun B w0 => ?_
    refine pw_seq ?_; refine pw_region ?_; refine yAd rfl ?_; refine yQ ?_; refine pw_seq ?_; refine pw_seq ?_; refine pw_region ?_; refine yMd rfl ?_; refine yC (k1) rfl rfl ?_; refine yMd rfl ?_; refine yMd rfl ?_; refine yNs rfl ?_
    refine yB rfl rfl rfl rfl ?_; refine yVd rfl rfl ?_; refine yMd rfl ?_; rw [t0]; refine yMd rfl ?_; refine yC (k2) rfl rfl ?_; refine yB rfl rfl rfl rfl ?_; refine yVd rfl rfl ?_; refine yQ ?_; refine q_then ?_; rw [t1]
    refine pw_ct rfl ?_; refine pw_seq ?_; refine pw_region ?_; refine yC (k0) rfl rfl ?_; refine yAd rfl ?_; refine yQ ?_; refine pw_ret ?_; refine q_then_ret ?_
    exact q_ret _ (.tmp rfl .nil) rfl
  rw [hc] at k2
  have hlE : lefE l = if shoB l then 15 else 0 := by rw [lefE, if_pos hc]
  have hT : ∀ r, l.Perm r → PCalls Tryz.prog 21 [dSl r] (.d (dI 0)) ∧ PCalls Tryz.prog 13 [dSl r, dS id] (.tup [dStrs (parR l id), dI 0]) ∧ PCalls Tryz.prog 15 [dSl r, dS id] (.tup [dStrs (orgR l id), dI 0]) ∧ PCalls Tryz.prog 26 [dSl r] (.tup [dPks (lefR l), dI (lefE l)]) ∧ PCalls Tryz.prog 19 [dSl r, dS id] (.tup [dStrs (cauR l id), dI 0]) := fun r hp => by
    have hbr := bdL_perm hp hb
    have h0 := chk_perm hp hc
    have c1 := wChk r hbr
    have c2 := wParents r id hbr
    have c3 := wOrigins r id hbr
    have c4 := wLeft r hbr
    have c5 := wCauses r id hbr
    rw [okR, okE, if_pos h0, if_pos h0] at c2 c3 c5
    rw [h0] at c1
    rw [← parR_perm hp] at c2
    rw [← orgR_perm hp] at c3
    rw [← lefR_perm hp hc, ← lefE_perm hp hc] at c4
    rw [← cauR_perm hp] at c5
    exact ⟨c1, c2, c3, c4, c5⟩
  have z1 := parR_len l id
  have z2 := orgR_len' l id
  have z3 := lefR_len l
  have z4 := cauR_len l id
  obtain ⟨a, ha⟩ : ∃ n, n = parR l id := ⟨_, rfl⟩
  obtain ⟨b, hb'⟩ : ∃ n, n = orgR l id := ⟨_, rfl⟩
  obtain ⟨c, hc'⟩ : ∃ n, n = lefR l := ⟨_, rfl⟩
  obtain ⟨d, hd⟩ : ∃ n, n = cauR l id := ⟨_, rfl⟩
  obtain ⟨e, he⟩ : ∃ n, n = lefE l := ⟨_, rfl⟩
  simp only [← ha, ← hb', ← hc', ← hd, ← he] at hT
  rw [← ha] at z1
  rw [← hb'] at z2
  rw [← hc'] at z3
  rw [← hd] at z4
  clear ha hb' hc' hd he hlE
  have q1 := wEqS a a (by omega) (by omega)
  have q2 := wEqS b b (by omega) (by omega)
  have q3 := wEqP c c (by omega) (by omega)
  have q4 := wEqS d d (by omega) (by omega)
  rw [decide_eq_true rfl] at q1 q2 q3 q4
  have t2 : (e == e) = true := by simp
  obtain ⟨-, m2, m3, m4, m5⟩ := hT l (List.Perm.refl l)
  rcases Nat.eq_zero_or_pos l.length with h0 | h0
  · obtain rfl : l = [] := List.eq_nil_of_length_eq_zero h0
    have c1 := wCloneS [] (by simp)
    have c5 := wRevE
    refine pcalls_of_pw Tryz.func10 rfl Tryz.ntmps10 Tryz.results10 (by simp) fun B w0 => ?_
    refine pw_seq ?_; refine pw_region ?_; refine yAd rfl ?_; refine yQ ?_; refine pw_seq ?_; refine pw_seq ?_; refine pw_region ?_; refine yMd rfl ?_; refine yC (k1) rfl rfl ?_; refine yMd rfl ?_; refine yMd rfl ?_; refine yNs rfl ?_
    refine yB rfl rfl rfl rfl ?_; refine yVd rfl rfl ?_; refine yMd rfl ?_; rw [t0]; refine yMd rfl ?_; refine yC (k2) rfl rfl ?_; refine yB rfl rfl rfl rfl ?_; refine yVd rfl rfl ?_; refine yQ ?_; refine pw_cf rfl ?_; refine pw_skip ?_
    refine pw_seq ?_; refine pw_region ?_; refine yMd rfl ?_; refine yCo (t := 45 * 100000 + 40) c1 rfl rfl rfl rfl ?_; refine yAt rfl ?_; refine yQ ?_; refine pw_seq ?_; refine pw_region ?_; refine yMt rfl ?_; refine yC (c5) rfl rfl ?_
    refine yQ ?_; refine pw_seq ?_; refine pw_seq ?_; refine pw_region ?_; refine yMd rfl ?_; refine yN rfl ?_; refine yAd rfl ?_; refine yQ ?_; refine pw_seq ?_; refine pw_region ?_; refine yMd rfl ?_; refine yB rfl rfl rfl rfl ?_
    refine yQ ?_; refine pw_cf rfl ?_; refine pw_skip ?_; refine pw_seq ?_; refine pw_region ?_; refine yMd rfl ?_; refine yMd rfl ?_; refine yC (m2) rfl rfl ?_; refine yMp rfl ?_; refine yX rfl rfl ?_; refine yX rfl rfl ?_
    refine yAd rfl ?_; refine yAd rfl ?_; refine yQ ?_; refine pw_seq ?_; refine pw_region ?_; refine yMt rfl ?_; refine yMd rfl ?_; refine yC (m2) rfl rfl ?_; refine yMp rfl ?_; refine yX rfl rfl ?_; refine yX rfl rfl ?_
    refine yAd rfl ?_; refine yAd rfl ?_; refine yQ ?_; refine pw_seq ?_; refine pw_region ?_; refine yMd rfl ?_; refine yMd rfl ?_; refine yC (m3) rfl rfl ?_; refine yMp rfl ?_; refine yX rfl rfl ?_; refine yX rfl rfl ?_
    refine yAd rfl ?_; refine yAd rfl ?_; refine yQ ?_; refine pw_seq ?_; refine pw_region ?_; refine yMt rfl ?_; refine yMd rfl ?_; refine yC (m3) rfl rfl ?_; refine yMp rfl ?_; refine yX rfl rfl ?_; refine yX rfl rfl ?_
    refine yAd rfl ?_; refine yAd rfl ?_; refine yQ ?_; refine pw_seq ?_; refine pw_region ?_; refine yMd rfl ?_; refine yC (m4) rfl rfl ?_; refine yMp rfl ?_; refine yX rfl rfl ?_; refine yX rfl rfl ?_; refine yAd rfl ?_
    refine yAd rfl ?_; refine yQ ?_; refine pw_seq ?_; refine pw_region ?_; refine yMt rfl ?_; refine yC (m4) rfl rfl ?_; refine yMp rfl ?_; refine yX rfl rfl ?_; refine yX rfl rfl ?_; refine yAd rfl ?_; refine yAd rfl ?_; refine yQ ?_
    refine pw_seq ?_; refine pw_region ?_; refine yMd rfl ?_; refine yMd rfl ?_; refine yC (m5) rfl rfl ?_; refine yMp rfl ?_; refine yX rfl rfl ?_; refine yX rfl rfl ?_; refine yAd rfl ?_; refine yAd rfl ?_; refine yQ ?_
    refine pw_seq ?_; refine pw_region ?_; refine yMt rfl ?_; refine yMd rfl ?_; refine yC (m5) rfl rfl ?_; refine yMp rfl ?_; refine yX rfl rfl ?_; refine yX rfl rfl ?_; refine yAd rfl ?_; refine yAd rfl ?_; refine yQ ?_
    refine pw_seq ?_; refine pw_region ?_; refine yMt rfl ?_; refine yC (k2) rfl rfl ?_; refine yB rfl rfl rfl rfl ?_; refine yMd rfl ?_; refine yMd rfl ?_; refine yMd rfl ?_; refine yC (q1) rfl rfl ?_; refine yPd rfl rfl ?_
    refine yMd rfl ?_; refine yMd rfl ?_; refine yMd rfl ?_; refine yB rfl rfl rfl rfl ?_; refine yPd rfl rfl ?_; refine yMd rfl ?_; refine yMd rfl ?_; refine yMd rfl ?_; refine yC (q2) rfl rfl ?_; refine yPd rfl rfl ?_
    refine yMd rfl ?_; refine yMd rfl ?_; refine yMd rfl ?_; refine yB rfl rfl rfl rfl ?_; refine yPd rfl rfl ?_; refine yMd rfl ?_; refine yMd rfl ?_; refine yMd rfl ?_; refine yC (q3) rfl rfl ?_; refine yPd rfl rfl ?_
    refine yMd rfl ?_; refine yMd rfl ?_; refine yMd rfl ?_; refine yB rfl rfl rfl rfl ?_; refine yPd rfl rfl ?_; refine yMd rfl ?_; rw [t2]; refine yMd rfl ?_; refine yMd rfl ?_; refine yC (q4) rfl rfl ?_; refine yPd rfl rfl ?_
    refine yMd rfl ?_; refine yMd rfl ?_; refine yMd rfl ?_; refine yB rfl rfl rfl rfl ?_; refine yPd rfl rfl ?_; refine yMd rfl ?_; refine yC (k0) rfl rfl ?_; refine yPd rfl rfl ?_; refine yAd rfl ?_; refine yQ ?_; refine pw_ret ?_
    exact q_ret _ (.tmp rfl .nil) rfl
  have hwu := wrapI u (by omega)
  obtain ⟨k, hk, hkl⟩ : ∃ k : Nat, u.tmod ((l.map dSp).length : Int) = (k : Int) ∧ k < l.length := by
    refine ⟨u.toNat % l.length, ?_, Nat.mod_lt _ h0⟩
    rw [List.length_map]
    obtain ⟨n, rfl⟩ : ∃ n : Nat, u = n := ⟨u.toNat, by omega⟩
    rfl
  obtain ⟨n1, n2, n3, n4, n5⟩ := hT (turL l k) (turL_perm l k)
  have c1 := wCloneS l (by omega)
  have c5 := rev_row l (by omega)
  have k4 := wConcatS [l.reverse.drop k, l.reverse.take k] (by simp) (by simp; omega)
  simp only [List.map_cons, List.map_nil, List.flatten_cons, List.flatten_nil, List.append_nil] at k4
  have hR : turL l k = l.reverse.drop k ++ l.reverse.take k := rfl
  rw [← hR] at k4
  rw [List.map_take, List.map_drop] at k4
  obtain ⟨r, hr⟩ : ∃ r, r = turL l k := ⟨_, rfl⟩
  rw [← hr] at k4 n1 n2 n3 n4 n5
  have hl0 : ((l.map dSp).length : Int) ≠ 0 := by rw [List.length_map]; omega
  have gk : (k : Int) ≤ ((l.reverse.map dSp).length : Int) := by rw [List.length_map, List.length_reverse]; omega
  have t1 : decide (((l.map dSp).length : Int) > 0) = true := decide_eq_true (by rw [List.length_map]; omega)
  have w1 : (vSt l).length = (l.map dSp).length * 6 := by rw [List.length_map, vSt_len]
  have w2 : chunk 6 (l.map dSp).length ((vSt l).map .val) = l.map dSp := by rw [List.length_map]; exact chunk_vSt l rfl
  have w3 : ((vSt l.reverse).map DV.val).length = (l.map dSp).length * 6 := by rw [List.length_map, List.length_map, vSt_len, List.length_reverse]
  have w4 : chunk 6 (l.map dSp).length ((vSt l.reverse).map .val) = l.reverse.map dSp := by rw [List.length_map]; exact chunk_vSt l.reverse (List.length_reverse ..)
  have w5 : 0 < (l.map dSp).length := by rw [List.length_map]; exact h0
  clear hR hr hT
  refine pcalls_of_pw Tryz.func10 rfl Tryz.ntmps10 Tryz.results10 (by simp) fun B w0 => ?_
  refine pw_seq ?_; refine pw_region ?_; refine yAd rfl ?_; refine yQ ?_; refine pw_seq ?_; refine pw_seq ?_; refine pw_region ?_; refine yMd rfl ?_; refine yC (k1) rfl rfl ?_; refine yMd rfl ?_; refine yMd rfl ?_; refine yNs rfl ?_
  refine yB rfl rfl rfl rfl ?_; refine yVd rfl rfl ?_; refine yMd rfl ?_; rw [t0]; refine yMd rfl ?_; refine yC (k2) rfl rfl ?_; refine yB rfl rfl rfl rfl ?_; refine yVd rfl rfl ?_; refine yQ ?_; refine pw_cf rfl ?_; refine pw_skip ?_
  refine pw_seq ?_; refine pw_region ?_; refine yMd rfl ?_; refine yCob (vs := vSt l) c1 w5 w2 w1 rfl rfl ?_; refine yAw rfl ?_; refine yQ ?_; refine pw_seq ?_; refine pw_region ?_; refine yMw rfl ?_; refine yRb c5 w1 rfl rfl rfl ?_
  refine yQ ?_; refine pw_frz 7 40 (es := l.reverse.map dSp) (ds := (vSt l.reverse).map .val) (n := (l.map dSp).length) w3 w4 (toDs_vs _) rfl rfl ?_; refine pw_seq ?_; refine pw_seq ?_; refine pw_region ?_; refine yMd rfl ?_
  refine yN rfl ?_; refine yAd rfl ?_; refine yQ ?_; refine pw_seq ?_; refine pw_region ?_; refine yMd rfl ?_; refine yB rfl rfl rfl rfl ?_; refine yQ ?_; refine q_then ?_; rw [t1]; refine pw_ct rfl ?_; refine pw_seq ?_
  refine pw_region ?_; refine yMd rfl ?_; refine yJ rfl ?_; refine yMd rfl ?_; rw [hwu]; refine yBm hl0 hk rfl rfl ?_; refine yAd rfl ?_; refine yQ ?_; refine pw_draw Tryz.mixed (by kernel_rfl) ?_; refine yMd rfl ?_; refine yMd rfl ?_
  refine yDl (by omega) gk rfl rfl ?_; refine yMd rfl ?_; refine yMd rfl ?_; refine yDh (by omega) gk rfl rfl ?_; refine yR (es := [[_], [_]]) rfl rfl rfl rfl rfl ?_; refine yC (k4) rfl rfl ?_; refine yAd rfl ?_; refine yQ ?_
  refine pw_seq ?_; refine pw_region ?_; refine yMd rfl ?_; refine yMd rfl ?_; refine yC (m2) rfl rfl ?_; refine yMp rfl ?_; refine yX rfl rfl ?_; refine yX rfl rfl ?_; refine yAd rfl ?_; refine yAd rfl ?_; refine yQ ?_
  refine pw_seq ?_; refine pw_region ?_; refine yMd rfl ?_; refine yMd rfl ?_; refine yC (n2) rfl rfl ?_; refine yMp rfl ?_; refine yX rfl rfl ?_; refine yX rfl rfl ?_; refine yAd rfl ?_; refine yAd rfl ?_; refine yQ ?_
  refine pw_seq ?_; refine pw_region ?_; refine yMd rfl ?_; refine yMd rfl ?_; refine yC (m3) rfl rfl ?_; refine yMp rfl ?_; refine yX rfl rfl ?_; refine yX rfl rfl ?_; refine yAd rfl ?_; refine yAd rfl ?_; refine yQ ?_
  refine pw_seq ?_; refine pw_region ?_; refine yMd rfl ?_; refine yMd rfl ?_; refine yC (n3) rfl rfl ?_; refine yMp rfl ?_; refine yX rfl rfl ?_; refine yX rfl rfl ?_; refine yAd rfl ?_; refine yAd rfl ?_; refine yQ ?_
  refine pw_seq ?_; refine pw_region ?_; refine yMd rfl ?_; refine yC (m4) rfl rfl ?_; refine yMp rfl ?_; refine yX rfl rfl ?_; refine yX rfl rfl ?_; refine yAd rfl ?_; refine yAd rfl ?_; refine yQ ?_; refine pw_seq ?_
  refine pw_region ?_; refine yMd rfl ?_; refine yC (n4) rfl rfl ?_; refine yMp rfl ?_; refine yX rfl rfl ?_; refine yX rfl rfl ?_; refine yAd rfl ?_; refine yAd rfl ?_; refine yQ ?_; refine pw_seq ?_; refine pw_region ?_
  refine yMd rfl ?_; refine yMd rfl ?_; refine yC (m5) rfl rfl ?_; refine yMp rfl ?_; refine yX rfl rfl ?_; refine yX rfl rfl ?_; refine yAd rfl ?_; refine yAd rfl ?_; refine yQ ?_; refine pw_seq ?_; refine pw_region ?_
  refine yMd rfl ?_; refine yMd rfl ?_; refine yC (n5) rfl rfl ?_; refine yMp rfl ?_; refine yX rfl rfl ?_; refine yX rfl rfl ?_; refine yAd rfl ?_; refine yAd rfl ?_; refine yQ ?_; refine pw_seq ?_; refine pw_region ?_
  refine yMd rfl ?_; refine yC (n1) rfl rfl ?_; refine yB rfl rfl rfl rfl ?_; refine yMd rfl ?_; refine yMd rfl ?_; refine yMd rfl ?_; refine yC (q1) rfl rfl ?_; refine yPd rfl rfl ?_; refine yMd rfl ?_; refine yMd rfl ?_
  refine yMd rfl ?_; refine yB rfl rfl rfl rfl ?_; refine yPd rfl rfl ?_; refine yMd rfl ?_; refine yMd rfl ?_; refine yMd rfl ?_; refine yC (q2) rfl rfl ?_; refine yPd rfl rfl ?_; refine yMd rfl ?_; refine yMd rfl ?_
  refine yMd rfl ?_; refine yB rfl rfl rfl rfl ?_; refine yPd rfl rfl ?_; refine yMd rfl ?_; refine yMd rfl ?_; refine yMd rfl ?_; refine yC (q3) rfl rfl ?_; refine yPd rfl rfl ?_; refine yMd rfl ?_; refine yMd rfl ?_
  refine yMd rfl ?_; refine yB rfl rfl rfl rfl ?_; refine yPd rfl rfl ?_; refine yMd rfl ?_; rw [t2]; refine yMd rfl ?_; refine yMd rfl ?_; refine yC (q4) rfl rfl ?_; refine yPd rfl rfl ?_; refine yMd rfl ?_; refine yMd rfl ?_
  refine yMd rfl ?_; refine yB rfl rfl rfl rfl ?_; refine yPd rfl rfl ?_; refine yMd rfl ?_; refine yC (k0) rfl rfl ?_; refine yPd rfl rfl ?_; refine yAd rfl ?_; refine yQ ?_; refine pw_ret ?_
  exact q_ret _ (.tmp rfl .nil) rfl
end Go.Proofs.YtkfoogabijnamaaGreatDoor
