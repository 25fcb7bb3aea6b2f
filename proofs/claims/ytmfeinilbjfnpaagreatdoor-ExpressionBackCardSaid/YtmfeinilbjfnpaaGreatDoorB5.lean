/- Pointers of which it is known to what type of variable they point ('.tx'): a Builder's own address. -/
import Derived.Test.YtmfeinilbjfnpaaGreatDoorB4
import Derived.Lib.AppendStr
import Derived.Maps.Own
import Derived.Sort.KeysCollected
import Derived.Lib.SliceRun
import Derived.Shelf.Strconv.Itoa1
import Derived.Shelf.Strconv.Itoa2
import Derived.Lib.Walk
import Derived.Lib.ItoaMem
import Derived.Lib.AppendIntMem
import Derived.WalkKit
import Derived.BigCall
import Derived.BigGuard
import Derived.CellFam
import Derived.Test.YtmfeinilbjfnpaaGreatDoorB3
import Derived.Lib.ItoaNum
import Derived.Shelf.Strings.Repeat
import Derived.Sort.Walk0
import Derived.Shelf.SlIter.Nil
import Derived.Shelf.SortM.Plain
import Derived.Shelf.SortM.SortNone
set_option maxHeartbeats 1000000
namespace Go.Proofs.YtmfeinilbjfnpaaGreatDoor.Px
open Go.RowKit

section
variable {P : Program} {B : Nat} {w0 : Cx} {Q : Exit → PS → Prop} {st : PS} {c : Code}
/-- the type is told no more -/
theorem pw_tx (s : Nat) {i T n : Nat} (hs : st.get s = .tx i T n) (h : PW P B w0 c Q (st.put (some s) (.bx i 0))) : PW P B w0 c Q st := fun g a w hr => by
  have hv := hr.slots s
  rw [hs] at hv
  obtain ⟨b, h1, h2, -⟩ := hv
  refine h g a w { hr with lim := hr.lim, size := hr.size, boxes := hr.boxes, maps := hr.maps, dom := hr.dom, tdom := hr.tdom, tlen := hr.tlen, glob := hr.glob, slots := fun j => ?_ }
  rw [get_put]
  by_cases e : j = s
  · rw [if_pos e, e]; exact ⟨b, h1, h2⟩
  · rw [if_neg e]; exact hr.slots j
end
section
variable {P : Program} {sq : Bool} {ops : Array Oper} {K : PS → Prop} {rest : List Oper} {st : PS} {d : Option Nat} {ty : TypeId} {pos : String} {af : Array Edge} {gd : Option (Nat × Bool)}
theorem ls_allocT (T : TypeId) {e : Nat} {zs : List Value} [hz : ZeroOf P T zs] (hi : st.bget e = none) (hd : dstOk ⟨some e, .alloc T, ty, pos, af, gd⟩ st = true) :
    LocS P ⟨some e, .alloc T, ty, pos, af, gd⟩ st (.tx e T zs.length) (.box e (zs.map fun z => .d (.val z))) := fun st2 ha => by
  intro B w0 g a w K Q hr hK
  obtain ⟨z, h1, h2⟩ := hz.run w
  have hrun : (execOp a.eval ⟨some e, .alloc T, ty, pos, af, gd⟩).run P w = .ok (.value (.pointer (some ⟨w.heap.size, 0, none⟩))) (w.alloc (.cells zs.toArray T)) := by
    rw [← h2]
    simp [execOp, Instr.alloc, newVar, newRow, go_sem, h1]
  have hin : e < st2.n := dstOk_spec (ha.dst hd) e rfl
  have hlim : st2.n ≤ 10000 := hr.lim
  have hrep := hr.newb e T (ha.fresh rfl e rfl e (newOf_self (by omega)) hi) hin zs.toArray (zs.map fun z => .d (.val z)) (by simp) (fun j c hj => by
    rw [List.getElem?_map, Option.map_eq_some_iff] at hj
    obtain ⟨y, h3, rfl⟩ := hj
    exact ⟨y, by simpa using h3, DRep.val y (hz.one y (List.mem_of_getElem? h3))⟩) (fun u hu => hz.one u (by simpa using hu))
  unfold Oper.wp
  rw [hrun]
  refine hK _ _ _ (hrep.put (x := .tx e T zs.length) ?_ _ (dstOk_spec (st := st2.bput e _) (ha.dst hd)))
  refine ⟨w.heap.size, by simp [Gh.addb], rfl, ?_⟩
  unfold World.shape?
  rw [heap_alloc_new]
  simp
theorem yQa {T e : Nat} {zs : List Value} [hz : ZeroOf P T zs] (hi : st.bget e = none)
    (h : YR P sq ops K rest ((st.bput e (zs.map fun z => .d (.val z))).put (some e) (.tx e T zs.length))) (hd : dstOk ⟨some e, .alloc T, ty, pos, af, gd⟩ st = true := by kernel_rfl) (hk : opOk ⟨some e, .alloc T, ty, pos, af, gd⟩ st (.box e (zs.map fun z => .d (.val z))) = true := by kernel_rfl) (hw : st.want ops ⟨some e, .alloc T, ty, pos, af, gd⟩ = some true := by rfl) :
    YR P sq ops K (⟨some e, .alloc T, ty, pos, af, gd⟩ :: rest) st := yr_b (ls_allocT T hi hd) hk hw h
theorem yQm {i T n : Nat} {y : Operand} (hx : st.ev y = .tx i T n) (h : YR P sq ops K rest (st.put d (.tx i T n))) (hd : dstOk ⟨d, .move y, ty, pos, af, gd⟩ st = true := by kernel_rfl) (hk : opOk ⟨d, .move y, ty, pos, af, gd⟩ st .no = true := by kernel_rfl) (hw : st.want ops ⟨d, .move y, ty, pos, af, gd⟩ = some true := by rfl) : YR P sq ops K (⟨d, .move y, ty, pos, af, gd⟩ :: rest) st := yr_v (lm (x := .tx i T n) hx hd) hk hw h
theorem yQl {i' T' n' : Nat} {T : Nat} {y : Operand} {i off : Nat} {cs : List SV} [AggOf P T false 1] (hx : st.ev y = .bx i off) (hi : st.bget i = some cs) (hc : cs[off]? = some (.tx i' T' n')) (h : YR P sq ops K rest (st.put d (.tx i' T' n'))) (hd : dstOk ⟨d, .load T y, ty, pos, af, gd⟩ st = true := by kernel_rfl) (hk : opOk ⟨d, .load T y, ty, pos, af, gd⟩ st .no = true := by kernel_rfl) (hw : st.want ops ⟨d, .load T y, ty, pos, af, gd⟩ = some true := by rfl) (h5 : Nat.blt i 500000 = true := by rfl) : YR P sq ops K (⟨d, .load T y, ty, pos, af, gd⟩ :: rest) st := yr_v (load_bx T y (Nat.le_of_ble_eq_true h5) hx hi hc hd) hk hw h
theorem yQs {i' T' n' : Nat} {T : Nat} {z y : Operand} {i off : Nat} {cs cs' : List SV} [AggOf P T false 1] (hz : st.ev z = .bx i off) (hi : st.bget i = some cs) (hy : st.ev y = .tx i' T' n') (hcs : cs.set off (.tx i' T' n') = cs') (h : YR P sq ops K rest ((st.bput i cs').put d .any)) (hle : Nat.blt off cs.length = true := by kernel_rfl) (hd : dstOk ⟨d, .store T z y, ty, pos, af, gd⟩ st = true := by kernel_rfl) (hk : opOk ⟨d, .store T z y, ty, pos, af, gd⟩ st (.box i cs') = true := by kernel_rfl) (hw : st.want ops ⟨d, .store T z y, ty, pos, af, gd⟩ = some true := by rfl) (h5 : Nat.blt i 500000 = true := by rfl) : YR P sq ops K (⟨d, .store T z y, ty, pos, af, gd⟩ :: rest) st := by subst hcs; exact yr_b (store1 (x := .tx i' T' n') (Nat.le_of_ble_eq_true h5) hz hi hy rfl (Nat.le_of_ble_eq_true hle) hd) hk hw h
theorem ls_nilT (x : Operand) {i T n : Nat} (hx : st.ev x = .tx i T n) (hd : dstOk ⟨d, .nilCheck x, ty, pos, af, gd⟩ st = true) : LocS P ⟨d, .nilCheck x, ty, pos, af, gd⟩ st (.bx i 0) .no := fun st2 ha =>
  OpS.value (ha.dst hd) fun _ _ g a w h => by
    have h1 := h.eval x
    rw [ha.ev x (by simp [Op.operands]), hx] at h1
    obtain ⟨b, h2, h3, -⟩ := h1
    refine ⟨.pointer (some ⟨b, 0, none⟩), w, ?_, Below.refl _ _, b, h2, rfl⟩
    simp [execOp, h3]
theorem yQN {x : Operand} {i T n : Nat} (hx : st.ev x = .tx i T n) (h : YR P sq ops K rest (st.put d (.bx i 0))) (hd : dstOk ⟨d, .nilCheck x, ty, pos, af, gd⟩ st = true := by kernel_rfl) (hk : opOk ⟨d, .nilCheck x, ty, pos, af, gd⟩ st .no = true := by kernel_rfl) (hw : st.want ops ⟨d, .nilCheck x, ty, pos, af, gd⟩ = some true := by rfl) :
    YR P sq ops K (⟨d, .nilCheck x, ty, pos, af, gd⟩ :: rest) st := yr_v (ls_nilT x hx hd) hk hw h
theorem ls_toU (S D : TypeId) (x : Operand) {i T n t : Nat} {j : TypeInfo} (hs : P.underlying S = some (.pointer t)) (hD : P.underlying D = some .unsafePointer) (ht : P.info? t = some j) (hj : j.size ≠ 0) (hn : 0 < n) (hx : st.ev x = .tx i T n) (hd : dstOk ⟨d, .convert S D x, ty, pos, af, gd⟩ st = true) : LocS P ⟨d, .convert S D x, ty, pos, af, gd⟩ st (.tx i T n) .no := fun st2 ha =>
  OpS.value (ha.dst hd) fun _ _ g a w h => by
    have h1 := h.eval x
    rw [ha.ev x (by simp [Op.operands]), hx] at h1
    obtain ⟨b, h2, h3, h4⟩ := h1
    refine ⟨.pointer (some ⟨b, 0, none⟩), w, ?_, Below.refl _ _, b, h2, rfl, h4⟩
    simp [execOp, h3, Lib.run_to_unsafe w ⟨b, 0, none⟩ hs hD ht hj h4 hn, Result.andThen]
theorem yQu {S D : Nat} {x : Operand} {i T n t : Nat} {j : TypeInfo} (hs : P.underlying S = some (.pointer t)) (hD : P.underlying D = some .unsafePointer) (ht : P.info? t = some j) (hj : j.size ≠ 0) (hn : 0 < n) (hx : st.ev x = .tx i T n) (h : YR P sq ops K rest (st.put d (.tx i T n))) (hd : dstOk ⟨d, .convert S D x, ty, pos, af, gd⟩ st = true := by kernel_rfl) (hk : opOk ⟨d, .convert S D x, ty, pos, af, gd⟩ st .no = true := by kernel_rfl) (hw : st.want ops ⟨d, .convert S D x, ty, pos, af, gd⟩ = some true := by rfl) :
    YR P sq ops K (⟨d, .convert S D x, ty, pos, af, gd⟩ :: rest) st := yr_v (ls_toU S D x hs hD ht hj hn hx hd) hk hw h
theorem ls_ofU (S D : TypeId) (x : Operand) {i T n u : Nat} {j : TypeInfo} (hs : P.underlying S = some .unsafePointer) (hD : P.underlying D = some (.pointer u)) (hu : P.info? u = some j) (hl : liesAt P P.depth T (n / P.cellsOf T) 0 u 1 = true) (hx : st.ev x = .tx i T n) (hd : dstOk ⟨d, .convert S D x, ty, pos, af, gd⟩ st = true) : LocS P ⟨d, .convert S D x, ty, pos, af, gd⟩ st (.tx i T n) .no := fun st2 ha =>
  OpS.value (ha.dst hd) fun _ _ g a w h => by
    have h1 := h.eval x
    rw [ha.ev x (by simp [Op.operands]), hx] at h1
    obtain ⟨b, h2, h3, h4⟩ := h1
    refine ⟨.pointer (some ⟨b, 0, none⟩), w, ?_, Below.refl _ _, b, h2, rfl, h4⟩
    simp [execOp, h3, Lib.run_from_unsafe w ⟨b, 0, none⟩ hs hD hu h4 hl, Result.andThen]
theorem yQc {S D : Nat} {x : Operand} {i T n u : Nat} {j : TypeInfo} (hs : P.underlying S = some .unsafePointer) (hD : P.underlying D = some (.pointer u)) (hu : P.info? u = some j) (hl : liesAt P P.depth T (n / P.cellsOf T) 0 u 1 = true) (hx : st.ev x = .tx i T n) (h : YR P sq ops K rest (st.put d (.tx i T n))) (hd : dstOk ⟨d, .convert S D x, ty, pos, af, gd⟩ st = true := by kernel_rfl) (hk : opOk ⟨d, .convert S D x, ty, pos, af, gd⟩ st .no = true := by kernel_rfl) (hw : st.want ops ⟨d, .convert S D x, ty, pos, af, gd⟩ = some true := by rfl) :
    YR P sq ops K (⟨d, .convert S D x, ty, pos, af, gd⟩ :: rest) st := yr_v (ls_ofU S D x hs hD hu hl hx hd) hk hw h
theorem ls_same (f : Nat) (x : Operand) (ts : Array TypeId) {i T n : Nat} (hf : ∀ v w, (callFunc f #[v]).run P w = .ok (.value v) w) (hx : st.ev x = .tx i T n) (hd : dstOk ⟨d, .call { callee := .value (.func f), args := #[x], argTypes := ts }, ty, pos, af, gd⟩ st = true) : LocS P ⟨d, .call { callee := .value (.func f), args := #[x], argTypes := ts }, ty, pos, af, gd⟩ st (.tx i T n) .no := fun st2 ha =>
  OpS.value (ha.dst hd) fun _ _ g a w h => by
    have h1 := h.eval x
    rw [ha.ev x (by simp [Op.operands, Call.operands]), hx] at h1
    obtain ⟨b, h2, h3, h4⟩ := h1
    refine ⟨.pointer (some ⟨b, 0, none⟩), w, ?_, Below.refl _ _, b, h2, rfl, h4⟩
    simp only [execOp, resolve, Act.eval, Deferred.ofValue, Sem.run_bind, Sem.run_pure, Result.andThen_ok, invoke]
    simp [h3, hf]
theorem yQn {f : Nat} {x : Operand} {ts : Array TypeId} {i T n : Nat} (hf : ∀ v w, (callFunc f #[v]).run P w = .ok (.value v) w) (hx : st.ev x = .tx i T n) (h : YR P sq ops K rest (st.put d (.tx i T n))) (hd : dstOk ⟨d, .call { callee := .value (.func f), args := #[x], argTypes := ts }, ty, pos, af, gd⟩ st = true := by kernel_rfl) (hk : opOk ⟨d, .call { callee := .value (.func f), args := #[x], argTypes := ts }, ty, pos, af, gd⟩ st .no = true := by kernel_rfl) (hw : st.want ops ⟨d, .call { callee := .value (.func f), args := #[x], argTypes := ts }, ty, pos, af, gd⟩ = some true := by rfl) :
    YR P sq ops K (⟨d, .call { callee := .value (.func f), args := #[x], argTypes := ts }, ty, pos, af, gd⟩ :: rest) st := yr_v (ls_same f x ts hf hx hd) hk hw h
theorem run_eql_ptr_nil {tp te : TypeId} (w : World) (a : Addr) (hp : P.underlying tp = some (.pointer te)) : (binOp .eql tp (.pointer (some a)) (.pointer none)).run P w = .ok (.bool false) w := by
  have h : ∀ d : Nat, (Op.equalIn (d + 1) tp (.pointer (some a)) (.pointer none)).run P w = .ok false w := fun d => by
    simp [Op.equalIn, run_underlying hp]
  simp only [binOp]
  simp [Op.equal, Op.maxDepth, h 9999]
theorem run_eql_nil_nil {tp te : TypeId} (w : World) (hp : P.underlying tp = some (.pointer te)) : (binOp .eql tp (.pointer none) (.pointer none)).run P w = .ok (.bool true) w := by
  have h : ∀ d : Nat, (Op.equalIn (d + 1) tp (.pointer none) (.pointer none)).run P w = .ok true w := fun d => by
    simp [Op.equalIn, run_underlying hp]
  simp only [binOp]
  simp [Op.equal, Op.maxDepth, h 9999]
theorem ls_eqn (t t' : TypeId) (x : Operand) {i T n te : Nat} (hp : P.underlying t = some (.pointer te)) (hx : st.ev x = .tx i T n) (hd : dstOk ⟨d, .binOp .eql t x (.const (.pointer none)) t', ty, pos, af, gd⟩ st = true) : LocS P ⟨d, .binOp .eql t x (.const (.pointer none)) t', ty, pos, af, gd⟩ st (.d (.val (.bool false))) .no := fun st2 ha =>
  OpS.value (ha.dst hd) fun _ _ g a w h => by
    have h1 := h.eval x
    rw [ha.ev x (by simp [Op.operands]), hx] at h1
    obtain ⟨b, h2, h3, h4⟩ := h1
    refine ⟨.bool false, w, ?_, Below.refl _ _, DRep.val _ rfl⟩
    have h5 : a.eval (.const (.pointer none)) = .pointer none := rfl
    simp only [execOp, h3, h5]
    simp [eqGuard, run_eql_ptr_nil w _ hp, Result.andThen]
theorem yQe {t t' : Nat} {x : Operand} {i T n te : Nat} (hp : P.underlying t = some (.pointer te)) (hx : st.ev x = .tx i T n) (h : YR P sq ops K rest (st.put d (.d (.val (.bool false))))) (hd : dstOk ⟨d, .binOp .eql t x (.const (.pointer none)) t', ty, pos, af, gd⟩ st = true := by kernel_rfl) (hk : opOk ⟨d, .binOp .eql t x (.const (.pointer none)) t', ty, pos, af, gd⟩ st .no = true := by kernel_rfl) (hw : st.want ops ⟨d, .binOp .eql t x (.const (.pointer none)) t', ty, pos, af, gd⟩ = some true := by rfl) :
    YR P sq ops K (⟨d, .binOp .eql t x (.const (.pointer none)) t', ty, pos, af, gd⟩ :: rest) st := yr_v (ls_eqn t t' x hp hx hd) hk hw h
theorem yQz {t t' : Nat} {x : Operand} {te : Nat} (hp : P.underlying t = some (.pointer te)) (hx : st.ev x = .d (.val (.pointer none))) (h : YR P sq ops K rest (st.put d (.d (.val (.bool true))))) (hd : dstOk ⟨d, .binOp .eql t x (.const (.pointer none)) t', ty, pos, af, gd⟩ st = true := by kernel_rfl) (hk : opOk ⟨d, .binOp .eql t x (.const (.pointer none)) t', ty, pos, af, gd⟩ st .no = true := by kernel_rfl) (hw : st.want ops ⟨d, .binOp .eql t x (.const (.pointer none)) t', ty, pos, af, gd⟩ = some true := by rfl) :
    YR P sq ops K (⟨d, .binOp .eql t x (.const (.pointer none)) t', ty, pos, af, gd⟩ :: rest) st := yr_v (ls_bin_run .eql t t' x (.const (.pointer none)) hx rfl (fun w => by
      have e : (eqGuard .eql t x (.const (.pointer none)) (.pointer none) (.pointer none) >>= fun _ => binOp .eql t (.pointer none) (.pointer none)) = binOp .eql t (.pointer none) (.pointer none) := rfl
      rw [e]
      exact run_eql_nil_nil w hp) rfl hd) hk hw h
theorem ls_nes (t t' : TypeId) (x y : Operand) {i T n te : Nat} {j : TypeInfo} (hp : P.underlying t = some (.pointer te)) (hte : P.info? te = some j) (hx : st.ev x = .tx i T n) (hy : st.ev y = .tx i T n) (hd : dstOk ⟨d, .binOp .neq t x y t', ty, pos, af, gd⟩ st = true) : LocS P ⟨d, .binOp .neq t x y t', ty, pos, af, gd⟩ st (.d (.val (.bool false))) .no := fun st2 ha =>
  OpS.value (ha.dst hd) fun _ _ g a w h => by
    have h1 := h.eval x
    rw [ha.ev x (by simp [Op.operands]), hx] at h1
    obtain ⟨b, h2, h3, -⟩ := h1
    have h5 := h.eval y
    rw [ha.ev y (by simp [Op.operands]), hy] at h5
    obtain ⟨b', h6, h7, -⟩ := h5
    rw [h2] at h6
    cases h6
    refine ⟨.bool false, w, ?_, Below.refl _ _, DRep.val _ rfl⟩
    simp only [execOp, h3, h7]
    simp [eqGuard, Lib.run_neq_ptr_same w _ hp hte, Result.andThen]
theorem yQq {t t' : Nat} {x y : Operand} {i T n te : Nat} {j : TypeInfo} (hp : P.underlying t = some (.pointer te)) (hte : P.info? te = some j) (hx : st.ev x = .tx i T n) (hy : st.ev y = .tx i T n) (h : YR P sq ops K rest (st.put d (.d (.val (.bool false))))) (hd : dstOk ⟨d, .binOp .neq t x y t', ty, pos, af, gd⟩ st = true := by kernel_rfl) (hk : opOk ⟨d, .binOp .neq t x y t', ty, pos, af, gd⟩ st .no = true := by kernel_rfl) (hw : st.want ops ⟨d, .binOp .neq t x y t', ty, pos, af, gd⟩ = some true := by rfl) :
    YR P sq ops K (⟨d, .binOp .neq t x y t', ty, pos, af, gd⟩ :: rest) st := yr_v (ls_nes t t' x y hp hte hx hy hd) hk hw h
end
end Go.Proofs.YtmfeinilbjfnpaaGreatDoor.Px
set_option maxHeartbeats 1000000
namespace Go.Proofs.YtmfeinilbjfnpaaGreatDoor.Px
open Go.RowKit

/-- the run of an append of a string to a row of one's own, with all that stays -/
theorem run_app_str {P : Program} (w : World) (base : Nat) (t u ty e : TypeId) (i : TypeInfo) (ht : P.underlying t = some (.slice e)) (hu : P.underlying u = some .string) (hi : P.info? e = some i) (hz : i.zero = some (.int .u8 0))
    (hsize : i.size = 1) (hby : i.bytes = 1) (v : Value) (n : Nat) (xs : List Value) (hown : w.ownsRow base e 1 v n xs) (s : ByteArray)
    (h63 : n + s.size ≤ maxLen) (hbytes : n + s.size ≤ 140737488355328) (hbase : base ≤ w.heap.size) (hs0 : 0 < s.size) :
    ∃ v' w', (Builtin.append_ #[t, u] ty #[v, .string s]).run P w = .ok v' w' ∧ w'.ownsRow base e 1 v' (n + s.size) (xs ++ Lib.strCells s) ∧ Below 0 w w' ∧
      (∀ b, b < w.heap.size → v.ownBlock ≠ some b → w'.heap[b]? = w.heap[b]?) ∧ (∀ b o, b < w.heap.size → v.ownBlock = some b → o < n → w'.cell? ⟨b, o, none⟩ = w.cell? ⟨b, o, none⟩) ∧
      (v'.ownBlock = v.ownBlock ∨ v'.ownBlock = some w.heap.size) := by
  have hsmall : n + s.size ≤ 9223372036854775807 := by simp only [maxLen] at h63; omega
  have hxl : xs.length = n := by simpa using hown.1
  have hlen : (xs ++ Lib.strCells s).length = (n + s.size) * 1 := by rw [List.length_append, hxl, Lib.strCells_length, Nat.mul_one]
  have grown : ∀ (old : Nat), old < n + s.size →
      (w.drew.alloc (.cells (xs.toArray ++ (Lib.strCells s).toArray ++ Builtin.zeroCells (Value.int .u8 0).cells (grownCap w (n + s.size) old e - (n + s.size))) e)).ownsRow base e 1
        (.slice (some ⟨w.heap.size, 0, none⟩) (n + s.size) (grownCap w (n + s.size) old e)) (n + s.size) (xs ++ Lib.strCells s) := by
    intro old ho
    have hge := grownCap_ge w (n + s.size) old e
    have hcm : grownCap w (n + s.size) old e ≤ maxLen := grownCap_le_maxLen w (n + s.size) old e h63
    refine ⟨hlen, .inr ⟨w.heap.size, _, _, rfl, hbase, heap_alloc_new w.drew _, hge, hcm, ?_, ?_⟩⟩
    · have hz1 : (Value.int IntKind.u8 0).cells.size = 1 := rfl
      simp only [Array.size_append, List.size_toArray, size_zeroCells, hz1, hxl, Lib.strCells_length]
      omega
    · simp only [Array.toList_append, List.append_assoc]
      rw [← List.append_assoc, ← hlen]
      exact List.take_left
  have hold : ∀ o b, b < w.heap.size → (w.drew.alloc o).heap[b]? = w.heap[b]? := fun o b hb => Below.heap_alloc w.drew o b hb
  have hbel : ∀ o, Below 0 w (w.drew.alloc o) := fun o => ⟨rfl, rfl, rfl, by simp, fun k hk => by omega⟩
  rcases hown.2 with ⟨rfl, rfl⟩ | ⟨gb, cap, cur, rfl, hbg, hg, hnc, hcm, hcs, htake⟩
  · have hx : xs = [] := List.eq_nil_of_length_eq_zero hxl
    subst hx
    have hr := run_append_nil_string (P := P) w t u ty e i (.int .u8 0) ht hu hi hz s (by omega) (by omega) (by rw [hby]; omega)
    have hgr := grown 0 (by omega)
    simp only [Nat.zero_add, List.nil_append, Array.empty_append] at hgr ⊢
    have e1 : (s.data.map fun b => Value.int .u8 b.toNat) = (Lib.strCells s).toArray := by
      apply Array.ext'
      simp [Lib.strCells]
    rw [e1] at hr
    exact ⟨_, _, hr, hgr, hbel _, fun b hb _ => hold _ b hb, fun b o hb h => by simp [Value.ownBlock] at h, .inr rfl⟩
  · have hcs' : cur.size = cap := by simpa using hcs
    by_cases hroom : n + s.size ≤ cap
    · have hr := Lib.run_append_room_string (P := P) w t u ty e i ht hu hi hsize gb n cap cur hg s hroom (by omega)
      refine ⟨_, _, hr, ⟨hlen, .inr ⟨gb, cap, _, rfl, hbg, setRow_heap w gb cur _ e _ hg, hroom, hcm, ?_, ?_⟩⟩, ⟨rfl, rfl, rfl, by simp [World.setRow], fun k hk => by omega⟩, fun b _ hb => setRow_other w gb b _ (fun e => hb (by simp [Value.ownBlock, e])), fun b o _ hb ho => ?_, .inl rfl⟩
      · simp only [List.size_toArray, List.length_append, List.length_take, List.length_drop, Array.length_toList, Lib.strCells_length]
        omega
      · have ht' : cur.toList.take n = xs := by simpa using htake
        rw [ht', ← hlen]
        exact List.take_left
      · obtain rfl : gb = b := by simpa [Value.ownBlock] using hb
        have h2 := setRow_heap w gb cur (cur.toList.take n ++ Lib.strCells s ++ cur.toList.drop (n + s.size)).toArray e _ hg
        simp only [World.cell?, h2, hg, Option.isSome_none, Bool.false_eq_true, if_false]
        rw [List.getElem?_toArray, List.append_assoc, List.getElem?_append_left (by simp; omega), List.getElem?_take_of_lt ho]
        simp
    · have holds : ∀ j u, xs[j]? = some u → w.cell? ((⟨gb, 0, none⟩ : Addr).add j) = some u := hown.cells (g := gb) rfl
      have hr := Lib.run_append_grow_string (P := P) w t u ty e i (.int .u8 0) ht hu hi hz ⟨gb, 0, none⟩ n cap xs (by rw [hsize]; simpa using hxl) holds s (by omega) (by omega) (by rw [hby]; exact growslice_fits (by omega) (by omega))
      exact ⟨_, _, hr, grown cap (by omega), hbel _, fun b hb _ => hold _ b hb, fun b o hb _ _ => by simp only [World.cell?, hold _ b hb], .inr rfl⟩

section
variable {P : Program} {st : PS} {d : Option Nat} {ty : TypeId} {pos : String} {af : Array Edge} {gd : Option (Nat × Bool)}

theorem ls_appstr (T U : TypeId) (s x : Operand) {E t n : Nat} {es es2 : List (List DV)} {l : List UInt8} [hA : AppOf P T E 1 1] (hz0 : (P.info? E).bind (·.zero) = some (.int .u8 0)) (hU : P.underlying U = some .string) (h0l : 0 < l.length) (hes2 : es2 = l.map fun c => [DV.val (.int .u8 c.toNat)]) (hs : st.ev s = .ts t 1 es) (ht : st.tget t = some n) (hn : n = es.length) (hx : st.ev x = .d (dS l)) (hE : t / 100000 = E)
    (hl : es.length + es2.length ≤ 140737488351232) (hd : dstOk ⟨d, .call { callee := .builtin .append, args := #[s, x], argTypes := #[T, U] }, ty, pos, af, gd⟩ st = true) :
    LocS P ⟨d, .call { callee := .builtin .append, args := #[s, x], argTypes := #[T, U] }, ty, pos, af, gd⟩ st (.ts t 1 (es ++ es2)) (.tok t (es.length + es2.length)) := fun st2 ha => by
  subst hn
  intro B w0 g a w K Q hr hK
  have h1 := hr.eval s
  rw [ha.ev s (by simp [Op.operands, Call.operands]), hs] at h1
  obtain ⟨h1, h2⟩ := h1
  obtain ⟨A1, c1, ys, hv1, hc1, hm1, hk1, hl1, hcell1, hone1, hrep1⟩ := DRep.row h1
  have h3 := hr.eval x
  rw [ha.ev x (by simp [Op.operands, Call.operands]), hx] at h3
  have hv2 : a.eval x = .string ⟨l.toArray⟩ := DRep.val_eq h3
  obtain ⟨news, hnews⟩ : ∃ news, news = Lib.strCells ⟨l.toArray⟩ := ⟨_, rfl⟩
  have hnl : news = l.map fun c => Value.int .u8 c.toNat := by rw [hnews]; simp [Lib.strCells]
  have hsz : (⟨l.toArray⟩ : ByteArray).size = es2.length := by rw [hes2, List.length_map]; simp [ByteArray.size]
  have hl2 : news.length = es2.length * 1 := by rw [hnl, hes2]; simp
  have hone2 : ∀ u ∈ news, u.oneCell' = true := by rw [hnews]; exact Lib.strCells_oneCell _
  have hk2 : ∀ e ∈ es2, e.length = 1 := fun e he => by
    rw [hes2, List.mem_map] at he
    obtain ⟨c, -, rfl⟩ := he
    rfl
  have hrep2 : ∀ (i j : Nat) e y, es2[i]? = some e → e[j]? = some y → ∃ u, news[i * 1 + j]? = some u ∧ DRep (Fx g) w u y := fun i j e y he hy => by
    rw [hes2, List.getElem?_map, Option.map_eq_some_iff] at he
    obtain ⟨c, hc, rfl⟩ := he
    match j, hy with
    | 0, hy =>
      cases hy
      exact ⟨.int .u8 c.toNat, by rw [hnl, Nat.mul_one, Nat.add_zero, List.getElem?_map, hc]; rfl, DRep.val _ rfl⟩
    | j + 1, hy => simp at hy
  have hl20 : 0 < es2.length := by rw [hes2, List.length_map]; exact h0l
  obtain ⟨T', A, c, h4, h5⟩ := hr.tlen t es.length ((ha.tk rfl s (by simp [Op.operands, Call.operands]) t 1 es hs).trans ht)
  obtain ⟨h6, h7⟩ := h2 T' h4
  have h8 : a.eval s = T'.v := (h7 A es.length c h5).2 rfl
  obtain ⟨⟨n', xs, h9⟩, h10⟩ := hr.toks t T' h4
  obtain rfl : es.length = n' := own_of_tip h9 h5
  have hTE : T'.E = E := (hr.telt t T' h4).trans hE
  obtain ⟨i, z, q1, q2, q3, q4, q5⟩ := hA.inf
  rw [hTE, h6] at h9
  have hz1 : z = .int .u8 0 := by
    rw [q1, Option.bind_some, q2] at hz0
    exact Option.some.inj hz0
  subst hz1
  obtain ⟨v', w', r1, r2, r3, r4, r5, r6⟩ := run_app_str (P := P) w 0 T U ty E i hA.und hU q1 q2 q3 q4 T'.v es.length xs h9 ⟨l.toArray⟩ (by unfold maxLen; omega) (by omega) (Nat.zero_le _) (by omega)
  rw [hsz, ← hnews] at r2
  have hxs : xs = ys := by
    apply List.ext_getElem?
    intro j
    have hlx := h9.1
    by_cases hj : j < es.length * 1
    · have h0 : 0 < es.length := by
        rcases Nat.eq_zero_or_pos es.length with h0 | h0
        · rw [h0] at hj; simp at hj
        · exact h0
      obtain ⟨b, off, hA1, hcell⟩ := hcell1 h0
      obtain ⟨u, hu⟩ : ∃ u, ys[j]? = some u := ⟨_, List.getElem?_eq_getElem (by omega)⟩
      obtain ⟨u', hu'⟩ : ∃ u, xs[j]? = some u := ⟨_, List.getElem?_eq_getElem (by omega)⟩
      have e1 : T'.v = .slice (some ⟨b, off, none⟩) es.length c1 := by rw [← h8, hv1, hA1]
      have e2 := own_cell h9 (b := b) (by rw [e1]; rfl) j u' hu'
      obtain ⟨A3, c3, e3, -, e4⟩ := own_form h9
      have e5 := e4 b (by rw [e1]; rfl)
      have e6 : off = 0 := by
        have := e1.symm.trans e5
        have := (Value.slice.inj this).1
        simpa using this
      have e7 := (hcell j u hu).1
      rw [e6, Nat.zero_add, e2] at e7
      rw [hu, hu', Option.some.inj e7]
    · rw [List.getElem?_eq_none (by omega), List.getElem?_eq_none (by omega)]
  subst hxs
  obtain ⟨fx, hrep'⟩ := hr.app t es.length es2.length T' h4 xs news v' (by rw [hTE, h6]; exact h9) (by rw [hTE, h6]; exact r2) r3 (fun b hb hne => r4 b hb hne) (fun b o hb hb' ho => r5 b o hb hb' (by rw [h6] at ho; omega)) r6 (fun h => by omega)
  have hrun : (execOp a.eval ⟨d, .call { callee := .builtin .append, args := #[s, x], argTypes := #[T, U] }, ty, pos, af, gd⟩).run P w = .ok (.value v') w' := by
    simp only [execOp, resolve, invoke, builtin, Sem.run_bind, Sem.run_pure, Result.andThen_ok, List.map_toArray, List.map_cons, List.map_nil, h8, hv2, r1]
  unfold Oper.wp
  rw [hrun]
  refine hK _ _ _ (hrep'.put (v := v') (x := .ts t 1 (es ++ es2)) ⟨?_, fun T2 hT2 => ?_⟩ _ (dstOk_spec (st := st2.tput t _) (ha.dst hd)))
  · obtain ⟨A3, c3, e3, e4, e5⟩ := own_form r2
    have e3' : v' = .slice A3 (es ++ es2).length c3 := by rw [List.length_append]; exact e3
    refine (congrArg (fun q => DRep (Fx (g.sett t ⟨v', T'.E, T'.k⟩)) w' q (.sl 1 (es ++ es2))) e3').mpr ?_
    refine DRep.of_row (xs := xs ++ news) (by rw [List.length_append]; exact e4) (by rw [List.length_append]; exact Nat.le_trans hl (by decide)) (fun e he => ?_) (fun h0 => ?_) (fun u hu => ?_) fun i j e y he hy => ?_
    · rcases List.mem_append.1 he with he | he
      · exact hk1 e he
      · exact hk2 e he
    · rcases r2.2 with ⟨e6, e7⟩ | ⟨gb, cap, cur, e6, e7, e8, -⟩
      · rw [List.length_append] at h0; omega
      · have e9 : A3 = some ⟨gb, 0, none⟩ := (Value.slice.inj (e3.symm.trans e6)).1
        refine ⟨gb, 0, e9, fun j u hj => ⟨?_, ?_⟩⟩
        · rw [Nat.zero_add]; exact own_cell r2 (by rw [e6]; rfl) j u hj
        · refine ⟨hrep'.tf0 t ⟨v', T'.E, T'.k⟩ gb _ (by simp [Gh.sett]) (by show v'.ownBlock = _; rw [e6]; rfl), fun i' hi' => ?_, fun t2 T2 n2 c2' hT2 hv2' => ?_⟩
          · exact (hrep'.toks t ⟨v', T'.E, T'.k⟩ (by simp [Gh.sett])).2 i' gb (by rw [show (⟨v', T'.E, T'.k⟩ : Tk).v = v' from rfl, e6]; rfl) hi'
          · have htt : t2 = t := hrep'.tdis t2 t T2 ⟨v', T'.E, T'.k⟩ gb hT2 (by simp [Gh.sett]) (by rw [hv2']; rfl) (by rw [show (⟨v', T'.E, T'.k⟩ : Tk).v = v' from rfl, e6]; rfl)
            subst htt
            simp only [Gh.sett, if_pos] at hT2
            cases hT2
            have e10 : n2 = es.length + es2.length := (Value.slice.inj ((show v' = _ from hv2').symm.trans e6)).2.1
            have hlt := (List.getElem?_eq_some_iff.1 hj).1
            rw [r2.1] at hlt
            show 0 + j < n2 * T'.k
            rw [e10, h6, Nat.zero_add]
            exact hlt
    · rcases List.mem_append.1 hu with hu | hu
      · exact hone1 u hu
      · exact hone2 u hu
    · by_cases hi : i < es.length
      · rw [List.getElem?_append_left hi] at he
        obtain ⟨u, e6, e7⟩ := hrep1 i j e y he hy
        refine ⟨u, ?_, e7.mono fx⟩
        rw [List.getElem?_append_left (List.getElem?_eq_some_iff.1 e6).1]
        exact e6
      · rw [List.getElem?_append_right (by omega)] at he
        obtain ⟨u, e6, e7⟩ := hrep2 (i - es.length) j e y he hy
        refine ⟨u, ?_, e7.mono fx⟩
        have : i * 1 + j - xs.length = (i - es.length) * 1 + j := by
          rw [h9.1, Nat.sub_mul]
          have := Nat.mul_le_mul_right 1 (show es.length ≤ i by omega)
          omega
        rw [List.getElem?_append_right (by rw [h9.1]; have := Nat.mul_le_mul_right 1 (show es.length ≤ i by omega); omega), this]
        exact e6
  · simp only [Gh.sett, if_pos] at hT2
    cases hT2
    refine ⟨h6, fun A3 n3 c3 e3 => ?_⟩
    have e4 : n3 = es.length + es2.length := own_of_tip r2 e3
    rw [List.length_append]
    exact ⟨by omega, fun _ => rfl⟩
variable {sq : Bool} {ops : Array Oper} {K : PS → Prop} {rest : List Oper}
theorem yTs {T U E t n m : Nat} {x y : Operand} {es es2 es' : List (List DV)} {l : List UInt8} [hA : AppOf P T E 1 1] (hz0 : (P.info? E).bind (·.zero) = some (.int .u8 0)) (hU : P.underlying U = some .string) (h0l : 0 < l.length) (hes2 : es2 = l.map fun c => [DV.val (.int .u8 c.toNat)]) (hl : es.length + es2.length ≤ 140737488351232) (hs : st.ev x = .ts t 1 es) (ht : st.tget t = some n) (hn : n = es.length) (hx : st.ev y = .d (dS l)) (hE : t / 100000 = E) (he : es ++ es2 = es') (hm : es.length + es2.length = m) (h : YR P sq ops K rest ((st.tput t m).put d (.ts t 1 es'))) (hd : dstOk ⟨d, .call { callee := .builtin .append, args := #[x, y], argTypes := #[T, U] }, ty, pos, af, gd⟩ st = true := by kernel_rfl) (hk : opOk ⟨d, .call { callee := .builtin .append, args := #[x, y], argTypes := #[T, U] }, ty, pos, af, gd⟩ st (.tok t m) = true := by kernel_rfl) (hw : st.want ops ⟨d, .call { callee := .builtin .append, args := #[x, y], argTypes := #[T, U] }, ty, pos, af, gd⟩ = some true := by rfl) : YR P sq ops K (⟨d, .call { callee := .builtin .append, args := #[x, y], argTypes := #[T, U] }, ty, pos, af, gd⟩ :: rest) st := by subst he hm; exact yr_t (ls_appstr T U x y hz0 hU h0l hes2 hs ht hn hx hE hl hd) hk hw h
end
end Go.Proofs.YtmfeinilbjfnpaaGreatDoor.Px
set_option maxHeartbeats 1000000
namespace Go.Proofs.YtmfeinilbjfnpaaGreatDoor.Px
open Go.RowKit

section
variable {P : Program} {B : Nat} {w0 : Cx} {Q : Exit → PS → Prop} {st : PS} {c : Code}
end
end Go.Proofs.YtmfeinilbjfnpaaGreatDoor.Px
set_option maxHeartbeats 1000000
namespace Go.Proofs.YtmfeinilbjfnpaaGreatDoor.Px
open Go.RowKit Go.Maps Go.Sort Go.WideMaps

/-- what maps.Keys gives -/
def KeysC (P : Program) (fK it T : Nat) : Prop := ∀ mb W, Calls P fK #[.map mb] W fun e w' => e = .returned (.func (.func it) #[] #[.pointer (some ⟨W.heap.size, 0, none⟩)]) ∧ w' = W.alloc (.cells #[.map mb] T)
/-- what slices.Sorted gives for that -/
def SortedC (P : Program) (fS it k : Nat) : Prop := ∀ (a b nn : Nat) (D0 : DataW Unit) (R : Value → Option (DataW Unit × List MemPlace)) (W : World), a < W.heap.size → W.cell? ⟨a, 0, none⟩ = some (.map (some b)) → W.ownsMap P k R b nn D0 →
  Maps.size D0 ≤ maxLen → Maps.size D0 * 16 ≤ 140737488355328 → Calls P fS #[.func (.func it) #[] #[.pointer (some ⟨a, 0, none⟩)]] W fun e w' => ∃ (v : Value) (ss : List (List UInt8)), e = .returned v ∧ ss.Perm (strKeys D0) ∧
    w'.ownsRow W.heap.size k 1 v ss.length ((ss.mergeSort (fun x y => decide (x ≤ y))).map encStr) ∧ (v = .slice none 0 0 ↔ ss = []) ∧ Below W.heap.size W w'

/-- a map's keys, in ascending order -/
def skeys (l : List (List UInt8 × DV)) : List (List UInt8) := (l.map (·.1)).mergeSort leB

/-- how the entries' values read: it does not matter -/
def anyR (_ : Value) : Option (DataW Unit × List MemPlace) := some (.nil, [])

theorem own_of_map {P : Program} {k : Nat} {w : World} {b c : Nat} {es : Array MapEntry} {l : List (List UInt8 × DV)} (hk : P.underlying k = some .string) (h2 : w.heap[b]? = some (.map es c)) (h3 : es.toList.length = l.length) (hs : MapKept.Stamped es c)
    (h4 : ∀ (i : Nat) e p, es.toList[i]? = some e → l[i]? = some p → e.key = vS p.1) (hl : l.length ≤ 1000000) (hkl : ∀ p ∈ l, p.1.length ≤ 1000000) :
    ∃ D0 : DataW Unit, w.ownsMap P k anyR b l.length D0 ∧ Maps.size D0 = l.length ∧ (strKeys D0).Perm (l.map (·.1)) := by
  have hrd : ∀ (i : Nat) e p, es.toList[i]? = some e → l[i]? = some p → WideElems.rd P k anyR e = some (.string p.1, .nil) := fun i e p he hp => by
    have h5 := h4 i e p he hp
    have h6 : keyOf P k e.key = some (.string p.1) := by
      rw [h5]
      have := keyOf_string_mk hk (s := ⟨p.1.toArray⟩) (by
        have := hkl p (List.mem_of_getElem? hp)
        show p.1.toArray.size ≤ maxLen
        simp only [List.size_toArray, maxLen]; omega)
      simpa [vS] using this
    simp [WideElems.rd, h6, anyR]
  have hmap : es.toList.map (WideElems.rg P k anyR) = l.map fun p => (Lit.string p.1, DataW.nil) := by
    refine List.ext_getElem? fun i => ?_
    rw [List.getElem?_map, List.getElem?_map]
    cases he : es.toList[i]? with
    | none =>
      have : l[i]? = none := by rw [List.getElem?_eq_none_iff] at he ⊢; omega
      rw [this]; rfl
    | some e =>
      cases hp : l[i]? with
      | none => rw [List.getElem?_eq_none_iff] at hp; have := (List.getElem?_eq_some_iff.1 he).1; omega
      | some p => simp [WideElems.rg_of (hrd i e p he hp)]
  refine ⟨_, ⟨es, c, h2, ⟨by simp only [maxLen]; simp at h3; omega, hs, fun x hx => ?_⟩, by simp at h3; omega, rfl⟩, ?_, ?_⟩
  · obtain ⟨i, hi, rfl⟩ := List.mem_iff_getElem.1 hx
    exact ⟨_, hrd i _ _ (List.getElem?_eq_getElem hi) (List.getElem?_eq_getElem (by omega))⟩
  · rw [hmap]
    show ((l.map fun p => (Lit.string p.1, (DataW.nil : DataW Unit))).foldr DataW.insert []).length = _
    rw [(WideShapes.sorted_perm _).length_eq, List.length_map]
  · rw [hmap]
    show (((l.map fun p => (Lit.string p.1, (DataW.nil : DataW Unit))).foldr DataW.insert []).map fun p => strOf p.1).Perm _
    refine ((WideShapes.sorted_perm _).map _).trans ?_
    rw [List.map_map]
    exact .refl _

section
variable {P : Program} {ops : Array Oper} {K : PS → Prop} {rest : List Oper} {st : PS} {d : Option Nat} {ty : TypeId} {pos : String} {af : Array Edge} {gd : Option (Nat × Bool)}

/-- maps.Keys: a function over a box that holds the map -/
theorem yKk {fK it T e i : Nat} {x : Operand} {ts : Array TypeId} [HasBody P fK] (hK : KeysC P fK it T) (hx : st.ev x = .mb i) (hi : st.bget e = none)
    (h : YR P true ops K rest ((st.bput e [.mb i]).put (some e) (.fn it [e]))) (hin : Nat.blt e st.n = true := by rfl)
    (hw : st.want ops ⟨some e, .call { callee := .value (.func fK), args := #[x], argTypes := ts }, ty, pos, af, gd⟩ = some true := by rfl) :
    YR P true ops K (⟨some e, .call { callee := .value (.func fK), args := #[x], argTypes := ts }, ty, pos, af, gd⟩ :: rest) st := by
  refine .any rfl fun B w0 Q hQ g a w hr => ?_
  have hlt : e < st.n := Nat.le_of_ble_eq_true hin
  have h1 := hr.eval x
  rw [hx] at h1
  obtain ⟨b, q1, q2⟩ := h1
  unfold wpList
  rw [if_pos (want_spec hr hw)]
  refine .inl ?_
  unfold Oper.wp
  have hrun := run_call (P := P) (f := fK) (d := some e) (l := [x]) (ts := ts) (ty := ty) (pos := pos) (af := af) (gd := gd) (a := a) (w := w)
  rw [hrun]
  show Calls P fK _ w _
  have hc := hK (some b) w
  simp only [List.map_cons, List.map_nil, q2]
  refine hc.mono ?_
  rintro e' w' ⟨rfl, rfl⟩
  have hrep := hr.newb e T hi hlt #[.map (some b)] [.mb i] (by simp) (fun j c hj => by
    cases j with
    | zero => cases hj; exact ⟨_, rfl, b, q1, rfl⟩
    | succ j => simp at hj) (fun u hu => by simp at hu; subst hu; rfl)
  refine h.sound hQ (hrep.put (x := .fn it [e]) ⟨[w.heap.size], rfl, rfl, fun j b' c hb hc' => ?_⟩ _ fun j hj => by cases hj; exact hlt)
  cases j with
  | zero => cases hb; cases hc'; simp [Gh.addb]
  | succ j => simp at hb

/-- slices.Sorted of that: the keys in ascending order -/
theorem yKs {fS it k j i : Nat} {l : List (List UInt8 × DV)} {ks : List (List UInt8)} {x : Operand} {ts : Array TypeId} [HasBody P fS] (hS : SortedC P fS it k) (hk : P.underlying k = some .string) (hx : st.ev x = .fn it [j]) (hj : st.bget j = some [.mb i]) (hi : st.bget i = some [.mc (kmap l)])
    (hl : l.length ≤ 1000000) (hkl : ∀ p ∈ l, p.1.length ≤ 1000000) (hks : skeys l = ks)
    (h : YR P true ops K rest (st.put d (.d (.sl 1 (ks.map fun s => [dS s]))))) (hjl : Nat.blt j 500000 = true := by rfl) (hge : Nat.ble 500000 i = true := by rfl) (hd : dstOk ⟨d, .call { callee := .value (.func fS), args := #[x], argTypes := ts }, ty, pos, af, gd⟩ st = true := by kernel_rfl)
    (hw : st.want ops ⟨d, .call { callee := .value (.func fS), args := #[x], argTypes := ts }, ty, pos, af, gd⟩ = some true := by rfl) :
    YR P true ops K (⟨d, .call { callee := .value (.func fS), args := #[x], argTypes := ts }, ty, pos, af, gd⟩ :: rest) st := by
  subst hks
  refine .any rfl fun B w0 Q hQ g a w hr => ?_
  have h1 := hr.eval x
  rw [hx] at h1
  obtain ⟨bs, q1, q2, q3⟩ := h1
  obtain ⟨a0, rfl⟩ : ∃ a0, bs = [a0] := by
    match bs, q2 with
    | [a0], _ => exact ⟨a0, rfl⟩
  have q4 := q3 0 a0 j rfl rfl
  obtain ⟨b', xs, T, r1, r2, r3, r4, -⟩ := hr.boxes j _ hj (Nat.le_of_ble_eq_true hjl)
  rw [q4] at r1
  cases r1
  obtain ⟨u, r5, b, r6, rfl⟩ := r4 0 _ rfl
  obtain ⟨b2, es, c, s1, s2, s3, s4, s5, -⟩ := map_at hr (Nat.le_of_ble_eq_true hge) hi
  rw [r6] at s1
  cases s1
  obtain ⟨D0, d1, d2, d3⟩ := own_of_map hk s2 s3 s4 s5 hl hkl
  have hcell : w.cell? ⟨a0, 0, none⟩ = some (.map (some b)) := see_cell.2 (by rw [see_cells r2, r5]; rfl)
  unfold wpList
  rw [if_pos (want_spec hr hw)]
  refine .inl ?_
  unfold Oper.wp
  have hrun := run_call (P := P) (f := fS) (d := d) (l := [x]) (ts := ts) (ty := ty) (pos := pos) (af := af) (gd := gd) (a := a) (w := w)
  rw [hrun]
  show Calls P fS _ w _
  have hc := hS a0 b l.length D0 anyR w (hr.blk j a0 q4).2 hcell d1 (by rw [d2]; simp only [maxLen]; omega) (by rw [d2]; omega)
  simp only [List.map_cons, List.map_nil, q1]
  refine hc.mono ?_
  rintro e' w' ⟨v, ss, rfl, hp, hrow, -, hb⟩
  have hsort : ss.mergeSort (fun x y => decide (x ≤ y)) = skeys l := mergeSort_of_perm (hp.trans d3)
  rw [hsort] at hrow
  have hlen : ss.length = (skeys l).length := by rw [← hsort, List.length_mergeSort]
  have hlen2 : (skeys l).length = l.length := by rw [skeys, List.length_mergeSort, List.length_map]
  refine h.sound hQ ((hr.grow hb).put (x := .d (.sl 1 ((skeys l).map fun s => [dS s]))) ?_ _ (dstOk_spec (st := st) hd))
  show DRep (Fx g) w' v _
  rcases hrow.2 with ⟨rfl, h0⟩ | ⟨gb, cap, cur, rfl, hbase, hg, hc1, hc2, -, ht⟩
  · have : skeys l = [] := List.eq_nil_of_length_eq_zero (by omega)
    rw [this]
    exact .nil
  · refine .sl (fun i _ => encStr ((skeys l).getD i [])) (by simp [hlen]) hc1 (by omega) (fun e he => ?_) (fun h0 => ⟨gb, 0, rfl, fun i j hi' hj' => ⟨?_, ?_⟩⟩) (fun i j _ _ => rfl) (fun i j e x he hx' => ?_)
    · obtain ⟨s, -, rfl⟩ := List.mem_map.1 he; rfl
    · have hi2 : i < (skeys l).length := by omega
      obtain rfl : j = 0 := by omega
      refine see_cell.2 ?_
      rw [see_cells hg]
      have h5 : cur.toList[i]? = ((skeys l).map encStr)[i]? := by
        rw [← ht, List.getElem?_take_of_lt (by omega)]
      rw [show 0 + i * 1 + 0 = i by omega, ← Array.getElem?_toList, h5, List.getElem?_map, List.getElem?_eq_getElem hi2]
      simp [List.getD, List.getElem?_eq_getElem hi2]
    · refine ⟨hr.f0 _ _ (Nat.le_trans hr.base hbase), fun i' hi3 => ?_, fun t T' n c' hT hv => ?_⟩
      · have := (hr.blk i' gb hi3).2; omega
      · obtain ⟨⟨n', xs', h6⟩, -⟩ := hr.toks t T' hT
        have := (h6.lt gb (by rw [hv]; rfl)).2
        omega
    · rw [List.getElem?_map, Option.map_eq_some_iff] at he
      obtain ⟨s, hs1, rfl⟩ := he
      cases j with
      | zero =>
        cases hx'
        simp only [List.getD, hs1, Option.getD_some]
        exact DRep.val _ rfl
      | succ j => simp at hx'

/-- is there an entry at a key -/
def mhas (k : List UInt8) (l : List (List UInt8 × DV)) : Bool := l.any fun p => p.1 == k
theorem ls_mlo (T : TypeId) (x y : Operand) {i : Nat} {l : List (List UInt8 × DV)} {k : List UInt8} {z : DV} [hM : MapOf P T z] (hge : 500000 ≤ i) (hx : st.ev x = .mb i) (hi : st.bget i = some [.mc (kmap l)]) (hy : st.ev y = .d (dS k)) (hd : dstOk ⟨d, .lookup T x y true, ty, pos, af, gd⟩ st = true) :
    LocS P ⟨d, .lookup T x y true, ty, pos, af, gd⟩ st (.tup [mget z k l, dB (mhas k l)]) .no := fun st2 ha =>
  OpS.value (ha.dst hd) fun _ _ g a w h => by
    have h1 := h.eval x
    rw [ha.ev x (by simp [Op.operands]), hx] at h1
    have h2 := h.eval y
    rw [ha.ev y (by simp [Op.operands]), hy] at h2
    have hi2 : st2.bget i = some [.mc (kmap l)] := (ha.ids rfl x (by simp [Op.operands]) i (by rw [hx]; simp [SV.ids])).trans hi
    obtain ⟨b, q1, q2⟩ := h1
    obtain ⟨b', es, c, r1, r2, r3, -, r4, r5⟩ := map_at h hge hi2
    rw [q1] at r1
    cases r1
    obtain ⟨kt, et, m1, m2, m3⟩ := hM.und
    obtain ⟨v, m4, m5⟩ := m3 w
    have hc : ∀ e, (Instr.checkKey e 10000 kt (vS k)).run P w = .ok () w := fun e => MapKept.run_checkKey (k := vS k) m2 (by simp [MapKept.IsKey]) e 9999
    have pair : ∀ (v1 : Value) (d1 : DV) (t : Bool), DRep (Fx g) w v1 d1 → SRep g w (.tuple #[v1, .bool t]) (.tup [d1, dB t]) := fun v1 d1 t h1 => ⟨[v1, .bool t], rfl, rfl, fun i y x hy hx => by
      match i with
      | 0 => cases hy; cases hx; exact h1
      | 1 => cases hy; cases hx; exact DRep.val _ rfl
      | i + 2 => simp at hy⟩
    rcases find_spec k l es.toList 0 r3 r4 with ⟨j, e, d', f1, f2, f3, f4, -⟩ | ⟨f1, f2, -, f4⟩
    · have hh : mhas k l = true := List.any_eq_true.2 ⟨_, List.mem_of_getElem? f3, by simp⟩
      refine ⟨.tuple #[e.val, .bool true], w, ?_, Below.refl _ _, ?_⟩
      · simp [execOp, Instr.lookup, run_underlying m1, q2, DRep.val_eq h2, MapKept.run_getObj_map r2, hc, MapKept.run_findKey m2 f1, Result.andThen]
      · rw [f4, hh]; exact pair _ _ _ (r5 j e _ f2 f3)
    · have hh : mhas k l = false := by
        rw [← Bool.not_eq_true]
        intro e
        obtain ⟨p, hp, hpk⟩ := List.any_eq_true.1 e
        exact f4 p hp (by simpa using hpk)
      refine ⟨.tuple #[v, .bool false], w, ?_, Below.refl _ _, ?_⟩
      · simp [execOp, Instr.lookup, run_underlying m1, q2, DRep.val_eq h2, MapKept.run_getObj_map r2, hc, MapKept.run_findKey m2 f1, m4, Result.andThen]
      · rw [f2, hh]; exact pair _ _ _ (m5 _ _)
theorem yKo {sq : Bool} {T : Nat} {x y : Operand} {i : Nat} {l : List (List UInt8 × DV)} {k : List UInt8} {z v : DV} {t : Bool} [hM : MapOf P T z] (hx : st.ev x = .mb i) (hi : st.bget i = some [.mc (kmap l)]) (hy : st.ev y = .d (dS k)) (hv : mget z k l = v) (ht : mhas k l = t)
    (h : YR P sq ops K rest (st.put d (.tup [v, dB t]))) (hge : Nat.ble 500000 i = true := by rfl) (hd : dstOk ⟨d, .lookup T x y true, ty, pos, af, gd⟩ st = true := by kernel_rfl) (hk : opOk ⟨d, .lookup T x y true, ty, pos, af, gd⟩ st .no = true := by kernel_rfl) (hw : st.want ops ⟨d, .lookup T x y true, ty, pos, af, gd⟩ = some true := by rfl) :
    YR P sq ops K (⟨d, .lookup T x y true, ty, pos, af, gd⟩ :: rest) st := yr_v (hv ▸ ht ▸ ls_mlo T x y (Nat.le_of_ble_eq_true hge) hx hi hy hd) hk hw h
end
end Go.Proofs.YtmfeinilbjfnpaaGreatDoor.Px
namespace Go.Proofs.YtmfeinilbjfnpaaGreatDoor
open Go.RowKit Px

abbrev u64T : Nat := 123
abbrev vG (l : List Nat) : List Value := l.map fun x : Nat => Value.int .u64 (x : Int)
abbrev cG (l : List Nat) : List SV := (vG l).map fun u => SV.d (.val u)
theorem cG_at {p q : List Nat} {a i : Nat} (h : p.length = i) : (cG (p ++ a :: q))[((i : Int)).toNat * 1]? = some (.d (dU a)) := by
  subst h
  simp [cG, vG]
theorem cG_set {p q : List Nat} {a i : Nat} (v : Nat) (h : p.length = i) : (cG (p ++ a :: q)).set (((i : Int)).toNat * 1) (.d (dU v)) = cG (p ++ v :: q) := by
  subst h
  simp [cG, vG]
theorem cG_lt {p q : List Nat} {a i : Nat} (h : p.length = i) : Nat.blt (((i : Int)).toNat * 1) (cG (p ++ a :: q)).length = true := by
  refine Nat.ble_eq_true_of_le ?_
  simp [cG, vG]
  omega
theorem cG_take (l : List Nat) : ((l.map dU).take (l.length : Int).toNat).map SV.d = cG l := by
  rw [List.take_of_length_le (by simp), cG, vG, List.map_map, List.map_map]
  rfl
theorem toDs_cG (l : List Nat) : toDs (cG l) = some (l.map dU) := by
  rw [cG, toDs_map (fun u => DV.val u) (vG l), vG, List.map_map]
  rfl
theorem chunk_cG (l : List Nat) {n : Nat} (h : l.length = n) : chunk 1 n (l.map dU) = l.map dG := by
  subst h
  exact chunk_one dU l
theorem u64w {n : Nat} (h : n < 18446744073709551616) : IntKind.u64.wrap (n : Int) = (n : Int) := by
  rw [IntKind.wrap_u64]
  omega
theorem addS_next (A B : List Nat) (i : Nat) : addS A B (i + 1) = ((addS A B i).1 ++ [(gat A i + (addS A B i).2 + gat B i) % 1000000000], (gat A i + (addS A B i).2 + gat B i) / 1000000000) := rfl
set_option maxRecDepth 20000 in
set_option maxHeartbeats 4000000 in
theorem wPlus (m n : List Nat) (hgm : gok m) (hgn : gok n) (hlm : m.length ≤ 1000000) (hln : n.length ≤ 1000000) : PCalls Tryz.prog 86 [.sl 1 (m.map dG), .sl 1 (n.map dG)] (.d (.sl 1 ((plusG m n).map dG))) := by
  obtain ⟨r, hr⟩ : ∃ r, r = plusG m n := ⟨_, rfl⟩
  rw [← hr]
  by_cases hlt : m.length < n.length
  · have hl : m.length ≤ n.length := by omega
    have hr2 : r = (addS n m n.length).1 ++ (if 0 < (addS n m n.length).2 then [(addS n m n.length).2] else []) := by
      rw [hr, plusG_comm, plusG, Nat.max_eq_left hl]
    have u0 : decide (((m.map dG).length : Int) < ((n.map dG).length : Int)) = true := by simp; omega
    have hw0 : IntKind.i64.wrap (((n.map dG).length : Int) + 1) = (n.length : Int) + 1 := by rw [List.length_map, wrapI _ (by omega)]
    have hle0 : ((n.map dG).length : Int) = (n.length : Int) := by simp
    clear hr
    refine pcalls_of_pw Tryz.func86 rfl Tryz.ntmps86 Tryz.results86 (by simp) fun B w0 => ?_
    refine pw_seq ?_; refine pw_region ?_; refine yAd rfl ?_; refine yQ ?_; refine pw_seq ?_; refine pw_seq ?_; refine pw_region ?_; refine yMd rfl ?_; refine yN rfl ?_; refine yMd rfl ?_; refine yN rfl ?_; refine yB rfl rfl rfl rfl ?_
    refine yQ ?_; refine q_then ?_; rw [u0]; refine pw_ct rfl ?_; refine pw_region ?_; refine yMd rfl ?_; refine yMd rfl ?_; refine yAd rfl ?_; refine yAd rfl ?_; refine yQ ?_; refine pw_seq ?_; refine pw_region ?_; refine yMd rfl ?_
    refine yN rfl ?_; refine yMd rfl ?_; refine yN rfl ?_; refine yB rfl rfl rfl rfl ?_; rw [hw0]
    refine yMk (n := (n.length : Int)) (c := (n.length : Int) + 1) (by omega) (by omega) (by omega) (by omega) (congrArg (fun k : Int => SV.d (dI k)) hle0) rfl rfl ?_; refine yAw rfl ?_; refine yQ ?_; refine pw_seq ?_
    refine pw_region ?_; refine yMw rfl ?_; refine yMd rfl ?_; refine yCp (ds := n.map dU) (by rw [List.map_map]; rfl) (by simp) (by omega) rfl rfl (by simp) rfl ?_; refine yQ ?_; refine pw_seq ?_; refine pw_region ?_; refine yAd rfl ?_
    refine yQ ?_; refine pw_seq ?_; refine pw_seq ?_; refine pw_region ?_; refine yMw rfl ?_; refine yNb rfl ?_; refine yMd rfl ?_; refine yQ ?_; refine pw_block ?_
    refine pw_loop (fun i : Nat => ⟨69, [(1, .d (.sl 1 (m.map dG))), (5, .bs 20 n.length u64T 1), (6, .d (dU (addS n m i).2)), (25, .d (dI n.length)), (26, .d (dI i))], [(20, cG ((addS n m i).1 ++ n.drop i))], []⟩) (fun i => i ≤ n.length) (fun i => n.length - i) 0 (Nat.zero_le _)
      ⟨rfl, ⟨.refl _, .refl _, .refl _, .refl _, .refl _, trivial⟩, ⟨⟨_, rfl, lesC_eq (cG_take n)⟩, trivial⟩, trivial, by simp [PS.closed, SV.ok, aget, Nat.beq, -List.map_take, -List.map_set, -List.map_append, -List.map_drop]⟩ ?_
    intro i hi
    obtain ⟨h1, h2, h3, -⟩ := addS_spec hgn hgm i
    have hnx := addS_next n m i
    obtain ⟨⟨p, c⟩, hp⟩ : ∃ q, q = addS n m i := ⟨_, rfl⟩
    rw [← hp] at h1 h2 h3 hnx ⊢
    simp only at h1 h2 h3 hnx ⊢
    rcases Nat.lt_or_ge i n.length with hi2 | hi2
    · have t1 : decide ((i : Int) < (n.length : Int)) = true := decide_eq_true (by omega)
      obtain ⟨a, ha⟩ : ∃ a, n[i]? = some a := ⟨_, List.getElem?_eq_getElem hi2⟩
      have hga := gat_get ha
      have ha9 : a < 1000000000 := hgn a (List.mem_of_getElem? ha)
      have hdr : n.drop i = a :: n.drop (i + 1) := by
        obtain ⟨q1, q2⟩ := List.getElem?_eq_some_iff.1 ha
        rw [List.drop_eq_getElem_cons q1, q2]
      obtain ⟨q, hq⟩ : ∃ q, q = n.drop (i + 1) := ⟨_, rfl⟩
      rw [hdr, ← hq]
      rw [hga] at hnx
      have hat := cG_at (q := q) (a := a) h1
      have hs1 := cG_set (q := q) (a := a) (a + c) h1
      have hl1 := cG_lt (q := q) (a := a) h1
      have w1 : IntKind.u64.wrap ((a : Int) + (c : Int)) = ((a + c : Nat) : Int) := by rw [← Int.natCast_add]; exact u64w (by omega)
      have hat2 := cG_at (q := q) (a := a + c) h1
      have hwi := wrapI ((i : Int) + 1) (by omega)
      rcases Nat.lt_or_ge i m.length with hj | hj
      · have t2 : decide ((i : Int) < ((m.map dG).length : Int)) = true := decide_eq_true (by rw [List.length_map]; omega)
        obtain ⟨b, hb⟩ : ∃ b, m[i]? = some b := ⟨_, List.getElem?_eq_getElem hj⟩
        have hb9 : b < 1000000000 := hgm b (List.mem_of_getElem? hb)
        have eb := ix dG m (i : Int) i b rfl hb
        have hgb := gat_get hb
        rw [hgb] at hnx
        have w2 : IntKind.u64.wrap (((a + c : Nat) : Int) + (b : Int)) = ((a + c + b : Nat) : Int) := by rw [← Int.natCast_add]; exact u64w (by omega)
        have hs2 := cG_set (q := q) (a := a + c) (a + c + b) h1
        have hl2 := cG_lt (q := q) (a := a + c) h1
        have hat3 := cG_at (q := q) (a := a + c + b) h1
        have hs3 := cG_set (q := q) (a := a + c + b) ((a + c + b) % 1000000000) h1
        have hl3 := cG_lt (q := q) (a := a + c + b) h1
        have wq : IntKind.u64.wrap (((a + c + b : Nat) : Int).tdiv 1000000000) = (((a + c + b) / 1000000000 : Nat) : Int) := u64w (n := (a + c + b) / 1000000000) (by omega)
        refine pw_seq ?_; refine pw_region ?_; refine yB rfl rfl rfl rfl ?_; refine yQ ?_; refine pw_seq ?_; rw [t1]; refine pw_ct rfl ?_; refine pw_skip ?_; refine pw_seq ?_; refine pw_block ?_; refine pw_seq ?_; refine pw_region ?_
        refine yMd rfl ?_; refine yAd rfl ?_; refine yQ ?_; refine pw_seq ?_; refine pw_region ?_; refine yMw rfl ?_; refine yMd rfl ?_; refine yWb (by omega) (by omega) rfl rfl rfl ?_; refine yLd rfl rfl hat ?_; refine yMd rfl ?_
        refine yB rfl rfl rfl rfl ?_; refine yWb (by omega) (by omega) rfl rfl rfl ?_; rw [w1]; refine ySd rfl rfl rfl hs1 ?_ hl1; refine yQ ?_; refine pw_seq ?_; refine pw_seq ?_; refine pw_region ?_; refine yMd rfl ?_; refine yMd rfl ?_
        refine yN rfl ?_; refine yB rfl rfl rfl rfl ?_; refine yQ ?_; refine q_then ?_; rw [t2]; refine pw_ct rfl ?_; refine pw_draw Tryz.mixed (by kernel_rfl) ?_; refine yMw rfl ?_; refine yMd rfl ?_
        refine yWb (by omega) (by omega) rfl rfl rfl ?_; refine yLd rfl rfl hat2 ?_; refine yMd rfl ?_; refine yMd rfl ?_; refine yW eb (by omega) rfl rfl ?_; refine yLr rfl rfl ?_; refine yB rfl rfl rfl rfl ?_
        refine yWb (by omega) (by omega) rfl rfl rfl ?_; rw [w2]; refine ySd rfl rfl rfl hs2 ?_ hl2; refine yQ ?_; refine pw_seq ?_; refine pw_region ?_; refine yMw rfl ?_; refine yMd rfl ?_; refine yWb (by omega) (by omega) rfl rfl rfl ?_
        refine yLd rfl rfl hat3 ?_; refine yB rfl rfl rfl rfl ?_; refine yAd rfl ?_; refine yQ ?_; refine pw_region ?_; refine yMw rfl ?_; refine yMd rfl ?_; refine yWb (by omega) (by omega) rfl rfl rfl ?_; refine yLd rfl rfl hat3 ?_
        refine yB rfl rfl rfl rfl ?_; refine yWb (by omega) (by omega) rfl rfl rfl ?_; refine ySd rfl rfl rfl hs3 ?_ hl3; refine yQ ?_; refine pw_region ?_; refine yB rfl rfl rfl rfl ?_; refine yMd rfl ?_; refine yQ ?_; refine q_then ?_
        rw [wq]
        refine ⟨i + 1, by omega, by omega, rfl, ⟨.refl _, .refl _, .of_eq (by rw [hnx]; rfl), .refl _, .of_eq (congrArg (fun n => SV.d (dI n)) hwi), trivial⟩, ⟨⟨_, rfl, lesC_eq (by rw [hnx, ← hq, List.append_assoc]; rfl)⟩, trivial⟩, trivial, by simp [PS.closed, SV.ok, aget, Nat.beq, -List.map_take, -List.map_set, -List.map_append, -List.map_drop]⟩
      · have t2 : decide ((i : Int) < ((m.map dG).length : Int)) = false := decide_eq_false (by rw [List.length_map]; omega)
        rw [gat_ge hj, Nat.add_zero] at hnx
        have hs3 := cG_set (q := q) (a := a + c) ((a + c) % 1000000000) h1
        have hl3 := cG_lt (q := q) (a := a + c) h1
        have wq : IntKind.u64.wrap (((a + c : Nat) : Int).tdiv 1000000000) = (((a + c) / 1000000000 : Nat) : Int) := u64w (n := (a + c) / 1000000000) (by omega)
        refine pw_seq ?_; refine pw_region ?_; refine yB rfl rfl rfl rfl ?_; refine yQ ?_; refine pw_seq ?_; rw [t1]; refine pw_ct rfl ?_; refine pw_skip ?_; refine pw_seq ?_; refine pw_block ?_; refine pw_seq ?_; refine pw_region ?_
        refine yMd rfl ?_; refine yAd rfl ?_; refine yQ ?_; refine pw_seq ?_; refine pw_region ?_; refine yMw rfl ?_; refine yMd rfl ?_; refine yWb (by omega) (by omega) rfl rfl rfl ?_; refine yLd rfl rfl hat ?_; refine yMd rfl ?_
        refine yB rfl rfl rfl rfl ?_; refine yWb (by omega) (by omega) rfl rfl rfl ?_; rw [w1]; refine ySd rfl rfl rfl hs1 ?_ hl1; refine yQ ?_; refine pw_seq ?_; refine pw_seq ?_; refine pw_region ?_; refine yMd rfl ?_; refine yMd rfl ?_
        refine yN rfl ?_; refine yB rfl rfl rfl rfl ?_; refine yQ ?_; refine q_then ?_; rw [t2]; refine pw_cf rfl ?_; refine pw_skip ?_; refine pw_seq ?_; refine pw_region ?_; refine yMw rfl ?_; refine yMd rfl ?_
        refine yWb (by omega) (by omega) rfl rfl rfl ?_; refine yLd rfl rfl hat2 ?_; refine yB rfl rfl rfl rfl ?_; refine yAd rfl ?_; refine yQ ?_; refine pw_region ?_; refine yMw rfl ?_; refine yMd rfl ?_
        refine yWb (by omega) (by omega) rfl rfl rfl ?_; refine yLd rfl rfl hat2 ?_; refine yB rfl rfl rfl rfl ?_; refine yWb (by omega) (by omega) rfl rfl rfl ?_; refine ySd rfl rfl rfl hs3 ?_ hl3; refine yQ ?_; refine pw_region ?_
        refine yB rfl rfl rfl rfl ?_; refine yMd rfl ?_; refine yQ ?_; refine q_then ?_; rw [wq]
        refine ⟨i + 1, by omega, by omega, rfl, ⟨.refl _, .refl _, .of_eq (by rw [hnx]; rfl), .refl _, .of_eq (congrArg (fun n => SV.d (dI n)) hwi), trivial⟩, ⟨⟨_, rfl, lesC_eq (by rw [hnx, ← hq, List.append_assoc]; rfl)⟩, trivial⟩, trivial, by simp [PS.closed, SV.ok, aget, Nat.beq, -List.map_take, -List.map_set, -List.map_append, -List.map_drop]⟩
    · have t1 : decide ((i : Int) < (n.length : Int)) = false := decide_eq_false (by omega)
      obtain rfl : i = n.length := by omega
      rw [← hp] at hr2
      simp only at hr2
      rw [List.drop_length, List.append_nil]
      rcases Nat.eq_zero_or_pos c with hc | hc
      · subst hc
        rw [if_neg (by omega), List.append_nil] at hr2
        subst hr2
        refine pw_seq ?_; refine pw_region ?_; refine yB rfl rfl rfl rfl ?_; refine yQ ?_; refine pw_seq ?_; rw [t1]; refine pw_cf rfl ?_; refine pw_exit ?_; refine pw_seq ?_; refine pw_seq ?_; refine pw_region ?_; refine yMd rfl ?_
        refine yB rfl rfl rfl rfl ?_; refine yQ ?_; refine pw_cf rfl ?_; refine pw_skip ?_; refine pw_seq ?_; refine pw_region ?_; refine yMw rfl ?_; refine yAw rfl ?_; refine yQ ?_
        refine pw_frz 4 20 (es := r.map dG) (ds := r.map dU) (by simp; omega) (chunk_cG r h1) (toDs_cG _) rfl rfl ?_; refine pw_ret ?_
        exact q_ret _ (.tmp rfl .nil) rfl
      · have t3 : decide ((c : Int) > 0) = true := decide_eq_true (by omega)
        rw [if_pos hc] at hr2
        have hrl : r.length = n.length + 1 := by rw [hr2]; simp; omega
        have hrc : (vG p ++ [Value.int .u64 (c : Int)]).map (fun u => SV.d (.val u)) = cG r := by rw [hr2]; simp [cG, vG]
        refine pw_seq ?_; refine pw_region ?_; refine yB rfl rfl rfl rfl ?_; refine yQ ?_; refine pw_seq ?_; rw [t1]; refine pw_cf rfl ?_; refine pw_exit ?_; refine pw_seq ?_; refine pw_seq ?_; refine pw_region ?_; refine yMd rfl ?_
        refine yB rfl rfl rfl rfl ?_; refine yQ ?_; refine q_then ?_; rw [t3]; refine pw_ct rfl ?_; refine pw_region ?_; refine yMw rfl ?_; refine yMd rfl ?_; refine yR (es := [[_]]) rfl rfl rfl rfl rfl ?_
        refine yTw (us := vG p) (vs := [Value.int .u64 (c : Int)]) (m := 1) (n := n.length) (by omega) (by omega) (by omega) rfl rfl (by simp; omega) rfl rfl rfl ?_; refine yAw rfl ?_; refine yQ ?_; refine pw_seq ?_; refine pw_region ?_
        refine yMw rfl ?_; refine yAw rfl ?_; refine yQ ?_; refine pw_frz 4 20 (es := r.map dG) (ds := r.map dU) (by simp; omega) (chunk_cG r hrl) (by rw [hrc]; exact toDs_cG _) rfl rfl ?_; refine pw_ret ?_
        exact q_ret _ (.tmp rfl .nil) rfl
  · have hl : n.length ≤ m.length := by omega
    have hr2 : r = (addS m n m.length).1 ++ (if 0 < (addS m n m.length).2 then [(addS m n m.length).2] else []) := by
      rw [hr, plusG, Nat.max_eq_left hl]
    have u0 : decide (((m.map dG).length : Int) < ((n.map dG).length : Int)) = false := by simp; omega
    have hw0 : IntKind.i64.wrap (((m.map dG).length : Int) + 1) = (m.length : Int) + 1 := by rw [List.length_map, wrapI _ (by omega)]
    have hle0 : ((m.map dG).length : Int) = (m.length : Int) := by simp
    clear hr
    refine pcalls_of_pw Tryz.func86 rfl Tryz.ntmps86 Tryz.results86 (by simp) fun B w0 => ?_
    refine pw_seq ?_; refine pw_region ?_; refine yAd rfl ?_; refine yQ ?_; refine pw_seq ?_; refine pw_seq ?_; refine pw_region ?_; refine yMd rfl ?_; refine yN rfl ?_; refine yMd rfl ?_; refine yN rfl ?_; refine yB rfl rfl rfl rfl ?_
    refine yQ ?_; refine q_then ?_; rw [u0]; refine pw_cf rfl ?_; refine pw_skip ?_; refine pw_seq ?_; refine pw_region ?_; refine yMd rfl ?_; refine yN rfl ?_; refine yMd rfl ?_; refine yN rfl ?_; refine yB rfl rfl rfl rfl ?_; rw [hw0]
    refine yMk (n := (m.length : Int)) (c := (m.length : Int) + 1) (by omega) (by omega) (by omega) (by omega) (congrArg (fun k : Int => SV.d (dI k)) hle0) rfl rfl ?_; refine yAw rfl ?_; refine yQ ?_; refine pw_seq ?_
    refine pw_region ?_; refine yMw rfl ?_; refine yMd rfl ?_; refine yCp (ds := m.map dU) (by rw [List.map_map]; rfl) (by simp) (by omega) rfl rfl (by simp) rfl ?_; refine yQ ?_; refine pw_seq ?_; refine pw_region ?_; refine yAd rfl ?_
    refine yQ ?_; refine pw_seq ?_; refine pw_seq ?_; refine pw_region ?_; refine yMw rfl ?_; refine yNb rfl ?_; refine yMd rfl ?_; refine yQ ?_; refine pw_block ?_
    refine pw_loop (fun i : Nat => ⟨69, [(1, .d (.sl 1 (n.map dG))), (5, .bs 20 m.length u64T 1), (6, .d (dU (addS m n i).2)), (25, .d (dI m.length)), (26, .d (dI i))], [(20, cG ((addS m n i).1 ++ m.drop i))], []⟩) (fun i => i ≤ m.length) (fun i => m.length - i) 0 (Nat.zero_le _)
      ⟨rfl, ⟨.refl _, .refl _, .refl _, .refl _, .refl _, trivial⟩, ⟨⟨_, rfl, lesC_eq (cG_take m)⟩, trivial⟩, trivial, by simp [PS.closed, SV.ok, aget, Nat.beq, -List.map_take, -List.map_set, -List.map_append, -List.map_drop]⟩ ?_
    intro i hi
    obtain ⟨h1, h2, h3, -⟩ := addS_spec hgm hgn i
    have hnx := addS_next m n i
    obtain ⟨⟨p, c⟩, hp⟩ : ∃ q, q = addS m n i := ⟨_, rfl⟩
    rw [← hp] at h1 h2 h3 hnx ⊢
    simp only at h1 h2 h3 hnx ⊢
    rcases Nat.lt_or_ge i m.length with hi2 | hi2
    · have t1 : decide ((i : Int) < (m.length : Int)) = true := decide_eq_true (by omega)
      obtain ⟨a, ha⟩ : ∃ a, m[i]? = some a := ⟨_, List.getElem?_eq_getElem hi2⟩
      have hga := gat_get ha
      have ha9 : a < 1000000000 := hgm a (List.mem_of_getElem? ha)
      have hdr : m.drop i = a :: m.drop (i + 1) := by
        obtain ⟨q1, q2⟩ := List.getElem?_eq_some_iff.1 ha
        rw [List.drop_eq_getElem_cons q1, q2]
      obtain ⟨q, hq⟩ : ∃ q, q = m.drop (i + 1) := ⟨_, rfl⟩
      rw [hdr, ← hq]
      rw [hga] at hnx
      have hat := cG_at (q := q) (a := a) h1
      have hs1 := cG_set (q := q) (a := a) (a + c) h1
      have hl1 := cG_lt (q := q) (a := a) h1
      have w1 : IntKind.u64.wrap ((a : Int) + (c : Int)) = ((a + c : Nat) : Int) := by rw [← Int.natCast_add]; exact u64w (by omega)
      have hat2 := cG_at (q := q) (a := a + c) h1
      have hwi := wrapI ((i : Int) + 1) (by omega)
      rcases Nat.lt_or_ge i n.length with hj | hj
      · have t2 : decide ((i : Int) < ((n.map dG).length : Int)) = true := decide_eq_true (by rw [List.length_map]; omega)
        obtain ⟨b, hb⟩ : ∃ b, n[i]? = some b := ⟨_, List.getElem?_eq_getElem hj⟩
        have hb9 : b < 1000000000 := hgn b (List.mem_of_getElem? hb)
        have eb := ix dG n (i : Int) i b rfl hb
        have hgb := gat_get hb
        rw [hgb] at hnx
        have w2 : IntKind.u64.wrap (((a + c : Nat) : Int) + (b : Int)) = ((a + c + b : Nat) : Int) := by rw [← Int.natCast_add]; exact u64w (by omega)
        have hs2 := cG_set (q := q) (a := a + c) (a + c + b) h1
        have hl2 := cG_lt (q := q) (a := a + c) h1
        have hat3 := cG_at (q := q) (a := a + c + b) h1
        have hs3 := cG_set (q := q) (a := a + c + b) ((a + c + b) % 1000000000) h1
        have hl3 := cG_lt (q := q) (a := a + c + b) h1
        have wq : IntKind.u64.wrap (((a + c + b : Nat) : Int).tdiv 1000000000) = (((a + c + b) / 1000000000 : Nat) : Int) := u64w (n := (a + c + b) / 1000000000) (by omega)
        refine pw_seq ?_; refine pw_region ?_; refine yB rfl rfl rfl rfl ?_; refine yQ ?_; refine pw_seq ?_; rw [t1]; refine pw_ct rfl ?_; refine pw_skip ?_; refine pw_seq ?_; refine pw_block ?_; refine pw_seq ?_; refine pw_region ?_
        refine yMd rfl ?_; refine yAd rfl ?_; refine yQ ?_; refine pw_seq ?_; refine pw_region ?_; refine yMw rfl ?_; refine yMd rfl ?_; refine yWb (by omega) (by omega) rfl rfl rfl ?_; refine yLd rfl rfl hat ?_; refine yMd rfl ?_
        refine yB rfl rfl rfl rfl ?_; refine yWb (by omega) (by omega) rfl rfl rfl ?_; rw [w1]; refine ySd rfl rfl rfl hs1 ?_ hl1; refine yQ ?_; refine pw_seq ?_; refine pw_seq ?_; refine pw_region ?_; refine yMd rfl ?_; refine yMd rfl ?_
        refine yN rfl ?_; refine yB rfl rfl rfl rfl ?_; refine yQ ?_; refine q_then ?_; rw [t2]; refine pw_ct rfl ?_; refine pw_draw Tryz.mixed (by kernel_rfl) ?_; refine yMw rfl ?_; refine yMd rfl ?_
        refine yWb (by omega) (by omega) rfl rfl rfl ?_; refine yLd rfl rfl hat2 ?_; refine yMd rfl ?_; refine yMd rfl ?_; refine yW eb (by omega) rfl rfl ?_; refine yLr rfl rfl ?_; refine yB rfl rfl rfl rfl ?_
        refine yWb (by omega) (by omega) rfl rfl rfl ?_; rw [w2]; refine ySd rfl rfl rfl hs2 ?_ hl2; refine yQ ?_; refine pw_seq ?_; refine pw_region ?_; refine yMw rfl ?_; refine yMd rfl ?_; refine yWb (by omega) (by omega) rfl rfl rfl ?_
        refine yLd rfl rfl hat3 ?_; refine yB rfl rfl rfl rfl ?_; refine yAd rfl ?_; refine yQ ?_; refine pw_region ?_; refine yMw rfl ?_; refine yMd rfl ?_; refine yWb (by omega) (by omega) rfl rfl rfl ?_; refine yLd rfl rfl hat3 ?_
        refine yB rfl rfl rfl rfl ?_; refine yWb (by omega) (by omega) rfl rfl rfl ?_; refine ySd rfl rfl rfl hs3 ?_ hl3; refine yQ ?_; refine pw_region ?_; refine yB rfl rfl rfl rfl ?_; refine yMd rfl ?_; refine yQ ?_; refine q_then ?_
        rw [wq]
        refine ⟨i + 1, by omega, by omega, rfl, ⟨.refl _, .refl _, .of_eq (by rw [hnx]; rfl), .refl _, .of_eq (congrArg (fun n => SV.d (dI n)) hwi), trivial⟩, ⟨⟨_, rfl, lesC_eq (by rw [hnx, ← hq, List.append_assoc]; rfl)⟩, trivial⟩, trivial, by simp [PS.closed, SV.ok, aget, Nat.beq, -List.map_take, -List.map_set, -List.map_append, -List.map_drop]⟩
      · have t2 : decide ((i : Int) < ((n.map dG).length : Int)) = false := decide_eq_false (by rw [List.length_map]; omega)
        rw [gat_ge hj, Nat.add_zero] at hnx
        have hs3 := cG_set (q := q) (a := a + c) ((a + c) % 1000000000) h1
        have hl3 := cG_lt (q := q) (a := a + c) h1
        have wq : IntKind.u64.wrap (((a + c : Nat) : Int).tdiv 1000000000) = (((a + c) / 1000000000 : Nat) : Int) := u64w (n := (a + c) / 1000000000) (by omega)
        refine pw_seq ?_; refine pw_region ?_; refine yB rfl rfl rfl rfl ?_; refine yQ ?_; refine pw_seq ?_; rw [t1]; refine pw_ct rfl ?_; refine pw_skip ?_; refine pw_seq ?_; refine pw_block ?_; refine pw_seq ?_; refine pw_region ?_
        refine yMd rfl ?_; refine yAd rfl ?_; refine yQ ?_; refine pw_seq ?_; refine pw_region ?_; refine yMw rfl ?_; refine yMd rfl ?_; refine yWb (by omega) (by omega) rfl rfl rfl ?_; refine yLd rfl rfl hat ?_; refine yMd rfl ?_
        refine yB rfl rfl rfl rfl ?_; refine yWb (by omega) (by omega) rfl rfl rfl ?_; rw [w1]; refine ySd rfl rfl rfl hs1 ?_ hl1; refine yQ ?_; refine pw_seq ?_; refine pw_seq ?_; refine pw_region ?_; refine yMd rfl ?_; refine yMd rfl ?_
        refine yN rfl ?_; refine yB rfl rfl rfl rfl ?_; refine yQ ?_; refine q_then ?_; rw [t2]; refine pw_cf rfl ?_; refine pw_skip ?_; refine pw_seq ?_; refine pw_region ?_; refine yMw rfl ?_; refine yMd rfl ?_
        refine yWb (by omega) (by omega) rfl rfl rfl ?_; refine yLd rfl rfl hat2 ?_; refine yB rfl rfl rfl rfl ?_; refine yAd rfl ?_; refine yQ ?_; refine pw_region ?_; refine yMw rfl ?_; refine yMd rfl ?_
        refine yWb (by omega) (by omega) rfl rfl rfl ?_; refine yLd rfl rfl hat2 ?_; refine yB rfl rfl rfl rfl ?_; refine yWb (by omega) (by omega) rfl rfl rfl ?_; refine ySd rfl rfl rfl hs3 ?_ hl3; refine yQ ?_; refine pw_region ?_
        refine yB rfl rfl rfl rfl ?_; refine yMd rfl ?_; refine yQ ?_; refine q_then ?_; rw [wq]
        refine ⟨i + 1, by omega, by omega, rfl, ⟨.refl _, .refl _, .of_eq (by rw [hnx]; rfl), .refl _, .of_eq (congrArg (fun n => SV.d (dI n)) hwi), trivial⟩, ⟨⟨_, rfl, lesC_eq (by rw [hnx, ← hq, List.append_assoc]; rfl)⟩, trivial⟩, trivial, by simp [PS.closed, SV.ok, aget, Nat.beq, -List.map_take, -List.map_set, -List.map_append, -List.map_drop]⟩
    · have t1 : decide ((i : Int) < (m.length : Int)) = false := decide_eq_false (by omega)
      obtain rfl : i = m.length := by omega
      rw [← hp] at hr2
      simp only at hr2
      rw [List.drop_length, List.append_nil]
      rcases Nat.eq_zero_or_pos c with hc | hc
      · subst hc
        rw [if_neg (by omega), List.append_nil] at hr2
        subst hr2
        refine pw_seq ?_; refine pw_region ?_; refine yB rfl rfl rfl rfl ?_; refine yQ ?_; refine pw_seq ?_; rw [t1]; refine pw_cf rfl ?_; refine pw_exit ?_; refine pw_seq ?_; refine pw_seq ?_; refine pw_region ?_; refine yMd rfl ?_
        refine yB rfl rfl rfl rfl ?_; refine yQ ?_; refine pw_cf rfl ?_; refine pw_skip ?_; refine pw_seq ?_; refine pw_region ?_; refine yMw rfl ?_; refine yAw rfl ?_; refine yQ ?_
        refine pw_frz 4 20 (es := r.map dG) (ds := r.map dU) (by simp; omega) (chunk_cG r h1) (toDs_cG _) rfl rfl ?_; refine pw_ret ?_
        exact q_ret _ (.tmp rfl .nil) rfl
      · have t3 : decide ((c : Int) > 0) = true := decide_eq_true (by omega)
        rw [if_pos hc] at hr2
        have hrl : r.length = m.length + 1 := by rw [hr2]; simp; omega
        have hrc : (vG p ++ [Value.int .u64 (c : Int)]).map (fun u => SV.d (.val u)) = cG r := by rw [hr2]; simp [cG, vG]
        refine pw_seq ?_; refine pw_region ?_; refine yB rfl rfl rfl rfl ?_; refine yQ ?_; refine pw_seq ?_; rw [t1]; refine pw_cf rfl ?_; refine pw_exit ?_; refine pw_seq ?_; refine pw_seq ?_; refine pw_region ?_; refine yMd rfl ?_
        refine yB rfl rfl rfl rfl ?_; refine yQ ?_; refine q_then ?_; rw [t3]; refine pw_ct rfl ?_; refine pw_region ?_; refine yMw rfl ?_; refine yMd rfl ?_; refine yR (es := [[_]]) rfl rfl rfl rfl rfl ?_
        refine yTw (us := vG p) (vs := [Value.int .u64 (c : Int)]) (m := 1) (n := m.length) (by omega) (by omega) (by omega) rfl rfl (by simp; omega) rfl rfl rfl ?_; refine yAw rfl ?_; refine yQ ?_; refine pw_seq ?_; refine pw_region ?_
        refine yMw rfl ?_; refine yAw rfl ?_; refine yQ ?_; refine pw_frz 4 20 (es := r.map dG) (ds := r.map dU) (by simp; omega) (chunk_cG r hrl) (by rw [hrc]; exact toDs_cG _) rfl rfl ?_; refine pw_ret ?_
        exact q_ret _ (.tmp rfl .nil) rfl
end Go.Proofs.YtmfeinilbjfnpaaGreatDoor
namespace Go.Proofs.YtmfeinilbjfnpaaGreatDoor
open Go.RowKit Px

theorem dgs_nil {a : Str} (h : (dgs a).1 = []) : (dgs a).2 = false := by
  cases hb : (dgs a).2 with
  | false => rfl
  | true => exact absurd h (dgs_neg hb)
set_option maxRecDepth 20000 in
set_option maxHeartbeats 2000000 in
theorem wReadNil (a : Str) (ha : a.length ≤ 1000000) (h0 : (dgs a).1 = []) : PCalls Tryz.prog 59 [dS a] (.d (.agg [dB false, .val (.slice none 0 0)])) := by
  have c1 := wDigits a (by omega)
  rw [dgs_nil h0, h0] at c1
  refine pcalls_of_pw Tryz.func59 rfl Tryz.ntmps59 Tryz.results59 (by simp) fun B w0 => ?_
  refine pw_seq ?_; refine pw_region ?_; refine yZ (cs := [_, _]) rfl rfl ?_; refine yQ ?_; refine pw_seq ?_; refine pw_region ?_; refine yMd rfl ?_; refine yC (c1) rfl rfl ?_; refine yMp rfl ?_; refine yX rfl rfl ?_
  refine yX rfl rfl ?_; refine yAd rfl ?_; refine yAd rfl ?_; refine yQ ?_; refine pw_seq ?_; refine pw_region ?_; refine yAd rfl ?_; refine yQ ?_; refine pw_seq ?_; refine pw_seq ?_; refine pw_region ?_; refine yMd rfl ?_
  refine yNs rfl ?_; refine yAd rfl ?_; refine yQ ?_; refine pw_block ?_
  refine pw_loop (fun i : Nat => ⟨37, [(2, .bx 2 0), (4, .d (dB false)), (5, .d (.val (.slice none 0 0))), (6, .d (dI 0))], [(2, [.d (dB false), .d (.val (.slice none 0 0))])], []⟩) (fun i => i = 0) (fun i => i) 0 rfl
    ⟨rfl, ⟨.refl _, .refl _, .refl _, .refl _, trivial⟩, ⟨⟨_, rfl, .refl _, .refl _, trivial⟩, trivial⟩, trivial, rfl⟩ ?_
  intro i hi
  refine pw_seq ?_; refine pw_seq ?_; refine pw_region ?_; refine yMd rfl ?_; refine yB rfl rfl rfl rfl ?_; refine yQ ?_; refine pw_cf rfl ?_; refine pw_exit ?_; refine pw_seq ?_; refine pw_region ?_; refine yMd rfl ?_
  refine yMd rfl ?_; refine yG (ys := [_, _]) rfl rfl ?_; refine yS (cs' := [_, _]) rfl rfl rfl rfl rfl ?_; refine yQ ?_; refine pw_ret ?_
  exact q_ret _ (.agg inferInstance rfl rfl rfl rfl .nil) rfl
end Go.Proofs.YtmfeinilbjfnpaaGreatDoor
namespace Go.Proofs.YtmfeinilbjfnpaaGreatDoor
open Go.RowKit Px

namespace Px
section
variable {P : Program} {sq : Bool} {ops : Array Oper} {K : PS → Prop} {rest : List Oper} {st : PS} {d : Option Nat} {ty : TypeId} {pos : String} {af : Array Edge} {gd : Option (Nat × Bool)}
theorem ls_eqsl (t t' : TypeId) (x : Operand) {te k : Nat} {es : List (List DV)} (hp : P.underlying t = some (.slice te)) (hx : asSl (st.ev x) = some (k, es)) (h0 : 0 < es.length) (hd : dstOk ⟨d, .binOp .eql t x (.const (.slice none 0 0)) t', ty, pos, af, gd⟩ st = true) : LocS P ⟨d, .binOp .eql t x (.const (.slice none 0 0)) t', ty, pos, af, gd⟩ st (.d (.val (.bool false))) .no := fun st2 ha =>
  OpS.value (ha.dst hd) fun _ _ g a w h => by
    have h1 := h.eval x
    rw [ha.ev x (by simp [Op.operands])] at h1
    obtain ⟨A, c, news, hv, -, -, -, -, hcell, -⟩ := DRep.row (h1.asSl hx)
    obtain ⟨b, off, rfl, -⟩ := hcell h0
    refine ⟨.bool false, w, ?_, Below.refl _ _, DRep.val _ rfl⟩
    have h5 : a.eval (.const (.slice none 0 0)) = .slice none 0 0 := rfl
    simp only [execOp, hv, h5]
    simp [eqGuard, Lib.run_eql_slice_nil w t te _ _ _ _ _ hp, Result.andThen]
/-- a slice that is not empty is not nil -/
theorem yEn {t t' : Nat} {x : Operand} {te k : Nat} {es : List (List DV)} (hp : P.underlying t = some (.slice te)) (h0 : 0 < es.length) (hx : asSl (st.ev x) = some (k, es)) (h : YR P sq ops K rest (st.put d (.d (.val (.bool false))))) (hd : dstOk ⟨d, .binOp .eql t x (.const (.slice none 0 0)) t', ty, pos, af, gd⟩ st = true := by kernel_rfl) (hk : opOk ⟨d, .binOp .eql t x (.const (.slice none 0 0)) t', ty, pos, af, gd⟩ st .no = true := by kernel_rfl) (hw : st.want ops ⟨d, .binOp .eql t x (.const (.slice none 0 0)) t', ty, pos, af, gd⟩ = some true := by rfl) :
    YR P sq ops K (⟨d, .binOp .eql t x (.const (.slice none 0 0)) t', ty, pos, af, gd⟩ :: rest) st := yr_v (ls_eqsl t t' x hp hx h0 hd) hk hw h
theorem yEz {t t' : Nat} {x : Operand} {te : Nat} (hp : P.underlying t = some (.slice te)) (hx : st.ev x = .d (.val (.slice none 0 0))) (h : YR P sq ops K rest (st.put d (.d (.val (.bool true))))) (hd : dstOk ⟨d, .binOp .eql t x (.const (.slice none 0 0)) t', ty, pos, af, gd⟩ st = true := by kernel_rfl) (hk : opOk ⟨d, .binOp .eql t x (.const (.slice none 0 0)) t', ty, pos, af, gd⟩ st .no = true := by kernel_rfl) (hw : st.want ops ⟨d, .binOp .eql t x (.const (.slice none 0 0)) t', ty, pos, af, gd⟩ = some true := by rfl) :
    YR P sq ops K (⟨d, .binOp .eql t x (.const (.slice none 0 0)) t', ty, pos, af, gd⟩ :: rest) st := yr_v (ls_bin_run .eql t t' x (.const (.slice none 0 0)) hx rfl (fun w => by
      have e : (eqGuard .eql t x (.const (.slice none 0 0)) (.slice none 0 0) (.slice none 0 0) >>= fun _ => binOp .eql t (.slice none 0 0) (.slice none 0 0)) = binOp .eql t (.slice none 0 0) (.slice none 0 0) := rfl
      rw [e]
      exact Lib.run_eql_slice_nil w t te none 0 0 0 0 hp) rfl hd) hk hw h
theorem yBw {t t' : Nat} {x y : Operand} {k : IntKind} {a b c : Int} (hw2 : k.wrap (a + b) = c) (hx : st.ev x = .d (.val (.int k a))) (hy : st.ev y = .d (.val (.int k b))) (h : YR P sq ops K rest (st.put d (.d (.val (.int k c))))) (hd : dstOk ⟨d, .binOp .add t x y t', ty, pos, af, gd⟩ st = true := by kernel_rfl) (hk : opOk ⟨d, .binOp .add t x y t', ty, pos, af, gd⟩ st .no = true := by kernel_rfl) (hw : st.want ops ⟨d, .binOp .add t x y t', ty, pos, af, gd⟩ = some true := by rfl) :
    YR P sq ops K (⟨d, .binOp .add t x y t', ty, pos, af, gd⟩ :: rest) st := by
  subst hw2
  exact yB hx hy (by cases k <;> rfl) rfl h hd hk hw
end
theorem noTs_box1 {st : PS} {t i : Nat} {cs : List SV} (hb : st.b = [(i, cs)]) (hs : (st.s.all fun p => p.2.noTs t) = true) (hc : (cs.all fun x => x.noTs t) = true) : st.noTs t = true := by
  unfold PS.noTs
  rw [hb, hs]
  simp only [List.all_cons, List.all_nil, hc, Bool.and_self]
/-- a contract for an empty slice serves for nil -/
theorem PCalls.mono_args {P : Program} {f : Nat} {xs ys : List DV} {r : SV} (h : PCalls P f xs r) (hl : ys.length = xs.length) (hi : ∀ (i : Nat) x y, ys[i]? = some x → xs[i]? = some y → ∀ F w v, DRep F w v x → DRep F w v y) : PCalls P f ys r := fun F w vals hvl hv hg =>
  h F w vals (hvl.trans hl) (fun i v y hvi hy => by
    obtain ⟨x, hx⟩ : ∃ x, ys[i]? = some x := ⟨_, List.getElem?_eq_getElem (by rw [hl]; exact (List.getElem?_eq_some_iff.1 hy).1)⟩
    exact hi i x y hx hy F w v (hv i v x hvi hx)) hg
end Px

theorem noTs_cG (l : List Nat) (t : Nat) : ((cG l).all fun x => x.noTs t) = true := by
  rw [List.all_eq_true]
  intro x hx
  simp only [cG, vG, List.mem_map] at hx
  obtain ⟨u, -, rfl⟩ := hx
  rfl
/-- a magnitude as it is read: nil where it is empty -/
def dMg : List Nat → DV
  | [] => .val (.slice none 0 0)
  | x :: l => .sl 1 ((x :: l).map dG)
theorem dMg_sl {F : Nat → Nat → Prop} {w : World} {v : Value} {l : List Nat} (h : DRep F w v (dMg l)) : DRep F w v (.sl 1 (l.map dG)) := by
  cases l with
  | nil =>
    have := DRep.val_eq h
    subst this
    exact DRep.nil
  | cons x l => exact h
theorem mg1 {f : Nat} {m : List Nat} {r : SV} (h : PCalls Tryz.prog f [.sl 1 (m.map dG)] r) : PCalls Tryz.prog f [dMg m] r := h.mono_args rfl fun i x y hx hy F w v hv => by
  match i, hx, hy with
  | 0, hx, hy => cases hx; cases hy; exact dMg_sl hv
  | i + 1, hx, hy => simp at hx
theorem mg2 {f : Nat} {m n : List Nat} {r : SV} (h : PCalls Tryz.prog f [.sl 1 (m.map dG), .sl 1 (n.map dG)] r) : PCalls Tryz.prog f [dMg m, dMg n] r := h.mono_args rfl fun i x y hx hy F w v hv => by
  match i, hx, hy with
  | 0, hx, hy => cases hx; cases hy; exact dMg_sl hv
  | 1, hx, hy => cases hx; cases hy; exact dMg_sl hv
  | i + 2, hx, hy => simp at hx

abbrev dNm (b : Bool) (l : List Nat) : List DV := [dB b, dMg l]
theorem wReadM (a : Str) (ha : a.length ≤ 1000000) : PCalls Tryz.prog 59 [dS a] (.d (.agg (dNm (dgs a).2 (rdG (dgs a).1)))) := by
  by_cases h : (dgs a).1 = []
  · have := wReadNil a ha h
    rw [dgs_nil h, h, rdG_nil]
    exact this
  · have := wRead a ha
    rw [rdG_pos h] at this ⊢
    exact this

set_option maxRecDepth 20000 in
set_option maxHeartbeats 1000000 in
theorem wCloneNil : PCalls Tryz.prog 110 [.val (.slice none 0 0)] (.d (.val (.slice none 0 0))) := by
  refine pcalls_of_pw Tryz.func110 rfl Tryz.ntmps110 Tryz.results110 (by simp) fun B w0 => ?_
  refine pw_seq ?_; refine pw_region ?_; refine yAd rfl ?_; refine yQ ?_; refine pw_seq ?_; refine pw_seq ?_; refine pw_region ?_; refine yMd rfl ?_; refine yEz Tryz.underlying89 rfl ?_; refine yQ ?_; refine pw_ct rfl ?_
  refine pw_seq ?_; refine pw_region ?_; refine yAd rfl ?_; refine yQ ?_; refine pw_ret ?_; refine q_then_ret ?_
  exact q_ret _ (.tmp rfl .nil) rfl
set_option maxRecDepth 20000 in
set_option maxHeartbeats 1000000 in
theorem wClone (l : List Nat) (h0 : 0 < l.length) (hl : l.length ≤ 1000000) : POwn Tryz.prog 110 [.sl 1 (l.map dG)] u64T 1 (l.map dG) := by
  refine pown_of_pw (t := 123 * 100000 + 5) Tryz.func110 rfl Tryz.ntmps110 Tryz.results110 (by simp) rfl fun B w0 => ?_
  refine pw_seq ?_; refine pw_region ?_; refine yAd rfl ?_; refine yQ ?_; refine pw_seq ?_; refine pw_seq ?_; refine pw_region ?_; refine yMd rfl ?_; refine yEn Tryz.underlying89 (by simp; omega) rfl ?_; refine yQ ?_
  refine pw_cf rfl ?_; refine pw_skip ?_; refine pw_seq ?_; refine pw_region ?_; refine yEb rfl ?_; refine yMd rfl ?_
  refine yTw (us := []) (vs := vG l) (m := l.length) (n := 0) h0 (by omega) (by omega) (by rw [vG, List.map_map]; exact chunk_cG l rfl) (by simp) rfl rfl rfl rfl ?_; refine yAw rfl ?_; refine yQ ?_
  refine pw_tkb 2 5 (123 * 100000 + 5) (n := 0 + l.length) (es := l.map dG) (ds := l.map dU) (by simp) (chunk_cG l (by simp)) (toDs_cG _) rfl rfl rfl rfl (noTs_box1 (i := 5) (cs := cG l) rfl rfl (noTs_cG l _)) ?_; refine pw_ret ?_
  exact q_own rfl (congrArg some (by simp))

theorem subS_next (m n : List Nat) (i : Nat) : subS m n (i + 1) = if gat m i < (subS m n i).2 + gat n i then ((subS m n i).1 ++ [gat m i + 1000000000 - ((subS m n i).2 + gat n i)], 1) else ((subS m n i).1 ++ [gat m i - ((subS m n i).2 + gat n i)], 0) := rfl
set_option maxRecDepth 20000 in
set_option maxHeartbeats 4000000 in
theorem wMinusP (m n : List Nat) (hgm : gok m) (hgn : gok n) (h0 : 0 < m.length) (hlm : m.length ≤ 1000000) : PCalls Tryz.prog 87 [.sl 1 (m.map dG), .sl 1 (n.map dG)] (.d (.sl 1 ((cutG (subS m n m.length).1).map dG))) := by
  have c1 := wClone m h0 hlm
  obtain ⟨z, hz⟩ : ∃ z, z = (subS m n m.length).1 := ⟨_, rfl⟩
  have hzl : z.length = m.length := by rw [hz]; exact (subS_spec hgm hgn m.length).1
  have c2 := wCut z (by omega)
  rw [← hz]
  obtain ⟨r, hr⟩ : ∃ r, r = cutG z := ⟨_, rfl⟩
  rw [← hr] at c2 ⊢
  refine pcalls_of_pw Tryz.func87 rfl Tryz.ntmps87 Tryz.results87 (by simp) fun B w0 => ?_
  refine pw_seq ?_; refine pw_region ?_; refine yAd rfl ?_; refine yQ ?_; refine pw_seq ?_; refine pw_region ?_; refine yMd rfl ?_
  refine yCob (vs := vG m) c1 (by simp; omega) (by rw [vG, List.map_map]; simp only [List.length_map]; exact chunk_cG m rfl) (by simp) rfl rfl ?_; refine yAw rfl ?_; refine yQ ?_; refine pw_seq ?_; refine pw_region ?_
  refine yAd rfl ?_; refine yQ ?_; refine pw_seq ?_; refine pw_seq ?_; refine pw_region ?_; refine yMw rfl ?_; refine yNb rfl ?_; refine yMd rfl ?_; refine yQ ?_; refine pw_block ?_
  refine pw_loop (fun i : Nat => ⟨49, [(1, .d (.sl 1 (n.map dG))), (5, .bs 10 (m.map dG).length u64T 1), (6, .d (dU (subS m n i).2)), (12, .d (dI (m.map dG).length)), (13, .d (dI i))], [(10, cG ((subS m n i).1 ++ m.drop i))], []⟩) (fun i => i ≤ m.length) (fun i => m.length - i) 0 (Nat.zero_le _)
    ⟨rfl, ⟨.refl _, .refl _, .refl _, .refl _, .refl _, trivial⟩, ⟨⟨_, rfl, lesC_eq rfl⟩, trivial⟩, trivial, by simp [PS.closed, SV.ok, aget, Nat.beq, -List.map_take, -List.map_set, -List.map_append, -List.map_drop]⟩ ?_
  intro i hi
  obtain ⟨h1, h2, h3, -⟩ := subS_spec hgm hgn i
  have hnx := subS_next m n i
  obtain ⟨⟨p, c⟩, hp⟩ : ∃ q, q = subS m n i := ⟨_, rfl⟩
  rw [← hp] at h1 h2 h3 hnx ⊢
  simp only at h1 h2 h3 hnx ⊢
  rcases Nat.lt_or_ge i m.length with hi2 | hi2
  · have t1 : decide ((i : Int) < ((m.map dG).length : Int)) = true := decide_eq_true (by rw [List.length_map]; omega)
    obtain ⟨a, ha⟩ : ∃ a, m[i]? = some a := ⟨_, List.getElem?_eq_getElem hi2⟩
    have hga := gat_get ha
    have ha9 : a < 1000000000 := hgm a (List.mem_of_getElem? ha)
    have hdr : m.drop i = a :: m.drop (i + 1) := by
      obtain ⟨q1, q2⟩ := List.getElem?_eq_some_iff.1 ha
      rw [List.drop_eq_getElem_cons q1, q2]
    obtain ⟨q, hq⟩ : ∃ q, q = m.drop (i + 1) := ⟨_, rfl⟩
    rw [hdr, ← hq]
    rw [hga] at hnx
    have hat := cG_at (q := q) (a := a) h1
    have hwi := wrapI ((i : Int) + 1) (by omega)
    have hml : (i : Int) < ((m.map dG).length : Int) := by rw [List.length_map]; omega
    rcases Nat.lt_or_ge i n.length with hj | hj
    · have t2 : decide ((i : Int) < ((n.map dG).length : Int)) = true := decide_eq_true (by rw [List.length_map]; omega)
      obtain ⟨b, hb⟩ : ∃ b, n[i]? = some b := ⟨_, List.getElem?_eq_getElem hj⟩
      have hb9 : b < 1000000000 := hgn b (List.mem_of_getElem? hb)
      have eb := ix dG n (i : Int) i b rfl hb
      have hgb := gat_get hb
      rw [hgb] at hnx
      have w1 : IntKind.u64.wrap ((c : Int) + (b : Int)) = ((c + b : Nat) : Int) := by rw [← Int.natCast_add]; exact u64w (by omega)
      by_cases hlt : a < c + b
      · have t3 : decide ((a : Int) < (((c + b) : Nat) : Int)) = true := decide_eq_true (by omega)
        rw [if_pos hlt] at hnx
        obtain ⟨a2, ha2⟩ : ∃ x, x = a + 1000000000 := ⟨_, rfl⟩
        rw [← ha2] at hnx
        have w2 : IntKind.u64.wrap ((a : Int) + 1000000000) = (a2 : Int) := by rw [IntKind.wrap_u64]; omega
        have hs1 := cG_set (q := q) (a := a) a2 h1
        have hl1 := cG_lt (q := q) (a := a) h1
        have hat2 := cG_at (q := q) (a := a2) h1
        have w3 : IntKind.u64.wrap ((a2 : Int) - (((c + b) : Nat) : Int)) = ((a2 - (c + b) : Nat) : Int) := by rw [← Int.natCast_sub (by omega)]; exact u64w (by omega)
        have hs2 := cG_set (q := q) (a := a2) (a2 - (c + b)) h1
        have hl2 := cG_lt (q := q) (a := a2) h1
        refine pw_seq ?_; refine pw_region ?_; refine yB rfl rfl rfl rfl ?_; refine yQ ?_; refine pw_seq ?_; rw [t1]; refine pw_ct rfl ?_; refine pw_skip ?_; refine pw_seq ?_; refine pw_block ?_; refine pw_seq ?_; refine pw_region ?_
        refine yMd rfl ?_; refine yAd rfl ?_; refine yQ ?_; refine pw_seq ?_; refine pw_region ?_; refine yMd rfl ?_; refine yAd rfl ?_; refine yQ ?_; refine pw_seq ?_; refine pw_seq ?_; refine pw_region ?_; refine yMd rfl ?_
        refine yMd rfl ?_; refine yN rfl ?_; refine yB rfl rfl rfl rfl ?_; refine yQ ?_; refine q_then ?_; rw [t2]; refine pw_ct rfl ?_; refine pw_region ?_; refine yMd rfl ?_; refine yMd rfl ?_; refine yMd rfl ?_
        refine yW eb (by omega) rfl rfl ?_; refine yLr rfl rfl ?_; refine yB rfl rfl rfl rfl ?_; refine yAd rfl ?_; refine yQ ?_; refine pw_seq ?_; refine pw_region ?_; refine yAd rfl ?_; refine yQ ?_; refine pw_seq ?_; refine pw_seq ?_
        refine pw_region ?_; refine yMw rfl ?_; refine yMd rfl ?_; refine yWb (by omega) (by omega) rfl rfl rfl ?_; refine yLd rfl rfl hat ?_; refine yMd rfl ?_; refine yB rfl rfl rfl rfl ?_; refine yQ ?_; refine q_then ?_; rw [w1]; rw [t3]
        refine pw_ct rfl ?_; refine pw_seq ?_; refine pw_region ?_; refine yMw rfl ?_; refine yMd rfl ?_; refine yWb (by omega) (by omega) rfl rfl rfl ?_; refine yLd rfl rfl hat ?_; refine yBw w2 rfl rfl ?_
        refine yWb (by omega) (by omega) rfl rfl rfl ?_; refine ySd rfl rfl rfl hs1 ?_ hl1; refine yQ ?_; refine pw_region ?_; refine yAd rfl ?_; refine yQ ?_; refine pw_region ?_; refine yMw rfl ?_; refine yMd rfl ?_
        refine yWb (by omega) (by omega) rfl rfl rfl ?_; refine yLd rfl rfl hat2 ?_; refine yMd rfl ?_; refine yB rfl rfl rfl rfl ?_; refine yWb (by omega) (by omega) rfl rfl rfl ?_; rw [w3]; refine ySd rfl rfl rfl hs2 ?_ hl2; refine yQ ?_
        refine pw_region ?_; refine yB rfl rfl rfl rfl ?_; refine yMd rfl ?_; refine yQ ?_; refine q_then ?_
        refine ⟨i + 1, by omega, by omega, rfl, ⟨.refl _, .refl _, .of_eq (by rw [hnx]; rfl), .refl _, .of_eq (congrArg (fun n => SV.d (dI n)) hwi), trivial⟩, ⟨⟨_, rfl, lesC_eq (by rw [hnx, ← hq, List.append_assoc]; rfl)⟩, trivial⟩, trivial, by simp [PS.closed, SV.ok, aget, Nat.beq, -List.map_take, -List.map_set, -List.map_append, -List.map_drop]⟩
      · have t3 : decide ((a : Int) < (((c + b) : Nat) : Int)) = false := decide_eq_false (by omega)
        rw [if_neg hlt] at hnx
        have w3 : IntKind.u64.wrap ((a : Int) - (((c + b) : Nat) : Int)) = ((a - (c + b) : Nat) : Int) := by rw [← Int.natCast_sub (by omega)]; exact u64w (by omega)
        have hs2 := cG_set (q := q) (a := a) (a - (c + b)) h1
        have hl2 := cG_lt (q := q) (a := a) h1
        refine pw_seq ?_; refine pw_region ?_; refine yB rfl rfl rfl rfl ?_; refine yQ ?_; refine pw_seq ?_; rw [t1]; refine pw_ct rfl ?_; refine pw_skip ?_; refine pw_seq ?_; refine pw_block ?_; refine pw_seq ?_; refine pw_region ?_
        refine yMd rfl ?_; refine yAd rfl ?_; refine yQ ?_; refine pw_seq ?_; refine pw_region ?_; refine yMd rfl ?_; refine yAd rfl ?_; refine yQ ?_; refine pw_seq ?_; refine pw_seq ?_; refine pw_region ?_; refine yMd rfl ?_
        refine yMd rfl ?_; refine yN rfl ?_; refine yB rfl rfl rfl rfl ?_; refine yQ ?_; refine q_then ?_; rw [t2]; refine pw_ct rfl ?_; refine pw_region ?_; refine yMd rfl ?_; refine yMd rfl ?_; refine yMd rfl ?_
        refine yW eb (by omega) rfl rfl ?_; refine yLr rfl rfl ?_; refine yB rfl rfl rfl rfl ?_; refine yAd rfl ?_; refine yQ ?_; refine pw_seq ?_; refine pw_region ?_; refine yAd rfl ?_; refine yQ ?_; refine pw_seq ?_; refine pw_seq ?_
        refine pw_region ?_; refine yMw rfl ?_; refine yMd rfl ?_; refine yWb (by omega) (by omega) rfl rfl rfl ?_; refine yLd rfl rfl hat ?_; refine yMd rfl ?_; refine yB rfl rfl rfl rfl ?_; refine yQ ?_; refine q_then ?_; rw [w1]; rw [t3]
        refine pw_cf rfl ?_; refine pw_skip ?_; refine pw_region ?_; refine yMw rfl ?_; refine yMd rfl ?_; refine yWb (by omega) (by omega) rfl rfl rfl ?_; refine yLd rfl rfl hat ?_; refine yMd rfl ?_; refine yB rfl rfl rfl rfl ?_
        refine yWb (by omega) (by omega) rfl rfl rfl ?_; rw [w3]; refine ySd rfl rfl rfl hs2 ?_ hl2; refine yQ ?_; refine pw_region ?_; refine yB rfl rfl rfl rfl ?_; refine yMd rfl ?_; refine yQ ?_; refine q_then ?_
        refine ⟨i + 1, by omega, by omega, rfl, ⟨.refl _, .refl _, .of_eq (by rw [hnx]; rfl), .refl _, .of_eq (congrArg (fun n => SV.d (dI n)) hwi), trivial⟩, ⟨⟨_, rfl, lesC_eq (by rw [hnx, ← hq, List.append_assoc]; rfl)⟩, trivial⟩, trivial, by simp [PS.closed, SV.ok, aget, Nat.beq, -List.map_take, -List.map_set, -List.map_append, -List.map_drop]⟩
    · have t2 : decide ((i : Int) < ((n.map dG).length : Int)) = false := decide_eq_false (by rw [List.length_map]; omega)
      simp only [gat_ge hj, Nat.add_zero] at hnx
      by_cases hlt : a < c
      · have t3 : decide ((a : Int) < ((c : Nat) : Int)) = true := decide_eq_true (by omega)
        rw [if_pos hlt] at hnx
        obtain ⟨a2, ha2⟩ : ∃ x, x = a + 1000000000 := ⟨_, rfl⟩
        rw [← ha2] at hnx
        have w2 : IntKind.u64.wrap ((a : Int) + 1000000000) = (a2 : Int) := by rw [IntKind.wrap_u64]; omega
        have hs1 := cG_set (q := q) (a := a) a2 h1
        have hl1 := cG_lt (q := q) (a := a) h1
        have hat2 := cG_at (q := q) (a := a2) h1
        have w3 : IntKind.u64.wrap ((a2 : Int) - ((c : Nat) : Int)) = ((a2 - c : Nat) : Int) := by rw [← Int.natCast_sub (by omega)]; exact u64w (by omega)
        have hs2 := cG_set (q := q) (a := a2) (a2 - c) h1
        have hl2 := cG_lt (q := q) (a := a2) h1
        refine pw_seq ?_; refine pw_region ?_; refine yB rfl rfl rfl rfl ?_; refine yQ ?_; refine pw_seq ?_; rw [t1]; refine pw_ct rfl ?_; refine pw_skip ?_; refine pw_seq ?_; refine pw_block ?_; refine pw_seq ?_; refine pw_region ?_
        refine yMd rfl ?_; refine yAd rfl ?_; refine yQ ?_; refine pw_seq ?_; refine pw_region ?_; refine yMd rfl ?_; refine yAd rfl ?_; refine yQ ?_; refine pw_seq ?_; refine pw_seq ?_; refine pw_region ?_; refine yMd rfl ?_
        refine yMd rfl ?_; refine yN rfl ?_; refine yB rfl rfl rfl rfl ?_; refine yQ ?_; refine q_then ?_; rw [t2]; refine pw_cf rfl ?_; refine pw_skip ?_; refine pw_seq ?_; refine pw_region ?_; refine yAd rfl ?_; refine yQ ?_
        refine pw_seq ?_; refine pw_seq ?_; refine pw_region ?_; refine yMw rfl ?_; refine yMd rfl ?_; refine yWb (by omega) (by omega) rfl rfl rfl ?_; refine yLd rfl rfl hat ?_; refine yMd rfl ?_; refine yB rfl rfl rfl rfl ?_; refine yQ ?_
        refine q_then ?_; rw [t3]; refine pw_ct rfl ?_; refine pw_seq ?_; refine pw_region ?_; refine yMw rfl ?_; refine yMd rfl ?_; refine yWb (by omega) (by omega) rfl rfl rfl ?_; refine yLd rfl rfl hat ?_; refine yBw w2 rfl rfl ?_
        refine yWb (by omega) (by omega) rfl rfl rfl ?_; refine ySd rfl rfl rfl hs1 ?_ hl1; refine yQ ?_; refine pw_region ?_; refine yAd rfl ?_; refine yQ ?_; refine pw_region ?_; refine yMw rfl ?_; refine yMd rfl ?_
        refine yWb (by omega) (by omega) rfl rfl rfl ?_; refine yLd rfl rfl hat2 ?_; refine yMd rfl ?_; refine yB rfl rfl rfl rfl ?_; refine yWb (by omega) (by omega) rfl rfl rfl ?_; rw [w3]; refine ySd rfl rfl rfl hs2 ?_ hl2; refine yQ ?_
        refine pw_region ?_; refine yB rfl rfl rfl rfl ?_; refine yMd rfl ?_; refine yQ ?_; refine q_then ?_
        refine ⟨i + 1, by omega, by omega, rfl, ⟨.refl _, .refl _, .of_eq (by rw [hnx]; rfl), .refl _, .of_eq (congrArg (fun n => SV.d (dI n)) hwi), trivial⟩, ⟨⟨_, rfl, lesC_eq (by rw [hnx, ← hq, List.append_assoc]; rfl)⟩, trivial⟩, trivial, by simp [PS.closed, SV.ok, aget, Nat.beq, -List.map_take, -List.map_set, -List.map_append, -List.map_drop]⟩
      · have t3 : decide ((a : Int) < ((c : Nat) : Int)) = false := decide_eq_false (by omega)
        rw [if_neg hlt] at hnx
        have w3 : IntKind.u64.wrap ((a : Int) - ((c : Nat) : Int)) = ((a - c : Nat) : Int) := by rw [← Int.natCast_sub (by omega)]; exact u64w (by omega)
        have hs2 := cG_set (q := q) (a := a) (a - c) h1
        have hl2 := cG_lt (q := q) (a := a) h1
        refine pw_seq ?_; refine pw_region ?_; refine yB rfl rfl rfl rfl ?_; refine yQ ?_; refine pw_seq ?_; rw [t1]; refine pw_ct rfl ?_; refine pw_skip ?_; refine pw_seq ?_; refine pw_block ?_; refine pw_seq ?_; refine pw_region ?_
        refine yMd rfl ?_; refine yAd rfl ?_; refine yQ ?_; refine pw_seq ?_; refine pw_region ?_; refine yMd rfl ?_; refine yAd rfl ?_; refine yQ ?_; refine pw_seq ?_; refine pw_seq ?_; refine pw_region ?_; refine yMd rfl ?_
        refine yMd rfl ?_; refine yN rfl ?_; refine yB rfl rfl rfl rfl ?_; refine yQ ?_; refine q_then ?_; rw [t2]; refine pw_cf rfl ?_; refine pw_skip ?_; refine pw_seq ?_; refine pw_region ?_; refine yAd rfl ?_; refine yQ ?_
        refine pw_seq ?_; refine pw_seq ?_; refine pw_region ?_; refine yMw rfl ?_; refine yMd rfl ?_; refine yWb (by omega) (by omega) rfl rfl rfl ?_; refine yLd rfl rfl hat ?_; refine yMd rfl ?_; refine yB rfl rfl rfl rfl ?_; refine yQ ?_
        refine q_then ?_; rw [t3]; refine pw_cf rfl ?_; refine pw_skip ?_; refine pw_region ?_; refine yMw rfl ?_; refine yMd rfl ?_; refine yWb (by omega) (by omega) rfl rfl rfl ?_; refine yLd rfl rfl hat ?_; refine yMd rfl ?_
        refine yB rfl rfl rfl rfl ?_; refine yWb (by omega) (by omega) rfl rfl rfl ?_; rw [w3]; refine ySd rfl rfl rfl hs2 ?_ hl2; refine yQ ?_; refine pw_region ?_; refine yB rfl rfl rfl rfl ?_; refine yMd rfl ?_; refine yQ ?_
        refine q_then ?_
        refine ⟨i + 1, by omega, by omega, rfl, ⟨.refl _, .refl _, .of_eq (by rw [hnx]; rfl), .refl _, .of_eq (congrArg (fun n => SV.d (dI n)) hwi), trivial⟩, ⟨⟨_, rfl, lesC_eq (by rw [hnx, ← hq, List.append_assoc]; rfl)⟩, trivial⟩, trivial, by simp [PS.closed, SV.ok, aget, Nat.beq, -List.map_take, -List.map_set, -List.map_append, -List.map_drop]⟩
  · have t1 : decide ((i : Int) < ((m.map dG).length : Int)) = false := decide_eq_false (by rw [List.length_map]; omega)
    obtain rfl : i = m.length := by omega
    rw [← hp] at hz
    simp only at hz
    rw [List.drop_length, List.append_nil, ← hz]
    refine pw_frz 5 10 (n := (m.map dG).length) (es := z.map dG) (ds := z.map dU) (by simp; omega) (chunk_cG z (by simp; omega)) (toDs_cG _) rfl rfl ?_; refine pw_seq ?_; refine pw_region ?_; refine yB rfl rfl rfl rfl ?_; refine yQ ?_
    refine pw_seq ?_; rw [t1]; refine pw_cf rfl ?_; refine pw_exit ?_; refine pw_seq ?_; refine pw_region ?_; refine yMd rfl ?_; refine yC (c2) rfl rfl ?_; refine yAd rfl ?_; refine yQ ?_; refine pw_ret ?_
    exact q_ret _ (.tmp rfl .nil) rfl
end Go.Proofs.YtmfeinilbjfnpaaGreatDoor
namespace Go.Proofs.YtmfeinilbjfnpaaGreatDoor
open Go.RowKit Px

abbrev bT : Nat := 76
abbrev uT : Nat := 5 * 100000 + 4
abbrev uT2 : Nat := 5 * 100000 + 10004
abbrev dY (c : UInt8) : List DV := [DV.val (.int .u8 c.toNat)]
theorem hU139 : ∃ j, Tryz.prog.info? 76 = some j ∧ j.size ≠ 0 := by
  have h : (Tryz.prog.info? 76).map (·.size) = some 2 := by kernel_rfl
  obtain ⟨j, h1, h2⟩ := Option.map_eq_some_iff.1 h
  exact ⟨j, h1, by omega⟩
theorem hNoEsc (v : Value) (w : World) : (callFunc 104 #[v]).run Tryz.prog w = .ok (.value v) w := by
  rw [run_callFunc_extern Tryz.func104 (by kernel_rfl) (by kernel_rfl) (by kernel_rfl) (e := Extern.AbiNoEscape.same) (by kernel_rfl), Lib.run_noEscape]
  rfl
theorem hLies : liesAt Tryz.prog Tryz.prog.depth 76 (2 / Tryz.prog.cellsOf 76) 0 76 1 = true := by kernel_rfl

set_option maxRecDepth 20000 in
set_option maxHeartbeats 1000000 in
theorem wCcF (l : List UInt8) : PCx Tryz.prog 82 [.tx 10004 bT 2] [(10004, [.d (.val (.pointer none)), .ts uT2 1 (l.map dY)])] [(uT2, (l.map dY).length)] (.tup []) [(10004, [.tx 10004 bT 2, .ts uT2 1 (l.map dY)])] [(uT2, (l.map dY).length)] := by
  obtain ⟨j, hj, hj0⟩ := hU139
  refine pcx_of_pw Tryz.func82 rfl Tryz.ntmps82 Tryz.results82 (by simp) fun B w0 => ?_
  refine pw_seq ?_; refine pw_region ?_; refine yQm rfl ?_; refine yQN rfl ?_; refine yFb rfl ?_; refine yLd rfl rfl rfl ?_; refine yQz Tryz.underlying73 rfl ?_; refine yQ ?_; refine pw_ct rfl ?_; refine pw_region ?_
  refine yQm rfl ?_; refine yQm rfl ?_; refine yQu Tryz.underlying73 Tryz.underlying138 hj hj0 (by decide) rfl ?_; refine yQn hNoEsc rfl ?_; refine yQc Tryz.underlying138 Tryz.underlying73 hj hLies rfl ?_; refine yQN rfl ?_
  refine yFb rfl ?_; refine yQs (cs' := [_, _]) rfl rfl rfl rfl ?_; refine yQ ?_
  exact q_xe [] .nil rfl ⟨rfl, trivial⟩ ⟨rfl, trivial⟩
set_option maxRecDepth 20000 in
set_option maxHeartbeats 1000000 in
theorem wCcU (l : List UInt8) : PCx Tryz.prog 82 [.tx 10004 bT 2] [(10004, [.tx 10004 bT 2, .ts uT2 1 (l.map dY)])] [(uT2, (l.map dY).length)] (.tup []) [(10004, [.tx 10004 bT 2, .ts uT2 1 (l.map dY)])] [(uT2, (l.map dY).length)] := by
  obtain ⟨j, hj, hj0⟩ := hU139
  refine pcx_of_pw Tryz.func82 rfl Tryz.ntmps82 Tryz.results82 (by simp) fun B w0 => ?_
  refine pw_seq ?_; refine pw_region ?_; refine yQm rfl ?_; refine yQN rfl ?_; refine yFb rfl ?_; refine yQl rfl rfl rfl ?_; refine yQe Tryz.underlying73 rfl ?_; refine yQ ?_; refine pw_cf rfl ?_; refine pw_seq ?_; refine pw_region ?_
  refine yQm rfl ?_; refine yQN rfl ?_; refine yFb rfl ?_; refine yQl rfl rfl rfl ?_; refine yQm rfl ?_; refine yQq Tryz.underlying73 hj rfl rfl ?_; refine yQ ?_; refine pw_cf rfl ?_; refine pw_skip ?_
  exact q_xe [] .nil rfl ⟨rfl, trivial⟩ ⟨rfl, trivial⟩
end Go.Proofs.YtmfeinilbjfnpaaGreatDoor
namespace Go.Proofs.YtmfeinilbjfnpaaGreatDoor
open Go.RowKit Px

set_option maxRecDepth 20000 in
set_option maxHeartbeats 1000000 in
theorem wWbF (l : List UInt8) (c : UInt8) (hl : l.length ≤ 100000000) : PCx Tryz.prog 90 [.tx 4 bT 2, .d (.val (.int .u8 c.toNat))] [(4, [.d (.val (.pointer none)), .ts uT 1 (l.map dY)])] [(uT, (l.map dY).length)] (.d (.val .nilIface)) [(4, [.tx 4 bT 2, .ts uT 1 ((l ++ [c]).map dY)])] [(uT, ((l ++ [c]).map dY).length)] := by
  refine pcx_of_pw Tryz.func90 rfl Tryz.ntmps90 Tryz.results90 (by simp) fun B w0 => ?_
  refine pw_seq ?_; refine pw_region ?_; refine yAd rfl ?_; refine yQ ?_; refine pw_seq ?_; refine pw_region ?_; refine yQm rfl ?_; refine yCx (wCcF l) rfl ⟨rfl, trivial⟩ ⟨rfl, trivial⟩ ?_ (hfit := by kernel_rfl); refine yQ ?_
  refine pw_seq ?_; refine pw_region ?_; refine yQm rfl ?_; refine yQm rfl ?_; refine yQN rfl ?_; refine yFb rfl ?_; refine yLt rfl rfl rfl ?_; refine yMd rfl ?_; refine yR (es := [[_]]) rfl rfl rfl rfl rfl ?_
  refine yT (es' := (l ++ [c]).map dY) (m := ((l ++ [c]).map dY).length) (by simp; omega) (by simp; omega) rfl rfl rfl rfl rfl (by simp) (by simp) ?_; refine yQN rfl ?_; refine yFb rfl ?_; refine ySt (cs' := [_, _]) rfl rfl rfl rfl ?_
  refine yQ ?_; refine pw_seq ?_; refine pw_region ?_; refine yAd rfl ?_; refine yQ ?_; refine pw_ret ?_
  exact q_x _ (.tmp rfl .nil) rfl ⟨rfl, trivial⟩ ⟨rfl, trivial⟩
set_option maxRecDepth 20000 in
set_option maxHeartbeats 1000000 in
theorem wWsF (l s : List UInt8) (hl : l.length ≤ 100000000) (hs : s.length ≤ 100000000) (h0 : 0 < s.length) : PCx Tryz.prog 50 [.tx 4 bT 2, .d (dS s)] [(4, [.d (.val (.pointer none)), .ts uT 1 (l.map dY)])] [(uT, (l.map dY).length)] (.tup [dI s.length, .val .nilIface]) [(4, [.tx 4 bT 2, .ts uT 1 ((l ++ s).map dY)])] [(uT, ((l ++ s).map dY).length)] := by
  refine pcx_of_pw Tryz.func50 rfl Tryz.ntmps50 Tryz.results50 (by simp) fun B w0 => ?_
  refine pw_seq ?_; refine pw_region ?_; refine yAd rfl ?_; refine yAd rfl ?_; refine yQ ?_; refine pw_seq ?_; refine pw_region ?_; refine yQm rfl ?_; refine yCx (wCcF l) rfl ⟨rfl, trivial⟩ ⟨rfl, trivial⟩ ?_ (hfit := by kernel_rfl)
  refine yQ ?_; refine pw_seq ?_; refine pw_region ?_; refine yQm rfl ?_; refine yQm rfl ?_; refine yQN rfl ?_; refine yFb rfl ?_; refine yLt rfl rfl rfl ?_; refine yMd rfl ?_
  refine yTs (es2 := s.map dY) (es' := (l ++ s).map dY) (m := ((l ++ s).map dY).length) (by kernel_rfl) Tryz.underlying9 h0 rfl (by simp; omega) rfl rfl rfl rfl rfl (by simp) (by simp) ?_; refine yQN rfl ?_; refine yFb rfl ?_
  refine ySt (cs' := [_, _]) rfl rfl rfl rfl ?_; refine yQ ?_; refine pw_seq ?_; refine pw_region ?_; refine yMd rfl ?_; refine yNs rfl ?_; refine yAd rfl ?_; refine yAd rfl ?_; refine yQ ?_; refine pw_ret ?_
  exact q_x _ (.tmp rfl (.tmp rfl .nil)) rfl ⟨rfl, trivial⟩ ⟨rfl, trivial⟩
set_option maxRecDepth 20000 in
set_option maxHeartbeats 1000000 in
theorem wWsU (l s : List UInt8) (hl : l.length ≤ 100000000) (hs : s.length ≤ 100000000) (h0 : 0 < s.length) : PCx Tryz.prog 50 [.tx 4 bT 2, .d (dS s)] [(4, [.tx 4 bT 2, .ts uT 1 (l.map dY)])] [(uT, (l.map dY).length)] (.tup [dI s.length, .val .nilIface]) [(4, [.tx 4 bT 2, .ts uT 1 ((l ++ s).map dY)])] [(uT, ((l ++ s).map dY).length)] := by
  refine pcx_of_pw Tryz.func50 rfl Tryz.ntmps50 Tryz.results50 (by simp) fun B w0 => ?_
  refine pw_seq ?_; refine pw_region ?_; refine yAd rfl ?_; refine yAd rfl ?_; refine yQ ?_; refine pw_seq ?_; refine pw_region ?_; refine yQm rfl ?_; refine yCx (wCcU l) rfl ⟨rfl, trivial⟩ ⟨rfl, trivial⟩ ?_ (hfit := by kernel_rfl)
  refine yQ ?_; refine pw_seq ?_; refine pw_region ?_; refine yQm rfl ?_; refine yQm rfl ?_; refine yQN rfl ?_; refine yFb rfl ?_; refine yLt rfl rfl rfl ?_; refine yMd rfl ?_
  refine yTs (es2 := s.map dY) (es' := (l ++ s).map dY) (m := ((l ++ s).map dY).length) (by kernel_rfl) Tryz.underlying9 h0 rfl (by simp; omega) rfl rfl rfl rfl rfl (by simp) (by simp) ?_; refine yQN rfl ?_; refine yFb rfl ?_
  refine ySt (cs' := [_, _]) rfl rfl rfl rfl ?_; refine yQ ?_; refine pw_seq ?_; refine pw_region ?_; refine yMd rfl ?_; refine yNs rfl ?_; refine yAd rfl ?_; refine yAd rfl ?_; refine yQ ?_; refine pw_ret ?_
  exact q_x _ (.tmp rfl (.tmp rfl .nil)) rfl ⟨rfl, trivial⟩ ⟨rfl, trivial⟩
end Go.Proofs.YtmfeinilbjfnpaaGreatDoor
namespace Go.Proofs.YtmfeinilbjfnpaaGreatDoor
open Go.RowKit Go.Sort Go.Lib Go.Shelf

set_option maxRecDepth 100000 in
theorem fmtU_small (i : Nat) (hi : i < 100) (w : World) :
    Calls Tryz.prog 113 #[.int .u64 i, .int .i64 10] w fun e w' => e = .returned (.string ⟨(Lib.decDigits i).toArray⟩) ∧ w' = w := by
  have hc : ∀ W, Calls Tryz.prog 136 #[.int .i64 i] W fun e w' => e = .returned (.string ⟨(Lib.decDigits i).toArray⟩) ∧ w' = W := fun W =>
    Any.internal_strconv_small (ρ := Tryz.small_ren) Tryz.small i hi W
  have iu : (i : Int) < 100 := by omega
  go_enter Tryz.func113, Tryz.ntmps113
  go_wp2_with fail
  refine (hc _).mono ?_
  rintro e w' ⟨rfl, rfl⟩
  go_wp2_with fail
  go_ret
  exact ⟨rfl, rfl⟩

set_option maxHeartbeats 12800000 in
set_option maxRecDepth 100000 in
theorem fmtU_big (u : Nat) (hu : 100 ≤ u) (hu64 : u < 18446744073709551616) (w : World) (htab : Lib.TabIs Tryz.prog w "internal/strconv.uint64pow10" .u64 Lib.pow10Tab) :
    Calls Tryz.prog 113 #[.int .u64 u, .int .i64 10] w fun e w' => e = .returned (.string ⟨(Lib.decDigits u).toArray⟩) ∧ Below w.heap.size w w' := by
  have hu1 : 1 ≤ u := by omega
  have iu : (100 : Int) ≤ (u : Int) := by omega
  have hnd20 : Lib.nDigits u ≤ 20 := by have := Lib.numDigits_eq u hu1 hu64; split at this <;> omega
  have hal : Tryz.prog.arrayLen 165 = 24 := by kernel_rfl
  have hsl : ∀ W, (Instr.sliceAt 165 (.pointer (some ⟨w.heap.size, 0, none⟩)) none (some (.int .i64 (Lib.nDigits u : Int))) none).run Tryz.prog W = .ok (.slice (some ⟨w.heap.size, 0, none⟩) (Lib.nDigits u) 24) W := fun W => by
    rw [run_sliceAt_array_h W 165 ⟨w.heap.size, 0, none⟩ (by simp [Program.arrayLen, Program.elem, Tryz.underlying165]) .i64 (Lib.nDigits u : Int) (by omega) (by rw [hal]; omega)]
    go_simp
  have hH0 := Lib.holds_zero0 w 165 (Lib.nDigits u) (by omega)
  have hfmt : Calls Tryz.prog 138 _ _ _ := Any.internal_strconv_formatBase10 (ρ := Tryz.fb_ren) Tryz.fb w.heap.size 0 24 u (Array.replicate (Lib.nDigits u) 0) (w.alloc (.cells Lib.zeros24 165)) hH0 (by rw [Array.size_replicate]; exact Lib.lt_pow_nDigits u) hu64 (by rw [Array.size_replicate]; omega)
  rw [Array.size_replicate] at hfmt
  have hnd : ∀ W, Lib.TabIs Tryz.prog W "internal/strconv.uint64pow10" .u64 Lib.pow10Tab → Calls Tryz.prog 137 #[.int .u64 u] W fun e w' => e = .returned (.int .i64 (Lib.nDigits u)) ∧ w' = W := fun W h => Any.internal_strconv_numDigits (ρ := Tryz.nd_ren) Tryz.nd u hu1 hu64 W h
  have HH0 := Lib.hid hH0
  clear hH0 hal
  go_enter Tryz.func113, Tryz.ntmps113
  go_wp2_with fail
  refine (hnd _ (Lib.tabIs_alloc htab _)).mono ?_
  rintro e w' ⟨rfl, rfl⟩
  go_wp2_with fail
  refine hfmt.mono ?_
  rintro e w' ⟨rfl, k, v', dk, rfl, hF⟩
  have hcv : (convert 74 9 (.slice (some ⟨w.heap.size, 0, none⟩) (Lib.nDigits u) 24)).run Tryz.prog ((putRow (fun (b : UInt8) => Value.int .u8 (b.toNat : Int)) (w.alloc (.cells Lib.zeros24 165)) w.heap.size 0 dk).drewN k) = .ok (.string ⟨(Lib.decDigits u).toArray⟩) ((putRow (fun (b : UInt8) => Value.int .u8 (b.toNat : Int)) (w.alloc (.cells Lib.zeros24 165)) w.heap.size 0 dk).drewN k) := by
    have h := run_convert_bytes_back (P := Tryz.prog) ((putRow (fun (b : UInt8) => Value.int .u8 (b.toNat : Int)) (w.alloc (.cells Lib.zeros24 165)) w.heap.size 0 dk).drewN k) 74 9 5 ⟨w.heap.size, 0, none⟩ 24 (Lib.decDigits u) Tryz.underlying74 Tryz.underlying5 Tryz.underlying9 (fun j hj => by
      rw [Lib.row_is_numeral hF j hj, Lib.add_plain, World.cell?_drewN]
      exact cell?_putRow (fun (b : UInt8) => Value.int .u8 (b.toNat : Int)) _ w.heap.size 0 _ dk HH0.out (by rw [hF.size, Array.size_replicate]) j (by rw [hF.size]; rw [Lib.decDigits_length] at hj; exact hj))
    rw [Lib.decDigits_length] at h
    exact h
  have hbel : Below w.heap.size w ((putRow (fun (b : UInt8) => Value.int .u8 (b.toNat : Int)) (w.alloc (.cells Lib.zeros24 165)) w.heap.size 0 dk).drewN k) := by
    obtain ⟨os, eo⟩ := Lib.fin_at w (.cells Lib.zeros24 165) dk k 0
    rw [eo]
    exact Lib.below_grow _ w (Nat.le_refl _) k os
  go_wp2
  go_ret
  exact ⟨rfl, hbel⟩
end Go.Proofs.YtmfeinilbjfnpaaGreatDoor
set_option maxHeartbeats 1000000
namespace Go.Proofs.YtmfeinilbjfnpaaGreatDoor
open Go.RowKit

theorem decDigits_dec {n : Nat} (h : n ≠ 0) : Lib.decDigits n = dec n := by
  induction n using Nat.strongRecOn with
  | _ n ih =>
    rw [Lib.decDigits, dec_pos h]
    by_cases h2 : n < 10
    · rw [dif_pos h2, show n / 10 = 0 by omega, dec_zero, show n % 10 = n by omega]
      rfl
    · rw [dif_neg h2, ih (n / 10) (by omega) (by omega)]
      rfl
theorem decDigits_small (n k : Nat) (h : n < 10 ^ k) (hk : 0 < k) : (Lib.decDigits n).length ≤ k := by
  induction k generalizing n with
  | zero => omega
  | succ k ih =>
    rw [Lib.decDigits]
    by_cases h2 : n < 10
    · rw [dif_pos h2]; simp
    · rw [dif_neg h2]
      have h3 : 0 < k := by
        by_cases e : k = 0
        · subst e; simp at h; omega
        · omega
      have := ih (n / 10) (by rw [Nat.pow_succ] at h; omega) h3
      simp; omega
/-- the steps of a division by 10 of a number of either sign -/
def sg (b : Bool) (m : Nat) : Int := if b then -(m : Int) else m
end Go.Proofs.YtmfeinilbjfnpaaGreatDoor
namespace Go.Proofs.YtmfeinilbjfnpaaGreatDoor
open Go.RowKit Px

theorem tab_is {F : Nat → Nat → Prop} {w : World} (hg : GlobOk F w) : Lib.TabIs Tryz.prog w "internal/strconv.uint64pow10" .u64 Lib.pow10Tab := by
  obtain ⟨-, vs, h1, T, z, h2⟩ := hg (2) ((Lib.pow10Tab.map fun z => Value.int .u64 z).map DV.val) (by kernel_rfl)
  have e : vs = Lib.pow10Tab.map fun z => Value.int .u64 z := ((List.map_inj_right (fun a b h => by cases h; rfl)).1 h1).symm
  have hn : Program.globalNamed Tryz.prog "internal/strconv.uint64pow10" = some (2) := by kernel_rfl
  show World.var? _ _ _ = _
  unfold World.var?
  rw [hn, Option.bind_some, h2, e]
end Go.Proofs.YtmfeinilbjfnpaaGreatDoor
namespace Go.Proofs.YtmfeinilbjfnpaaGreatDoor
open Go.RowKit Px

theorem decDigits_fmt (n : Nat) : Lib.decDigits n = fmt n := by
  unfold fmt
  by_cases h : n = 0
  · rw [if_pos h, h, Lib.decDigits, dif_pos (by decide)]
    decide
  · rw [if_neg h]
    exact decDigits_dec h
theorem wFmtUi (u : Nat) (hu : u < 18446744073709551616) : PCalls Tryz.prog 113 [dU u, dI 10] (.d (dS (fmt u))) :=
  PCalls.of_any (us := [vS (fmt u)]) rfl (one_all _ rfl) fun F w vals hl hr hg => by
    obtain rfl : vals = [.int .u64 u, .int .i64 10] := vals_of (us := [.int .u64 u, .int .i64 10]) hl hr
    rw [← decDigits_fmt]
    by_cases h : u < 100
    · refine (fmtU_small u h w).mono ?_
      rintro e w' ⟨rfl, rfl⟩
      exact ⟨rfl, Below.refl _ _⟩
    · refine (fmtU_big u (by omega) hu w (tab_is hg)).mono ?_
      rintro e w' ⟨rfl, h⟩
      exact ⟨rfl, h⟩
set_option maxRecDepth 20000 in
theorem wFmtU (u : Nat) (hu : u < 18446744073709551616) : PCalls Tryz.prog 91 [dU u, dI 10] (.d (dS (fmt u))) := by
  have c1 := wFmtUi u hu
  refine pcalls_of_pw Tryz.func91 rfl Tryz.ntmps91 Tryz.results91 (by simp) fun B w0 => ?_
  refine pw_seq ?_; refine pw_region ?_; refine yAd rfl ?_; refine yQ ?_; refine pw_seq ?_; refine pw_region ?_; refine yMd rfl ?_; refine yMd rfl ?_; refine yC (c1) rfl rfl ?_; refine yAd rfl ?_; refine yQ ?_; refine pw_ret ?_
  exact q_ret _ (.tmp rfl .nil) rfl
theorem bExtraR : Builder.Extra Tryz.prog Tryz.repeat_ren := { sizeBuilder := by kernel_rfl, liesBuilder := by kernel_rfl, t5 := by kernel_rfl, a5 := fun _ => by kernel_rfl, z5 := fun _ => by kernel_rfl, v5 := fun _ => by kernel_rfl, infoByte := by kernel_rfl, cellsByte := by kernel_rfl, sizeByte := by kernel_rfl, neB5 := by decide }
theorem bExtraS : Builder.Extra Tryz.prog Tryz.bst_ren := { sizeBuilder := by kernel_rfl, liesBuilder := by kernel_rfl, t5 := by kernel_rfl, a5 := fun _ => by kernel_rfl, z5 := fun _ => by kernel_rfl, v5 := fun _ => by kernel_rfl, infoByte := by kernel_rfl, cellsByte := by kernel_rfl, sizeByte := by kernel_rfl, neB5 := by decide }
theorem wRepeat (k : Nat) (hk : k ≤ 9) : PCalls Tryz.prog 92 [dS [48], dI k] (.d (dS (List.replicate k 48))) :=
  PCalls.of_any (us := [vS (List.replicate k 48)]) rfl (one_all _ rfl) fun F w vals hl hr hg => by
    obtain rfl : vals = [vS [48], .int .i64 k] := vals_of (us := [vS [48], .int .i64 k]) hl hr
    have e : Lib.repeatL [48] k = List.replicate k 48 := by
      have := Lib.repeatL_replicate 48 1 k
      rwa [Nat.mul_one] at this
    refine (Any.strings_Repeat Tryz.repeat bExtraR ⟨#[48]⟩ k w (by omega) (by show 1 * k ≤ _; omega)).mono ?_
    rintro en w' ⟨rfl, h⟩
    refine ⟨?_, h⟩
    show Ending.returned (.string ⟨(Lib.repeatL [48] k).toArray⟩) = _
    rw [e]
theorem text_pos {l : List Nat} {x : Nat} (hg : gok (l ++ [x])) (hx : x ≠ 0) (b : Bool) : canon (sg b (gval (l ++ [x]))) = (if b then [45] else []) ++ fmt x ++ pads l := by
  have h1 := dec_groups (gok_append.1 hg).1 hx
  have h2 : gval (l ++ [x]) ≠ 0 := by
    rw [gval_snoc]
    have : 0 < 1000000000 ^ l.length * x := Nat.mul_pos (Nat.pow_pos (by decide)) (by omega)
    omega
  have h3 : fmt x = dec x := by unfold fmt; rw [if_neg hx]
  unfold canon sg
  cases b with
  | true =>
    simp only [if_true]
    rw [if_pos (by omega), Int.natAbs_neg, Int.natAbs_natCast, h1, h3]
    rfl
  | false =>
    simp only [Bool.false_eq_true, if_false]
    rw [if_neg (by omega), Int.natAbs_natCast, h1, h3]
    rfl
theorem text_zero {l : List Nat} (h : cutG l = []) (b : Bool) : canon (sg b (gval l)) = [] := by
  rw [← cutG_gval, h]
  cases b <;> exact canon_zero
theorem fmt_pos (n : Nat) : 0 < (fmt n).length := by
  unfold fmt
  split
  · decide
  · rename_i h
    rcases Nat.eq_zero_or_pos (dec n).length with e | e
    · have := natOf_dec n
      rw [List.length_eq_zero_iff.1 e] at this
      exact absurd this.symm h
    · exact e
theorem pads_next {l : List Nat} {j y : Nat} (h : l[j]? = some y) : pads (l.drop j) = pads (l.drop (j + 1)) ++ padk 9 y := by
  obtain ⟨h1, h2⟩ := List.getElem?_eq_some_iff.1 h
  rw [List.drop_eq_getElem_cons h1, h2, pads]
end Go.Proofs.YtmfeinilbjfnpaaGreatDoor
namespace Go.Proofs.YtmfeinilbjfnpaaGreatDoor
open Go.RowKit Px

theorem cutG_len (l : List Nat) : (cutG l).length ≤ l.length := by
  induction l with
  | nil => simp [cutG]
  | cons x l ih =>
    rw [cutG]
    split
    · simp
    · simp only [List.length_cons]; omega
set_option maxRecDepth 20000 in
set_option maxHeartbeats 2000000 in
theorem wText (b : Bool) (l : List Nat) (hg : gok l) (hl : l.length ≤ 1000000) : PCalls Tryz.prog 60 [.agg (dNum b l)] (.d (dS (canon (sg b (gval l))))) := by
  have c1 := wCut l hl
  have hcl := cutG_len l
  have hcg := cutG_gok hg
  obtain ⟨r, hr⟩ : ∃ r, r = canon (sg b (gval l)) := ⟨_, rfl⟩
  rw [← hr]
  rcases List.eq_nil_or_concat (cutG l) with h0 | ⟨l', x, h0⟩
  · have hr0 : r = [] := by rw [hr, text_zero h0]
    subst hr0
    rw [h0] at c1
    refine pcalls_of_pw Tryz.func60 rfl Tryz.ntmps60 Tryz.results60 (by simp) fun B w0 => ?_
    refine pw_seq ?_; refine pw_region ?_; refine yK (cs := [_, _]) rfl rfl ?_; refine yAd rfl ?_; refine yQ ?_; refine pw_seq ?_; refine pw_region ?_; refine yFb rfl ?_; refine yLd rfl rfl rfl ?_; refine yC (c1) rfl rfl ?_
    refine yAd rfl ?_; refine yQ ?_; refine pw_seq ?_; refine pw_seq ?_; refine pw_region ?_; refine yMd rfl ?_; refine yN rfl ?_; refine yB rfl rfl rfl rfl ?_; refine yQ ?_; refine pw_ct rfl ?_; refine pw_seq ?_; refine pw_region ?_
    refine yAd rfl ?_; refine yQ ?_; refine pw_ret ?_; refine q_then_ret ?_
    exact q_ret _ (.tmp rfl .nil) rfl
  have hlast := cutG_last l
  have hgv := cutG_gval l
  rw [List.concat_eq_append] at h0
  rw [h0] at c1 hcl hcg hlast hgv
  have hx0 : x ≠ 0 := by rintro rfl; simp at hlast
  have hx9 : x < 1000000000 := hcg x (by simp)
  have hy9 : ∀ j y, l'[j]? = some y → y < 1000000000 := fun j y hy => hcg y (List.mem_append_left _ (List.mem_of_getElem? hy))
  have htp := text_pos hcg hx0 b
  rw [hgv, ← hr] at htp
  obtain ⟨m, hm⟩ : ∃ m, m = l' ++ [x] := ⟨_, rfl⟩
  have hml : m.length = l'.length + 1 := by rw [hm]; simp
  have hmx : m[l'.length]? = some x := by rw [hm]; simp
  have hmi : ∀ i y, l'[i]? = some y → m[i]? = some y := fun i y hy => by rw [hm, List.getElem?_append_left (List.getElem?_eq_some_iff.1 hy).1]; exact hy
  rw [← hm] at c1
  have hll : l'.length ≤ 1000000 := by simp at hcl; omega
  clear hr h0 hlast hgv hcg hm
  obtain ⟨s, hs⟩ : ∃ s, s = fmt x := ⟨_, rfl⟩
  have hs0 : 0 < s.length := by rw [hs]; exact fmt_pos x
  have hs9 : s.length ≤ 9 := by rw [hs]; exact fmt_len (k := 9) (by omega) (by decide)
  have c2 := wFmtU x (by omega)
  rw [← hs] at c2 htp
  clear hs
  have u1 : (((m.map dG).length : Int) == 0) = false := by rw [List.length_map, hml]; simp; omega
  have hw1 : IntKind.i64.wrap (((m.map dG).length : Int) - 1) = (l'.length : Int) := by rw [List.length_map, wrapI _ (by omega)]; omega
  have hw2 : IntKind.i64.wrap (((m.map dG).length : Int) - 2) = (l'.length : Int) - 1 := by rw [List.length_map, wrapI _ (by omega)]; omega
  have ex := ix dG m (l'.length : Int) l'.length x rfl hmx
  cases b with
  | true =>
    have hrl : r = [45] ++ s ++ pads l' := by rw [htp]; rfl
    refine pcalls_of_pw Tryz.func60 rfl Tryz.ntmps60 Tryz.results60 (by simp) fun B w0 => ?_
    refine pw_seq ?_; refine pw_region ?_; refine yK (cs := [_, _]) rfl rfl ?_; refine yAd rfl ?_; refine yQ ?_; refine pw_seq ?_; refine pw_region ?_; refine yFb rfl ?_; refine yLd rfl rfl rfl ?_; refine yC (c1) rfl rfl ?_
    refine yAd rfl ?_; refine yQ ?_; refine pw_seq ?_; refine pw_seq ?_; refine pw_region ?_; refine yMd rfl ?_; refine yN rfl ?_; refine yB rfl rfl rfl rfl ?_; refine yQ ?_; refine q_then ?_; rw [u1]; refine pw_cf rfl ?_
    refine pw_skip ?_; refine pw_seq ?_; refine pw_region ?_; refine yQa rfl ?_; refine yQ ?_; refine pw_tokb 4 1 uT 1 rfl rfl rfl rfl ?_; refine pw_seq ?_; refine pw_seq ?_; refine pw_region ?_; refine yFb rfl ?_
    refine yLd rfl rfl rfl ?_; refine yQ ?_; refine pw_ct rfl ?_; refine pw_region ?_; refine yCx (wWbF [] 45 (by simp)) rfl ⟨rfl, trivial⟩ ⟨rfl, trivial⟩ ?_ (hfit := by kernel_rfl); refine yQ ?_; refine pw_seq ?_; refine pw_region ?_
    refine yMd rfl ?_; refine yMd rfl ?_; refine yN rfl ?_; refine yB rfl rfl rfl rfl ?_; rw [hw1]; refine yW ex (by omega) rfl rfl ?_; refine yLr rfl rfl ?_; refine yC (c2) rfl rfl ?_
    refine yCx (wWsU [45] s (by simp) (by omega) hs0) rfl ⟨rfl, trivial⟩ ⟨rfl, trivial⟩ ?_ (hfit := by kernel_rfl); refine yQ ?_; refine pw_seq ?_; refine pw_seq ?_; refine pw_region ?_; refine yMd rfl ?_; refine yN rfl ?_
    refine yB rfl rfl rfl rfl ?_; refine yAd rfl ?_; refine yQ ?_; refine pw_block ?_; rw [hw2]
    refine pw_loop (fun j : Nat => ⟨44, [(3, .d (.sl 1 (m.map dG))), (4, .tx 4 bT 2), (5, .d (dI ((j : Int) - 1)))], [(4, [.tx 4 bT 2, .ts uT 1 (([45] ++ s ++ pads (l'.drop j)).map dY)])], [(uT, (([45] ++ s ++ pads (l'.drop j)).map dY).length)]⟩) (fun j => j ≤ l'.length) (fun j => j) l'.length (Nat.le_refl _)
      ⟨rfl, ⟨.refl _, .refl _, .refl _, trivial⟩, ⟨⟨_, rfl, .refl _, .of_eq (by simp [pads]), trivial⟩, trivial⟩, ⟨(by first | (simp [pads]; done) | (simp [pads]; rfl)), trivial⟩, rfl⟩ ?_
    intro j hj
    rcases Nat.eq_zero_or_pos j with h0 | h0
    · subst h0
      have u2 : decide (((0 : Nat) : Int) - 1 ≥ 0) = false := decide_eq_false (by omega)
      rw [List.drop_zero, ← hrl]
      have hr0 : r ≠ [] := by rw [hrl]; intro e; have := congrArg List.length e; rw [List.length_append, List.length_append] at this; simp only [List.length_nil] at this; omega
      refine pw_tx 4 rfl ?_; refine pw_seq ?_; refine pw_seq ?_; refine pw_region ?_; refine yMd rfl ?_; refine yB rfl rfl rfl rfl ?_; refine yQ ?_; refine pw_cf rfl ?_; refine pw_exit ?_; refine pw_seq ?_; refine pw_region ?_
      refine yStr (l := r) Tryz.bst bExtraS rfl rfl hr0 rfl rfl rfl rfl ?_; refine yAd rfl ?_; refine yQ ?_; refine pw_ret ?_; rw [u2]
      exact q_ret _ (.tmp rfl .nil) rfl
    obtain ⟨i, rfl⟩ : ∃ i, j = i + 1 := ⟨j - 1, by omega⟩
    have u2 : decide (((i + 1 : Nat) : Int) - 1 ≥ 0) = true := decide_eq_true (by omega)
    obtain ⟨y, hy⟩ : ∃ y, l'[i]? = some y := ⟨_, List.getElem?_eq_getElem (by omega)⟩
    have ey := ix dG m (((i + 1 : Nat) : Int) - 1) i y (by omega) (hmi i y hy)
    have hyl := hy9 i y hy
    have hnx := pads_next hy
    have hfp := fmt_pad (k := 9) (n := y) (by omega) (by decide)
    have hfl := fmt_len (k := 9) (n := y) (by omega) (by decide)
    have c3 := wFmtU y (by omega)
    obtain ⟨t, ht⟩ : ∃ t, t = fmt y := ⟨_, rfl⟩
    rw [← ht] at c3 hfp hfl
    have c4 := wRepeat (9 - t.length) (by omega)
    obtain ⟨z, hz⟩ : ∃ z, z = List.replicate (9 - t.length) (48 : UInt8) := ⟨_, rfl⟩
    have hzl : z.length = 9 - t.length := by rw [hz]; simp
    rw [← hz] at c4 hfp
    have hw3 : IntKind.i64.wrap (9 - (t.length : Int)) = ((9 - t.length : Nat) : Int) := by rw [wrapI _ (by omega)]; omega
    have hw4 : IntKind.i64.wrap (((i + 1 : Nat) : Int) - 1 - 1) = (i : Int) - 1 := by rw [wrapI _ (by omega)]; omega
    have hpl : (pads (l'.drop (i + 1))).length ≤ 9000000 := by rw [pads_length, List.length_drop]; omega
    obtain ⟨p, hp⟩ : ∃ p, p = pads (l'.drop (i + 1)) := ⟨_, rfl⟩
    rw [← hp] at hnx hpl ⊢
    refine pw_seq ?_; refine pw_seq ?_; refine pw_region ?_; refine yMd rfl ?_; refine yB rfl rfl rfl rfl ?_; refine yQ ?_; refine q_then ?_; rw [u2]; refine pw_ct rfl ?_; refine pw_skip ?_; refine pw_seq ?_; refine pw_block ?_
    refine pw_seq ?_; refine pw_region ?_; refine yMd rfl ?_; refine yMd rfl ?_; refine yW ey (by omega) rfl rfl ?_; refine yLr rfl rfl ?_; refine yC (c3) rfl rfl ?_; refine yAd rfl ?_; refine yQ ?_; refine pw_region ?_
    refine yMd rfl ?_; refine yNs rfl ?_; refine yB rfl rfl rfl rfl ?_; rw [hw3]; refine yC (c4) rfl rfl ?_; refine yMd rfl ?_; refine yBsa (l1 := z) (l2 := t) (by omega) rfl rfl ?_
    refine yCx (wWsU ([45] ++ s ++ p) (z ++ t) (by simp; omega) (by simp; omega) (by simp; omega)) rfl ⟨rfl, trivial⟩ ⟨rfl, trivial⟩ ?_ (hfit := by kernel_rfl); refine yQ ?_; refine pw_region ?_; refine yMd rfl ?_
    refine yB rfl rfl rfl rfl ?_; refine yAd rfl ?_; refine yQ ?_; refine q_then ?_; rw [hw4]
    refine ⟨i, by omega, by omega, rfl, ⟨.refl _, .refl _, .refl _, trivial⟩, ⟨⟨_, rfl, .refl _, .of_eq ?_, trivial⟩, trivial⟩, ⟨?_, trivial⟩, rfl⟩
    · rw [hnx, hfp, List.append_assoc ([45] ++ s) p]
    · rw [hnx, hfp, List.append_assoc ([45] ++ s) p]; rfl
  | false =>
    have hrl : r = ([] : Str) ++ s ++ pads l' := by rw [htp]; rfl
    refine pcalls_of_pw Tryz.func60 rfl Tryz.ntmps60 Tryz.results60 (by simp) fun B w0 => ?_
    refine pw_seq ?_; refine pw_region ?_; refine yK (cs := [_, _]) rfl rfl ?_; refine yAd rfl ?_; refine yQ ?_; refine pw_seq ?_; refine pw_region ?_; refine yFb rfl ?_; refine yLd rfl rfl rfl ?_; refine yC (c1) rfl rfl ?_
    refine yAd rfl ?_; refine yQ ?_; refine pw_seq ?_; refine pw_seq ?_; refine pw_region ?_; refine yMd rfl ?_; refine yN rfl ?_; refine yB rfl rfl rfl rfl ?_; refine yQ ?_; refine q_then ?_; rw [u1]; refine pw_cf rfl ?_
    refine pw_skip ?_; refine pw_seq ?_; refine pw_region ?_; refine yQa rfl ?_; refine yQ ?_; refine pw_tokb 4 1 uT 1 rfl rfl rfl rfl ?_; refine pw_seq ?_; refine pw_seq ?_; refine pw_region ?_; refine yFb rfl ?_
    refine yLd rfl rfl rfl ?_; refine yQ ?_; refine pw_cf rfl ?_; refine pw_skip ?_; refine pw_seq ?_; refine pw_region ?_; refine yMd rfl ?_; refine yMd rfl ?_; refine yN rfl ?_; refine yB rfl rfl rfl rfl ?_; rw [hw1]
    refine yW ex (by omega) rfl rfl ?_; refine yLr rfl rfl ?_; refine yC (c2) rfl rfl ?_; refine yCx (wWsF [] s (by simp) (by omega) hs0) rfl ⟨rfl, trivial⟩ ⟨rfl, trivial⟩ ?_ (hfit := by kernel_rfl); refine yQ ?_; refine pw_seq ?_
    refine pw_seq ?_; refine pw_region ?_; refine yMd rfl ?_; refine yN rfl ?_; refine yB rfl rfl rfl rfl ?_; refine yAd rfl ?_; refine yQ ?_; refine pw_block ?_; rw [hw2]
    refine pw_loop (fun j : Nat => ⟨44, [(3, .d (.sl 1 (m.map dG))), (4, .tx 4 bT 2), (5, .d (dI ((j : Int) - 1)))], [(4, [.tx 4 bT 2, .ts uT 1 ((([] : Str) ++ s ++ pads (l'.drop j)).map dY)])], [(uT, ((([] : Str) ++ s ++ pads (l'.drop j)).map dY).length)]⟩) (fun j => j ≤ l'.length) (fun j => j) l'.length (Nat.le_refl _)
      ⟨rfl, ⟨.refl _, .refl _, .refl _, trivial⟩, ⟨⟨_, rfl, .refl _, .of_eq (by simp [pads]), trivial⟩, trivial⟩, ⟨(by first | (simp [pads]; done) | (simp [pads]; rfl)), trivial⟩, rfl⟩ ?_
    intro j hj
    rcases Nat.eq_zero_or_pos j with h0 | h0
    · subst h0
      have u2 : decide (((0 : Nat) : Int) - 1 ≥ 0) = false := decide_eq_false (by omega)
      rw [List.drop_zero, ← hrl]
      have hr0 : r ≠ [] := by rw [hrl]; intro e; have := congrArg List.length e; rw [List.length_append, List.length_append] at this; simp only [List.length_nil] at this; omega
      refine pw_tx 4 rfl ?_; refine pw_seq ?_; refine pw_seq ?_; refine pw_region ?_; refine yMd rfl ?_; refine yB rfl rfl rfl rfl ?_; refine yQ ?_; refine pw_cf rfl ?_; refine pw_exit ?_; refine pw_seq ?_; refine pw_region ?_
      refine yStr (l := r) Tryz.bst bExtraS rfl rfl hr0 rfl rfl rfl rfl ?_; refine yAd rfl ?_; refine yQ ?_; refine pw_ret ?_; rw [u2]
      exact q_ret _ (.tmp rfl .nil) rfl
    obtain ⟨i, rfl⟩ : ∃ i, j = i + 1 := ⟨j - 1, by omega⟩
    have u2 : decide (((i + 1 : Nat) : Int) - 1 ≥ 0) = true := decide_eq_true (by omega)
    obtain ⟨y, hy⟩ : ∃ y, l'[i]? = some y := ⟨_, List.getElem?_eq_getElem (by omega)⟩
    have ey := ix dG m (((i + 1 : Nat) : Int) - 1) i y (by omega) (hmi i y hy)
    have hyl := hy9 i y hy
    have hnx := pads_next hy
    have hfp := fmt_pad (k := 9) (n := y) (by omega) (by decide)
    have hfl := fmt_len (k := 9) (n := y) (by omega) (by decide)
    have c3 := wFmtU y (by omega)
    obtain ⟨t, ht⟩ : ∃ t, t = fmt y := ⟨_, rfl⟩
    rw [← ht] at c3 hfp hfl
    have c4 := wRepeat (9 - t.length) (by omega)
    obtain ⟨z, hz⟩ : ∃ z, z = List.replicate (9 - t.length) (48 : UInt8) := ⟨_, rfl⟩
    have hzl : z.length = 9 - t.length := by rw [hz]; simp
    rw [← hz] at c4 hfp
    have hw3 : IntKind.i64.wrap (9 - (t.length : Int)) = ((9 - t.length : Nat) : Int) := by rw [wrapI _ (by omega)]; omega
    have hw4 : IntKind.i64.wrap (((i + 1 : Nat) : Int) - 1 - 1) = (i : Int) - 1 := by rw [wrapI _ (by omega)]; omega
    have hpl : (pads (l'.drop (i + 1))).length ≤ 9000000 := by rw [pads_length, List.length_drop]; omega
    obtain ⟨p, hp⟩ : ∃ p, p = pads (l'.drop (i + 1)) := ⟨_, rfl⟩
    rw [← hp] at hnx hpl ⊢
    refine pw_seq ?_; refine pw_seq ?_; refine pw_region ?_; refine yMd rfl ?_; refine yB rfl rfl rfl rfl ?_; refine yQ ?_; refine q_then ?_; rw [u2]; refine pw_ct rfl ?_; refine pw_skip ?_; refine pw_seq ?_; refine pw_block ?_
    refine pw_seq ?_; refine pw_region ?_; refine yMd rfl ?_; refine yMd rfl ?_; refine yW ey (by omega) rfl rfl ?_; refine yLr rfl rfl ?_; refine yC (c3) rfl rfl ?_; refine yAd rfl ?_; refine yQ ?_; refine pw_region ?_
    refine yMd rfl ?_; refine yNs rfl ?_; refine yB rfl rfl rfl rfl ?_; rw [hw3]; refine yC (c4) rfl rfl ?_; refine yMd rfl ?_; refine yBsa (l1 := z) (l2 := t) (by omega) rfl rfl ?_
    refine yCx (wWsU (([] : Str) ++ s ++ p) (z ++ t) (by simp; omega) (by simp; omega) (by simp; omega)) rfl ⟨rfl, trivial⟩ ⟨rfl, trivial⟩ ?_ (hfit := by kernel_rfl); refine yQ ?_; refine pw_region ?_; refine yMd rfl ?_
    refine yB rfl rfl rfl rfl ?_; refine yAd rfl ?_; refine yQ ?_; refine q_then ?_; rw [hw4]
    refine ⟨i, by omega, by omega, rfl, ⟨.refl _, .refl _, .refl _, trivial⟩, ⟨⟨_, rfl, .refl _, .of_eq ?_, trivial⟩, trivial⟩, ⟨?_, trivial⟩, rfl⟩
    · rw [hnx, hfp, List.append_assoc (([] : Str) ++ s) p]
    · rw [hnx, hfp, List.append_assoc (([] : Str) ++ s) p]; rfl
end Go.Proofs.YtmfeinilbjfnpaaGreatDoor
namespace Go.Proofs.YtmfeinilbjfnpaaGreatDoor
open Go.RowKit Px

namespace Px
section
variable {P : Program} {sq : Bool} {ops : Array Oper} {K : PS → Prop} {rest : List Oper} {st : PS} {d : Option Nat} {ty : TypeId} {pos : String} {af : Array Edge} {gd : Option (Nat × Bool)}
theorem run_eql_bool (t : Nat) (o1 o2 : Operand) (a b : Bool) (hp : P.underlying t = some .bool) (w : World) : (eqGuard .eql t o1 o2 (.bool a) (.bool b) >>= fun _ => binOp .eql t (.bool a) (.bool b)).run P w = .ok (.bool (a == b)) w := by
  simp [eqGuard, binOp, go_sem, run_equal_bool w t a b hp]
theorem yBb {t t' : Nat} {x y : Operand} {a b c : Bool} (hp : P.underlying t = some .bool) (hc : (a == b) = c) (hx : st.ev x = .d (.val (.bool a))) (hy : st.ev y = .d (.val (.bool b))) (h : YR P sq ops K rest (st.put d (.d (.val (.bool c))))) (hd : dstOk ⟨d, .binOp .eql t x y t', ty, pos, af, gd⟩ st = true := by kernel_rfl) (hk : opOk ⟨d, .binOp .eql t x y t', ty, pos, af, gd⟩ st .no = true := by kernel_rfl) (hw : st.want ops ⟨d, .binOp .eql t x y t', ty, pos, af, gd⟩ = some true := by rfl) :
    YR P sq ops K (⟨d, .binOp .eql t x y t', ty, pos, af, gd⟩ :: rest) st := by
  subst hc
  exact yr_v (ls_bin_run .eql t t' x y hx hy (run_eql_bool t x y a b hp) rfl hd) hk hw h
end
end Px
set_option maxRecDepth 20000 in
set_option maxHeartbeats 1000000 in
theorem wMinusN : PCalls Tryz.prog 87 [.val (.slice none 0 0), .val (.slice none 0 0)] (.d (.sl 1 [])) := by
  have c1 := wCloneNil
  have c2 : PCalls Tryz.prog 89 [.val (.slice none 0 0)] (.d (.sl 1 [])) := mg1 (m := []) (wCut [] (by simp))
  refine pcalls_of_pw Tryz.func87 rfl Tryz.ntmps87 Tryz.results87 (by simp) fun B w0 => ?_
  refine pw_seq ?_; refine pw_region ?_; refine yAd rfl ?_; refine yQ ?_; refine pw_seq ?_; refine pw_region ?_; refine yMd rfl ?_; refine yC (c1) rfl rfl ?_; refine yAd rfl ?_; refine yQ ?_; refine pw_seq ?_; refine pw_region ?_
  refine yAd rfl ?_; refine yQ ?_; refine pw_seq ?_; refine pw_seq ?_; refine pw_region ?_; refine yMd rfl ?_; refine yNl rfl ?_; refine yMd rfl ?_; refine yQ ?_; refine pw_block ?_
  refine pw_loop (fun i : Nat => ⟨49, [(5, .d (.val (.slice none 0 0))), (12, .d (dI 0)), (13, .d (dI 0))], [], []⟩) (fun i => i = 0) (fun i => i) 0 rfl ⟨rfl, ⟨.refl _, .refl _, .refl _, trivial⟩, trivial, trivial, rfl⟩ ?_
  intro i hi
  refine pw_seq ?_; refine pw_region ?_; refine yB rfl rfl rfl rfl ?_; refine yQ ?_; refine pw_seq ?_; refine pw_cf rfl ?_; refine pw_exit ?_; refine pw_seq ?_; refine pw_region ?_; refine yMd rfl ?_; refine yC (c2) rfl rfl ?_
  refine yAd rfl ?_; refine yQ ?_; refine pw_ret ?_
  exact q_ret _ (.tmp rfl .nil) rfl
/-- the difference of two magnitudes as they are read -/
theorem wMinus (m n : List Nat) (hgm : gok m) (hgn : gok n) (hle : n.length ≤ m.length) (hlm : m.length ≤ 1000000) : PCalls Tryz.prog 87 [dMg m, dMg n] (.d (.sl 1 ((cutG (subS m n m.length).1).map dG))) := by
  cases m with
  | nil =>
    have hn : n = [] := List.length_eq_zero_iff.1 (Nat.le_zero.1 hle)
    subst hn
    exact wMinusN
  | cons x m => exact mg2 (wMinusP (x :: m) n hgm hgn (by simp) hlm)

/-- the sum of two numbers -/
def addN (b1 : Bool) (l1 : List Nat) (b2 : Bool) (l2 : List Nat) : Bool × List Nat :=
  if b1 = b2 then (b1, plusG l1 l2) else if cmpG l1 l2 < 0 then (b2, cutG (subS l2 l1 l2.length).1) else (b1, cutG (subS l1 l2 l1.length).1)
theorem grp_len_le {x y : Nat} (h : x ≤ y) : (grp x).length ≤ (grp y).length := by
  rcases Nat.lt_or_ge (grp y).length (grp x).length with h1 | h1
  · have := grp_lt_of_len h1
    omega
  · exact h1
theorem sub_grp {x y : Nat} (h : y ≤ x) : gok (cutG (subS (grp x) (grp y) (grp x).length).1) ∧ gval (cutG (subS (grp x) (grp y) (grp x).length).1) = x - y := by
  have h1 := subS_end (gok_grp x) (gok_grp y) (grp_len_le h) (by rw [gval_grp, gval_grp]; exact h)
  rw [gval_grp, gval_grp] at h1
  exact ⟨cutG_gok h1.1, by rw [cutG_gval]; exact h1.2⟩
theorem addN_spec (b1 b2 : Bool) (x y : Nat) : gok (addN b1 (grp x) b2 (grp y)).2 ∧ sg (addN b1 (grp x) b2 (grp y)).1 (gval (addN b1 (grp x) b2 (grp y)).2) = sg b1 x + sg b2 y := by
  unfold addN
  by_cases h : b1 = b2
  · rw [if_pos h]
    subst h
    obtain ⟨h1, h2⟩ := plusG_spec (gok_grp x) (gok_grp y)
    refine ⟨h1, ?_⟩
    rw [h2, gval_grp, gval_grp]
    cases b1 <;> simp [sg] <;> omega
  · rw [if_neg h]
    have hc := (cmpG_spec x y).1
    by_cases hlt : cmpG (grp x) (grp y) < 0
    · rw [if_pos hlt]
      have hxy := hc.1 hlt
      obtain ⟨h1, h2⟩ := sub_grp (Nat.le_of_lt hxy)
      refine ⟨h1, ?_⟩
      show sg b2 (gval _) = _
      rw [h2]
      cases b1 <;> cases b2 <;> simp [sg] at h ⊢ <;> omega
    · rw [if_neg hlt]
      have hxy : y ≤ x := by
        rcases Nat.lt_or_ge x y with h3 | h3
        · exact absurd (hc.2 h3) hlt
        · exact h3
      obtain ⟨h1, h2⟩ := sub_grp hxy
      refine ⟨h1, ?_⟩
      show sg b1 (gval _) = _
      rw [h2]
      cases b1 <;> cases b2 <;> simp [sg] at h ⊢ <;> omega
theorem addN_len (b1 b2 : Bool) {l1 l2 : List Nat} (h1 : gok l1) (h2 : gok l2) : (addN b1 l1 b2 l2).2.length ≤ l1.length + l2.length + 1 := by
  unfold addN
  split
  · have := (addS_spec h1 h2 (max l1.length l2.length)).1
    unfold plusG
    show List.length (_ ++ _) ≤ _
    rw [List.length_append, this]
    split <;> simp <;> omega
  · split
    · have := cutG_len (subS l2 l1 l2.length).1
      have h3 := (subS_spec h2 h1 l2.length).1
      show List.length (cutG _) ≤ _
      omega
    · have := cutG_len (subS l1 l2 l1.length).1
      have h3 := (subS_spec h1 h2 l1.length).1
      show List.length (cutG _) ≤ _
      omega

set_option maxRecDepth 20000 in
set_option maxHeartbeats 2000000 in
theorem wNAdd (b1 b2 : Bool) (x y : Nat) (h1 : (grp x).length ≤ 1000000) (h2 : (grp y).length ≤ 1000000) : PCalls Tryz.prog 58 [.agg (dNm b1 (grp x)), .agg (dNm b2 (grp y))] (.d (.agg (dNum (addN b1 (grp x) b2 (grp y)).1 (addN b1 (grp x) b2 (grp y)).2))) := by
  have c1 := mg2 (wPlus (grp x) (grp y) (gok_grp x) (gok_grp y) h1 h2)
  have c2 := mg2 (wCompare (grp x) (grp y) h1 h2)
  have hc := (cmpG_spec x y).1
  have c3 : ¬ cmpG (grp x) (grp y) < 0 → PCalls Tryz.prog 87 [dMg (grp x), dMg (grp y)] _ := fun h => wMinus (grp x) (grp y) (gok_grp x) (gok_grp y) (grp_len_le (by
    rcases Nat.lt_or_ge x y with h3 | h3
    · exact absurd (hc.2 h3) h
    · exact h3)) h1
  have c4 : cmpG (grp x) (grp y) < 0 → PCalls Tryz.prog 87 [dMg (grp y), dMg (grp x)] _ := fun h => wMinus (grp y) (grp x) (gok_grp y) (gok_grp x) (grp_len_le (Nat.le_of_lt (hc.1 h))) h2
  unfold addN
  obtain ⟨z1, hz1⟩ : ∃ z, z = plusG (grp x) (grp y) := ⟨_, rfl⟩
  obtain ⟨z2, hz2⟩ : ∃ z, z = cutG (subS (grp y) (grp x) (grp y).length).1 := ⟨_, rfl⟩
  obtain ⟨z3, hz3⟩ : ∃ z, z = cutG (subS (grp x) (grp y) (grp x).length).1 := ⟨_, rfl⟩
  rw [← hz1] at c1
  rw [← hz2] at c4
  rw [← hz3] at c3
  rw [← hz1, ← hz2, ← hz3]
  obtain ⟨k, hk⟩ : ∃ k, k = cmpG (grp x) (grp y) := ⟨_, rfl⟩
  rw [← hk] at c2 c3 c4 ⊢
  obtain ⟨dx, hdx⟩ : ∃ d, d = dMg (grp x) := ⟨_, rfl⟩
  obtain ⟨dy, hdy⟩ : ∃ d, d = dMg (grp y) := ⟨_, rfl⟩
  rw [← hdx, ← hdy] at c1 c2 c3 c4
  rw [dNm, dNm, ← hdx, ← hdy]
  clear hz1 hz2 hz3 hk hdx hdy hc
  cases b1 <;> cases b2
  · rw [if_pos rfl]
    refine pcalls_of_pw Tryz.func58 rfl Tryz.ntmps58 Tryz.results58 (by simp) fun B w0 => ?_
    refine pw_seq ?_; refine pw_region ?_; refine yK (cs := [_, _]) rfl rfl ?_; refine yK (cs := [_, _]) rfl rfl ?_; refine yZ (cs := [_, _]) rfl rfl ?_; refine yQ ?_; refine pw_seq ?_; refine pw_seq ?_; refine pw_region ?_
    refine yFb rfl ?_; refine yLd rfl rfl rfl ?_; refine yFb rfl ?_; refine yLd rfl rfl rfl ?_; refine yBb (c := true) Tryz.underlying4 rfl rfl rfl ?_; refine yQ ?_; refine pw_ct rfl ?_; refine pw_seq ?_
    refine pw_draw2 (id := 2) Tryz.mixed (by kernel_rfl) ?_; refine yFb rfl ?_; refine yLd rfl rfl rfl ?_; refine yFb rfl ?_; refine yLd rfl rfl rfl ?_; refine yFb rfl ?_; refine yLd rfl rfl rfl ?_; refine yC (c1) rfl rfl ?_
    refine yG (ys := [_, _]) rfl rfl ?_; refine yS (cs' := [_, _]) rfl rfl rfl rfl rfl ?_; refine yQ ?_; refine Px.Sep.mk (by kernel_rfl) ?_; refine pw_ret ?_; refine q_then_ret ?_
    exact q_ret _ (.agg inferInstance rfl rfl rfl rfl .nil) rfl
  · rw [if_neg (by decide)]
    by_cases hk : k < 0
    · rw [if_pos hk]
      have c4 := c4 hk
      have u : decide (k < 0) = true := decide_eq_true hk
      refine pcalls_of_pw Tryz.func58 rfl Tryz.ntmps58 Tryz.results58 (by simp) fun B w0 => ?_
      refine pw_seq ?_; refine pw_region ?_; refine yK (cs := [_, _]) rfl rfl ?_; refine yK (cs := [_, _]) rfl rfl ?_; refine yZ (cs := [_, _]) rfl rfl ?_; refine yQ ?_; refine pw_seq ?_; refine pw_seq ?_; refine pw_region ?_
      refine yFb rfl ?_; refine yLd rfl rfl rfl ?_; refine yFb rfl ?_; refine yLd rfl rfl rfl ?_; refine yBb (c := false) Tryz.underlying4 rfl rfl rfl ?_; refine yQ ?_; refine pw_cf rfl ?_; refine pw_skip ?_; refine pw_seq ?_
      refine pw_seq ?_; refine pw_region ?_; refine yFb rfl ?_; refine yLd rfl rfl rfl ?_; refine yFb rfl ?_; refine yLd rfl rfl rfl ?_; refine yC (c2) rfl rfl ?_; refine yB rfl rfl rfl rfl ?_; refine yQ ?_; refine q_then ?_; rw [u]
      refine pw_ct rfl ?_; refine pw_region ?_; refine yLa (ys := [_, _]) rfl rfl rfl rfl ?_; refine yLa (ys := [_, _]) rfl rfl rfl rfl ?_; refine yS (cs' := [_, _]) rfl rfl rfl rfl rfl ?_; refine yS (cs' := [_, _]) rfl rfl rfl rfl rfl ?_
      refine yQ ?_; refine pw_seq ?_; refine pw_draw2 (id := 5) Tryz.mixed (by kernel_rfl) ?_; refine yFb rfl ?_; refine yLd rfl rfl rfl ?_; refine yFb rfl ?_; refine yLd rfl rfl rfl ?_; refine yFb rfl ?_; refine yLd rfl rfl rfl ?_
      refine yC (c4) rfl rfl ?_; refine yG (ys := [_, _]) rfl rfl ?_; refine yS (cs' := [_, _]) rfl rfl rfl rfl rfl ?_; refine yQ ?_; refine Px.Sep.mk (by kernel_rfl) ?_; refine pw_ret ?_
      exact q_ret _ (.agg inferInstance rfl rfl rfl rfl .nil) rfl
    · rw [if_neg hk]
      have c3 := c3 hk
      have u : decide (k < 0) = false := decide_eq_false hk
      refine pcalls_of_pw Tryz.func58 rfl Tryz.ntmps58 Tryz.results58 (by simp) fun B w0 => ?_
      refine pw_seq ?_; refine pw_region ?_; refine yK (cs := [_, _]) rfl rfl ?_; refine yK (cs := [_, _]) rfl rfl ?_; refine yZ (cs := [_, _]) rfl rfl ?_; refine yQ ?_; refine pw_seq ?_; refine pw_seq ?_; refine pw_region ?_
      refine yFb rfl ?_; refine yLd rfl rfl rfl ?_; refine yFb rfl ?_; refine yLd rfl rfl rfl ?_; refine yBb (c := false) Tryz.underlying4 rfl rfl rfl ?_; refine yQ ?_; refine pw_cf rfl ?_; refine pw_skip ?_; refine pw_seq ?_
      refine pw_seq ?_; refine pw_region ?_; refine yFb rfl ?_; refine yLd rfl rfl rfl ?_; refine yFb rfl ?_; refine yLd rfl rfl rfl ?_; refine yC (c2) rfl rfl ?_; refine yB rfl rfl rfl rfl ?_; refine yQ ?_; refine q_then ?_; rw [u]
      refine pw_cf rfl ?_; refine pw_skip ?_; refine pw_seq ?_; refine pw_draw2 (id := 5) Tryz.mixed (by kernel_rfl) ?_; refine yFb rfl ?_; refine yLd rfl rfl rfl ?_; refine yFb rfl ?_; refine yLd rfl rfl rfl ?_; refine yFb rfl ?_
      refine yLd rfl rfl rfl ?_; refine yC (c3) rfl rfl ?_; refine yG (ys := [_, _]) rfl rfl ?_; refine yS (cs' := [_, _]) rfl rfl rfl rfl rfl ?_; refine yQ ?_; refine Px.Sep.mk (by kernel_rfl) ?_; refine pw_ret ?_
      exact q_ret _ (.agg inferInstance rfl rfl rfl rfl .nil) rfl
  · rw [if_neg (by decide)]
    by_cases hk : k < 0
    · rw [if_pos hk]
      have c4 := c4 hk
      have u : decide (k < 0) = true := decide_eq_true hk
      refine pcalls_of_pw Tryz.func58 rfl Tryz.ntmps58 Tryz.results58 (by simp) fun B w0 => ?_
      refine pw_seq ?_; refine pw_region ?_; refine yK (cs := [_, _]) rfl rfl ?_; refine yK (cs := [_, _]) rfl rfl ?_; refine yZ (cs := [_, _]) rfl rfl ?_; refine yQ ?_; refine pw_seq ?_; refine pw_seq ?_; refine pw_region ?_
      refine yFb rfl ?_; refine yLd rfl rfl rfl ?_; refine yFb rfl ?_; refine yLd rfl rfl rfl ?_; refine yBb (c := false) Tryz.underlying4 rfl rfl rfl ?_; refine yQ ?_; refine pw_cf rfl ?_; refine pw_skip ?_; refine pw_seq ?_
      refine pw_seq ?_; refine pw_region ?_; refine yFb rfl ?_; refine yLd rfl rfl rfl ?_; refine yFb rfl ?_; refine yLd rfl rfl rfl ?_; refine yC (c2) rfl rfl ?_; refine yB rfl rfl rfl rfl ?_; refine yQ ?_; refine q_then ?_; rw [u]
      refine pw_ct rfl ?_; refine pw_region ?_; refine yLa (ys := [_, _]) rfl rfl rfl rfl ?_; refine yLa (ys := [_, _]) rfl rfl rfl rfl ?_; refine yS (cs' := [_, _]) rfl rfl rfl rfl rfl ?_; refine yS (cs' := [_, _]) rfl rfl rfl rfl rfl ?_
      refine yQ ?_; refine pw_seq ?_; refine pw_draw2 (id := 5) Tryz.mixed (by kernel_rfl) ?_; refine yFb rfl ?_; refine yLd rfl rfl rfl ?_; refine yFb rfl ?_; refine yLd rfl rfl rfl ?_; refine yFb rfl ?_; refine yLd rfl rfl rfl ?_
      refine yC (c4) rfl rfl ?_; refine yG (ys := [_, _]) rfl rfl ?_; refine yS (cs' := [_, _]) rfl rfl rfl rfl rfl ?_; refine yQ ?_; refine Px.Sep.mk (by kernel_rfl) ?_; refine pw_ret ?_
      exact q_ret _ (.agg inferInstance rfl rfl rfl rfl .nil) rfl
    · rw [if_neg hk]
      have c3 := c3 hk
      have u : decide (k < 0) = false := decide_eq_false hk
      refine pcalls_of_pw Tryz.func58 rfl Tryz.ntmps58 Tryz.results58 (by simp) fun B w0 => ?_
      refine pw_seq ?_; refine pw_region ?_; refine yK (cs := [_, _]) rfl rfl ?_; refine yK (cs := [_, _]) rfl rfl ?_; refine yZ (cs := [_, _]) rfl rfl ?_; refine yQ ?_; refine pw_seq ?_; refine pw_seq ?_; refine pw_region ?_
      refine yFb rfl ?_; refine yLd rfl rfl rfl ?_; refine yFb rfl ?_; refine yLd rfl rfl rfl ?_; refine yBb (c := false) Tryz.underlying4 rfl rfl rfl ?_; refine yQ ?_; refine pw_cf rfl ?_; refine pw_skip ?_; refine pw_seq ?_
      refine pw_seq ?_; refine pw_region ?_; refine yFb rfl ?_; refine yLd rfl rfl rfl ?_; refine yFb rfl ?_; refine yLd rfl rfl rfl ?_; refine yC (c2) rfl rfl ?_; refine yB rfl rfl rfl rfl ?_; refine yQ ?_; refine q_then ?_; rw [u]
      refine pw_cf rfl ?_; refine pw_skip ?_; refine pw_seq ?_; refine pw_draw2 (id := 5) Tryz.mixed (by kernel_rfl) ?_; refine yFb rfl ?_; refine yLd rfl rfl rfl ?_; refine yFb rfl ?_; refine yLd rfl rfl rfl ?_; refine yFb rfl ?_
      refine yLd rfl rfl rfl ?_; refine yC (c3) rfl rfl ?_; refine yG (ys := [_, _]) rfl rfl ?_; refine yS (cs' := [_, _]) rfl rfl rfl rfl rfl ?_; refine yQ ?_; refine Px.Sep.mk (by kernel_rfl) ?_; refine pw_ret ?_
      exact q_ret _ (.agg inferInstance rfl rfl rfl rfl .nil) rfl
  · rw [if_pos rfl]
    refine pcalls_of_pw Tryz.func58 rfl Tryz.ntmps58 Tryz.results58 (by simp) fun B w0 => ?_
    refine pw_seq ?_; refine pw_region ?_; refine yK (cs := [_, _]) rfl rfl ?_; refine yK (cs := [_, _]) rfl rfl ?_; refine yZ (cs := [_, _]) rfl rfl ?_; refine yQ ?_; refine pw_seq ?_; refine pw_seq ?_; refine pw_region ?_
    refine yFb rfl ?_; refine yLd rfl rfl rfl ?_; refine yFb rfl ?_; refine yLd rfl rfl rfl ?_; refine yBb (c := true) Tryz.underlying4 rfl rfl rfl ?_; refine yQ ?_; refine pw_ct rfl ?_; refine pw_seq ?_
    refine pw_draw2 (id := 2) Tryz.mixed (by kernel_rfl) ?_; refine yFb rfl ?_; refine yLd rfl rfl rfl ?_; refine yFb rfl ?_; refine yLd rfl rfl rfl ?_; refine yFb rfl ?_; refine yLd rfl rfl rfl ?_; refine yC (c1) rfl rfl ?_
    refine yG (ys := [_, _]) rfl rfl ?_; refine yS (cs' := [_, _]) rfl rfl rfl rfl rfl ?_; refine yQ ?_; refine Px.Sep.mk (by kernel_rfl) ?_; refine pw_ret ?_; refine q_then_ret ?_
    exact q_ret _ (.agg inferInstance rfl rfl rfl rfl .nil) rfl
theorem val_sg (a : Str) : val a = sg (dgs a).2 (natOf (dgs a).1) := by
  unfold val sg
  rfl
theorem rdG_dgs (a : Str) : rdG (dgs a).1 = grp (natOf (dgs a).1) := rdG_grp (dgs_all a) (dgs_head a)
set_option maxRecDepth 20000 in
set_option maxHeartbeats 1000000 in
theorem wAddT (a b : Str) (ha : a.length ≤ 100000) (hb : b.length ≤ 100000) : PCalls Tryz.prog 26 [dS a, dS b] (.d (dS (canon (val a + val b)))) := by
  have c1 := wReadM a (by omega)
  have c2 := wReadM b (by omega)
  have h1 := Nat.le_trans (rdG_size (dgs a).1) (dgs_len a)
  have h2 := Nat.le_trans (rdG_size (dgs b).1) (dgs_len b)
  rw [rdG_dgs] at c1 c2 h1 h2
  have c3 := wNAdd (dgs a).2 (dgs b).2 (natOf (dgs a).1) (natOf (dgs b).1) (by omega) (by omega)
  obtain ⟨s1, s2⟩ := addN_spec (dgs a).2 (dgs b).2 (natOf (dgs a).1) (natOf (dgs b).1)
  have s3 := addN_len (dgs a).2 (dgs b).2 (gok_grp (natOf (dgs a).1)) (gok_grp (natOf (dgs b).1))
  rw [← val_sg, ← val_sg] at s2
  obtain ⟨z, hz⟩ : ∃ z, z = addN (dgs a).2 (grp (natOf (dgs a).1)) (dgs b).2 (grp (natOf (dgs b).1)) := ⟨_, rfl⟩
  rw [← hz] at c3 s1 s2 s3
  have c4 := wText z.1 z.2 s1 (by omega)
  rw [s2] at c4
  obtain ⟨r, hr⟩ : ∃ r, r = canon (val a + val b) := ⟨_, rfl⟩
  rw [← hr] at c4 ⊢
  obtain ⟨n1, hn1⟩ : ∃ d, d = dNm (dgs a).2 (grp (natOf (dgs a).1)) := ⟨_, rfl⟩
  obtain ⟨n2, hn2⟩ : ∃ d, d = dNm (dgs b).2 (grp (natOf (dgs b).1)) := ⟨_, rfl⟩
  obtain ⟨n3, hn3⟩ : ∃ d, d = dNum z.1 z.2 := ⟨_, rfl⟩
  rw [← hn1] at c1 c3
  rw [← hn2] at c2 c3
  rw [← hn3] at c3 c4
  clear hn1 hn2 hn3 hz s1 s2 s3
  refine pcalls_of_pw Tryz.func26 rfl Tryz.ntmps26 Tryz.results26 (by simp) fun B w0 => ?_
  refine pw_seq ?_; refine pw_region ?_; refine yAd rfl ?_; refine yQ ?_; refine pw_seq ?_; refine pw_region ?_; refine yMd rfl ?_; refine yC (c1) rfl rfl ?_; refine yMd rfl ?_; refine yC (c2) rfl rfl ?_; refine yC (c3) rfl rfl ?_
  refine yC (c4) rfl rfl ?_; refine yAd rfl ?_; refine yQ ?_; refine pw_ret ?_
  exact q_ret _ (.tmp rfl .nil) rfl
end Go.Proofs.YtmfeinilbjfnpaaGreatDoor
namespace Go.Proofs.YtmfeinilbjfnpaaGreatDoor
open Go.RowKit Px

namespace Px
section
variable {P : Program} {sq : Bool} {ops : Array Oper} {K : PS → Prop} {rest : List Oper} {st : PS} {d : Option Nat} {ty : TypeId} {pos : String} {af : Array Edge} {gd : Option (Nat × Bool)}
theorem run_neq_bool (t : Nat) (o1 o2 : Operand) (a b : Bool) (hp : P.underlying t = some .bool) (w : World) : (eqGuard .neq t o1 o2 (.bool a) (.bool b) >>= fun _ => binOp .neq t (.bool a) (.bool b)).run P w = .ok (.bool (a != b)) w := by
  cases a <;> cases b <;> simp [eqGuard, binOp, go_sem, run_equal_bool w t _ _ hp]
theorem yBbn {t t' : Nat} {x y : Operand} {a b c : Bool} (hp : P.underlying t = some .bool) (hc : (a != b) = c) (hx : st.ev x = .d (.val (.bool a))) (hy : st.ev y = .d (.val (.bool b))) (h : YR P sq ops K rest (st.put d (.d (.val (.bool c))))) (hd : dstOk ⟨d, .binOp .neq t x y t', ty, pos, af, gd⟩ st = true := by kernel_rfl) (hk : opOk ⟨d, .binOp .neq t x y t', ty, pos, af, gd⟩ st .no = true := by kernel_rfl) (hw : st.want ops ⟨d, .binOp .neq t x y t', ty, pos, af, gd⟩ = some true := by rfl) :
    YR P sq ops K (⟨d, .binOp .neq t x y t', ty, pos, af, gd⟩ :: rest) st := by
  subst hc
  exact yr_v (ls_bin_run .neq t t' x y hx hy (run_neq_bool t x y a b hp) rfl hd) hk hw h
end
end Px
theorem cG_atj {l : List Nat} {j : Nat} (h : j < l.length) : (cG l)[((j : Nat) : Int).toNat * 1]? = some (.d (dU (gat l j))) := by
  rw [Int.toNat_natCast, Nat.mul_one, cG, vG, List.getElem?_map, List.getElem?_map, List.getElem?_eq_getElem h]
  simp [gat, List.getElem?_eq_getElem h]
theorem cG_setj (l : List Nat) (j v : Nat) : (cG l).set (((j : Nat) : Int).toNat * 1) (.d (dU v)) = cG (l.set j v) := by
  rw [Int.toNat_natCast, Nat.mul_one, cG, cG, vG, vG, List.map_set, List.map_set]
theorem cG_ltj {l : List Nat} {j : Nat} (h : j < l.length) : Nat.blt (((j : Nat) : Int).toNat * 1) (cG l).length = true := by
  refine Nat.ble_eq_true_of_le ?_
  simp [cG, vG]
  omega
theorem cG_zero (n : Nat) : List.replicate (n : Int).toNat (SV.d (.val (.int .u64 0))) = cG (List.replicate n 0) := by simp [cG, vG]
theorem mulI_next (out : List Nat) (x : Nat) (n : List Nat) (i k : Nat) : mulI out x n i (k + 1) = ((mulI out x n i k).1.set (i + k) (((mulI out x n i k).2 + (gat (mulI out x n i k).1 (i + k) + x * gat n k)) % 1000000000), ((mulI out x n i k).2 + (gat (mulI out x n i k).1 (i + k) + x * gat n k)) / 1000000000) := rfl
theorem mulR_next (m n : List Nat) (i : Nat) : mulR m n (i + 1) = if n.length = 0 then (mulI (mulR m n i) (gat m i) n i n.length).1 else (mulI (mulR m n i) (gat m i) n i n.length).1.set (i + n.length) (gat (mulI (mulR m n i) (gat m i) n i n.length).1 (i + n.length) + (mulI (mulR m n i) (gat m i) n i n.length).2) := rfl

set_option maxRecDepth 20000 in
set_option maxHeartbeats 4000000 in
theorem wTimes (m n : List Nat) (hgm : gok m) (hgn : gok n) (hlm : m.length ≤ 100000) (hln : n.length ≤ 100000) : PCalls Tryz.prog 61 [.sl 1 (m.map dG), .sl 1 (n.map dG)] (.d (.sl 1 ((cutG (mulR m n m.length)).map dG))) := by
  obtain ⟨r, hr⟩ : ∃ r, r = mulR m n m.length := ⟨_, rfl⟩
  have hrl : r.length = m.length + n.length := by rw [hr, (mulR_spec hgm hgn m.length (Nat.le_refl _)).1]
  have c1 := wCut r (by omega)
  rw [← hr]
  have hw0 : IntKind.i64.wrap (((m.map dG).length : Int) + ((n.map dG).length : Int)) = ((m.length + n.length : Nat) : Int) := by rw [List.length_map, List.length_map, wrapI _ (by omega)]; omega
  refine pcalls_of_pw Tryz.func61 rfl Tryz.ntmps61 Tryz.results61 (by simp) fun B w0 => ?_
  refine pw_seq ?_; refine pw_region ?_; refine yAd rfl ?_; refine yQ ?_; refine pw_seq ?_; refine pw_region ?_; refine yMd rfl ?_; refine yN rfl ?_; refine yMd rfl ?_; refine yN rfl ?_; refine yB rfl rfl rfl rfl ?_; rw [hw0]
  refine yMk (n := ((m.length + n.length : Nat) : Int)) (c := ((m.length + n.length : Nat) : Int)) (by omega) (by omega) (by omega) (by omega) rfl rfl rfl ?_; refine yAw rfl ?_; refine yQ ?_; refine pw_seq ?_; refine pw_seq ?_
  refine pw_region ?_; refine yMd rfl ?_; refine yN rfl ?_; refine yMd rfl ?_; refine yQ ?_; refine pw_block ?_
  refine pw_loop (fun i : Nat => ⟨69, [(1, .d (.sl 1 (n.map dG))), (5, .bs 16 (m.length + n.length) u64T 1), (17, .d (.sl 1 (m.map dG))), (18, .d (dI m.length)), (19, .d (dI i))], [(16, cG (mulR m n i))], []⟩) (fun i => i ≤ m.length) (fun i => m.length - i) 0 (Nat.zero_le _)
    ⟨rfl, ⟨.refl _, .refl _, .refl _, .of_eq (congrArg (fun n : Nat => SV.d (dI n)) (by simp)), .refl _, trivial⟩, ⟨⟨_, rfl, lesC_eq (cG_zero _)⟩, trivial⟩, trivial, by simp [PS.closed, SV.ok, aget, Nat.beq, -List.map_take, -List.map_set, -List.map_append, -List.map_drop]⟩ ?_
  intro i hi
  obtain ⟨h1, h2, -, -⟩ := mulR_spec hgm hgn i hi
  have hnx := mulR_next m n i
  obtain ⟨O, hO⟩ : ∃ O, O = mulR m n i := ⟨_, rfl⟩
  rw [← hO] at h1 h2 hnx ⊢
  rcases Nat.lt_or_ge i m.length with hi2 | hi2
  rotate_left
  · have t1 : decide ((i : Int) < (m.length : Int)) = false := decide_eq_false (by omega)
    obtain rfl : i = m.length := by omega
    have hrO : O = r := hO.trans hr.symm
    subst hrO
    refine pw_frz 5 16 (es := O.map dG) (ds := O.map dU) (by simp; omega) (chunk_cG O h1) (toDs_cG _) rfl rfl ?_; refine pw_seq ?_; refine pw_region ?_; refine yB rfl rfl rfl rfl ?_; refine yQ ?_; refine pw_seq ?_; rw [t1]
    refine pw_cf rfl ?_; refine pw_exit ?_; refine pw_seq ?_; refine pw_region ?_; refine yMd rfl ?_; refine yC (c1) rfl rfl ?_; refine yAd rfl ?_; refine yQ ?_; refine pw_ret ?_
    exact q_ret _ (.tmp rfl .nil) rfl
  have t1 : decide ((i : Int) < (m.length : Int)) = true := decide_eq_true (by omega)
  obtain ⟨x, hx⟩ : ∃ x, m[i]? = some x := ⟨_, List.getElem?_eq_getElem hi2⟩
  have hgx := gat_get hx
  have hx9 : x < 1000000000 := hgm x (List.mem_of_getElem? hx)
  have ex := ix dG m (i : Int) i x rfl hx
  rw [hgx] at hnx
  have hwi := wrapI ((i : Int) + 1) (by omega)
  clear hr c1
  refine pw_seq ?_; refine pw_region ?_; refine yB rfl rfl rfl rfl ?_; refine yQ ?_; refine pw_seq ?_; rw [t1]; refine pw_ct rfl ?_; refine pw_skip ?_; refine pw_seq ?_; refine pw_block ?_; refine pw_seq ?_; refine pw_region ?_
  refine yMd rfl ?_; refine yW ex (by omega) rfl rfl ?_; refine yLr rfl rfl ?_; refine yAd rfl ?_; refine yAd rfl ?_; refine yQ ?_; refine pw_seq ?_; refine pw_region ?_; refine yAd rfl ?_; refine yQ ?_; refine pw_seq ?_
  refine pw_seq ?_; refine pw_region ?_; refine yMd rfl ?_; refine yN rfl ?_; refine yMd rfl ?_; refine yQ ?_; refine pw_block ?_
  refine pw_loop (fun k : Nat => ⟨69, [(1, .d (.sl 1 (n.map dG))), (5, .bs 16 (m.length + n.length) u64T 1), (6, .d (dI i)), (7, .d (dU x)), (8, .d (dU (mulI O x n i k).2)), (17, .d (.sl 1 (m.map dG))), (18, .d (dI m.length)), (19, .d (dI i)), (24, .d (.sl 1 (n.map dG))), (25, .d (dI n.length)), (26, .d (dI k))], [(16, cG (mulI O x n i k).1)], []⟩) (fun k => k ≤ n.length) (fun k => n.length - k) 0 (Nat.zero_le _)
    ⟨rfl, ⟨.refl _, .refl _, .refl _, .refl _, .refl _, .refl _, .refl _, .refl _, .refl _, .of_eq (congrArg (fun n : Nat => SV.d (dI n)) (by simp)), .refl _, trivial⟩, ⟨⟨_, rfl, lesC_eq rfl⟩, trivial⟩, trivial, by simp [PS.closed, SV.ok, aget, Nat.beq, -List.map_take, -List.map_set, -List.map_append, -List.map_drop]⟩ ?_
  intro k hk
  obtain ⟨a1, a2, a3, -, -⟩ := mulI_spec (i := i) h2 hgn hx9 k (by omega)
  have hnk := mulI_next O x n i k
  obtain ⟨⟨p, c⟩, hp⟩ : ∃ q, q = mulI O x n i k := ⟨_, rfl⟩
  rw [← hp] at a1 a2 a3 hnk ⊢
  simp only at a1 a2 a3 hnk ⊢
  rcases Nat.lt_or_ge k n.length with hk2 | hk2
  · have t2 : decide ((k : Int) < (n.length : Int)) = true := decide_eq_true (by omega)
    obtain ⟨y, hy⟩ : ∃ y, n[k]? = some y := ⟨_, List.getElem?_eq_getElem hk2⟩
    have hgy := gat_get hy
    have hy9 : y < 1000000000 := hgn y (List.mem_of_getElem? hy)
    have ey := ix dG n (k : Int) k y rfl hy
    have hgo9 := gat_lt a2 (i + k)
    have hat := cG_atj (l := p) (j := i + k) (by omega)
    obtain ⟨o, ho⟩ : ∃ o, o = gat p (i + k) := ⟨_, rfl⟩
    rw [← ho] at hat hnk hgo9
    rw [hgy] at hnk
    have hb := (mul_bound hx9 hy9 a3 hgo9).1
    have w1 : IntKind.i64.wrap ((i : Int) + (k : Int)) = ((i + k : Nat) : Int) := by rw [wrapI _ (by omega)]; omega
    have w2 : IntKind.u64.wrap ((x : Int) * (y : Int)) = ((x * y : Nat) : Int) := by rw [← Int.natCast_mul]; exact u64w (by omega)
    have w3 : IntKind.u64.wrap ((o : Int) + ((x * y : Nat) : Int)) = ((o + x * y : Nat) : Int) := by rw [← Int.natCast_add]; exact u64w (by omega)
    have w4 : IntKind.u64.wrap ((c : Int) + ((o + x * y : Nat) : Int)) = ((c + (o + x * y) : Nat) : Int) := by rw [← Int.natCast_add]; exact u64w (by omega)
    obtain ⟨s, hs⟩ : ∃ s, s = c + (o + x * y) := ⟨_, rfl⟩
    rw [← hs] at w4 hnk hb
    have hst := cG_setj p (i + k) (s % 1000000000)
    have hlt := cG_ltj (l := p) (j := i + k) (by omega)
    have wq : IntKind.u64.wrap ((s : Int).tdiv 1000000000) = ((s / 1000000000 : Nat) : Int) := u64w (n := s / 1000000000) (by omega)
    have hwk := wrapI ((k : Int) + 1) (by omega)
    refine pw_seq ?_; refine pw_region ?_; refine yB rfl rfl rfl rfl ?_; refine yQ ?_; refine pw_seq ?_; rw [t2]; refine pw_ct rfl ?_; refine pw_skip ?_; refine pw_seq ?_; refine pw_block ?_; refine pw_seq ?_; refine pw_region ?_
    refine yMd rfl ?_; refine yW ey (by omega) rfl rfl ?_; refine yLr rfl rfl ?_; refine yAd rfl ?_; refine yAd rfl ?_; refine yQ ?_; refine pw_seq ?_; refine pw_region ?_; refine yMd rfl ?_; refine yMw rfl ?_; refine yMd rfl ?_
    refine yMd rfl ?_; refine yB rfl rfl rfl rfl ?_; refine yWb (by omega) (by omega) rfl rfl rfl ?_; rw [w1]; refine yLd rfl rfl hat ?_; refine yMd rfl ?_; refine yMd rfl ?_; refine yB rfl rfl rfl rfl ?_; refine yB rfl rfl rfl rfl ?_
    refine yB rfl rfl rfl rfl ?_; refine yAd rfl ?_; refine yQ ?_; refine pw_seq ?_; refine pw_region ?_; refine yMw rfl ?_; refine yMd rfl ?_; refine yMd rfl ?_; refine yB rfl rfl rfl rfl ?_; refine yMd rfl ?_
    refine yB rfl rfl rfl rfl ?_; refine yWb (by omega) (by omega) rfl rfl rfl ?_; rw [w1]; rw [w2]; rw [w3]; rw [w4]; refine ySd rfl rfl rfl hst ?_ hlt; refine yQ ?_; refine pw_region ?_; refine yMd rfl ?_; refine yB rfl rfl rfl rfl ?_
    refine yAd rfl ?_; refine yQ ?_; refine pw_region ?_; refine yB rfl rfl rfl rfl ?_; refine yMd rfl ?_; refine yQ ?_; refine q_then ?_; rw [wq]
    exact ⟨k + 1, by omega, by omega, rfl, ⟨.refl _, .refl _, .refl _, .refl _, .of_eq (by rw [hnk]; rfl), .refl _, .refl _, .refl _, .refl _, .refl _, .of_eq (congrArg (fun n => SV.d (dI n)) hwk), trivial⟩, ⟨⟨_, rfl, lesC_eq (by rw [hnk])⟩, trivial⟩, trivial, by simp [PS.closed, SV.ok, aget, Nat.beq, -List.map_take, -List.map_set, -List.map_append, -List.map_drop]⟩
  have t2 : decide ((k : Int) < (n.length : Int)) = false := decide_eq_false (by omega)
  obtain rfl : k = n.length := by omega
  rw [← hp] at hnx
  simp only at hnx
  rcases Nat.eq_zero_or_pos n.length with h0 | h0
  · have t3 : decide (((n.map dG).length : Int) > 0) = false := decide_eq_false (by rw [List.length_map]; omega)
    rw [if_pos h0] at hnx
    refine pw_seq ?_; refine pw_region ?_; refine yB rfl rfl rfl rfl ?_; refine yQ ?_; refine pw_seq ?_; rw [t2]; refine pw_cf rfl ?_; refine pw_exit ?_; refine pw_seq ?_; refine pw_region ?_; refine yMd rfl ?_; refine yN rfl ?_
    refine yB rfl rfl rfl rfl ?_; refine yQ ?_; refine q_then ?_; rw [t3]; refine pw_cf rfl ?_; refine pw_skip ?_; refine pw_region ?_; refine yB rfl rfl rfl rfl ?_; refine yMd rfl ?_; refine yQ ?_; refine q_then ?_
    exact ⟨i + 1, by omega, by omega, rfl, ⟨.refl _, .refl _, .refl _, .refl _, .of_eq (congrArg (fun n => SV.d (dI n)) hwi), trivial⟩, ⟨⟨_, rfl, lesC_eq (by rw [hnx])⟩, trivial⟩, trivial, by simp [PS.closed, SV.ok, aget, Nat.beq, -List.map_take, -List.map_set, -List.map_append, -List.map_drop]⟩
  · have t3 : decide (((n.map dG).length : Int) > 0) = true := decide_eq_true (by rw [List.length_map]; omega)
    rw [if_neg (by omega)] at hnx
    have hgo9 := gat_lt a2 (i + n.length)
    have hat := cG_atj (l := p) (j := i + n.length) (by omega)
    obtain ⟨o, ho⟩ : ∃ o, o = gat p (i + n.length) := ⟨_, rfl⟩
    rw [← ho] at hat hnx hgo9
    have w1 : IntKind.i64.wrap ((i : Int) + ((n.map dG).length : Int)) = ((i + n.length : Nat) : Int) := by rw [List.length_map, wrapI _ (by omega)]; omega
    have w3 : IntKind.u64.wrap ((o : Int) + (c : Int)) = ((o + c : Nat) : Int) := by rw [← Int.natCast_add]; exact u64w (by omega)
    have hst := cG_setj p (i + n.length) (o + c)
    have hlt := cG_ltj (l := p) (j := i + n.length) (by omega)
    refine pw_seq ?_; refine pw_region ?_; refine yB rfl rfl rfl rfl ?_; refine yQ ?_; refine pw_seq ?_; rw [t2]; refine pw_cf rfl ?_; refine pw_exit ?_; refine pw_seq ?_; refine pw_region ?_; refine yMd rfl ?_; refine yN rfl ?_
    refine yB rfl rfl rfl rfl ?_; refine yQ ?_; refine q_then ?_; rw [t3]; refine pw_ct rfl ?_; refine pw_region ?_; refine yMw rfl ?_; refine yMd rfl ?_; refine yMd rfl ?_; refine yN rfl ?_; refine yB rfl rfl rfl rfl ?_
    refine yWb (by omega) (by omega) rfl rfl rfl ?_; rw [w1]; refine yLd rfl rfl hat ?_; refine yMd rfl ?_; refine yB rfl rfl rfl rfl ?_; refine yWb (by omega) (by omega) rfl rfl rfl ?_; rw [w3]; refine ySd rfl rfl rfl hst ?_ hlt
    refine yQ ?_; refine pw_region ?_; refine yB rfl rfl rfl rfl ?_; refine yMd rfl ?_; refine yQ ?_; refine q_then ?_
    exact ⟨i + 1, by omega, by omega, rfl, ⟨.refl _, .refl _, .refl _, .refl _, .of_eq (congrArg (fun n => SV.d (dI n)) hwi), trivial⟩, ⟨⟨_, rfl, lesC_eq (by rw [hnx])⟩, trivial⟩, trivial, by simp [PS.closed, SV.ok, aget, Nat.beq, -List.map_take, -List.map_set, -List.map_append, -List.map_drop]⟩

theorem sg_mul (a b : Bool) (x y : Nat) : sg (a != b) (x * y) = sg a x * sg b y := by
  cases a <;> cases b <;> simp [sg, Int.natCast_mul, Int.neg_mul, Int.mul_neg]
set_option maxRecDepth 20000 in
set_option maxHeartbeats 1000000 in
theorem wMulT (a b : Str) (ha : a.length ≤ 100000) (hb : b.length ≤ 100000) : PCalls Tryz.prog 27 [dS a, dS b] (.d (dS (canon (val a * val b)))) := by
  have c1 := wRead a (by omega)
  have c2 := wRead b (by omega)
  have h1 := Nat.le_trans (rdG_size (dgs a).1) (dgs_len a)
  have h2 := Nat.le_trans (rdG_size (dgs b).1) (dgs_len b)
  rw [rdG_dgs] at c1 c2 h1 h2
  have g1 := gok_grp (natOf (dgs a).1)
  have g2 := gok_grp (natOf (dgs b).1)
  have c3 := wTimes _ _ g1 g2 (by omega) (by omega)
  obtain ⟨s1, s2⟩ := mulR_end g1 g2
  rw [gval_grp, gval_grp] at s2
  have s3 := (mulR_spec g1 g2 _ (Nat.le_refl _)).1
  have s4 := cutG_len (mulR (grp (natOf (dgs a).1)) (grp (natOf (dgs b).1)) (grp (natOf (dgs a).1)).length)
  have c4 := wText ((dgs a).2 != (dgs b).2) (cutG (mulR (grp (natOf (dgs a).1)) (grp (natOf (dgs b).1)) (grp (natOf (dgs a).1)).length)) (cutG_gok s1) (by omega)
  rw [cutG_gval, s2, sg_mul, ← val_sg, ← val_sg] at c4
  obtain ⟨r, hr⟩ : ∃ r, r = canon (val a * val b) := ⟨_, rfl⟩
  rw [← hr] at c4 ⊢
  obtain ⟨z, hz⟩ : ∃ z, z = cutG (mulR (grp (natOf (dgs a).1)) (grp (natOf (dgs b).1)) (grp (natOf (dgs a).1)).length) := ⟨_, rfl⟩
  rw [← hz] at c3 c4
  obtain ⟨l1, hl1⟩ : ∃ l, l = grp (natOf (dgs a).1) := ⟨_, rfl⟩
  obtain ⟨l2, hl2⟩ : ∃ l, l = grp (natOf (dgs b).1) := ⟨_, rfl⟩
  obtain ⟨p1, hp1⟩ : ∃ p, p = (dgs a).2 := ⟨_, rfl⟩
  obtain ⟨p2, hp2⟩ : ∃ p, p = (dgs b).2 := ⟨_, rfl⟩
  rw [← hl1, ← hp1] at c1
  rw [← hl2, ← hp2] at c2
  rw [← hl1, ← hl2] at c3
  rw [← hp1, ← hp2] at c4
  clear hz hl1 hl2 hp1 hp2 s1 s2 s3 s4 h1 h2 g1 g2 hr
  refine pcalls_of_pw Tryz.func27 rfl Tryz.ntmps27 Tryz.results27 (by simp) fun B w0 => ?_
  refine pw_seq ?_; refine pw_region ?_; refine yAd rfl ?_; refine yQ ?_; refine pw_seq ?_; refine pw_region ?_; refine yMd rfl ?_; refine yC (c1) rfl rfl ?_; refine yMd rfl ?_; refine yC (c2) rfl rfl ?_
  refine yZ (cs := [_, _]) rfl rfl ?_; refine yZ (cs := [_, _]) rfl rfl ?_; refine yS (cs' := [_, _]) rfl rfl rfl rfl rfl ?_; refine yS (cs' := [_, _]) rfl rfl rfl rfl rfl ?_; refine yQ ?_; refine pw_seq ?_
  refine pw_draw Tryz.mixed (by kernel_rfl) ?_; refine yFb rfl ?_; refine yLd rfl rfl rfl ?_; refine yFb rfl ?_; refine yLd rfl rfl rfl ?_; refine yBbn Tryz.underlying4 rfl rfl rfl ?_; refine yFb rfl ?_; refine yLd rfl rfl rfl ?_
  refine yFb rfl ?_; refine yLd rfl rfl rfl ?_; refine yC (c3) rfl rfl ?_; refine yG (ys := [_, _]) rfl rfl ?_; refine yC (c4) rfl rfl ?_; refine yAd rfl ?_; refine yQ ?_; refine pw_ret ?_
  exact q_ret _ (.tmp rfl .nil) rfl

theorem sg_neg (b : Bool) (n : Nat) : sg (!b) n = - sg b n := by
  cases b <;> simp [sg]
set_option maxRecDepth 20000 in
set_option maxHeartbeats 1000000 in
theorem wNegT (a : Str) (ha : a.length ≤ 100000) : PCalls Tryz.prog 51 [dS a] (.d (dS (canon (- val a)))) := by
  have c1 := wRead a (by omega)
  have h1 := Nat.le_trans (rdG_size (dgs a).1) (dgs_len a)
  rw [rdG_dgs] at c1 h1
  have g1 := gok_grp (natOf (dgs a).1)
  have c4 := wText (!(dgs a).2) (grp (natOf (dgs a).1)) g1 (by omega)
  rw [gval_grp, sg_neg, ← val_sg] at c4
  obtain ⟨r, hr⟩ : ∃ r, r = canon (- val a) := ⟨_, rfl⟩
  rw [← hr] at c4 ⊢
  obtain ⟨l1, hl1⟩ : ∃ l, l = grp (natOf (dgs a).1) := ⟨_, rfl⟩
  obtain ⟨p1, hp1⟩ : ∃ p, p = (dgs a).2 := ⟨_, rfl⟩
  rw [← hl1, ← hp1] at c1 c4
  clear hl1 hp1 g1 h1 hr
  refine pcalls_of_pw Tryz.func51 rfl Tryz.ntmps51 Tryz.results51 (by simp) fun B w0 => ?_
  refine pw_seq ?_; refine pw_region ?_; refine yAd rfl ?_; refine yQ ?_; refine pw_seq ?_; refine pw_region ?_; refine yMd rfl ?_; refine yC (c1) rfl rfl ?_; refine yZ (cs := [_, _]) rfl rfl ?_
  refine yS (cs' := [_, _]) rfl rfl rfl rfl rfl ?_; refine yQ ?_; refine pw_seq ?_; refine pw_region ?_; refine yFb rfl ?_; refine yLd rfl rfl rfl ?_; refine yU rfl rfl rfl ?_; refine yFb rfl ?_
  refine ySd (cs' := [_, _]) rfl rfl rfl rfl ?_; refine yQ ?_; refine pw_seq ?_; refine pw_region ?_; refine yLa (ys := [_, _]) rfl rfl rfl rfl ?_; refine yC (c4) rfl rfl ?_; refine yAd rfl ?_; refine yQ ?_; refine pw_ret ?_
  exact q_ret _ (.tmp rfl .nil) rfl

/-- the text of a number to be read: 0 for the empty one -/
def prT (a : Str) : Str := if canon (val a) = [] then [48] else canon (val a)
set_option maxRecDepth 20000 in
theorem wPrintT (a : Str) (ha : a.length ≤ 100000) : PCalls Tryz.prog 52 [dS a] (.d (dS (prT a))) := by
  have c1 := wCanonical a (by omega)
  unfold prT
  obtain ⟨r, hr⟩ : ∃ r, r = canon (val a) := ⟨_, rfl⟩
  rw [← hr] at c1 ⊢
  refine pcalls_of_pw Tryz.func52 rfl Tryz.ntmps52 Tryz.results52 (by simp) fun B w0 => ?_
  by_cases h : r = []
  · rw [if_pos h]
    have t : (r == []) = true := by simp [h]
    refine pw_seq ?_; refine pw_region ?_; refine yAd rfl ?_; refine yQ ?_; refine pw_seq ?_; refine pw_seq ?_; refine pw_region ?_; refine yMd rfl ?_; refine yC (c1) rfl rfl ?_; refine yAd rfl ?_; refine yQ ?_; refine pw_seq ?_
    refine pw_region ?_; refine yMd rfl ?_; refine yBsn rfl rfl ?_; refine yQ ?_; refine q_then ?_; rw [t]; refine pw_cf rfl ?_; refine pw_skip ?_; refine pw_seq ?_; refine pw_region ?_; refine yAd rfl ?_; refine yQ ?_; refine pw_ret ?_
    exact q_ret _ (.tmp rfl .nil) rfl
  · rw [if_neg h]
    have t : (r == []) = false := by simp [h]
    refine pw_seq ?_; refine pw_region ?_; refine yAd rfl ?_; refine yQ ?_; refine pw_seq ?_; refine pw_seq ?_; refine pw_region ?_; refine yMd rfl ?_; refine yC (c1) rfl rfl ?_; refine yAd rfl ?_; refine yQ ?_; refine pw_seq ?_
    refine pw_region ?_; refine yMd rfl ?_; refine yBsn rfl rfl ?_; refine yQ ?_; refine q_then ?_; rw [t]; refine pw_ct rfl ?_; refine pw_seq ?_; refine pw_region ?_; refine yMd rfl ?_; refine yAd rfl ?_; refine yQ ?_; refine pw_ret ?_
    refine q_then_ret ?_
    exact q_ret _ (.tmp rfl .nil) rfl
end Go.Proofs.YtmfeinilbjfnpaaGreatDoor
namespace Go.Proofs.YtmfeinilbjfnpaaGreatDoor
open Go.RowKit Px

def getS (k : Str) : List (Str × Str) → Str
  | [] => []
  | (k', v) :: l => if k' = k then v else getS k l
def setS (k v : Str) : List (Str × Str) → List (Str × Str)
  | [] => [(k, v)]
  | (k', v') :: l => if k' = k then (k, v) :: l else (k', v') :: setS k v l
def mapD (l : List (Str × Str)) : List (Str × DV) := l.map fun p => (p.1, dS p.2)
theorem mget_D (k : Str) (l : List (Str × Str)) : mget (dS []) k (mapD l) = dS (getS k l) := by
  induction l with
  | nil => rfl
  | cons p l ih =>
    show (if p.1 = k then dS p.2 else mget (dS []) k (mapD l)) = dS (if p.1 = k then p.2 else getS k l)
    split
    · rfl
    · exact ih
theorem mset_D (k v : Str) (l : List (Str × Str)) : mset k (dS v) (mapD l) = mapD (setS k v l) := by
  induction l with
  | nil => rfl
  | cons p l ih =>
    show (if p.1 = k then (k, dS v) :: mapD l else (p.1, dS p.2) :: mset k (dS v) (mapD l)) = mapD (if p.1 = k then (k, v) :: l else (p.1, p.2) :: setS k v l)
    split
    · rfl
    · rw [ih]; rfl
theorem getS_set (k v j : Str) (l : List (Str × Str)) : getS j (setS k v l) = if j = k then v else getS j l := by
  induction l with
  | nil =>
    show (if k = j then v else []) = if j = k then v else []
    by_cases h : j = k
    · rw [if_pos h, if_pos h.symm]
    · rw [if_neg h, if_neg (fun e => h e.symm)]
  | cons p l ih =>
    show getS j (if p.1 = k then (k, v) :: l else (p.1, p.2) :: setS k v l) = if j = k then v else (if p.1 = j then p.2 else getS j l)
    by_cases hp : p.1 = k
    · rw [if_pos hp]
      show (if k = j then v else getS j l) = _
      by_cases h : j = k
      · rw [if_pos h, if_pos h.symm]
      · rw [if_neg h, if_neg (fun e => h e.symm), if_neg (fun e => h (e.symm.trans hp))]
    · rw [if_neg hp]
      show (if p.1 = j then p.2 else getS j (setS k v l)) = _
      by_cases hj : p.1 = j
      · rw [if_pos hj, if_pos hj, if_neg (fun e => hp (hj.trans e))]
      · rw [if_neg hj, if_neg hj, ih]
abbrev addI (a b : Str) : Str := canon (val a + val b)
abbrev subI (a b : Str) : Str := canon (val a - val b)
theorem dec_le {n k : Nat} (h : n < 10 ^ k) : (dec n).length ≤ k := by
  by_cases h0 : n = 0
  · rw [h0, dec_zero]; simp
  · rw [← decDigits_dec h0]
    refine decDigits_small n k h ?_
    rcases Nat.eq_zero_or_pos k with rfl | hk
    · simp at h; omega
    · exact hk
theorem canon_le {z : Int} {k : Nat} (h : z.natAbs < 10 ^ k) : (canon z).length ≤ k + 1 := by
  have := dec_le h
  unfold canon
  split <;> simp <;> omega
theorem val_lt {a : Str} {k : Nat} (h : a.length ≤ k) : (val a).natAbs < 10 ^ k := by
  rw [← natOf_dgs]
  have h1 := natOf_lt (dgs_all a)
  have hb : (bod a).length ≤ a.length := by unfold bod; split <;> simp
  have h2 : (dgs a).1.length ≤ a.length := by
    unfold dgs
    split
    · exact Nat.le_trans (List.dropWhile_suffix _).length_le hb
    · simp
  exact Nat.lt_of_lt_of_le h1 (Nat.pow_le_pow_right (by decide) (Nat.le_trans h2 h))
theorem addI_len {a b : Str} {k : Nat} (ha : a.length ≤ k) (hb : b.length ≤ k) : (addI a b).length ≤ k + 2 := by
  have h1 := val_lt ha
  have h2 := val_lt hb
  refine canon_le (k := k + 1) ?_
  rw [Nat.pow_succ]
  omega
theorem getS_setS_len {k v : Str} {l : List (Str × Str)} {n : Nat} (hv : v.length ≤ n) (hl : ∀ j, (getS j l).length ≤ n) (j : Str) : (getS j (setS k v l)).length ≤ n := by
  rw [getS_set]
  split
  · exact hv
  · exact hl j
end Go.Proofs.YtmfeinilbjfnpaaGreatDoor
set_option maxHeartbeats 1000000
namespace Go.Proofs.YtmfeinilbjfnpaaGreatDoor
open Go.RowKit Px Go.Sort Go.Lib

theorem ltS_dec (a b : Str) : ltS a b = decide (a < b) := bytesLess_eq a b
theorem leS_dec (a b : Str) : decide (a ≤ b) = !ltS b a := by
  rw [ltS_dec, Bool.eq_iff_iff]
  simp
abbrev mSort (ss : List Str) : List Str := ss.mergeSort fun x y => decide (x ≤ y)
theorem mSort_up (ss : List Str) : (mSort ss).Pairwise fun x y => ltS y x = false := by
  have h := List.pairwise_mergeSort (le := fun x y : Str => decide (x ≤ y)) (fun a b c h1 h2 => by
    rw [leS_dec, Bool.not_eq_true'] at h1 h2 ⊢
    rcases ltS_total a b with e | e | e
    · rcases ltS_total b c with e2 | e2 | e2
      · exact ltS_asymm (ltS_trans e e2)
      · subst e2; exact ltS_asymm e
      · rw [h2] at e2; cases e2
    · subst e; exact h2
    · rw [h1] at e; cases e) (fun a b => by
    rw [leS_dec, leS_dec]
    rcases ltS_total a b with e | e | e
    · rw [ltS_asymm e]; rfl
    · subst e; rw [ltS_irrefl]; rfl
    · rw [ltS_asymm e]; simp) ss
  refine h.imp fun h => ?_
  rw [leS_dec] at h
  simpa using h

/-- name, factor -/
abbrev Cf := Str × Str
/-- the value for amounts -/
def evA (A : Str → Int) : List Cf → Int
  | [] => 0
  | c :: e => val c.2 * A c.1 + evA A e
theorem evA_append (A : Str → Int) (a b : List Cf) : evA A (a ++ b) = evA A a + evA A b := by
  induction a with
  | nil => simp [evA]
  | cons c a ih => simp only [List.cons_append, evA, ih]; omega
theorem evA_perm {A : Str → Int} {a b : List Cf} (h : a.Perm b) : evA A a = evA A b := by
  induction h with
  | nil => rfl
  | cons x _ ih => simp only [evA, ih]
  | swap x y l => simp only [evA]; omega
  | trans _ _ h1 h2 => exact h1.trans h2
def one (k j : Str) : Int := if j = k then 1 else 0
/-- the factor of a name -/
abbrev cf (k : Str) (e : List Cf) : Int := evA (one k) e

/-- the sums after the first terms -/
def sumM (e : List Cf) : Nat → List (Str × Str)
  | 0 => []
  | i + 1 => match e[i]? with
    | none => sumM e i
    | some c => setS c.1 (addI (getS c.1 (sumM e i)) c.2) (sumM e i)
theorem val_nil : val [] = 0 := by rw [← canon_zero, val_canon]
theorem evA_setS (A : Str → Int) (k v : Str) (M : List (Str × Str)) : evA A (setS k v M) = evA A M - val (getS k M) * A k + val v * A k := by
  induction M with
  | nil => simp [setS, evA, getS, val_nil]
  | cons p M ih =>
    show evA A (if p.1 = k then (k, v) :: M else (p.1, p.2) :: setS k v M) = evA A (p :: M) - val (if p.1 = k then p.2 else getS k M) * A k + val v * A k
    by_cases h : p.1 = k
    · rw [if_pos h, if_pos h]
      simp only [evA]
      rw [h]
      omega
    · rw [if_neg h, if_neg h]
      simp only [evA, ih]
      omega
theorem evA_sumM (A : Str → Int) (e : List Cf) (i : Nat) : evA A (sumM e i) = evA A (e.take i) := by
  induction i with
  | zero => rfl
  | succ i ih =>
    rw [sumM]
    cases h : e[i]? with
    | none =>
      rw [List.getElem?_eq_none_iff] at h
      simp only [ih, List.take_of_length_le h, List.take_of_length_le (Nat.le_succ_of_le h)]
    | some c =>
      simp only
      rw [evA_setS, val_canon, ih, List.take_add_one, h, Option.toList, evA_append, Int.add_mul]
      simp only [evA]
      omega
theorem keys_setS (k v : Str) (M : List (Str × Str)) : (setS k v M).map (·.1) = if k ∈ M.map (·.1) then M.map (·.1) else M.map (·.1) ++ [k] := by
  induction M with
  | nil => simp [setS]
  | cons p M ih =>
    show (if p.1 = k then (k, v) :: M else (p.1, p.2) :: setS k v M).map (·.1) = _
    by_cases h : p.1 = k
    · rw [if_pos h, if_pos (by simp [h])]
      simp [h]
    · rw [if_neg h, List.map_cons, ih]
      by_cases h2 : k ∈ M.map (·.1)
      · rw [if_pos h2, if_pos (by simp only [List.map_cons, List.mem_cons]; exact .inr h2)]
        rfl
      · rw [if_neg h2, if_neg (by simp only [List.map_cons, List.mem_cons, not_or]; exact ⟨fun e => h e.symm, h2⟩)]
        rfl
theorem keys_nodup (e : List Cf) (i : Nat) : ((sumM e i).map (·.1)).Nodup := by
  induction i with
  | zero => exact List.nodup_nil
  | succ i ih =>
    rw [sumM]
    cases h : e[i]? with
    | none => exact ih
    | some c =>
      simp only
      rw [keys_setS]
      split
      · exact ih
      · rename_i h2
        rw [List.nodup_append]
        exact ⟨ih, by simp, fun a ha b hb => by
          rw [List.mem_singleton.1 hb]
          rintro rfl
          exact h2 ha⟩
theorem keys_len (e : List Cf) (i : Nat) : (sumM e i).length ≤ i := by
  induction i with
  | zero => exact Nat.le_refl _
  | succ i ih =>
    rw [sumM]
    cases h : e[i]? with
    | none => exact Nat.le_succ_of_le ih
    | some c =>
      simp only
      have := congrArg List.length (keys_setS c.1 (addI (getS c.1 (sumM e i)) c.2) (sumM e i))
      rw [List.length_map] at this
      split at this
      · rw [List.length_map] at this; omega
      · rw [List.length_append, List.length_map] at this; simp at this; omega
theorem keys_mem (e : List Cf) (i : Nat) (k : Str) (hk : k ∈ (sumM e i).map (·.1)) : ∃ c ∈ e, c.1 = k := by
  induction i with
  | zero => cases hk
  | succ i ih =>
    rw [sumM] at hk
    cases h : e[i]? with
    | none => rw [h] at hk; exact ih hk
    | some c =>
      rw [h] at hk
      simp only at hk
      rw [keys_setS] at hk
      split at hk
      · exact ih hk
      · rcases List.mem_append.1 hk with hk | hk
        · exact ih hk
        · exact ⟨c, List.mem_of_getElem? h, (List.mem_singleton.1 hk).symm⟩
theorem cf_notin {k : Str} {M : List (Str × Str)} (h : k ∉ M.map (·.1)) : cf k M = 0 := by
  induction M with
  | nil => rfl
  | cons p M ih =>
    simp only [List.map_cons, List.mem_cons, not_or] at h
    show val p.2 * (if p.1 = k then 1 else 0) + cf k M = 0
    rw [if_neg (fun e => h.1 e.symm), ih h.2]
    omega
theorem cf_get {k : Str} {M : List (Str × Str)} (h : (M.map (·.1)).Nodup) : cf k M = val (getS k M) := by
  induction M with
  | nil => rw [getS, val_nil]; rfl
  | cons p M ih =>
    rw [List.map_cons, List.nodup_cons] at h
    show val p.2 * (if p.1 = k then 1 else 0) + cf k M = val (if p.1 = k then p.2 else getS k M)
    by_cases e : p.1 = k
    · rw [if_pos e, if_pos e, cf_notin (e ▸ h.1)]
      omega
    · rw [if_neg e, if_neg e, ih h.2]
      omega
theorem get_mem {M : List (Str × Str)} (h : (M.map (·.1)).Nodup) {p : Str × Str} (hp : p ∈ M) : getS p.1 M = p.2 := by
  induction M with
  | nil => cases hp
  | cons q M ih =>
    rw [List.map_cons, List.nodup_cons] at h
    show (if q.1 = p.1 then q.2 else getS p.1 M) = p.2
    rcases List.mem_cons.1 hp with rfl | hp
    · rw [if_pos rfl]
    · have hin : p.1 ∈ M.map (·.1) := List.mem_map_of_mem hp
      rw [if_neg fun e => h.1 (by rw [e]; exact hin), ih h.2 hp]
theorem sumM_can (e : List Cf) (i : Nat) (k : Str) : ∃ z, getS k (sumM e i) = canon z := by
  induction i with
  | zero => exact ⟨0, by rw [canon_zero]; rfl⟩
  | succ i ih =>
    rw [sumM]
    cases h : e[i]? with
    | none => exact ih
    | some c =>
      simp only
      rw [getS_set]
      split
      · exact ⟨_, rfl⟩
      · exact ih
theorem sumM_get (e : List Cf) (k : Str) : getS k (sumM e e.length) = canon (cf k e) := by
  obtain ⟨z, hz⟩ := sumM_can e e.length k
  have h1 := cf_get (k := k) (keys_nodup e e.length)
  rw [hz, val_canon] at h1
  rw [hz, ← h1, cf, evA_sumM, List.take_length]

def keep (M : List (Str × Str)) (k : Str) : Option Cf := if getS k M = [] then none else some (k, getS k M)
/-- the normal form -/
def nf (e : List Cf) : List Cf := (mSort ((sumM e e.length).map (·.1))).filterMap (keep (sumM e e.length))
theorem evA_keep (A : Str → Int) (M : List (Str × Str)) (ks : List Str) : evA A (ks.filterMap (keep M)) = evA A (ks.map fun k => (k, getS k M)) := by
  induction ks with
  | nil => rfl
  | cons k ks ih =>
    rw [List.filterMap_cons, List.map_cons]
    by_cases h : getS k M = []
    · rw [keep, if_pos h]
      simp only [evA, h, val_nil, ih]
      omega
    · rw [keep, if_neg h]
      simp only [evA, ih]
/-- the normal form has the same value -/
theorem evA_nf (A : Str → Int) (e : List Cf) : evA A (nf e) = evA A e := by
  have h1 : evA A ((sumM e e.length).map fun p => (p.1, getS p.1 (sumM e e.length))) = evA A (sumM e e.length) := by
    refine congrArg _ ?_
    conv => rhs; rw [← List.map_id (sumM e e.length)]
    exact List.map_congr_left fun p hp => by rw [get_mem (keys_nodup e _) hp]; rfl
  have h2 : evA A ((mSort ((sumM e e.length).map (·.1))).map fun k => (k, getS k (sumM e e.length))) = evA A (((sumM e e.length).map (·.1)).map fun k => (k, getS k (sumM e e.length))) := evA_perm ((List.mergeSort_perm _ _).map _)
  rw [nf, evA_keep, h2, List.map_map]
  refine Eq.trans h1 ?_
  rw [evA_sumM, List.take_length]
theorem nf_mem (e : List Cf) (p : Cf) : p ∈ nf e ↔ cf p.1 e ≠ 0 ∧ p.2 = canon (cf p.1 e) := by
  rw [nf, List.mem_filterMap]
  constructor
  · rintro ⟨k, -, h⟩
    unfold keep at h
    split at h
    · cases h
    · rename_i hk
      cases h
      rw [sumM_get] at hk ⊢
      exact ⟨fun e => hk (canon_nil.2 e), rfl⟩
  · rintro ⟨h1, h2⟩
    refine ⟨p.1, ?_, ?_⟩
    · rw [List.mem_mergeSort]
      refine Decidable.byContradiction fun h => h1 ?_
      have := cf_notin h
      rwa [cf, evA_sumM, List.take_length] at this
    · rw [keep, sumM_get, if_neg fun e => h1 (canon_nil.1 e), ← h2]
abbrev ascP (l : List Cf) : Prop := l.Pairwise fun a b => ltS a.1 b.1 = true
theorem nf_asc (e : List Cf) : ascP (nf e) := by
  unfold ascP
  rw [nf, List.pairwise_filterMap]
  have h1 := mSort_up ((sumM e e.length).map (·.1))
  have h2 : (mSort ((sumM e e.length).map (·.1))).Nodup := (List.mergeSort_perm _ _).nodup_iff.2 (keys_nodup e _)
  refine (h1.and h2).imp fun {a b} h p hp q hq => ?_
  have e1 : p.1 = a := by
    unfold keep at hp
    split at hp
    · cases hp
    · cases hp; rfl
  have e2 : q.1 = b := by
    unfold keep at hq
    split at hq
    · cases hq
    · cases hq; rfl
  rw [e1, e2]
  rcases ltS_total a b with h3 | h3 | h3
  · exact h3
  · exact absurd h3 h.2
  · rw [h.1] at h3; cases h3
theorem asc_ext {a b : List Cf} (ha : ascP a) (hb : ascP b) (h : ∀ p, p ∈ a ↔ p ∈ b) : a = b := by
  have n1 : a.Nodup := ha.imp fun {x y} h e => by rw [e, ltS_irrefl] at h; cases h
  have n2 : b.Nodup := hb.imp fun {x y} h e => by rw [e, ltS_irrefl] at h; cases h
  exact List.Perm.eq_of_pairwise (le := fun a b : Cf => ltS a.1 b.1 = true) (fun x y _ _ h1 h2 => by rw [ltS_asymm h1] at h2; cases h2) ha hb ((List.perm_ext_iff_of_nodup n1 n2).2 h)
theorem nf_ext {a b : List Cf} (h : ∀ k, cf k a = cf k b) : nf a = nf b := asc_ext (nf_asc a) (nf_asc b) fun p => by rw [nf_mem, nf_mem, h]
theorem nf_len (e : List Cf) : (nf e).length ≤ e.length := by
  refine Nat.le_trans (List.length_filterMap_le _ _) ?_
  rw [List.length_mergeSort, List.length_map]
  exact keys_len e _
theorem cf_mem {k : Str} {e : List Cf} (h : cf k e ≠ 0) : ∃ c ∈ e, c.1 = k := by
  refine Decidable.byContradiction fun h1 => h ?_
  refine cf_notin fun h2 => h1 ?_
  obtain ⟨c, hc, e⟩ := List.mem_map.1 h2
  exact ⟨c, hc, e⟩
theorem nf_name {e : List Cf} {p : Cf} (h : p ∈ nf e) : ∃ c ∈ e, c.1 = p.1 := cf_mem ((nf_mem e p).1 h).1
theorem nf_isC {e : List Cf} {p : Cf} (h : p ∈ nf e) : isC p.2 = true := by rw [((nf_mem e p).1 h).2]; exact isC_canon _
theorem nf_nf (e : List Cf) : nf (nf e) = nf e := nf_ext fun k => evA_nf _ e
end Go.Proofs.YtmfeinilbjfnpaaGreatDoor
namespace Go.Proofs.YtmfeinilbjfnpaaGreatDoor
open Go.RowKit Px Go.Maps Go.Sort Go.Shelf

abbrev dCf (c : Cf) : List DV := [dS c.1, dS c.2]
instance : MapOf Tryz.prog 67 (dS []) := ⟨⟨9, 27, by kernel_rfl, by kernel_rfl, fun w => ⟨.string ⟨#[]⟩, by kernel_rfl, fun F w' => DRep.val _ rfl⟩⟩⟩
/-- the names of terms -/
def nmB (s : Str) : Bool := nameB s && (match s with | [] => false | b :: _ => decide (97 ≤ b.toNat) && decide (b.toNat ≤ 122))
set_option maxRecDepth 20000 in
theorem wIsName (s : Str) : PCalls Tryz.prog 72 [dS s] (.d (dB (nmB s))) := by
  have c1 := wName s
  cases h : nameB s with
  | false =>
    rw [h] at c1
    have e : nmB s = false := by simp [nmB, h]
    rw [e]
    refine pcalls_of_pw Tryz.func72 rfl Tryz.ntmps72 Tryz.results72 (by simp) fun B w0 => ?_
    refine pw_seq ?_; refine pw_region ?_; refine yAd rfl ?_; refine yQ ?_; refine pw_seq ?_; refine pw_region ?_; refine yMd rfl ?_; refine yC (c1) rfl rfl ?_; refine yMd rfl ?_; refine yO rfl ?_; refine yO rfl ?_; refine yO rfl ?_
    refine yVd rfl rfl ?_; refine yMd rfl ?_; refine yO rfl ?_; refine yO rfl ?_; refine yO rfl ?_; refine yVd rfl rfl ?_; refine yAd rfl ?_; refine yQ ?_; refine pw_ret ?_
    exact q_ret _ (.tmp rfl .nil) rfl
  | true =>
    rw [h] at c1
    obtain ⟨x, l, rfl⟩ : ∃ x l, s = x :: l := by
      cases s with
      | nil => simp [nameB] at h
      | cons x l => exact ⟨x, l, rfl⟩
    have hx : (x :: l : Str)[(0 : Int).toNat]? = some x := rfl
    by_cases h1 : 97 ≤ x.toNat
    · have t1 : decide ((x.toNat : Int) ≥ 97) = true := decide_eq_true (by omega)
      have e : nmB (x :: l) = decide (x.toNat ≤ 122) := by simp [nmB, h, h1]
      rw [e]
      refine pcalls_of_pw Tryz.func72 rfl Tryz.ntmps72 Tryz.results72 (by simp) fun B w0 => ?_
      refine pw_seq ?_; refine pw_region ?_; refine yAd rfl ?_; refine yQ ?_; refine pw_seq ?_; refine pw_region ?_; refine yMd rfl ?_; refine yC (c1) rfl rfl ?_; refine yMd rfl ?_; refine yMd rfl ?_; refine yIs hx (by omega) rfl rfl ?_
      refine yB rfl rfl rfl rfl ?_; refine yPd rfl rfl ?_; refine yMd rfl ?_; rw [t1]; refine yMd rfl ?_; refine yIs hx (by omega) rfl rfl ?_; refine yB rfl rfl rfl rfl ?_; refine yPd rfl rfl ?_; refine yAd rfl ?_; refine yQ ?_
      refine pw_ret ?_
      exact q_ret _ (.tmp rfl .nil) (congrArg (fun b => SV.d (dB b)) (decide_eq_decide.2 (by omega)))
    · have t1 : decide ((x.toNat : Int) ≥ 97) = false := decide_eq_false (by omega)
      have e : nmB (x :: l) = false := by simp [nmB, h, h1]
      rw [e]
      refine pcalls_of_pw Tryz.func72 rfl Tryz.ntmps72 Tryz.results72 (by simp) fun B w0 => ?_
      refine pw_seq ?_; refine pw_region ?_; refine yAd rfl ?_; refine yQ ?_; refine pw_seq ?_; refine pw_region ?_; refine yMd rfl ?_; refine yC (c1) rfl rfl ?_; refine yMd rfl ?_; refine yMd rfl ?_; refine yIs hx (by omega) rfl rfl ?_
      refine yB rfl rfl rfl rfl ?_; refine yPd rfl rfl ?_; refine yMd rfl ?_; rw [t1]; refine yO rfl ?_; refine yO rfl ?_; refine yO rfl ?_; refine yVd rfl rfl ?_; refine yAd rfl ?_; refine yQ ?_; refine pw_ret ?_
      exact q_ret _ (.tmp rfl .nil) rfl

/-- what is wrong with a term, with the terms, with a list -/
def cE (c : Cf) : Int := if nmB c.1 then (if isC c.2 then 0 else 1) else 23
def chL : List Cf → Int
  | [] => 0
  | c :: e => if cE c = 0 then chL e else cE c
def chE (e : List Cf) : Int := if 16 < e.length then 4 else chL e
theorem chL_at {e : List Cf} {i : Nat} {c : Cf} (hx : e[i]? = some c) (h : ∀ d ∈ e.take i, cE d = 0) (hc : cE c ≠ 0) : chL e = cE c := by
  induction e generalizing i with
  | nil => simp at hx
  | cons d e ih =>
    cases i with
    | zero => cases hx; rw [chL, if_neg hc]
    | succ i =>
      rw [chL, if_pos (h d (by simp))]
      exact ih hx fun q hq => h q (by rw [List.take_succ_cons]; exact List.mem_cons_of_mem _ hq)
theorem chL_ok {e : List Cf} (h : ∀ d ∈ e, cE d = 0) : chL e = 0 := by
  induction e with
  | nil => rfl
  | cons d e ih => rw [chL, if_pos (h d (by simp))]; exact ih fun q hq => h q (List.mem_cons_of_mem _ hq)
theorem chL_zero {e : List Cf} (h : chL e = 0) : ∀ d ∈ e, cE d = 0 := by
  induction e with
  | nil => intro d hd; cases hd
  | cons d e ih =>
    rw [chL] at h
    split at h
    · rename_i h0
      intro q hq
      rcases List.mem_cons.1 hq with rfl | hq
      · exact h0
      · exact ih h q hq
    · rename_i h0; exact absurd h h0
theorem take_okC {p : Cf → Prop} {e : List Cf} {i : Nat} {c : Cf} (hx : e[i]? = some c) (h : ∀ d ∈ e.take i, p d) (hc : p c) : ∀ d ∈ e.take (i + 1), p d := by
  intro d hd
  rw [List.take_add_one, hx] at hd
  rcases List.mem_append.1 hd with hd | hd
  · exact h d hd
  · have : d = c := by simpa using hd
    rw [this]; exact hc
set_option maxRecDepth 20000 in
set_option maxHeartbeats 1000000 in
theorem wCheckE (e : List Cf) (hl : e.length ≤ 1000000) (hf : ∀ c ∈ e, c.2.length ≤ 1000000) : PCalls Tryz.prog 54 [.sl 2 (e.map dCf)] (.d (dI (chE e))) := by
  obtain ⟨r, hr⟩ : ∃ r, r = chE e := ⟨_, rfl⟩
  rw [← hr]
  rw [chE] at hr
  have e16 : ((16 : Nat) : Int) = 16 := rfl
  by_cases h16 : 16 < e.length
  · have t0 : decide (((e.map dCf).length : Int) > 16) = true := decide_eq_true (by rw [List.length_map]; omega)
    rw [if_pos h16] at hr
    subst hr
    refine pcalls_of_pw Tryz.func54 rfl Tryz.ntmps54 Tryz.results54 (by simp) fun B w0 => ?_
    refine pw_seq ?_; refine pw_region ?_; refine yAd rfl ?_; refine yQ ?_; refine pw_seq ?_; refine pw_seq ?_; refine pw_region ?_; refine yMd rfl ?_; refine yN rfl ?_; refine yB rfl rfl rfl rfl ?_; refine yQ ?_; refine q_then ?_
    rw [t0]; refine pw_ct rfl ?_; refine pw_seq ?_; refine pw_region ?_; refine yAd rfl ?_; refine yQ ?_; refine pw_ret ?_; refine q_then_ret ?_
    exact q_ret _ (.tmp rfl .nil) rfl
  rw [if_neg h16] at hr
  have t0 : decide (((e.map dCf).length : Int) > 16) = false := decide_eq_false (by rw [List.length_map]; omega)
  refine pcalls_of_pw Tryz.func54 rfl Tryz.ntmps54 Tryz.results54 (by simp) fun B w0 => ?_
  refine pw_seq ?_; refine pw_region ?_; refine yAd rfl ?_; refine yQ ?_; refine pw_seq ?_; refine pw_seq ?_; refine pw_region ?_; refine yMd rfl ?_; refine yN rfl ?_; refine yB rfl rfl rfl rfl ?_; refine yQ ?_; refine q_then ?_
  rw [t0]; refine pw_cf rfl ?_; refine pw_skip ?_; refine pw_seq ?_; refine pw_seq ?_; refine pw_region ?_; refine yMd rfl ?_; refine yN rfl ?_; refine yMd rfl ?_; refine yQ ?_; refine pw_block ?_
  refine pw_loop (fun i : Nat => ⟨25, [(8, .d (.sl 2 (e.map dCf))), (9, .d (dI e.length)), (10, .d (dI i))], [], []⟩) (fun i => i ≤ e.length ∧ ∀ d ∈ e.take i, cE d = 0) (fun i => e.length - i) 0 ⟨Nat.zero_le _, fun d hd => by simp at hd⟩
    ⟨rfl, ⟨.refl _, .of_eq (congrArg (fun n : Nat => SV.d (dI n)) (by simp)), .refl _, trivial⟩, trivial, trivial, rfl⟩ ?_
  rintro i ⟨hi, hok⟩
  rcases Nat.lt_or_ge i e.length with h | h
  rotate_left
  · have t1 : decide ((i : Int) < (e.length : Int)) = false := decide_eq_false (by omega)
    obtain rfl : i = e.length := by omega
    rw [List.take_length] at hok
    rw [chL_ok hok] at hr
    subst hr
    refine pw_seq ?_; refine pw_region ?_; refine yB rfl rfl rfl rfl ?_; refine yQ ?_; refine pw_seq ?_; rw [t1]; refine pw_cf rfl ?_; refine pw_exit ?_; refine pw_seq ?_; refine pw_region ?_; refine yAd rfl ?_; refine yQ ?_
    refine pw_ret ?_
    exact q_ret _ (.tmp rfl .nil) rfl
  have t1 : decide ((i : Int) < (e.length : Int)) = true := decide_eq_true (by omega)
  obtain ⟨⟨c0, c1⟩, hc⟩ : ∃ a, e[i]? = some a := ⟨_, List.getElem?_eq_getElem h⟩
  have em := ix dCf e i i (c0, c1) rfl hc
  have hw := wrapI ((i : Int) + 1) (by omega)
  have hq := hf _ (List.mem_of_getElem? hc)
  simp only at hq
  have k1 := wIsName c0
  have k2 := wCheck c1 (by omega)
  have hat := chL_at hc hok
  have hnx := take_okC (p := fun d => cE d = 0) hc hok
  simp only [cE] at hat hnx
  cases hn : nmB c0 with
  | false =>
    rw [hn] at k1 hat
    rw [hat (by simp)] at hr
    have hr : r = 23 := by simpa using hr
    subst hr
    refine pw_seq ?_; refine pw_region ?_; refine yB rfl rfl rfl rfl ?_; refine yQ ?_; refine pw_seq ?_; rw [t1]; refine pw_ct rfl ?_; refine pw_skip ?_; refine pw_seq ?_; refine pw_block ?_; refine pw_seq ?_; refine pw_region ?_
    refine yW em (by omega) rfl rfl ?_; refine yLs (ys := [_, _]) rfl rfl rfl ?_; refine yZ (cs := [_, _]) rfl rfl ?_; refine yS (cs' := [_, _]) rfl rfl rfl rfl rfl ?_; refine yQ ?_; refine pw_block ?_; refine pw_seq ?_
    refine pw_region ?_; refine yFb rfl ?_; refine yLd rfl rfl rfl ?_; refine yC (k1) rfl rfl ?_; refine yU rfl rfl rfl ?_; refine yAd rfl ?_; refine yQ ?_; refine pw_ct rfl ?_; refine pw_seq ?_; refine pw_region ?_; refine yAd rfl ?_
    refine yQ ?_; refine pw_ret ?_; refine q_blk_ret ?_; refine q_blk_ret ?_; refine q_then_ret ?_; refine q_then_ret ?_; refine q_blk_ret ?_; refine q_then_ret ?_
    exact q_ret _ (.tmp rfl .nil) rfl
  | true =>
    rw [hn] at k1 hat hnx
    cases hs : isC c1 with
    | false =>
      rw [hs] at k2 hat
      rw [hat (by simp)] at hr
      have hr : r = 1 := by simpa using hr
      subst hr
      refine pw_seq ?_; refine pw_region ?_; refine yB rfl rfl rfl rfl ?_; refine yQ ?_; refine pw_seq ?_; rw [t1]; refine pw_ct rfl ?_; refine pw_skip ?_; refine pw_seq ?_; refine pw_block ?_; refine pw_seq ?_; refine pw_region ?_
      refine yW em (by omega) rfl rfl ?_; refine yLs (ys := [_, _]) rfl rfl rfl ?_; refine yZ (cs := [_, _]) rfl rfl ?_; refine yS (cs' := [_, _]) rfl rfl rfl rfl rfl ?_; refine yQ ?_; refine pw_block ?_; refine pw_seq ?_
      refine pw_region ?_; refine yFb rfl ?_; refine yLd rfl rfl rfl ?_; refine yC (k1) rfl rfl ?_; refine yU rfl rfl rfl ?_; refine yAd rfl ?_; refine yQ ?_; refine pw_cf rfl ?_; refine pw_seq ?_; refine pw_region ?_; refine yFb rfl ?_
      refine yLd rfl rfl rfl ?_; refine yC (k2) rfl rfl ?_; refine yB rfl rfl rfl rfl ?_; refine yAd rfl ?_; refine yQ ?_; refine pw_ct rfl ?_; refine pw_seq ?_; refine pw_region ?_; refine yAd rfl ?_; refine yQ ?_; refine pw_ret ?_
      refine q_blk_ret ?_; refine q_blk_ret ?_; refine q_then_ret ?_; refine q_then_ret ?_; refine q_blk_ret ?_; refine q_then_ret ?_
      exact q_ret _ (.tmp rfl .nil) rfl
    | true =>
      rw [hs] at k2 hnx
      refine pw_seq ?_; refine pw_region ?_; refine yB rfl rfl rfl rfl ?_; refine yQ ?_; refine pw_seq ?_; rw [t1]; refine pw_ct rfl ?_; refine pw_skip ?_; refine pw_seq ?_; refine pw_block ?_; refine pw_seq ?_; refine pw_region ?_
      refine yW em (by omega) rfl rfl ?_; refine yLs (ys := [_, _]) rfl rfl rfl ?_; refine yZ (cs := [_, _]) rfl rfl ?_; refine yS (cs' := [_, _]) rfl rfl rfl rfl rfl ?_; refine yQ ?_; refine pw_block ?_; refine pw_seq ?_
      refine pw_region ?_; refine yFb rfl ?_; refine yLd rfl rfl rfl ?_; refine yC (k1) rfl rfl ?_; refine yU rfl rfl rfl ?_; refine yAd rfl ?_; refine yQ ?_; refine pw_cf rfl ?_; refine pw_seq ?_; refine pw_region ?_; refine yFb rfl ?_
      refine yLd rfl rfl rfl ?_; refine yC (k2) rfl rfl ?_; refine yB rfl rfl rfl rfl ?_; refine yAd rfl ?_; refine yQ ?_; refine pw_cf rfl ?_; refine pw_skip ?_; refine pw_region ?_; refine yB rfl rfl rfl rfl ?_; refine yMd rfl ?_
      refine yQ ?_; refine q_then ?_
      exact ⟨i + 1, ⟨by omega, hnx (by simp)⟩, by omega, rfl, ⟨.refl _, .refl _, .of_eq (congrArg (fun n => SV.d (dI n)) hw), trivial⟩, trivial, trivial, rfl⟩

theorem keysC : KeysC Tryz.prog 84 107 67 := fun mb W => callsIn_wide.1 (AnyZ.keys_in Tryz.keys Fence.wide 5 trivial rfl mb W)
theorem sortsIn (m : Nat) : AnyZ.SortsIn Tryz.prog Tryz.sorted_ren Fence.wide m :=
  ⟨fun blk off cap ss W hH hblk hsz => callsIn_wide.2 (AnyM.slices_Sort_string Tryz.sortStr blk off cap ss W hH hblk hsz),
   fun p cap W => callsIn_wide.2 (AnyM.slices_Sort_string_none Tryz.sortStr p cap W)⟩
theorem sortedC : SortedC Tryz.prog 83 107 9 := fun a b nn D0 R W ha hc hown hmax hbytes => by
  have hseq : SeqGives Fence.wide 2 Tryz.prog 107 #[.pointer (some ⟨a, 0, none⟩)] encStr (fun ss => ss.Perm (strKeys D0)) (Maps.size D0) W :=
    AnyZ.keys_gives (ρ := Tryz.keys_ren) { Tryz.keys with } Fence.wide _ trivial rfl (by omega) a b nn D0 W ha hc hown
  have cS := AnyZ.sorted_in Tryz.sorted Fence.wide 5 trivial trivial trivial trivial rfl (by omega) (sortsIn _) (enters_of Tryz.func106 (by kernel_rfl) rfl) 107 #[.pointer (some ⟨a, 0, none⟩)] trivial (enters_of Tryz.func107 (by kernel_rfl) rfl) _ _ hmax hbytes W hseq
  exact callsIn_wide.1 cS

theorem sumM_len {e : List Cf} {B : Nat} (h : ∀ c ∈ e, c.2.length ≤ B) (i : Nat) (k : Str) : (getS k (sumM e i)).length ≤ B + 2 * i := by
  induction i generalizing k with
  | zero => simp [sumM, getS]
  | succ i ih =>
    rw [sumM]
    split
    · have := ih k; omega
    · rename_i c hc
      refine getS_setS_len ?_ (fun j => by have := ih j; omega) k
      have := addI_len (k := B + 2 * i) (ih c.1) (b := c.2) (by have := h c (List.mem_of_getElem? hc); omega)
      omega
theorem skeys_D (M : List (Str × Str)) : skeys (mapD M) = mSort (M.map (·.1)) := by
  unfold skeys mapD
  rw [List.map_map]
  rfl
abbrev nfT : Nat := 36 * 100000 + 6
def nfI (ks : List Str) (M : List (Str × Str)) (j : Nat) : List Cf := (ks.take j).filterMap (keep M)
theorem nfI_next {ks : List Str} {j : Nat} {k : Str} (M : List (Str × Str)) (h : ks[j]? = some k) : nfI ks M (j + 1) = if getS k M = [] then nfI ks M j else nfI ks M j ++ [(k, getS k M)] := by
  rw [nfI, List.take_add_one, h, Option.toList, List.filterMap_append]
  simp only [List.filterMap_cons, List.filterMap_nil, keep]
  split
  · rename_i h0
    split at h0
    · rename_i h1; rw [if_pos h1, List.append_nil]; rfl
    · cases h0
  · rename_i p h0
    split at h0
    · cases h0
    · rename_i h1; cases h0; rw [if_neg h1]; rfl
theorem nfI_len (ks : List Str) (M : List (Str × Str)) (j : Nat) : (nfI ks M j).length ≤ ks.length := by
  refine Nat.le_trans (List.length_filterMap_le _ _) ?_
  rw [List.length_take]; omega
set_option maxRecDepth 20000 in
set_option maxHeartbeats 4000000 in
theorem wNormalI (e : List Cf) (hl : e.length ≤ 1000) (hn : ∀ c ∈ e, c.1.length ≤ 1000) (hf : ∀ c ∈ e, c.2.length ≤ 1000) : PCalls Tryz.prog 55 [.sl 2 (e.map dCf)] (.d (.sl 2 ((nf e).map dCf))) := by
  obtain ⟨r, hr⟩ : ∃ r, r = nf e := ⟨_, rfl⟩
  rw [← hr]
  have hml := fun i k => sumM_len hf i k
  refine pcalls_of_pw Tryz.func55 rfl Tryz.ntmps55 Tryz.results55 (by simp) fun B w0 => ?_
  refine pw_seq ?_; refine pw_region ?_; refine yAd rfl ?_; refine yQ ?_; refine pw_seq ?_; refine pw_region ?_; refine yKm rfl ?_; refine yAm rfl ?_; refine yQ ?_; refine pw_seq ?_; refine pw_seq ?_; refine pw_region ?_
  refine yMd rfl ?_; refine yN rfl ?_; refine yMd rfl ?_; refine yQ ?_; refine pw_block ?_
  refine pw_loop (fun i : Nat => ⟨49, [(3, .mb 500010), (11, .d (.sl 2 (e.map dCf))), (12, .d (dI e.length)), (13, .d (dI i))], [(500010, [.mc (kmap (mapD (sumM e i)))])], []⟩) (fun i => i ≤ e.length) (fun i => e.length - i) 0 (Nat.zero_le _)
    ⟨rfl, ⟨.refl _, .refl _, .of_eq (congrArg (fun n : Nat => SV.d (dI n)) (by simp)), .refl _, trivial⟩, ⟨⟨_, rfl, lesC_eq rfl⟩, trivial⟩, trivial, rfl⟩ ?_
  intro i hi
  rcases Nat.lt_or_ge i e.length with h | h
  · have t1 : decide ((i : Int) < (e.length : Int)) = true := decide_eq_true (by omega)
    obtain ⟨⟨c0, c1⟩, hc⟩ : ∃ a, e[i]? = some a := ⟨_, List.getElem?_eq_getElem h⟩
    have em := ix dCf e i i (c0, c1) rfl hc
    have hw := wrapI ((i : Int) + 1) (by omega)
    have hq := hf _ (List.mem_of_getElem? hc)
    simp only at hq
    have hln := hml i c0
    have hnx : sumM e (i + 1) = setS c0 (addI (getS c0 (sumM e i)) c1) (sumM e i) := by rw [sumM, hc]
    obtain ⟨M, hM⟩ : ∃ M, M = sumM e i := ⟨_, rfl⟩
    rw [← hM] at hnx hln ⊢
    have hg := mget_D c0 M
    have k1 := wAddT (getS c0 M) c1 (by omega) (by omega)
    have hs : mset c0 (dS (canon (val (getS c0 M) + val c1))) (mapD M) = mapD (setS c0 (addI (getS c0 M) c1) M) := mset_D c0 (addI (getS c0 M) c1) M
    obtain ⟨v, hv⟩ : ∃ v, v = getS c0 M := ⟨_, rfl⟩
    rw [← hv] at hg k1 hs hnx
    obtain ⟨M2, hM2⟩ : ∃ M2, M2 = setS c0 (addI v c1) M := ⟨_, rfl⟩
    rw [← hM2] at hs hnx
    obtain ⟨a, ha⟩ : ∃ a, a = canon (val v + val c1) := ⟨_, rfl⟩
    rw [← ha] at k1 hs
    clear ha hM2 hv
    refine pw_seq ?_; refine pw_region ?_; refine yB rfl rfl rfl rfl ?_; refine yQ ?_; refine pw_seq ?_; rw [t1]; refine pw_ct rfl ?_; refine pw_skip ?_; refine pw_seq ?_; refine pw_block ?_; refine pw_seq ?_; refine pw_region ?_
    refine yW em (by omega) rfl rfl ?_; refine yLs (ys := [_, _]) rfl rfl rfl ?_; refine yZ (cs := [_, _]) rfl rfl ?_; refine yS (cs' := [_, _]) rfl rfl rfl rfl rfl ?_; refine yQ ?_; refine pw_draw Tryz.mixed (by kernel_rfl) ?_
    refine yMm rfl ?_; refine yFb rfl ?_; refine yLd rfl rfl rfl ?_; refine yMm rfl ?_; refine yFb rfl ?_; refine yLd rfl rfl rfl ?_; refine yKl (z := dS []) rfl rfl rfl hg ?_; refine yFb rfl ?_; refine yLd rfl rfl rfl ?_
    refine yC (k1) rfl rfl ?_; refine yKu (z := dS []) rfl rfl rfl rfl hs ?_; refine yQ ?_; refine pw_region ?_; refine yB rfl rfl rfl rfl ?_; refine yMd rfl ?_; refine yQ ?_; refine q_then ?_
    exact ⟨i + 1, by omega, by omega, rfl, ⟨.refl _, .refl _, .refl _, .of_eq (congrArg (fun n => SV.d (dI n)) hw), trivial⟩, ⟨⟨_, rfl, lesC_eq (by rw [hnx])⟩, trivial⟩, trivial, rfl⟩
  have t1 : decide ((i : Int) < (e.length : Int)) = false := decide_eq_false (by omega)
  obtain rfl : i = e.length := by omega
  rw [nf] at hr
  have hMl := keys_len e e.length
  have hMk : ∀ p ∈ mapD (sumM e e.length), p.1.length ≤ 1000000 := fun p hp => by
    obtain ⟨q, hq, rfl⟩ := List.mem_map.1 hp
    obtain ⟨c, hc, h1⟩ := keys_mem e e.length q.1 (List.mem_map_of_mem hq)
    have := hn c hc
    show q.1.length ≤ 1000000
    rw [← h1]; omega
  have hks := skeys_D (sumM e e.length)
  obtain ⟨ks, hk⟩ : ∃ ks, ks = mSort ((sumM e e.length).map (·.1)) := ⟨_, rfl⟩
  have hkl : ks.length = (sumM e e.length).length := by rw [hk, List.length_mergeSort, List.length_map]
  rw [← hk] at hks hr
  clear hml
  obtain ⟨M, hM⟩ : ∃ M, M = sumM e e.length := ⟨_, rfl⟩
  rw [← hM] at hMl hMk hks hkl hr ⊢
  clear hM hk
  have hDl : (mapD M).length ≤ 1000000 := by rw [mapD, List.length_map]; omega
  refine pw_seq ?_; refine pw_region ?_; refine yB rfl rfl rfl rfl ?_; refine yQ ?_; refine pw_seq ?_; rw [t1]; refine pw_cf rfl ?_; refine pw_exit ?_; refine pw_seq ?_; refine pw_region ?_; refine yAd rfl ?_; refine yQ ?_
  refine pw_tok 6 nfT 2 rfl rfl rfl ?_; refine pw_seq ?_; refine pw_seq ?_; refine pw_region ?_; refine yMm rfl ?_; refine yKk keysC rfl rfl ?_; refine yKs sortedC (by kernel_rfl) rfl rfl rfl hDl hMk hks ?_; refine yN rfl ?_
  refine yMd rfl ?_; refine yQ ?_; refine pw_block ?_
  refine pw_loop (fun j : Nat => ⟨49, [(3, .mb 500010), (6, .ts nfT 2 ((nfI ks M j).map dCf)), (30, .d (.sl 1 (ks.map dC))), (31, .d (dI ks.length)), (32, .d (dI j))], [(500010, [.mc (kmap (mapD M))])], [(nfT, ((nfI ks M j).map dCf).length)]⟩) (fun j => j ≤ ks.length) (fun j => ks.length - j) 0 (Nat.zero_le _)
    ⟨rfl, ⟨.refl _, .refl _, .refl _, .of_eq (congrArg (fun n : Nat => SV.d (dI n)) (by simp)), .refl _, trivial⟩, ⟨⟨_, rfl, lesC_eq rfl⟩, trivial⟩, ⟨rfl, trivial⟩, rfl⟩ ?_
  intro j hj
  rcases Nat.lt_or_ge j ks.length with h2 | h2
  · have t2 : decide ((j : Int) < (ks.length : Int)) = true := decide_eq_true (by omega)
    obtain ⟨k, hk⟩ : ∃ a, ks[j]? = some a := ⟨_, List.getElem?_eq_getElem h2⟩
    have ek := ix dC ks j j k rfl hk
    have hw := wrapI ((j : Int) + 1) (by omega)
    have hnx := nfI_next M hk
    have hg := mget_D k M
    have hzl := nfI_len ks M j
    obtain ⟨zs, hz⟩ : ∃ z, z = nfI ks M j := ⟨_, rfl⟩
    obtain ⟨v, hv⟩ : ∃ v, v = getS k M := ⟨_, rfl⟩
    rw [← hz, ← hv] at hnx
    rw [← hz] at hzl ⊢
    rw [← hv] at hg
    clear hv hz
    by_cases he : v = []
    · have t3 : (v == []) = true := by simp [he]
      rw [if_pos he] at hnx
      refine pw_seq ?_; refine pw_region ?_; refine yB rfl rfl rfl rfl ?_; refine yQ ?_; refine pw_seq ?_; rw [t2]; refine pw_ct rfl ?_; refine pw_skip ?_; refine pw_seq ?_; refine pw_block ?_; refine pw_seq ?_; refine pw_region ?_
      refine yW ek (by omega) rfl rfl ?_; refine yLr rfl rfl ?_; refine yAd rfl ?_; refine yQ ?_; refine pw_seq ?_; refine pw_region ?_; refine yMm rfl ?_; refine yMd rfl ?_; refine yKl (z := dS []) rfl rfl rfl hg ?_; refine yAd rfl ?_
      refine yQ ?_; refine pw_seq ?_; refine pw_region ?_; refine yMd rfl ?_; refine yBsn rfl rfl ?_; refine yQ ?_; refine q_then ?_; rw [t3]; refine pw_cf rfl ?_; refine pw_skip ?_; refine pw_region ?_; refine yB rfl rfl rfl rfl ?_
      refine yMd rfl ?_; refine yQ ?_; refine q_then ?_
      exact ⟨j + 1, by omega, by omega, rfl, ⟨.refl _, .of_eq (by rw [hnx]; rfl), .refl _, .refl _, .of_eq (congrArg (fun n => SV.d (dI n)) hw), trivial⟩, ⟨⟨_, rfl, lesC_eq rfl⟩, trivial⟩, ⟨(by rw [hnx]; rfl), trivial⟩, rfl⟩
    · have t3 : (v == []) = false := by simp [he]
      rw [if_neg he] at hnx
      refine pw_seq ?_; refine pw_region ?_; refine yB rfl rfl rfl rfl ?_; refine yQ ?_; refine pw_seq ?_; rw [t2]; refine pw_ct rfl ?_; refine pw_skip ?_; refine pw_seq ?_; refine pw_block ?_; refine pw_seq ?_; refine pw_region ?_
      refine yW ek (by omega) rfl rfl ?_; refine yLr rfl rfl ?_; refine yAd rfl ?_; refine yQ ?_; refine pw_seq ?_; refine pw_region ?_; refine yMm rfl ?_; refine yMd rfl ?_; refine yKl (z := dS []) rfl rfl rfl hg ?_; refine yAd rfl ?_
      refine yQ ?_; refine pw_seq ?_; refine pw_region ?_; refine yMd rfl ?_; refine yBsn rfl rfl ?_; refine yQ ?_; refine q_then ?_; rw [t3]; refine pw_ct rfl ?_; refine pw_region ?_; refine yMt rfl ?_; refine yMd rfl ?_
      refine yMd rfl ?_; refine yG (ys := [_, _]) rfl rfl ?_; refine yR (es := [[_, _]]) rfl rfl rfl rfl rfl ?_
      refine yT (es' := (zs ++ [(k, v)]).map dCf) (m := ((zs ++ [(k, v)]).map dCf).length) (by simp; omega) (by simp; omega) rfl rfl rfl rfl rfl (by simp) (by simp) ?_; refine yAt rfl ?_; refine yQ ?_; refine pw_region ?_
      refine yB rfl rfl rfl rfl ?_; refine yMd rfl ?_; refine yQ ?_; refine q_then ?_
      exact ⟨j + 1, by omega, by omega, rfl, ⟨.refl _, .of_eq (by rw [hnx]; rfl), .refl _, .refl _, .of_eq (congrArg (fun n => SV.d (dI n)) hw), trivial⟩, ⟨⟨_, rfl, lesC_eq rfl⟩, trivial⟩, ⟨(by rw [hnx]; rfl), trivial⟩, rfl⟩
  have t2 : decide ((j : Int) < (ks.length : Int)) = false := decide_eq_false (by omega)
  obtain rfl : j = ks.length := by omega
  have he : nfI ks M ks.length = r := by rw [hr, nfI, List.take_length]
  rw [he]
  refine pw_seq ?_; refine pw_region ?_; refine yB rfl rfl rfl rfl ?_; refine yQ ?_; refine pw_seq ?_; rw [t2]; refine pw_cf rfl ?_; refine pw_exit ?_; refine pw_seq ?_; refine pw_region ?_; refine yMt rfl ?_; refine yAt rfl ?_
  refine yQ ?_; refine pw_ret ?_
  exact q_ret _ (.tmp rfl .nil) rfl
end Go.Proofs.YtmfeinilbjfnpaaGreatDoor
namespace Go.Proofs.YtmfeinilbjfnpaaGreatDoor
open Go.RowKit Px

abbrev shE : Sh := .sl (.pr .s (.pr .s .un))
theorem cfs_dv (x : Dat shE) : ∃ l : List Cf, Dat.dv shE x = .sl 2 (l.map dCf) := by
  refine ⟨x.map fun h => (h.1, h.2.1), ?_⟩
  rw [List.map_map]
  rfl
end Go.Proofs.YtmfeinilbjfnpaaGreatDoor
namespace Go.Proofs.YtmfeinilbjfnpaaGreatDoor
open Go.RowKit Px

def tot {α : Type} (css : List (List α)) (k : Nat) : Nat := ((css.take k).flatten).length
theorem nmB_len {s : Str} (h : nmB s = true) : s.length ≤ 16 := by
  unfold nmB nameB at h
  simp only [Bool.and_eq_true, decide_eq_true_eq] at h
  exact h.1.1.2
theorem cE_zero {c : Cf} : cE c = 0 ↔ nmB c.1 = true ∧ isC c.2 = true := by
  unfold cE
  cases nmB c.1 <;> cases isC c.2 <;> simp
theorem chE_zero {e : List Cf} : chE e = 0 ↔ e.length ≤ 16 ∧ ∀ c ∈ e, nmB c.1 = true ∧ isC c.2 = true := by
  unfold chE
  constructor
  · intro h
    split at h
    · cases h
    · exact ⟨by omega, fun c hc => cE_zero.1 (chL_zero h c hc)⟩
  · rintro ⟨h1, h2⟩
    rw [if_neg (by omega)]
    exact chL_ok fun c hc => cE_zero.2 (h2 c hc)
/-- what Normal returns -/
def nmE (e : List Cf) : List Cf := if chE e = 0 then nf e else []
set_option maxRecDepth 20000 in
theorem wNormalE (e : List Cf) (hl : e.length ≤ 1000000) (hf : ∀ c ∈ e, c.2.length ≤ 1000) : PCalls Tryz.prog 20 [.sl 2 (e.map dCf)] (.tup [.sl 2 ((nmE e).map dCf), dI (chE e)]) := by
  have k1 := wCheckE e hl fun c hc => by have := hf c hc; omega
  by_cases h : chE e = 0
  · obtain ⟨h1, h2⟩ := chE_zero.1 h
    have k2 := wNormalI e (by omega) (fun c hc => by have := nmB_len (h2 c hc).1; omega) hf
    rw [nmE, if_pos h, h]
    rw [h] at k1
    obtain ⟨r, hr⟩ : ∃ r, r = nf e := ⟨_, rfl⟩
    rw [← hr] at k2 ⊢
    refine pcalls_of_pw Tryz.func20 rfl Tryz.ntmps20 Tryz.results20 (by simp) fun B w0 => ?_
    refine pw_seq ?_; refine pw_region ?_; refine yAd rfl ?_; refine yAd rfl ?_; refine yQ ?_; refine pw_seq ?_; refine pw_seq ?_; refine pw_region ?_; refine yMd rfl ?_; refine yC (k1) rfl rfl ?_; refine yAd rfl ?_; refine yQ ?_
    refine pw_seq ?_; refine pw_region ?_; refine yMd rfl ?_; refine yB rfl rfl rfl rfl ?_; refine yQ ?_; refine pw_cf rfl ?_; refine pw_skip ?_; refine pw_seq ?_; refine pw_region ?_; refine yMd rfl ?_; refine yC (k2) rfl rfl ?_
    refine yAd rfl ?_; refine yAd rfl ?_; refine yQ ?_; refine pw_ret ?_
    exact q_ret _ (.tmp rfl (.tmp rfl .nil)) rfl
  · have t : (chE e != 0) = true := by simpa using h
    rw [nmE, if_neg h]
    obtain ⟨x, hx⟩ : ∃ x, x = chE e := ⟨_, rfl⟩
    rw [← hx] at k1 t ⊢
    refine pcalls_of_pw Tryz.func20 rfl Tryz.ntmps20 Tryz.results20 (by simp) fun B w0 => ?_
    refine pw_seq ?_; refine pw_region ?_; refine yAd rfl ?_; refine yAd rfl ?_; refine yQ ?_; refine pw_seq ?_; refine pw_seq ?_; refine pw_region ?_; refine yMd rfl ?_; refine yC (k1) rfl rfl ?_; refine yAd rfl ?_; refine yQ ?_
    refine pw_seq ?_; refine pw_region ?_; refine yMd rfl ?_; refine yB rfl rfl rfl rfl ?_; refine yQ ?_; refine q_then ?_; rw [t]; refine pw_ct rfl ?_; refine pw_seq ?_; refine pw_region ?_; refine yMd rfl ?_; refine yAd rfl ?_
    refine yAd rfl ?_; refine yQ ?_; refine pw_ret ?_; refine q_then_ret ?_
    exact q_ret _ (.tnil 2 rfl (.tmp rfl .nil)) rfl
abbrev naT : Nat := 9 * 100000 + 6
/-- what Add returns -/
def adE (a b : List Cf) : Int := if chE a ≠ 0 then chE a else if chE b ≠ 0 then chE b else if 16 < (nf (a ++ b)).length then 4 else 0
def adR (a b : List Cf) : List Cf := if adE a b = 0 then nf (a ++ b) else []
/-- the multiple, term by term; what Scale returns -/
def scl (n : Str) (e : List Cf) : List Cf := e.map fun c => (c.1, canon (val c.2 * val n))
def scE (e : List Cf) (n : Str) : Int := if chE e ≠ 0 then chE e else if isC n then 0 else 1
def scR (e : List Cf) (n : Str) : List Cf := if scE e n = 0 then nf (scl n e) else []
theorem mul_len {a b : Str} {k m : Nat} (ha : a.length ≤ k) (hb : b.length ≤ m) : (canon (val a * val b)).length ≤ k + m + 1 := by
  have h1 := val_lt ha
  have h2 := val_lt hb
  refine canon_le (k := k + m) ?_
  rw [Int.natAbs_mul, Nat.pow_add]
  exact Nat.mul_lt_mul'' h1 h2
abbrev scT : Nat := 36 * 100000 + 7
end Go.Proofs.YtmfeinilbjfnpaaGreatDoor
