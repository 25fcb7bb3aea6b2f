/- Rules for maps with strings as keys: made, looked up, written. -/
import Derived.Test.YtdkpmnefoobipaaGreatDoorB6
import Derived.MapKept
import Derived.Carry
import Derived.Test.YtdkpmnefoobipaaGreatDoorB3
import Derived.Test.YtdkpmnefoobipaaGreatDoorB4
import Derived.Shelf.Strconv.ParseUint10At
import Derived.Shelf.Strings.Repeat
import Derived.Shelf.Strings.Builder1
import Derived.Ground.NamesProg
import Derived.Test.YtdkpmnefoobipaaGreatDoorProg
import Derived.Lib.AtoiErrMem
import Derived.WideLaws
import Derived.Laws.Small
import Derived.Test.YtdkpmnefoobipaaGreatDoorB5
import Derived.Lib.SliceRun
import Derived.Shelf.RegionOpen
import Derived.Lib.AppendStr
import Derived.Shelf.Strconv.Itoa1
import Derived.Shelf.Strconv.Itoa2
import Derived.Lib.Walk
import Derived.Lib.ItoaMem
import Derived.Lib.AppendIntMem
import Derived.WalkKit
import Derived.BigCall
import Derived.BigGuard
import Derived.CellFam
import Derived.Test.YtdkpmnefoobipaaGreatDoorB7
set_option maxHeartbeats 1000000
namespace Go.Proofs.YtdkpmnefoobipaaGreatDoor.Px
open Go.RowKit

def kmap (l : List (List UInt8 × DV)) : List (Value × DV) := l.map fun p => (vS p.1, p.2)
def mget (z : DV) (k : List UInt8) : List (List UInt8 × DV) → DV
  | [] => z
  | (k', v) :: l => if k' = k then v else mget z k l
def mset (k : List UInt8) (v : DV) : List (List UInt8 × DV) → List (List UInt8 × DV)
  | [] => [(k, v)]
  | (k', v') :: l => if k' = k then (k, v) :: l else (k', v') :: mset k v l

theorem find_spec (k : List UInt8) : ∀ (l : List (List UInt8 × DV)) (es : List MapEntry) (n : Nat), es.length = l.length → (∀ (i : Nat) e p, es[i]? = some e → l[i]? = some p → e.key = vS p.1) →
    (∃ j e d, Instr.findNow .string (vS k) es n = some (some (n + j, e.val)) ∧ es[j]? = some e ∧ l[j]? = some (k, d) ∧ (∀ z, mget z k l = d) ∧ ∀ v, mset k v l = l.set j (k, v)) ∨
    (Instr.findNow .string (vS k) es n = some none ∧ (∀ z, mget z k l = z) ∧ ∀ v, mset k v l = l ++ [(k, v)])
  | [], [], n, _, _ => .inr ⟨rfl, fun _ => rfl, fun _ => rfl⟩
  | [], e :: es, n, hl, _ => by simp at hl
  | p :: l, [], n, hl, _ => by simp at hl
  | (k', d) :: l, e :: es, n, hl, hk => by
    have h0 : e.key = vS k' := hk 0 e (k', d) rfl rfl
    have hs : Instr.sameNow .string (vS k) e.key = some ((⟨k.toArray⟩ : ByteArray) == ⟨k'.toArray⟩) := by rw [h0]; rfl
    by_cases hkk : k' = k
    · subst hkk
      refine .inl ⟨0, e, d, ?_, rfl, rfl, fun z => by rw [mget, if_pos rfl], fun v => by rw [mset, if_pos rfl]; rfl⟩
      rw [Instr.findNow, hs, (MapKept.bytes_beq _ _).2 rfl]
      rfl
    · have hb : ((⟨k.toArray⟩ : ByteArray) == ⟨k'.toArray⟩) = false := by
        rw [← Bool.not_eq_true, MapKept.bytes_beq]
        intro e
        apply hkk
        have := congrArg (fun x : ByteArray => x.data.toList) e
        simpa using this.symm
      have hf : Instr.findNow .string (vS k) (e :: es) n = Instr.findNow .string (vS k) es (n + 1) := by rw [Instr.findNow, hs, hb]
      rcases find_spec k l es (n + 1) (by simpa using hl) (fun i e' p' he hp => hk (i + 1) e' p' (by simpa using he) (by simpa using hp)) with ⟨j, e', d', h1, h2, h3, h4, h5⟩ | ⟨h1, h2, h3⟩
      · refine .inl ⟨j + 1, e', d', ?_, h2, h3, fun z => by rw [mget, if_neg hkk, h4], fun v => by rw [mset, if_neg hkk, h5]; rfl⟩
        rw [hf, h1, show n + 1 + j = n + (j + 1) by omega]
      · exact .inr ⟨by rw [hf, h1], fun z => by rw [mget, if_neg hkk, h2], fun v => by rw [mset, if_neg hkk, h3]; rfl⟩

class MapOf (P : Program) (T : Nat) (z : outParam DV) : Prop where
  und : ∃ kt et, P.underlying T = some (.map kt et) ∧ P.underlying kt = some .string ∧ ∀ w, ∃ v, (zeroValue et).run P w = .ok v w ∧ ∀ F w', DRep F w' v z

section
variable {P : Program} {sq : Bool} {ops : Array Oper} {K : PS → Prop} {rest : List Oper} {st : PS} {d : Option Nat} {ty : TypeId} {pos : String} {af : Array Edge} {gd : Option (Nat × Bool)}

theorem ls_mkm (T : TypeId) {e : Nat} (hi : st.bget (500000 + e) = none) (hd : dstOk ⟨some e, .makeMap T none, ty, pos, af, gd⟩ st = true) :
    LocS P ⟨some e, .makeMap T none, ty, pos, af, gd⟩ st (.mb (500000 + e)) (.box (500000 + e) [.mc (kmap [])]) := fun st2 ha => by
  intro B w0 g a w K Q hr hK
  have hin : e < st2.n := dstOk_spec (ha.dst hd) e rfl
  have hlim : st2.n ≤ 10000 := hr.lim
  have hi2 : st2.bget (500000 + e) = none := ha.fresh rfl e rfl (500000 + e) (newOf_map (by omega)) hi
  have hrep := hr.newm e 0 hi2 hin #[] (kmap []) ⟨rfl, fun i e p he => by simp at he⟩
  have hrun : (execOp a.eval ⟨some e, .makeMap T none, ty, pos, af, gd⟩).run P w = .ok (.value (.map (some w.heap.size))) (w.alloc (.map #[] 0)) := by
    simp [execOp, run_makeMap]
  unfold Oper.wp
  rw [hrun]
  exact hK _ _ _ (hrep.put (x := .mb (500000 + e)) ⟨w.heap.size, by simp [Gh.addb], rfl⟩ _ (dstOk_spec (st := st2.bput (500000 + e) _) (ha.dst hd)))
theorem yKm {T e : Nat} (hi : st.bget (500000 + e) = none)
    (h : YR P sq ops K rest ((st.bput (500000 + e) [.mc (kmap [])]).put (some e) (.mb (500000 + e)))) (hd : dstOk ⟨some e, .makeMap T none, ty, pos, af, gd⟩ st = true := by kernel_rfl) (hk : opOk ⟨some e, .makeMap T none, ty, pos, af, gd⟩ st (.box (500000 + e) [.mc (kmap [])]) = true := by kernel_rfl) (hw : st.want ops ⟨some e, .makeMap T none, ty, pos, af, gd⟩ = some true := by rfl) :
    YR P sq ops K (⟨some e, .makeMap T none, ty, pos, af, gd⟩ :: rest) st := yr_b (ls_mkm T hi hd) hk hw h

theorem map_at {B : Nat} {w0 : Cx} {g : Gh} {a : Act} {w : World} (hr : Rep B w0 g st a w) {i : Nat} {l : List (List UInt8 × DV)} (hge : 500000 ≤ i) (hi : st.bget i = some [.mc (kmap l)]) :
    ∃ b es c, g.bl i = some b ∧ w.heap[b]? = some (.map es c) ∧ es.toList.length = l.length ∧ (∀ (i : Nat) e p, es.toList[i]? = some e → l[i]? = some p → e.key = vS p.1) ∧ ∀ (i : Nat) e p, es.toList[i]? = some e → l[i]? = some p → DRep (Fx g) w e.val p.2 := by
  obtain ⟨b, es, c, h1, h2, h3, h4⟩ := hr.maps i _ hi hge
  have hp : ∀ (i : Nat) p, l[i]? = some p → (kmap l)[i]? = some (vS p.1, p.2) := fun i p hp => by rw [kmap, List.getElem?_map, hp]; rfl
  exact ⟨b, es, c, h1, h2, by simpa [kmap] using h3, fun i e p he hl => (h4 i e _ (by simpa using he) (hp i p hl)).1, fun i e p he hl => (h4 i e _ (by simpa using he) (hp i p hl)).2⟩

theorem ls_mlk (T : TypeId) (x y : Operand) {i : Nat} {l : List (List UInt8 × DV)} {k : List UInt8} {z : DV} [hM : MapOf P T z] (hge : 500000 ≤ i) (hx : st.ev x = .mb i) (hi : st.bget i = some [.mc (kmap l)]) (hy : st.ev y = .d (dS k)) (hd : dstOk ⟨d, .lookup T x y false, ty, pos, af, gd⟩ st = true) :
    LocS P ⟨d, .lookup T x y false, ty, pos, af, gd⟩ st (.d (mget z k l)) .no := fun st2 ha =>
  OpS.value (ha.dst hd) fun _ _ g a w h => by
    have h1 := h.eval x
    rw [ha.ev x (by simp [Op.operands]), hx] at h1
    have h2 := h.eval y
    rw [ha.ev y (by simp [Op.operands]), hy] at h2
    have hi2 : st2.bget i = some [.mc (kmap l)] := (ha.ids rfl x (by simp [Op.operands]) i (by rw [hx]; simp [SV.ids])).trans hi
    obtain ⟨b, q1, q2⟩ := h1
    obtain ⟨b', es, c, r1, r2, r3, r4, r5⟩ := map_at h hge hi2
    rw [q1] at r1
    cases r1
    obtain ⟨kt, et, m1, m2, m3⟩ := hM.und
    obtain ⟨v, m4, m5⟩ := m3 w
    have hc : ∀ e, (Instr.checkKey e 10000 kt (vS k)).run P w = .ok () w := fun e => MapKept.run_checkKey (k := vS k) m2 (by simp [MapKept.IsKey]) e 9999
    rcases find_spec k l es.toList 0 r3 r4 with ⟨j, e, d', f1, f2, f3, f4, -⟩ | ⟨f1, f2, -⟩
    · refine ⟨e.val, w, ?_, Below.refl _ _, ?_⟩
      · simp [execOp, Instr.lookup, run_underlying m1, q2, DRep.val_eq h2, MapKept.run_getObj_map r2, hc, MapKept.run_findKey m2 f1, Result.andThen]
      · rw [f4]; exact r5 j e _ f2 f3
    · refine ⟨v, w, ?_, Below.refl _ _, ?_⟩
      · simp [execOp, Instr.lookup, run_underlying m1, q2, DRep.val_eq h2, MapKept.run_getObj_map r2, hc, MapKept.run_findKey m2 f1, m4, Result.andThen]
      · rw [f2]; exact m5 _ _
theorem yKl {T : Nat} {x y : Operand} {i : Nat} {l : List (List UInt8 × DV)} {k : List UInt8} {z v : DV} [hM : MapOf P T z] (hx : st.ev x = .mb i) (hi : st.bget i = some [.mc (kmap l)]) (hy : st.ev y = .d (dS k)) (hv : mget z k l = v)
    (h : YR P sq ops K rest (st.put d (.d v))) (hge : Nat.ble 500000 i = true := by rfl) (hd : dstOk ⟨d, .lookup T x y false, ty, pos, af, gd⟩ st = true := by kernel_rfl) (hk : opOk ⟨d, .lookup T x y false, ty, pos, af, gd⟩ st .no = true := by kernel_rfl) (hw : st.want ops ⟨d, .lookup T x y false, ty, pos, af, gd⟩ = some true := by rfl) :
    YR P sq ops K (⟨d, .lookup T x y false, ty, pos, af, gd⟩ :: rest) st := yr_v (hv ▸ ls_mlk T x y (Nat.le_of_ble_eq_true hge) hx hi hy hd) hk hw h

theorem run_keyStays (k : List UInt8) (w : World) : (Instr.keyThatStays (vS k) (vS k)).run P w = .ok (vS k) w := by
  have : Instr.sameBits 10000 (vS k) (vS k) = true := by
    show ((⟨k.toArray⟩ : ByteArray) == ⟨k.toArray⟩) = true
    exact (MapKept.bytes_beq _ _).2 rfl
  simp [Instr.keyThatStays, this]
theorem ls_mup (T : TypeId) (x y u : Operand) {i : Nat} {l : List (List UInt8 × DV)} {k : List UInt8} {z v : DV} [hM : MapOf P T z] (hge : 500000 ≤ i) (hx : st.ev x = .mb i) (hi : st.bget i = some [.mc (kmap l)]) (hy : st.ev y = .d (dS k)) (hu : st.ev u = .d v) (hd : dstOk ⟨d, .mapUpdate T x y u, ty, pos, af, gd⟩ st = true) :
    LocS P ⟨d, .mapUpdate T x y u, ty, pos, af, gd⟩ st .any (.box i [.mc (kmap (mset k v l))]) := fun st2 ha => by
  intro B w0 g a w K Q h hK
  have h1 := h.eval x
  rw [ha.ev x (by simp [Op.operands]), hx] at h1
  have h2 := h.eval y
  rw [ha.ev y (by simp [Op.operands]), hy] at h2
  have h3 := h.eval u
  rw [ha.ev u (by simp [Op.operands]), hu] at h3
  have hi2 : st2.bget i = some [.mc (kmap l)] := (ha.ids rfl x (by simp [Op.operands]) i (by rw [hx]; simp [SV.ids])).trans hi
  obtain ⟨b, q1, q2⟩ := h1
  obtain ⟨b', es, c, r1, r2, r3, r4, r5⟩ := map_at h hge hi2
  rw [q1] at r1
  cases r1
  obtain ⟨kt, et, m1, m2, -⟩ := hM.und
  have hc : ∀ e, (Instr.checkKey e 10000 kt (vS k)).run P w = .ok () w := fun e => MapKept.run_checkKey (k := vS k) m2 (by simp [MapKept.IsKey]) e 9999
  have hblt : b < w.heap.size := (Array.getElem?_eq_some_iff.1 r2).1
  suffices hrun : ∃ es' c', (execOp a.eval ⟨d, .mapUpdate T x y u, ty, pos, af, gd⟩).run P w = .ok .skip { w with heap := w.heap.setIfInBounds b (.map es' c') } ∧ es'.toList.length = (mset k v l).length ∧ ∀ (q : Nat) e p, es'.toList[q]? = some e → (mset k v l)[q]? = some p → e.key = vS p.1 ∧ DRep (Fx g) w e.val p.2 by
    obtain ⟨es', c', e1, e2, e3⟩ := hrun
    have hs := MapKept.heap_set (o' := .map es' c') r2
    have hrep := h.seto i b [.mc (kmap (mset k v l))] (w' := { w with heap := w.heap.setIfInBounds b (.map es' c') }) q1 ⟨rfl, rfl, rfl, by simp, fun q hq => by omega⟩ (fun q _ hne => hs.2 q hne) (by unfold World.shape?; simp only [hs.1, r2]) (fun _ hlt => by omega) (fun e _ ms hms => by
      obtain rfl : kmap (mset k v l) = ms := by simpa using hms
      refine ⟨es', c', hs.1, by simpa [kmap] using e2, fun q en p he hp => ?_⟩
      rw [kmap, List.getElem?_map, Option.map_eq_some_iff] at hp
      obtain ⟨p', hp1, rfl⟩ := hp
      have := e3 q en p' (by simpa using he) hp1
      exact ⟨this.1, this.2.mono e.fx⟩)
    unfold Oper.wp
    rw [e1]
    exact hK g _ _ (hrep.put (x := .any) trivial _ (dstOk_spec (st := st2.bput i _) (ha.dst hd)))
  rcases find_spec k l es.toList 0 r3 r4 with ⟨j, e, d', f1, f2, f3, -, f5⟩ | ⟨f1, -, f3⟩
  · have hek : e.key = vS k := r4 j e _ f2 f3
    have hj : es[j]? = some e := by simpa using f2
    refine ⟨es.modify j fun e => { e with key := vS k, val := a.eval u }, c, ?_, ?_, ?_⟩
    · simp [execOp, Instr.mapUpdate, run_underlying m1, q2, DRep.val_eq h2, MapKept.run_getObj_map r2, hc, MapKept.run_findKey m2 f1, hj, hek, run_keyStays, MapKept.run_setObj_map _ r2, Result.andThen]
    · rw [f5]; simpa using r3
    · intro q en p he hp
      rw [f5] at hp
      rw [Array.toList_modify, List.getElem?_modify] at he
      by_cases hq : j = q
      · subst hq
        rw [f2] at he
        rw [List.getElem?_set_self (by rw [← r3]; exact (List.getElem?_eq_some_iff.1 f2).1)] at hp
        cases hp
        simp at he
        subst he
        exact ⟨rfl, h3⟩
      · rw [List.getElem?_set_ne hq] at hp
        simp [hq] at he
        exact ⟨r4 q en p (by simpa using he) hp, r5 q en p (by simpa using he) hp⟩
  · refine ⟨es.push { key := vS k, val := a.eval u, born := c }, c + 1, ?_, ?_, ?_⟩
    · simp [execOp, Instr.mapUpdate, run_underlying m1, q2, DRep.val_eq h2, MapKept.run_getObj_map r2, hc, MapKept.run_findKey m2 f1, MapKept.run_setObj_map _ r2, Result.andThen]
    · rw [f3]; simpa using r3
    · intro q en p he hp
      rw [f3] at hp
      rw [Array.toList_push] at he
      rcases Nat.lt_or_ge q l.length with hq | hq
      · rw [List.getElem?_append_left hq] at hp
        rw [List.getElem?_append_left (by omega)] at he
        exact ⟨r4 q en p he hp, r5 q en p he hp⟩
      · rw [List.getElem?_append_right hq] at hp
        rw [List.getElem?_append_right (by omega), r3] at he
        obtain ⟨hq0, -⟩ := List.getElem?_eq_some_iff.1 hp
        have hq1 : q - l.length = 0 := by simpa using hq0
        rw [hq1] at he hp
        cases he
        cases hp
        exact ⟨rfl, h3⟩
theorem yKu {T : Nat} {x y u : Operand} {i : Nat} {l l' : List (List UInt8 × DV)} {k : List UInt8} {z v : DV} [hM : MapOf P T z] (hx : st.ev x = .mb i) (hi : st.bget i = some [.mc (kmap l)]) (hy : st.ev y = .d (dS k)) (hu : st.ev u = .d v) (hl : mset k v l = l')
    (h : YR P sq ops K rest ((st.bput i [.mc (kmap l')]).put d .any)) (hge : Nat.ble 500000 i = true := by rfl) (hd : dstOk ⟨d, .mapUpdate T x y u, ty, pos, af, gd⟩ st = true := by kernel_rfl) (hk : opOk ⟨d, .mapUpdate T x y u, ty, pos, af, gd⟩ st (.box i [.mc (kmap l')]) = true := by kernel_rfl) (hw : st.want ops ⟨d, .mapUpdate T x y u, ty, pos, af, gd⟩ = some true := by rfl) :
    YR P sq ops K (⟨d, .mapUpdate T x y u, ty, pos, af, gd⟩ :: rest) st := yr_b (hl ▸ ls_mup T x y u (Nat.le_of_ble_eq_true hge) hx hi hy hu hd) hk hw h
end
end Go.Proofs.YtdkpmnefoobipaaGreatDoor.Px
set_option maxHeartbeats 1000000
namespace Go.Proofs.YtdkpmnefoobipaaGreatDoor

def grp (n : Nat) : List Nat := if h : n = 0 then [] else (n % 1000000000) :: grp (n / 1000000000)
termination_by n
decreasing_by exact Nat.div_lt_self (by omega) (by omega)
def gval : List Nat → Nat
  | [] => 0
  | x :: l => x + 1000000000 * gval l
def gok (l : List Nat) : Prop := ∀ x ∈ l, x < 1000000000
theorem grp_zero : grp 0 = [] := by rw [grp]; simp
theorem grp_pos {n : Nat} (h : n ≠ 0) : grp n = (n % 1000000000) :: grp (n / 1000000000) := by rw [grp]; simp [h]
theorem gval_grp (n : Nat) : gval (grp n) = n := by
  induction n using Nat.strongRecOn with
  | _ n ih =>
    by_cases h : n = 0
    · subst h; rw [grp_zero]; rfl
    · rw [grp_pos h, gval, ih (n / 1000000000) (Nat.div_lt_self (by omega) (by omega))]
      omega
theorem gok_grp (n : Nat) : gok (grp n) := by
  induction n using Nat.strongRecOn with
  | _ n ih =>
    by_cases h : n = 0
    · subst h; rw [grp_zero]; intro x hx; simp at hx
    · rw [grp_pos h]
      intro x hx
      rcases List.mem_cons.1 hx with e | e
      · omega
      · exact ih (n / 1000000000) (Nat.div_lt_self (by omega) (by omega)) x e
theorem grp_nil {n : Nat} : grp n = [] ↔ n = 0 := by
  constructor
  · intro h; have := gval_grp n; rw [h] at this; exact this.symm
  · rintro rfl; exact grp_zero
theorem gok_cons {x : Nat} {l : List Nat} : gok (x :: l) ↔ x < 1000000000 ∧ gok l := by simp [gok]
theorem gok_append {l r : List Nat} : gok (l ++ r) ↔ gok l ∧ gok r := by
  simp only [gok, List.mem_append]
  exact ⟨fun h => ⟨fun x hx => h x (.inl hx), fun x hx => h x (.inr hx)⟩, fun h x hx => hx.elim (h.1 x) (h.2 x)⟩
theorem gval_append (l r : List Nat) : gval (l ++ r) = gval l + 1000000000 ^ l.length * gval r := by
  induction l with
  | nil => simp [gval]
  | cons x l ih =>
    rw [List.cons_append, gval, ih, gval, List.length_cons, Nat.pow_succ, Nat.mul_add, ← Nat.mul_assoc, Nat.mul_comm (1000000000 ^ l.length) 1000000000]
    omega
theorem gval_lt {l : List Nat} (h : gok l) : gval l < 1000000000 ^ l.length := by
  induction l with
  | nil => simp [gval]
  | cons x l ih =>
    obtain ⟨h1, h2⟩ := gok_cons.1 h
    have := ih h2
    rw [gval, List.length_cons, Nat.pow_succ]
    omega
def cutG : List Nat → List Nat
  | [] => []
  | x :: l => if cutG l = [] ∧ x = 0 then [] else x :: cutG l
theorem cutG_gval (l : List Nat) : gval (cutG l) = gval l := by
  induction l with
  | nil => rfl
  | cons x l ih =>
    rw [cutG]
    split
    · rename_i h
      rw [h.1] at ih
      rw [gval, gval, ← ih, h.2]
      simp [gval]
    · rw [gval, gval, ih]
theorem cutG_gok {l : List Nat} (h : gok l) : gok (cutG l) := by
  induction l with
  | nil => exact h
  | cons x l ih =>
    obtain ⟨h1, h2⟩ := gok_cons.1 h
    rw [cutG]
    split
    · intro x hx; simp at hx
    · exact gok_cons.2 ⟨h1, ih h2⟩
theorem cutG_last (l : List Nat) : (cutG l).getLast? ≠ some 0 := by
  induction l with
  | nil => simp [cutG]
  | cons x l ih =>
    rw [cutG]
    split
    · simp
    · rename_i h
      by_cases he : cutG l = []
      · rw [he]
        simp
        intro e
        exact h ⟨he, e⟩
      · match hd : cutG l, he, ih with
        | y :: r, _, ih => simpa using ih
theorem cutG_snoc (l : List Nat) (x : Nat) : cutG (l ++ [x]) = if x = 0 then cutG l else l ++ [x] := by
  induction l with
  | nil => simp [cutG]
  | cons y l ih =>
    rw [List.cons_append, cutG, ih]
    by_cases h : x = 0
    · simp only [h, if_true]
      rw [cutG]
    · simp only [h, if_false]
      rw [if_neg (by simp)]
def rdG (t : Str) : List Nat := if h : t = [] then [] else natOf (t.drop (t.length - 9)) :: rdG (t.take (t.length - 9))
termination_by t.length
decreasing_by
  rw [List.length_take]
  have : 0 < t.length := List.length_pos_iff.2 h
  omega
theorem rdG_nil : rdG [] = [] := by rw [rdG]; simp
theorem rdG_pos {t : Str} (h : t ≠ []) : rdG t = natOf (t.drop (t.length - 9)) :: rdG (t.take (t.length - 9)) := by rw [rdG]; simp [h]
theorem natOf_lt {t : Str} (h : t.all isD = true) : natOf t < 10 ^ t.length := by
  induction t using snoc_ind with
  | h0 => simp [natOf]
  | h1 l b ih =>
    rw [List.all_append, Bool.and_eq_true] at h
    have hb := dv_lt (b := b) (by simpa using h.2)
    have := ih h.1
    rw [natOf_snoc, List.length_append, List.length_singleton, Nat.pow_succ]
    omega
theorem natOf_pos {t : Str} (h : t.all isD = true) (h0 : t.head? ≠ some 48) (hn : t ≠ []) : natOf t ≠ 0 := fun e => by
  have := dec_natOf h h0
  rw [e, dec_zero] at this
  exact hn this.symm
theorem rdG_grp {t : Str} (h : t.all isD = true) (h0 : t.head? ≠ some 48) : rdG t = grp (natOf t) := by
  obtain ⟨n, hn⟩ : ∃ n, n = t.length := ⟨_, rfl⟩
  induction n using Nat.strongRecOn generalizing t with
  | _ n ih =>
    by_cases he : t = []
    · subst he; rw [rdG_nil]; exact grp_zero.symm
    · have hpos : 0 < t.length := List.length_pos_iff.2 he
      have hne := natOf_pos h h0 he
      have hall : (t.take (t.length - 9)).all isD = true ∧ (t.drop (t.length - 9)).all isD = true := by
        rw [← Bool.and_eq_true, ← List.all_append, List.take_append_drop]; exact h
      have hhead : (t.take (t.length - 9)).head? ≠ some 48 := by
        match t, h0 with
        | x :: l, h0 =>
          cases hk : (x :: l).length - 9 with
          | zero => simp
          | succ k => simpa using h0
      have hsplit := natOf_append (t.take (t.length - 9)) (t.drop (t.length - 9))
      rw [List.take_append_drop] at hsplit
      have hdl : (t.drop (t.length - 9)).length = min 9 t.length := by rw [List.length_drop]; omega
      have hlt := natOf_lt hall.2
      rw [hdl] at hsplit hlt
      rw [rdG_pos he, ih (t.take (t.length - 9)).length (by rw [List.length_take]; omega) hall.1 hhead rfl, grp_pos hne]
      by_cases h9 : 9 ≤ t.length
      · rw [Nat.min_eq_left h9] at hsplit hlt
        have e1 : natOf t % 1000000000 = natOf (t.drop (t.length - 9)) := by omega
        have e2 : natOf t / 1000000000 = natOf (t.take (t.length - 9)) := by omega
        rw [e1, e2]
      · rw [Nat.min_eq_right (by omega)] at hsplit hlt
        have e0 : t.length - 9 = 0 := by omega
        have hle : 10 ^ t.length ≤ 10 ^ 9 := Nat.pow_le_pow_right (by omega) (by omega)
        simp only [e0, List.take_zero, List.drop_zero] at hsplit hlt ⊢
        have e3 : natOf ([] : Str) = 0 := rfl
        have e1 : natOf t % 1000000000 = natOf t := Nat.mod_eq_of_lt (by omega)
        have e2 : natOf t / 1000000000 = 0 := Nat.div_eq_of_lt (by omega)
        rw [e1, e2, e3]
def padk : Nat → Nat → Str
  | 0, _ => []
  | k + 1, b => padk k (b / 10) ++ [dig (b % 10)]
theorem padk_length (k b : Nat) : (padk k b).length = k := by
  induction k generalizing b with
  | zero => rfl
  | succ k ih => rw [padk, List.length_append, ih]; rfl
theorem dec_split {a : Nat} (ha : a ≠ 0) (k b : Nat) (hb : b < 10 ^ k) : dec (a * 10 ^ k + b) = dec a ++ padk k b := by
  induction k generalizing b with
  | zero => simp at hb; subst hb; simp [padk]
  | succ k ih =>
    rw [Nat.pow_succ] at hb
    have hp : 0 < 10 ^ k := Nat.pow_pos (by omega)
    have hap : 0 < a * 10 ^ k := Nat.mul_pos (by omega) hp
    have e0 : a * 10 ^ (k + 1) = 10 * (a * 10 ^ k) := by rw [Nat.pow_succ, ← Nat.mul_assoc]; omega
    have e1 : (10 * (a * 10 ^ k) + b) / 10 = a * 10 ^ k + b / 10 := by omega
    have e2 : (10 * (a * 10 ^ k) + b) % 10 = b % 10 := by omega
    rw [e0, dec_pos (by omega), e1, e2, ih (b / 10) (by omega), padk, List.append_assoc]
def fmt (n : Nat) : Str := if n = 0 then [48] else dec n
theorem fmt_pad {k n : Nat} (h : n < 10 ^ k) (hk : 0 < k) : List.replicate (k - (fmt n).length) 48 ++ fmt n = padk k n := by
  have key : ∀ (k n : Nat), n < 10 ^ k → (dec n).length ≤ k ∧ List.replicate (k - (dec n).length) 48 ++ dec n = padk k n := by
    intro k
    induction k with
    | zero => intro n h; simp at h; subst h; simp [dec_zero, padk]
    | succ k ih =>
      intro n h
      rw [Nat.pow_succ] at h
      obtain ⟨h1, h2⟩ := ih (n / 10) (by omega)
      by_cases hn : n = 0
      · subst hn
        rw [dec_zero] at h2 ⊢
        simp only [List.length_nil, Nat.sub_zero, List.append_nil] at h2 ⊢
        refine ⟨by omega, ?_⟩
        rw [padk, ← h2, show (0 : Nat) % 10 = 0 from rfl, List.replicate_succ']
        rfl
      · rw [dec_pos hn, padk, List.length_append, List.length_singleton]
        refine ⟨by omega, ?_⟩
        rw [← h2, show k + 1 - ((dec (n / 10)).length + 1) = k - (dec (n / 10)).length by omega, List.append_assoc]
  by_cases hn : n = 0
  · subst hn
    have := (key k 0 h).2
    rw [dec_zero] at this
    simp only [List.length_nil, Nat.sub_zero, List.append_nil] at this
    rw [fmt, if_pos rfl, ← this]
    obtain ⟨j, rfl⟩ : ∃ j, k = j + 1 := ⟨k - 1, by omega⟩
    rw [List.replicate_succ']
    simp
  · rw [fmt, if_neg hn]; exact (key k n h).2
theorem fmt_len {k n : Nat} (h : n < 10 ^ k) (hk : 0 < k) : (fmt n).length ≤ k := by
  have := congrArg List.length (fmt_pad h hk)
  rw [List.length_append, List.length_replicate, padk_length] at this
  omega
def pads : List Nat → Str
  | [] => []
  | x :: l => pads l ++ padk 9 x
theorem pads_length (l : List Nat) : (pads l).length = 9 * l.length := by
  induction l with
  | nil => rfl
  | cons x l ih => rw [pads, List.length_append, ih, padk_length, List.length_cons]; omega
theorem dec_groups {l : List Nat} {x : Nat} (h : gok l) (hx : x ≠ 0) : dec (gval (l ++ [x])) = dec x ++ pads l := by
  induction l with
  | nil => simp [gval, pads]
  | cons y l ih =>
    obtain ⟨h1, h2⟩ := gok_cons.1 h
    have hne : gval (l ++ [x]) ≠ 0 := by
      rw [gval_append]
      have : 0 < 1000000000 ^ l.length := Nat.pow_pos (by omega)
      simp only [gval, Nat.mul_zero, Nat.add_zero]
      have : 0 < 1000000000 ^ l.length * x := Nat.mul_pos this (by omega)
      omega
    rw [List.cons_append, gval, Nat.add_comm, Nat.mul_comm, show (1000000000 : Nat) = 10 ^ 9 from rfl, dec_split hne 9 y h1, ih h2, pads, List.append_assoc]
end Go.Proofs.YtdkpmnefoobipaaGreatDoor
namespace Go.Proofs.YtdkpmnefoobipaaGreatDoor
open Go.RowKit Px

def getS (k : Str) : List (Str × Str) → Str
  | [] => []
  | (k', v) :: l => if k' = k then v else getS k l
def setS (k v : Str) : List (Str × Str) → List (Str × Str)
  | [] => [(k, v)]
  | (k', v') :: l => if k' = k then (k, v) :: l else (k', v') :: setS k v l
def mapD (l : List (Str × Str)) : List (Str × DV) := l.map fun p => (p.1, dS p.2)
theorem mget_D (k : Str) (l : List (Str × Str)) : mget (dS []) k (mapD l) = dS (getS k l) := by
  induction l with
  | nil => rfl
  | cons p l ih =>
    show (if p.1 = k then dS p.2 else mget (dS []) k (mapD l)) = dS (if p.1 = k then p.2 else getS k l)
    split
    · rfl
    · exact ih
theorem mset_D (k v : Str) (l : List (Str × Str)) : mset k (dS v) (mapD l) = mapD (setS k v l) := by
  induction l with
  | nil => rfl
  | cons p l ih =>
    show (if p.1 = k then (k, dS v) :: mapD l else (p.1, dS p.2) :: mset k (dS v) (mapD l)) = mapD (if p.1 = k then (k, v) :: l else (p.1, p.2) :: setS k v l)
    split
    · rfl
    · rw [ih]; rfl
theorem getS_set (k v j : Str) (l : List (Str × Str)) : getS j (setS k v l) = if j = k then v else getS j l := by
  induction l with
  | nil =>
    show (if k = j then v else []) = if j = k then v else []
    by_cases h : j = k
    · rw [if_pos h, if_pos h.symm]
    · rw [if_neg h, if_neg (fun e => h e.symm)]
  | cons p l ih =>
    show getS j (if p.1 = k then (k, v) :: l else (p.1, p.2) :: setS k v l) = if j = k then v else (if p.1 = j then p.2 else getS j l)
    by_cases hp : p.1 = k
    · rw [if_pos hp]
      show (if k = j then v else getS j l) = _
      by_cases h : j = k
      · rw [if_pos h, if_pos h.symm]
      · rw [if_neg h, if_neg (fun e => h e.symm), if_neg (fun e => h (e.symm.trans hp))]
    · rw [if_neg hp]
      show (if p.1 = j then p.2 else getS j (setS k v l)) = _
      by_cases hj : p.1 = j
      · rw [if_pos hj, if_pos hj, if_neg (fun e => hp (hj.trans e))]
      · rw [if_neg hj, if_neg hj, ih]
abbrev addI (a b : Str) : Str := canon (val a + val b)
abbrev subI (a b : Str) : Str := canon (val a - val b)
def ex1 (ms ts : List Mv) (pl : List (Option Nat)) : Nat → List (Str × Str)
  | 0 => []
  | i + 1 => match ms[i]? with
    | none => ex1 ms ts pl i
    | some m => match (pl[i]?.getD none).bind fun k => ts[k]? with
      | none => setS m.2.2.1 (addI (getS m.2.2.1 (ex1 ms ts pl i)) m.2.2.2.1) (ex1 ms ts pl i)
      | some y => setS m.2.2.1 (subI (getS m.2.2.1 (setS m.2.2.1 (addI (getS m.2.2.1 (ex1 ms ts pl i)) m.2.2.2.1) (ex1 ms ts pl i))) y.2.2.2.1) (setS m.2.2.1 (addI (getS m.2.2.1 (ex1 ms ts pl i)) m.2.2.2.1) (ex1 ms ts pl i))
def ex2 (ts : List Mv) (tk : List Bool) (M : List (Str × Str)) : Nat → List (Str × Str)
  | 0 => M
  | k + 1 => match ts[k]? with
    | none => ex2 ts tk M k
    | some y => if tkn tk k then ex2 ts tk M k else setS y.2.2.1 (subI (getS y.2.2.1 (ex2 ts tk M k)) y.2.2.2.1) (ex2 ts tk M k)
def exN (l : List Bk) (M : List (Str × Str)) : Nat → List Str
  | 0 => []
  | i + 1 => match l[i]? with
    | none => exN l M i
    | some b => if subI b.2.2.1 b.2.2.2 = getS b.2.1 M then exN l M i ++ [b.2.1] else exN l M i
theorem exN_len (l : List Bk) (M : List (Str × Str)) (i : Nat) : (exN l M i).length ≤ i := by
  induction i with
  | zero => exact Nat.le_refl _
  | succ i ih =>
    rw [exN]
    split
    · omega
    · split
      · rw [List.length_append]; simp; omega
      · omega

theorem dec_le {n k : Nat} (h : n < 10 ^ k) : (dec n).length ≤ k := by
  by_cases h0 : n = 0
  · rw [h0, dec_zero]; simp
  · rw [← decDigits_dec h0]
    refine decDigits_small n k h ?_
    rcases Nat.eq_zero_or_pos k with rfl | hk
    · simp at h; omega
    · exact hk
theorem canon_le {z : Int} {k : Nat} (h : z.natAbs < 10 ^ k) : (canon z).length ≤ k + 1 := by
  have := dec_le h
  unfold canon
  split <;> simp <;> omega
theorem val_lt {a : Str} {k : Nat} (h : a.length ≤ k) : (val a).natAbs < 10 ^ k := by
  rw [← natOf_dgs]
  have h1 := natOf_lt (dgs_all a)
  have hb : (bod a).length ≤ a.length := by unfold bod; split <;> simp
  have h2 : (dgs a).1.length ≤ a.length := by
    unfold dgs
    split
    · exact Nat.le_trans (List.dropWhile_suffix _).length_le hb
    · simp
  exact Nat.lt_of_lt_of_le h1 (Nat.pow_le_pow_right (by decide) (Nat.le_trans h2 h))
theorem addI_len {a b : Str} {k : Nat} (ha : a.length ≤ k) (hb : b.length ≤ k) : (addI a b).length ≤ k + 2 := by
  have h1 := val_lt ha
  have h2 := val_lt hb
  refine canon_le (k := k + 1) ?_
  rw [Nat.pow_succ]
  omega
theorem subI_len {a b : Str} {k : Nat} (ha : a.length ≤ k) (hb : b.length ≤ k) : (subI a b).length ≤ k + 2 := by
  have h1 := val_lt ha
  have h2 := val_lt hb
  refine canon_le (k := k + 1) ?_
  rw [Nat.pow_succ]
  omega
theorem getS_setS_len {k v : Str} {l : List (Str × Str)} {n : Nat} (hv : v.length ≤ n) (hl : ∀ j, (getS j l).length ≤ n) (j : Str) : (getS j (setS k v l)).length ≤ n := by
  rw [getS_set]
  split
  · exact hv
  · exact hl j
theorem ex1_len {ms ts : List Mv} {pl : List (Option Nat)} {B : Nat} (hm : ∀ m ∈ ms, m.2.2.2.1.length ≤ B) (ht : ∀ m ∈ ts, m.2.2.2.1.length ≤ B) (i : Nat) (j : Str) : (getS j (ex1 ms ts pl i)).length ≤ B + 4 * i := by
  induction i generalizing j with
  | zero => simp [ex1, getS]
  | succ i ih =>
    rw [ex1]
    split
    · have := ih j; omega
    · rename_i m hm1
      have q1 := hm m (List.mem_of_getElem? hm1)
      have a1 : (addI (getS m.2.2.1 (ex1 ms ts pl i)) m.2.2.2.1).length ≤ B + 4 * i + 2 := addI_len (ih _) (by omega)
      have a2 : ∀ j, (getS j (setS m.2.2.1 (addI (getS m.2.2.1 (ex1 ms ts pl i)) m.2.2.2.1) (ex1 ms ts pl i))).length ≤ B + 4 * i + 2 := getS_setS_len a1 fun j => by have := ih j; omega
      split
      · have := a2 j; omega
      · rename_i y hy
        have hy2 : y ∈ ts := by
          cases ho : pl[i]?.getD none with
          | none => rw [ho] at hy; cases hy
          | some k => rw [ho] at hy; exact List.mem_of_getElem? hy
        have q2 := ht y hy2
        refine getS_setS_len (subI_len (k := B + 4 * i + 2) (a2 _) (by omega)) (fun j => ?_) j
        have := a2 j; omega
theorem ex2_len {ts : List Mv} {tk : List Bool} {M : List (Str × Str)} {B : Nat} (ht : ∀ m ∈ ts, m.2.2.2.1.length ≤ B) (hM : ∀ j, (getS j M).length ≤ B) (i : Nat) (j : Str) : (getS j (ex2 ts tk M i)).length ≤ B + 2 * i := by
  induction i generalizing j with
  | zero => exact hM j
  | succ i ih =>
    rw [ex2]
    split
    · have := ih j; omega
    · rename_i y hy
      have q1 := ht y (List.mem_of_getElem? hy)
      split
      · have := ih j; omega
      · refine getS_setS_len (subI_len (k := B + 2 * i) (ih _) (by omega)) (fun j => ?_) j
        have := ih j; omega
end Go.Proofs.YtdkpmnefoobipaaGreatDoor
namespace Go.Proofs
open Go.Shelf
def Tryz.pu_ren : Go.Shelf.Ren := ⟨fun | 287 => 120 | 321 => 158 | 322 => 159 | n => n, fun | 9 => 9 | 3 => 3 | 53 => 130 | 75 => 132 | 4 => 4 | 167 => 196 | 5 => 5 | 46 => 125 | 37 => 137 | 0 => 0 | 21 => 21 | 80 => 145 | n => n, fun | n => n⟩
theorem Tryz.pu : Go.Proofs.Lays.n287 Tryz.prog Tryz.pu_ren := {
  mixed := by kernel_rfl
  f287 := Tryz.func120.trans (congrArg some (by kernel_rfl))
  f321 := Tryz.func158.trans (congrArg some (by kernel_rfl))
  f322 := Tryz.func159.trans (congrArg some (by kernel_rfl))
  t0 := Tryz.underlying0
  a0 := Tryz.isAgg0
  z0 := Tryz.sizeOf0
  v0 := Tryz.zeroValue0
  t3 := Tryz.underlying3
  a3 := Tryz.isAgg3
  z3 := Tryz.sizeOf3
  v3 := Tryz.zeroValue3
  t4 := Tryz.underlying4
  a4 := Tryz.isAgg4
  z4 := Tryz.sizeOf4
  v4 := Tryz.zeroValue4
  t5 := Tryz.underlying5
  a5 := Tryz.isAgg5
  z5 := Tryz.sizeOf5
  v5 := Tryz.zeroValue5
  t9 := Tryz.underlying9
  a9 := Tryz.isAgg9
  z9 := Tryz.sizeOf9
  v9 := Tryz.zeroValue9
  t21 := Tryz.underlying21
  a21 := Tryz.isAgg21
  z21 := Tryz.sizeOf21
  v21 := Tryz.zeroValue21
  t37 := Tryz.underlying137
  a37 := Tryz.isAgg137
  z37 := Tryz.sizeOf137
  v37 := Tryz.zeroValue137
  t46 := Tryz.underlying125
  a46 := Tryz.isAgg125
  z46 := Tryz.sizeOf125
  v46 := Tryz.zeroValue125
  t53 := Tryz.underlying130
  a53 := Tryz.isAgg130
  z53 := Tryz.sizeOf130
  v53 := Tryz.zeroValue130
  t75 := Tryz.underlying132
  a75 := Tryz.isAgg132
  z75 := Tryz.sizeOf132
  v75 := Tryz.zeroValue132
  t167 := Tryz.underlying196
  a167 := Tryz.isAgg196
  z167 := Tryz.sizeOf196
  v167 := Tryz.zeroValue196 }
def Tryz.repeat_ren : Go.Shelf.Ren := ⟨fun | 105 => 92 | 212 => 124 | 99 => 125 | 165 => 126 | 166 => 90 | 170 => 127 | 169 => 93 | 263 => 169 | 264 => 170 | 206 => 171 | 240 => 122 | 241 => 172 | 276 => 164 | 277 => 192 | n => n, fun | 9 => 9 | 3 => 3 | 4 => 4 | 20 => 20 | 0 => 0 | 46 => 125 | 109 => 165 | 5 => 5 | 72 => 139 | 76 => 141 | 51 => 160 | 146 => 207 | 53 => 130 | 148 => 209 | 70 => 136 | 37 => 137 | 75 => 132 | 127 => 169 | 164 => 201 | 80 => 145 | n => n, fun | n => n⟩
theorem Tryz.repeat : Go.Proofs.Lays.n105 Tryz.prog Tryz.repeat_ren := {
  mixed := by kernel_rfl
  f99 := Tryz.func125.trans (congrArg some (by kernel_rfl))
  f105 := Tryz.func92.trans (congrArg some (by kernel_rfl))
  f165 := Tryz.func126.trans (congrArg some (by kernel_rfl))
  f166 := Tryz.func90.trans (congrArg some (by kernel_rfl))
  f169 := Tryz.func93.trans (congrArg some (by kernel_rfl))
  f170 := Tryz.func127.trans (congrArg some (by kernel_rfl))
  f206 := Tryz.func171.trans (congrArg some (by kernel_rfl))
  f212 := Tryz.func124.trans (congrArg some (by kernel_rfl))
  f240 := Tryz.func122.trans (congrArg some (by kernel_rfl))
  f241 := Tryz.func172.trans (congrArg some (by kernel_rfl))
  f263 := Tryz.func169.trans (congrArg some (by kernel_rfl))
  f264 := Tryz.func170.trans (congrArg some (by kernel_rfl))
  f276 := Tryz.func164.trans (congrArg some (by kernel_rfl))
  f277 := Tryz.func192.trans (congrArg some (by kernel_rfl))
  t0 := Tryz.underlying0
  a0 := Tryz.isAgg0
  z0 := Tryz.sizeOf0
  v0 := Tryz.zeroValue0
  t3 := Tryz.underlying3
  a3 := Tryz.isAgg3
  z3 := Tryz.sizeOf3
  v3 := Tryz.zeroValue3
  t4 := Tryz.underlying4
  a4 := Tryz.isAgg4
  z4 := Tryz.sizeOf4
  v4 := Tryz.zeroValue4
  t5 := Tryz.underlying5
  a5 := Tryz.isAgg5
  z5 := Tryz.sizeOf5
  v5 := Tryz.zeroValue5
  t9 := Tryz.underlying9
  a9 := Tryz.isAgg9
  z9 := Tryz.sizeOf9
  v9 := Tryz.zeroValue9
  t20 := Tryz.underlying20
  a20 := Tryz.isAgg20
  z20 := Tryz.sizeOf20
  v20 := Tryz.zeroValue20
  t37 := Tryz.underlying137
  a37 := Tryz.isAgg137
  z37 := Tryz.sizeOf137
  v37 := Tryz.zeroValue137
  t46 := Tryz.underlying125
  a46 := Tryz.isAgg125
  z46 := Tryz.sizeOf125
  v46 := Tryz.zeroValue125
  t51 := Tryz.underlying160
  a51 := Tryz.isAgg160
  z51 := Tryz.sizeOf160
  v51 := Tryz.zeroValue160
  t53 := Tryz.underlying130
  a53 := Tryz.isAgg130
  z53 := Tryz.sizeOf130
  v53 := Tryz.zeroValue130
  t70 := Tryz.underlying136
  a70 := Tryz.isAgg136
  z70 := Tryz.sizeOf136
  v70 := Tryz.zeroValue136
  t72 := Tryz.underlying139
  a72 := Tryz.isAgg139
  z72 := Tryz.sizeOf139
  v72 := Tryz.zeroValue139
  t75 := Tryz.underlying132
  a75 := Tryz.isAgg132
  z75 := Tryz.sizeOf132
  v75 := Tryz.zeroValue132
  t76 := Tryz.underlying141
  a76 := Tryz.isAgg141
  z76 := Tryz.sizeOf141
  v76 := Tryz.zeroValue141
  t109 := Tryz.underlying165
  a109 := Tryz.isAgg165
  z109 := Tryz.sizeOf165
  v109 := Tryz.zeroValue165
  t127 := Tryz.underlying169
  a127 := Tryz.isAgg169
  z127 := Tryz.sizeOf169
  v127 := Tryz.zeroValue169
  t146 := Tryz.underlying207
  a146 := Tryz.isAgg207
  z146 := Tryz.sizeOf207
  v146 := Tryz.zeroValue207
  t148 := Tryz.underlying209
  a148 := Tryz.isAgg209
  z148 := Tryz.sizeOf209
  v148 := Tryz.zeroValue209
  t164 := Tryz.underlying201
  a164 := Tryz.isAgg201
  z164 := Tryz.sizeOf201
  v164 := Tryz.zeroValue201 }
def Tryz.bst_ren : Go.Shelf.Ren := ⟨fun | 169 => 93 | n => n, fun | 70 => 136 | 9 => 9 | 0 => 0 | 72 => 139 | 37 => 137 | 127 => 169 | 3 => 3 | 5 => 5 | n => n, fun | n => n⟩
theorem Tryz.bst : Go.Proofs.Lays.n169 Tryz.prog Tryz.bst_ren := {
  mixed := by kernel_rfl
  f169 := Tryz.func93.trans (congrArg some (by kernel_rfl))
  t0 := Tryz.underlying0
  a0 := Tryz.isAgg0
  z0 := Tryz.sizeOf0
  v0 := Tryz.zeroValue0
  t3 := Tryz.underlying3
  a3 := Tryz.isAgg3
  z3 := Tryz.sizeOf3
  v3 := Tryz.zeroValue3
  t9 := Tryz.underlying9
  a9 := Tryz.isAgg9
  z9 := Tryz.sizeOf9
  v9 := Tryz.zeroValue9
  t37 := Tryz.underlying137
  a37 := Tryz.isAgg137
  z37 := Tryz.sizeOf137
  v37 := Tryz.zeroValue137
  t70 := Tryz.underlying136
  a70 := Tryz.isAgg136
  z70 := Tryz.sizeOf136
  v70 := Tryz.zeroValue136
  t72 := Tryz.underlying139
  a72 := Tryz.isAgg139
  z72 := Tryz.sizeOf139
  v72 := Tryz.zeroValue139
  t127 := Tryz.underlying169
  a127 := Tryz.isAgg169
  z127 := Tryz.sizeOf169
  v127 := Tryz.zeroValue169 }
end Go.Proofs
namespace Go.Proofs.YtdkpmnefoobipaaGreatDoor
open Go.RowKit Px

namespace Px
section
variable {P : Program} {sq : Bool} {ops : Array Oper} {K : PS → Prop} {rest : List Oper} {st : PS} {d : Option Nat} {ty : TypeId} {pos : String} {af : Array Edge} {gd : Option (Nat × Bool)}
theorem yBni {t t' : Nat} {x : Operand} (hx : st.ev x = .d (.val .nilIface)) (hI : P.underlying t = some (.interface (P.methodsAt t)) := by kernel_rfl) (h : YR P sq ops K rest (st.put d (.d (.val (.bool false))))) (hd : dstOk ⟨d, .binOp .neq t x (.const .nilIface) t', ty, pos, af, gd⟩ st = true := by kernel_rfl) (hk : opOk ⟨d, .binOp .neq t x (.const .nilIface) t', ty, pos, af, gd⟩ st .no = true := by kernel_rfl) (hw : st.want ops ⟨d, .binOp .neq t x (.const .nilIface) t', ty, pos, af, gd⟩ = some true := by rfl) :
    YR P sq ops K (⟨d, .binOp .neq t x (.const .nilIface) t', ty, pos, af, gd⟩ :: rest) st := yr_v (ls_bin_run .neq t t' x (.const .nilIface) hx rfl (fun w => by
      have e : (eqGuard .neq t x (.const .nilIface) .nilIface .nilIface >>= fun _ => binOp .neq t .nilIface .nilIface) = binOp .neq t .nilIface .nilIface := by cases x <;> rfl
      rw [e]
      exact run_neq_nil_nil w t hI) rfl hd) hk hw h
end
end Px
theorem parse_m (M : Nat) (hM : 1000000000000000000 ≤ M) : ∀ (t : Str) (acc k : Nat), t.all isD = true → acc < 10 ^ k → k + t.length ≤ 18 → Lib.parseUintM M acc t = .ok (t.foldl (fun n b => 10 * n + dv b) acc)
  | [], acc, k, _, _, _ => rfl
  | c :: r, acc, k, h, ha, hk => by
    rw [List.all_cons, Bool.and_eq_true] at h
    have hc := dv_lt h.1
    have h2 : 48 ≤ c.toNat ∧ c.toNat ≤ 57 := by have := h.1; unfold isD at this; simpa using this
    have hp : (10 : Nat) ^ (k + 1) ≤ 10 ^ 18 := Nat.pow_le_pow_right (by omega) (by simp only [List.length_cons] at hk; omega)
    have e : (10 : Nat) ^ (k + 1) = 10 * 10 ^ k := by rw [Nat.pow_succ, Nat.mul_comm]
    have e2 : acc * 10 + (c.toNat - 48) = 10 * acc + dv c := by unfold dv; omega
    have hlt : 10 * acc + dv c < 10 ^ (k + 1) := by omega
    have e18 : (10 : Nat) ^ 18 = 1000000000000000000 := by decide
    rw [Lib.parseUintM, if_pos h2, if_neg (by omega), e2, if_neg (by omega), List.foldl_cons]
    exact parse_m M hM r _ (k + 1) h.2 hlt (by simp only [List.length_cons] at hk; omega)
theorem parse_b {t : Str} (h : t.all isD = true) (hn : t ≠ []) (hl : t.length ≤ 18) : Lib.parseUintB 64 t = .ok (natOf t) := by
  rw [Lib.parseUintB, if_neg hn]
  exact parse_m _ (by decide) t 0 0 h (by decide) (by omega)
theorem wPUi {t : Str} (h : t.all isD = true) (hn : t ≠ []) (hl : t.length ≤ 18) : PCalls Tryz.prog 120 [dS t, dI 10, dI 64] (.tup [dU (natOf t), .val .nilIface]) :=
  PCalls.of_any (us := [.int .u64 (natOf t), .nilIface]) rfl (by simp [Value.oneCell']) fun F w vals hl2 hr hg => by
    obtain rfl : vals = [vS t, .int .i64 10, .int .i64 64] := vals_of (us := [vS t, .int .i64 10, .int .i64 64]) hl2 hr
    refine (Any.internal_strconv_ParseUint_10_at64 Tryz.pu ⟨t.toArray⟩ (show t.toArray.size ≤ 9223372036854775806 by rw [List.size_toArray]; omega) w).mono ?_
    rintro e w' ⟨rfl, hw⟩
    have e2 : Lib.parseUintB 64 (ByteArray.mk t.toArray).data.toList = .ok (natOf t) := parse_b h hn hl
    rw [e2]
    refine ⟨rfl, ?_⟩
    rcases hw with rfl | rfl
    · exact .refl _ _
    · exact Lib.bytesWorld_below w _ _
set_option maxRecDepth 20000 in
theorem wPU {t : Str} (h : t.all isD = true) (hn : t ≠ []) (hl : t.length ≤ 18) : PCalls Tryz.prog 87 [dS t, dI 10, dI 64] (.tup [dU (natOf t), .val .nilIface]) := by
  have c1 := wPUi h hn hl
  obtain ⟨n, hn⟩ : ∃ n, n = natOf t := ⟨_, rfl⟩
  rw [← hn] at c1 ⊢
  refine pcalls_of_pw Tryz.func87 rfl Tryz.ntmps87 Tryz.results87 (by simp) fun B w0 => ?_
  refine pw_seq (pw_region (yAd rfl (yAd rfl (yQ (pw_seq (pw_region (yMd rfl (yMd rfl (yMd rfl ?_))))))))); refine yC (c1) rfl rfl (yMp rfl (yX rfl rfl (yX rfl rfl (yAd rfl (yAd rfl (yQ (pw_seq (pw_seq (pw_region ?_))))))))); refine yMd rfl ?_; refine yBni rfl (h := ?_); refine yQ (pw_cf rfl (pw_skip (pw_seq (pw_region (yMd rfl (yAd rfl (yAd rfl (yQ (pw_ret ?_)))))))))
  exact q_ret _ (.tmp rfl (.tmp rfl .nil)) rfl
end Go.Proofs.YtdkpmnefoobipaaGreatDoor
namespace Go.Proofs.YtdkpmnefoobipaaGreatDoor
open Go.RowKit Px

namespace Px
section
variable {P : Program} {sq : Bool} {ops : Array Oper} {K : PS → Prop} {rest : List Oper} {st : PS} {d : Option Nat} {ty : TypeId} {pos : String} {af : Array Edge} {gd : Option (Nat × Bool)}
end
end Px
theorem rdG_at {t : Str} {i : Nat} (h : 9 * i < t.length) : (rdG t)[i]? = some (natOf ((t.take (t.length - 9 * i)).drop (t.length - 9 * i - 9))) := by
  induction i generalizing t with
  | zero =>
    rw [rdG_pos (by intro e; rw [e] at h; simp at h)]
    simp
  | succ i ih =>
    rw [rdG_pos (by intro e; rw [e] at h; simp at h), List.getElem?_cons_succ, ih (by rw [List.length_take]; omega), List.length_take, List.take_take]
    have e1 : min (t.length - 9) t.length - 9 * i = t.length - 9 * (i + 1) := by omega
    rw [e1, Nat.min_eq_left (by omega)]
theorem rdG_len {t : Str} {i : Nat} (h : t.length ≤ 9 * i) : (rdG t).length ≤ i := by
  induction i generalizing t with
  | zero =>
    have : t = [] := List.length_eq_zero_iff.1 (by omega)
    rw [this, rdG_nil]; simp
  | succ i ih =>
    by_cases hn : t = []
    · rw [hn, rdG_nil]; simp
    · rw [rdG_pos hn, List.length_cons]
      have := ih (t := t.take (t.length - 9)) (by rw [List.length_take]; omega)
      omega
theorem rdG_size (t : Str) : (rdG t).length ≤ t.length := by
  have := rdG_len (t := t) (i := t.length) (by omega)
  exact this
theorem rdG_next {t : Str} {i : Nat} (h : 9 * i < t.length) : (rdG t).take (i + 1) = (rdG t).take i ++ [natOf ((t.take (t.length - 9 * i)).drop (t.length - 9 * i - 9))] := by
  rw [List.take_add_one, rdG_at h]; rfl
theorem dgs_len (a : Str) : (dgs a).1.length ≤ a.length := by
  have hb : (bod a).length ≤ a.length := by unfold bod; split <;> simp
  unfold dgs
  split
  · exact Nat.le_trans (List.dropWhile_suffix _).length_le hb
  · simp
theorem all_sub {t : Str} (h : t.all isD = true) (a b : Nat) : ((t.take a).drop b).all isD = true := by
  rw [List.all_eq_true] at h ⊢
  exact fun x hx => h x (List.mem_of_mem_take (List.mem_of_mem_drop hx))
abbrev dG (x : Nat) : List DV := [dU x]
abbrev dNum (b : Bool) (l : List Nat) : List DV := [dB b, .sl 1 (l.map dG)]
abbrev mgT : Nat := 130 * 100000 + 5
set_option maxRecDepth 20000 in
set_option maxHeartbeats 2000000 in
theorem wRead (a : Str) (ha : a.length ≤ 1000000) : PCalls Tryz.prog 54 [dS a] (.d (.agg (dNum (dgs a).2 (rdG (dgs a).1)))) := by
  have c1 := wDigits a (by omega)
  have hl : (dgs a).1.length ≤ 1000000 := Nat.le_trans (dgs_len a) ha
  have hD := dgs_all a
  obtain ⟨t, ht⟩ : ∃ t, t = (dgs a).1 := ⟨_, rfl⟩
  obtain ⟨b, hb⟩ : ∃ t, t = (dgs a).2 := ⟨_, rfl⟩
  rw [← ht, ← hb] at c1
  rw [← ht] at hl hD
  rw [← ht, ← hb]
  clear ht hb
  have hsz := rdG_size t
  obtain ⟨g, hg⟩ : ∃ g, g = rdG t := ⟨_, rfl⟩
  refine pcalls_of_pw Tryz.func54 rfl Tryz.ntmps54 Tryz.results54 (by simp) fun B w0 => ?_
  refine pw_seq (pw_region (yZ (cs := [_, _]) rfl rfl (yQ (pw_seq (pw_region (yMd rfl (yC (c1) rfl rfl (yMp rfl (yX rfl rfl ?_))))))))); refine yX rfl rfl (yAd rfl (yAd rfl (yQ (pw_seq (pw_region (yAd rfl (yQ ?_))))))); refine pw_tok 5 mgT 1 rfl rfl rfl ?_; refine pw_seq (pw_seq (pw_region (yMd rfl (yNs rfl (yAd rfl (yQ (pw_block ?_))))))); refine pw_loop (fun i : Nat => ⟨37, [(2, .bx 2 0), (3, .d (dS t)), (4, .d (dB b)), (5, .ts mgT 1 (((rdG t).take i).map dG)), (6, .d (dI ((t.length : Int) - 9 * i)))], [(2, [.d (dB false), .d (.val (.slice none 0 0))])], [(mgT, (((rdG t).take i).map dG).length)]⟩) (fun i => 9 * i < t.length + 9) (fun i => t.length + 9 - 9 * i) 0 (by omega)
    ⟨rfl, ⟨.refl _, .refl _, .refl _, .refl _, .of_eq (congrArg (fun n : Int => SV.d (dI n)) (by simp)), trivial⟩, ⟨⟨_, rfl, .refl _, .refl _, trivial⟩, trivial⟩, ⟨rfl, trivial⟩, rfl⟩ ?_
  intro i hi
  refine pw_seq (pw_seq (pw_region (yMd rfl (yB rfl rfl rfl rfl (yQ (q_then ?_)))))); refine pw_cond rfl (fun h => ?_) (fun h => ?_)
  · simp at h
    have h9 : 9 * i < t.length := by omega
    have hn := rdG_next h9
    have hx : (t.take ((t.length : Int) - 9 * i).toNat).drop (((t.length - 9 * i - 9 : Nat) : Int)).toNat = (t.take (t.length - 9 * i)).drop (t.length - 9 * i - 9) := by
      rw [Int.toNat_natCast, (by omega : ((t.length : Int) - 9 * i).toNat = t.length - 9 * i)]
    have hlen : ((t.take (t.length - 9 * i)).drop (t.length - 9 * i - 9)).length ≤ 9 := by rw [List.length_drop, List.length_take]; omega
    have hlen0 : 0 < ((t.take (t.length - 9 * i)).drop (t.length - 9 * i - 9)).length := by rw [List.length_drop, List.length_take]; omega
    have c2 := wPU (all_sub hD (t.length - 9 * i) (t.length - 9 * i - 9)) (by intro e; rw [e] at hlen0; simp at hlen0) (by omega)
    have hw1 : IntKind.i64.wrap ((t.length : Int) - 9 * i - 9) = (t.length : Int) - 9 * i - 9 := wrapI _ (by omega)
    have hm : (if (t.length : Int) - 9 * i - 9 > 0 then (t.length : Int) - 9 * i - 9 else 0) = ((t.length - 9 * i - 9 : Nat) : Int) := by split <;> omega
    obtain ⟨x, hxx⟩ : ∃ x, x = natOf ((t.take (t.length - 9 * i)).drop (t.length - 9 * i - 9)) := ⟨_, rfl⟩
    rw [← hxx] at c2 hn
    obtain ⟨s, hs⟩ : ∃ s, s = (t.take (t.length - 9 * i)).drop (t.length - 9 * i - 9) := ⟨_, rfl⟩
    rw [← hs] at c2 hx
    obtain ⟨zs, hzs⟩ : ∃ zs, zs = (rdG t).take i := ⟨_, rfl⟩
    have hzl : zs.length ≤ 1000000 := by rw [hzs, List.length_take]; omega
    rw [← hzs] at hn ⊢
    refine pw_skip (pw_seq (pw_block (pw_seq (pw_region (yMd rfl (yMd rfl (yB rfl rfl rfl rfl (yI rfl rfl rfl (yMd rfl ?_))))))))); rw [hw1]; rw [hm]
    refine ySlh (by omega) (by omega) (by omega) hx rfl rfl rfl (yC (c2) rfl rfl (yMp rfl (yX rfl rfl (yX rfl rfl (yAd rfl (yAd rfl (yQ (pw_region (yMt rfl ?_))))))))); refine yMd rfl (yR (es := [[_]]) rfl rfl rfl rfl rfl (yT (es' := (zs ++ [x]).map dG) (m := ((zs ++ [x]).map dG).length) (by simp; omega) (by simp; omega) rfl rfl rfl rfl rfl (by simp) (by simp) (yAt rfl (yQ (pw_region (yMd rfl (yB rfl rfl rfl rfl (yAd rfl (yQ ?_))))))))); refine q_then ?_; rw [hw1]
    refine ⟨i + 1, by omega, by omega, rfl, ⟨.refl _, .refl _, .refl _, .of_eq (by rw [hn]; rfl), .of_eq (congrArg (fun n => SV.d (dI n)) (by omega)), trivial⟩, ⟨⟨_, rfl, .refl _, .refl _, trivial⟩, trivial⟩, ⟨(by rw [hn]; rfl), trivial⟩, rfl⟩
  · simp at h
    have e : (rdG t).take i = rdG t := List.take_of_length_le (rdG_len (by omega))
    rw [e]
    refine pw_exit (pw_seq (pw_region (yMd rfl (yMt rfl (yG (ys := [_, _]) rfl rfl (yS (cs' := [_, _]) rfl rfl rfl rfl rfl (yQ (pw_ret ?_))))))))
    exact q_ret _ (.agg inferInstance rfl rfl rfl rfl .nil) rfl
end Go.Proofs.YtdkpmnefoobipaaGreatDoor
set_option maxHeartbeats 1000000
namespace Go.Proofs.YtdkpmnefoobipaaGreatDoor

def gat (l : List Nat) (i : Nat) : Nat := l[i]?.getD 0
theorem gat_lt {l : List Nat} (h : gok l) (i : Nat) : gat l i < 1000000000 := by
  unfold gat
  cases e : l[i]? with
  | none => simp
  | some x => exact h x (List.mem_of_getElem? e)
theorem gat_ge {l : List Nat} {i : Nat} (h : l.length ≤ i) : gat l i = 0 := by unfold gat; rw [List.getElem?_eq_none h]; rfl
theorem gat_get {l : List Nat} {i x : Nat} (h : l[i]? = some x) : gat l i = x := by unfold gat; rw [h]; rfl
theorem gval_take (l : List Nat) (i : Nat) : gval (l.take (i + 1)) = gval (l.take i) + 1000000000 ^ i * gat l i := by
  rcases Nat.lt_or_ge i l.length with h | h
  · rw [List.take_add_one, gval_append, List.getElem?_eq_getElem h, gat_get (List.getElem?_eq_getElem h)]
    simp [gval, Nat.min_eq_left (Nat.le_of_lt h)]
  · rw [List.take_of_length_le (by omega), List.take_of_length_le h, gat_ge h]
    simp
theorem gval_snoc (l : List Nat) (x : Nat) : gval (l ++ [x]) = gval l + 1000000000 ^ l.length * x := by rw [gval_append]; simp [gval]
theorem gok_snoc {l : List Nat} {x : Nat} (h : gok l) (hx : x < 1000000000) : gok (l ++ [x]) := gok_append.2 ⟨h, by intro y hy; have : y = x := by simpa using hy
                                                                                                                    omega⟩
/-! sums -/
def addS (m n : List Nat) : Nat → List Nat × Nat
  | 0 => ([], 0)
  | i + 1 => ((addS m n i).1 ++ [(gat m i + (addS m n i).2 + gat n i) % 1000000000], (gat m i + (addS m n i).2 + gat n i) / 1000000000)
theorem addS_spec {m n : List Nat} (hm : gok m) (hn : gok n) (i : Nat) : (addS m n i).1.length = i ∧ gok (addS m n i).1 ∧ (addS m n i).2 ≤ 1 ∧ gval (addS m n i).1 + 1000000000 ^ i * (addS m n i).2 = gval (m.take i) + gval (n.take i) := by
  induction i with
  | zero => simp [addS, gval, gok]
  | succ i ih =>
    obtain ⟨h1, h2, h3, h4⟩ := ih
    have a1 := gat_lt hm i
    have a2 := gat_lt hn i
    obtain ⟨v, hv⟩ : ∃ v, v = gat m i + (addS m n i).2 + gat n i := ⟨_, rfl⟩
    rw [addS, ← hv]
    refine ⟨by simp [h1], gok_snoc h2 (by omega), by show v / 1000000000 ≤ 1; omega, ?_⟩
    show gval ((addS m n i).1 ++ [v % 1000000000]) + 1000000000 ^ (i + 1) * (v / 1000000000) = _
    rw [gval_snoc, h1, gval_take, gval_take, Nat.pow_succ]
    obtain ⟨p, hp⟩ : ∃ p, p = 1000000000 ^ i := ⟨_, rfl⟩
    rw [← hp] at h4 ⊢
    have e1 : p * (v % 1000000000) + p * 1000000000 * (v / 1000000000) = p * v := by
      rw [Nat.mul_assoc, ← Nat.mul_add, Nat.mod_add_div]
    have e2 : p * v = p * gat m i + p * (addS m n i).2 + p * gat n i := by rw [hv, Nat.mul_add, Nat.mul_add]
    omega
def plusG (m n : List Nat) : List Nat := (addS m n (max m.length n.length)).1 ++ (if 0 < (addS m n (max m.length n.length)).2 then [(addS m n (max m.length n.length)).2] else [])
theorem addS_comm (m n : List Nat) (i : Nat) : addS m n i = addS n m i := by
  induction i with
  | zero => rfl
  | succ i ih => rw [addS, addS, ih, show gat m i + (addS n m i).2 + gat n i = gat n i + (addS n m i).2 + gat m i by omega]
theorem plusG_comm (m n : List Nat) : plusG m n = plusG n m := by unfold plusG; rw [addS_comm, Nat.max_comm]
theorem plusG_spec {m n : List Nat} (hm : gok m) (hn : gok n) : gok (plusG m n) ∧ gval (plusG m n) = gval m + gval n := by
  obtain ⟨h1, h2, h3, h4⟩ := addS_spec hm hn (max m.length n.length)
  rw [List.take_of_length_le (by omega), List.take_of_length_le (by omega)] at h4
  unfold plusG
  split
  · refine ⟨gok_snoc h2 (by omega), ?_⟩
    rw [gval_snoc, h1]
    exact h4
  · rename_i h
    rw [show (addS m n (max m.length n.length)).2 = 0 by omega] at h4
    simpa using ⟨h2, h4⟩
/-! differences -/
def subS (m n : List Nat) : Nat → List Nat × Nat
  | 0 => ([], 0)
  | i + 1 => if gat m i < (subS m n i).2 + gat n i then ((subS m n i).1 ++ [gat m i + 1000000000 - ((subS m n i).2 + gat n i)], 1) else ((subS m n i).1 ++ [gat m i - ((subS m n i).2 + gat n i)], 0)
theorem subS_spec {m n : List Nat} (hm : gok m) (hn : gok n) (i : Nat) : (subS m n i).1.length = i ∧ gok (subS m n i).1 ∧ (subS m n i).2 ≤ 1 ∧ gval (subS m n i).1 + gval (n.take i) = gval (m.take i) + 1000000000 ^ i * (subS m n i).2 := by
  induction i with
  | zero => simp [subS, gval, gok]
  | succ i ih =>
    obtain ⟨h1, h2, h3, h4⟩ := ih
    have a1 := gat_lt hm i
    have a2 := gat_lt hn i
    rw [gval_take, gval_take, Nat.pow_succ]
    obtain ⟨c, hc⟩ : ∃ c, c = (subS m n i).2 := ⟨_, rfl⟩
    obtain ⟨p, hp⟩ : ∃ p, p = 1000000000 ^ i := ⟨_, rfl⟩
    rw [subS]
    rw [← hc] at h3 h4 ⊢
    rw [← hp] at h4 ⊢
    split
    · rename_i h
      refine ⟨by simp [h1], gok_snoc h2 (by omega), Nat.le_refl _, ?_⟩
      simp only
      rw [gval_snoc, h1, ← hp]
      obtain ⟨d, hd⟩ : ∃ d, d = gat m i + 1000000000 - (c + gat n i) := ⟨_, rfl⟩
      rw [← hd]
      have e1 : p * d + p * c + p * gat n i = p * gat m i + p * 1000000000 := by
        rw [← Nat.mul_add, ← Nat.mul_add, ← Nat.mul_add]
        congr 1
        omega
      omega
    · rename_i h
      refine ⟨by simp [h1], gok_snoc h2 (by omega), Nat.zero_le _, ?_⟩
      simp only
      rw [gval_snoc, h1, ← hp]
      obtain ⟨d, hd⟩ : ∃ d, d = gat m i - (c + gat n i) := ⟨_, rfl⟩
      rw [← hd]
      have e1 : p * d + p * c + p * gat n i = p * gat m i := by
        rw [← Nat.mul_add, ← Nat.mul_add]
        congr 1
        omega
      omega
theorem subS_end {m n : List Nat} (hm : gok m) (hn : gok n) (hl : n.length ≤ m.length) (hle : gval n ≤ gval m) : gok (subS m n m.length).1 ∧ gval (subS m n m.length).1 = gval m - gval n := by
  obtain ⟨h1, h2, h3, h4⟩ := subS_spec hm hn m.length
  rw [List.take_of_length_le (Nat.le_refl _), List.take_of_length_le hl] at h4
  refine ⟨h2, ?_⟩
  have h5 := gval_lt h2
  rw [h1] at h5
  rcases Nat.le_one_iff_eq_zero_or_eq_one.1 h3 with h6 | h6
  · rw [h6] at h4; omega
  · rw [h6] at h4; omega
/-! products -/
def mulI (out : List Nat) (x : Nat) (n : List Nat) (i : Nat) : Nat → List Nat × Nat
  | 0 => (out, 0)
  | k + 1 => ((mulI out x n i k).1.set (i + k) (((mulI out x n i k).2 + (gat (mulI out x n i k).1 (i + k) + x * gat n k)) % 1000000000), ((mulI out x n i k).2 + (gat (mulI out x n i k).1 (i + k) + x * gat n k)) / 1000000000)
def mulR (m n : List Nat) : Nat → List Nat
  | 0 => List.replicate (m.length + n.length) 0
  | i + 1 => if n.length = 0 then (mulI (mulR m n i) (gat m i) n i n.length).1 else (mulI (mulR m n i) (gat m i) n i n.length).1.set (i + n.length) (gat (mulI (mulR m n i) (gat m i) n i n.length).1 (i + n.length) + (mulI (mulR m n i) (gat m i) n i n.length).2)
/-! comparisons -/
def cmpT (m n : List Nat) : Nat → Int
  | 0 => 0
  | i + 1 => if gat m i < gat n i then -1 else if gat n i < gat m i then 1 else cmpT m n i
theorem cmpT_spec {m n : List Nat} (hm : gok m) (hn : gok n) (i : Nat) : cmpT m n i = if gval (m.take i) < gval (n.take i) then -1 else if gval (n.take i) < gval (m.take i) then 1 else 0 := by
  induction i with
  | zero => simp [cmpT, gval]
  | succ i ih =>
    have gtk : ∀ {l : List Nat}, gok l → gval (l.take i) < 1000000000 ^ i := fun {l} h => by
      have h1 : gok (l.take i) := fun x hx => h x (List.mem_of_mem_take hx)
      refine Nat.lt_of_lt_of_le (gval_lt h1) (Nat.pow_le_pow_right (by omega) ?_)
      rw [List.length_take]; omega
    have b1 := gtk hm
    have b2 := gtk hn
    rw [cmpT, ih, gval_take, gval_take]
    obtain ⟨p, hp⟩ : ∃ p, p = 1000000000 ^ i := ⟨_, rfl⟩
    rw [← hp] at b1 b2 ⊢
    rcases Nat.lt_trichotomy (gat m i) (gat n i) with h | h | h
    · rw [if_pos h]
      have : p * (gat m i + 1) ≤ p * gat n i := Nat.mul_le_mul_left _ h
      rw [Nat.mul_add] at this
      rw [if_pos (by omega)]
    · simp only [h, Nat.lt_irrefl, if_false, Nat.add_lt_add_iff_right]
    · have : p * (gat n i + 1) ≤ p * gat m i := Nat.mul_le_mul_left _ h
      rw [Nat.mul_add] at this
      rw [if_neg (by omega), if_pos h, if_neg (by omega), if_pos (by omega)]
theorem grp_ge {n : Nat} (h : n ≠ 0) : 1000000000 ^ ((grp n).length - 1) ≤ n := by
  induction n using Nat.strongRecOn with
  | _ n ih =>
    rw [grp_pos h, List.length_cons, Nat.add_sub_cancel]
    by_cases h' : n / 1000000000 = 0
    · rw [h', grp_zero]; simp; omega
    · have h1 := ih (n / 1000000000) (Nat.div_lt_self (by omega) (by omega)) h'
      have h2 : 0 < (grp (n / 1000000000)).length := List.length_pos_iff.2 fun e => h' (grp_nil.1 e)
      obtain ⟨k, hk⟩ : ∃ k, (grp (n / 1000000000)).length = k + 1 := ⟨_, (Nat.sub_add_cancel h2).symm⟩
      rw [hk, Nat.add_sub_cancel] at h1
      rw [hk, Nat.pow_succ]
      omega
theorem grp_lt_of_len {x y : Nat} (h : (grp x).length < (grp y).length) : x < y := by
  have hy : y ≠ 0 := fun e => by rw [e, grp_zero] at h; simp at h
  have h1 := grp_ge hy
  have h2 := gval_lt (gok_grp x)
  rw [gval_grp] at h2
  have h3 : 1000000000 ^ (grp x).length ≤ 1000000000 ^ ((grp y).length - 1) := Nat.pow_le_pow_right (by omega) (by omega)
  omega
def cmpG (m n : List Nat) : Int := if m.length ≠ n.length then (m.length : Int) - n.length else cmpT m n m.length
theorem cmpG_spec (x y : Nat) : (cmpG (grp x) (grp y) < 0 ↔ x < y) ∧ (0 < cmpG (grp x) (grp y) ↔ y < x) := by
  unfold cmpG
  by_cases h : (grp x).length = (grp y).length
  · rw [if_neg (by simpa using h), cmpT_spec (gok_grp x) (gok_grp y), List.take_of_length_le (Nat.le_refl _), List.take_of_length_le (by omega), gval_grp, gval_grp]
    rcases Nat.lt_trichotomy x y with h1 | h1 | h1
    · rw [if_pos h1]; omega
    · rw [if_neg (by omega), if_neg (by omega)]; omega
    · rw [if_neg (by omega), if_pos h1]; omega
  · rw [if_pos h]
    rcases Nat.lt_or_gt_of_ne h with h1 | h1
    · have := grp_lt_of_len h1; omega
    · have := grp_lt_of_len h1; omega
end Go.Proofs.YtdkpmnefoobipaaGreatDoor
namespace Go.Proofs.YtdkpmnefoobipaaGreatDoor
open Go.RowKit Px

set_option maxRecDepth 20000 in
set_option maxHeartbeats 2000000 in
theorem wCut (l : List Nat) (hl : l.length ≤ 1000000) : PCalls Tryz.prog 88 [.sl 1 (l.map dG)] (.d (.sl 1 ((cutG l).map dG))) := by
  obtain ⟨r, hr⟩ : ∃ r, r = cutG l := ⟨_, rfl⟩
  rw [← hr]
  refine pcalls_of_pw Tryz.func88 rfl Tryz.ntmps88 Tryz.results88 (by simp) fun B w0 => ?_
  refine pw_seq (pw_region (yAd rfl (yQ (pw_seq (pw_block ?_))))); refine pw_loop (fun n : Nat => ⟨21, [(0, .d (.sl 1 ((l.take n).map dG)))], [], []⟩) (fun n => n ≤ l.length ∧ cutG (l.take n) = r) (fun n => n) l.length ⟨Nat.le_refl _, by rw [List.take_length, hr]⟩
    ⟨rfl, ⟨.of_eq (by rw [List.take_length]; rfl), trivial⟩, trivial, trivial, rfl⟩ ?_
  rintro n ⟨hn, hc⟩
  have hlen : (l.take n).length = n := by rw [List.length_take]; omega
  have hnx : ∀ x, (l.take n)[n - 1]? = some x → 0 < n → l.take n = l.take (n - 1) ++ [x] := fun x hx h0 => by
    obtain ⟨m, rfl⟩ : ∃ m, n = m + 1 := ⟨n - 1, by omega⟩
    rw [List.getElem?_take_of_lt (by omega)] at hx
    rw [List.take_add_one, Nat.add_sub_cancel] at *
    rw [hx]; rfl
  have htk : ((l.take n).map dG).take (((n - 1 : Nat) : Int)).toNat = (l.take (n - 1)).map dG := by
    rw [Int.toNat_natCast, ← List.map_take, List.take_take, Nat.min_eq_left (by omega)]
  obtain ⟨c, hcc⟩ : ∃ c, c = l.take n := ⟨_, rfl⟩
  rw [← hcc] at hc hlen hnx htk ⊢
  rcases Nat.eq_zero_or_pos n with h0 | h0
  · have hc0 : c = [] := List.length_eq_zero_iff.1 (by omega)
    subst hc0
    have hr0 : r = [] := hc.symm
    subst hr0
    refine pw_seq (pw_seq (pw_region (yMd rfl (yN rfl (yB rfl rfl rfl rfl (yMd rfl (yO rfl (yO rfl (yO rfl ?_))))))))); refine yO rfl (yO rfl (yO rfl (yO rfl (yVd rfl rfl (yQ (pw_cf rfl (pw_exit (pw_seq (pw_region ?_))))))))); refine yMd rfl (yAd rfl (yQ (pw_ret ?_)))
    exact q_ret _ (.tmp rfl .nil) rfl
  have u1 : decide (((c.map dG).length : Int) > 0) = true := decide_eq_true (by rw [List.length_map]; omega)
  obtain ⟨x, hx⟩ : ∃ x, c[n - 1]? = some x := ⟨_, List.getElem?_eq_getElem (by omega)⟩
  have ex := ix dG c ((n - 1 : Nat) : Int) (n - 1) x rfl hx
  have hw : IntKind.i64.wrap (((c.map dG).length : Int) - 1) = ((n - 1 : Nat) : Int) := by rw [List.length_map, wrapI _ (by omega)]; omega
  have hcl : ((n - 1 : Nat) : Int) ≤ ((c.map dG).length : Int) := by rw [List.length_map]; omega
  have hs := hnx x hx h0
  have hcs := cutG_snoc (l.take (n - 1)) x
  rw [← hs, hc] at hcs
  rcases Nat.eq_zero_or_pos x with hx0 | hx0
  · subst hx0
    rw [if_pos rfl] at hcs
    refine pw_seq (pw_seq (pw_region (yMd rfl (yN rfl (yB rfl rfl rfl rfl (yMd rfl ?_)))))); rw [u1]; refine yMd rfl (yMd rfl (yN rfl (yB rfl rfl rfl rfl ?_))); rw [hw]; refine yW ex (by omega) rfl rfl (yLr rfl rfl (yB rfl rfl rfl rfl (yPd rfl rfl (yQ (pw_ct rfl (pw_skip (pw_block (pw_region (yMd rfl ?_))))))))); refine yMd rfl (yN rfl (yB rfl rfl rfl rfl ?_)); rw [hw]; refine yDh (by omega) hcl rfl rfl (yAd rfl (yQ (q_blk (q_then ?_))))
    exact ⟨n - 1, ⟨by omega, hcs.symm⟩, by omega, rfl, ⟨.of_eq (by rw [← htk]; rfl), trivial⟩, trivial, trivial, rfl⟩
  · rw [if_neg (by omega)] at hcs
    have u2 : ((x : Int) == 0) = false := by simp; omega
    refine pw_seq (pw_seq (pw_region (yMd rfl (yN rfl (yB rfl rfl rfl rfl (yMd rfl ?_)))))); rw [u1]; refine yMd rfl (yMd rfl (yN rfl (yB rfl rfl rfl rfl ?_))); rw [hw]; refine yW ex (by omega) rfl rfl (yLr rfl rfl (yB rfl rfl rfl rfl (yPd rfl rfl (yQ (q_then ?_))))); rw [u2]; refine pw_cf rfl (pw_exit (pw_seq (pw_region (yMd rfl (yAd rfl (yQ (pw_ret ?_)))))))
    rw [hcs]
    exact q_ret _ (.tmp rfl .nil) rfl
theorem cmpT_next {m n : List Nat} (i : Nat) {x y : Nat} (hx : m[i]? = some x) (hy : n[i]? = some y) : cmpT m n (i + 1) = if x < y then -1 else if y < x then 1 else cmpT m n i := by
  rw [cmpT, gat_get hx, gat_get hy]
set_option maxRecDepth 20000 in
set_option maxHeartbeats 2000000 in
theorem wCompare (l r : List Nat) (hl : l.length ≤ 1000000) (hr : r.length ≤ 1000000) : PCalls Tryz.prog 84 [.sl 1 (l.map dG), .sl 1 (r.map dG)] (.d (dI (cmpG l r))) := by
  unfold cmpG
  by_cases hne : l.length ≠ r.length
  · rw [if_pos hne]
    have u1 : (((l.map dG).length : Int) != ((r.map dG).length : Int)) = true := by simp; omega
    have hw : IntKind.i64.wrap (((l.map dG).length : Int) - ((r.map dG).length : Int)) = (l.length : Int) - r.length := by rw [List.length_map, List.length_map, wrapI _ (by omega)]
    refine pcalls_of_pw Tryz.func84 rfl Tryz.ntmps84 Tryz.results84 (by simp) fun B w0 => ?_
    refine pw_seq (pw_region (yAd rfl (yQ (pw_seq (pw_seq (pw_region (yMd rfl (yN rfl (yMd rfl ?_))))))))); refine yN rfl (yB rfl rfl rfl rfl (yQ (q_then ?_))); rw [u1]; refine pw_ct rfl (pw_seq (pw_region (yMd rfl (yN rfl (yMd rfl (yN rfl (yB rfl rfl rfl rfl (yAd rfl (yQ ?_))))))))); refine pw_ret (q_then_ret ?_); rw [hw]
    exact q_ret _ (.tmp rfl .nil) rfl
  rw [if_neg hne]
  have hlr : l.length = r.length := by omega
  have u1 : (((l.map dG).length : Int) != ((r.map dG).length : Int)) = false := by simp; omega
  obtain ⟨z, hz⟩ : ∃ z, z = cmpT l r l.length := ⟨_, rfl⟩
  rw [← hz]
  have hw : IntKind.i64.wrap (((l.map dG).length : Int) - 1) = (l.length : Int) - 1 := by rw [List.length_map, wrapI _ (by omega)]
  refine pcalls_of_pw Tryz.func84 rfl Tryz.ntmps84 Tryz.results84 (by simp) fun B w0 => ?_
  refine pw_seq (pw_region (yAd rfl (yQ (pw_seq (pw_seq (pw_region (yMd rfl (yN rfl (yMd rfl ?_))))))))); refine yN rfl (yB rfl rfl rfl rfl (yQ (q_then ?_))); rw [u1]; refine pw_cf rfl (pw_skip (pw_seq (pw_seq (pw_region (yMd rfl (yN rfl (yB rfl rfl rfl rfl (yAd rfl (yQ ?_))))))))); refine pw_block ?_; rw [hw]
  refine pw_loop (fun i : Nat => ⟨43, [(0, .d (.sl 1 (l.map dG))), (1, .d (.sl 1 (r.map dG))), (5, .d (dI ((i : Int) - 1)))], [], []⟩) (fun i => i ≤ l.length ∧ cmpT l r i = z) (fun i => i) l.length ⟨Nat.le_refl _, hz.symm⟩
    ⟨rfl, ⟨.refl _, .refl _, .refl _, trivial⟩, trivial, trivial, rfl⟩ ?_
  rintro i ⟨hi, hc⟩
  rcases Nat.eq_zero_or_pos i with h0 | h0
  · subst h0
    have hz0 : z = 0 := hc.symm
    subst hz0
    have u2 : decide (((0 : Nat) : Int) - 1 ≥ 0) = false := decide_eq_false (by omega)
    refine pw_seq (pw_seq (pw_region (yMd rfl (yB rfl rfl rfl rfl (yQ (pw_cf rfl (pw_exit (pw_seq (pw_region ?_))))))))); refine yAd rfl (yQ (pw_ret ?_)); rw [u2]
    exact q_ret _ (.tmp rfl .nil) rfl
  obtain ⟨j, rfl⟩ : ∃ j, i = j + 1 := ⟨i - 1, by omega⟩
  have u2 : decide (((j + 1 : Nat) : Int) - 1 ≥ 0) = true := decide_eq_true (by omega)
  obtain ⟨x, hx⟩ : ∃ x, l[j]? = some x := ⟨_, List.getElem?_eq_getElem (by omega)⟩
  obtain ⟨y, hy⟩ : ∃ y, r[j]? = some y := ⟨_, List.getElem?_eq_getElem (by omega)⟩
  have ex := ix dG l (((j + 1 : Nat) : Int) - 1) j x (by omega) hx
  have ey := ix dG r (((j + 1 : Nat) : Int) - 1) j y (by omega) hy
  have hn := cmpT_next j hx hy
  rw [hc] at hn
  have hw2 : IntKind.i64.wrap (((j + 1 : Nat) : Int) - 1 - 1) = (j : Int) - 1 := by rw [wrapI _ (by omega)]; omega
  by_cases hxy : x < y
  · rw [if_pos hxy] at hn
    have u3 : decide ((x : Int) < (y : Int)) = true := decide_eq_true (by omega)
    subst hn
    refine pw_seq (pw_seq (pw_region (yMd rfl (yB rfl rfl rfl rfl (yQ (q_then ?_)))))); rw [u2]; refine pw_ct rfl (pw_skip (pw_seq (pw_block (pw_block (pw_seq ?_))))); refine pw_draw Tryz.mixed (by kernel_rfl) ?_; refine yMd rfl (yMd rfl (yW ex (by omega) rfl rfl (yLr rfl rfl (yMd rfl (yMd rfl (yW ey (by omega) rfl rfl (yLr rfl rfl (yB rfl rfl rfl rfl (yAd rfl ?_))))))))); refine yQ (q_then ?_); rw [u3]; refine pw_ct rfl (pw_seq (pw_region (yAd rfl (yQ (pw_ret (q_blk_ret (q_blk_ret (q_then_ret (q_then_ret ?_))))))))); refine q_blk_ret (q_then_ret ?_)
    exact q_ret _ (.tmp rfl .nil) rfl
  rw [if_neg hxy] at hn
  have u3 : decide ((x : Int) < (y : Int)) = false := decide_eq_false (by omega)
  by_cases hyx : y < x
  · rw [if_pos hyx] at hn
    have u4 : decide ((x : Int) > (y : Int)) = true := decide_eq_true (by omega)
    subst hn
    refine pw_seq (pw_seq (pw_region (yMd rfl (yB rfl rfl rfl rfl (yQ (q_then ?_)))))); rw [u2]; refine pw_ct rfl (pw_skip (pw_seq (pw_block (pw_block (pw_seq ?_))))); refine pw_draw Tryz.mixed (by kernel_rfl) ?_; refine yMd rfl (yMd rfl (yW ex (by omega) rfl rfl (yLr rfl rfl (yMd rfl (yMd rfl (yW ey (by omega) rfl rfl (yLr rfl rfl (yB rfl rfl rfl rfl (yAd rfl ?_))))))))); refine yQ (q_then ?_); rw [u3]; refine pw_cf rfl (pw_seq ?_); refine pw_draw Tryz.mixed (by kernel_rfl) ?_
    refine yMd rfl (yMd rfl (yW ex (by omega) rfl rfl (yLr rfl rfl (yMd rfl (yMd rfl (yW ey (by omega) rfl rfl (yLr rfl rfl (yB rfl rfl rfl rfl (yAd rfl ?_))))))))); refine yQ (q_then ?_); rw [u4]; refine pw_ct rfl (pw_seq (pw_region (yAd rfl (yQ (pw_ret (q_blk_ret (q_blk_ret (q_then_ret (q_then_ret ?_))))))))); refine q_blk_ret (q_then_ret ?_)
    exact q_ret _ (.tmp rfl .nil) rfl
  rw [if_neg hyx] at hn
  have u4 : decide ((x : Int) > (y : Int)) = false := decide_eq_false (by omega)
  refine pw_seq (pw_seq (pw_region (yMd rfl (yB rfl rfl rfl rfl (yQ (q_then ?_)))))); rw [u2]; refine pw_ct rfl (pw_skip (pw_seq (pw_block (pw_block (pw_seq ?_))))); refine pw_draw Tryz.mixed (by kernel_rfl) ?_; refine yMd rfl (yMd rfl (yW ex (by omega) rfl rfl (yLr rfl rfl (yMd rfl (yMd rfl (yW ey (by omega) rfl rfl (yLr rfl rfl (yB rfl rfl rfl rfl (yAd rfl ?_))))))))); refine yQ (q_then ?_); rw [u3]; refine pw_cf rfl (pw_seq ?_); refine pw_draw Tryz.mixed (by kernel_rfl) ?_
  refine yMd rfl (yMd rfl (yW ex (by omega) rfl rfl (yLr rfl rfl (yMd rfl (yMd rfl (yW ey (by omega) rfl rfl (yLr rfl rfl (yB rfl rfl rfl rfl (yAd rfl ?_))))))))); refine yQ (q_then ?_); rw [u4]; refine pw_cf rfl (pw_skip (pw_region (yMd rfl (yB rfl rfl rfl rfl (yAd rfl (yQ (q_then ?_))))))); rw [hw2]
  exact ⟨j, ⟨by omega, hn.symm⟩, by omega, rfl, ⟨.refl _, .refl _, .refl _, trivial⟩, trivial, trivial, rfl⟩
end Go.Proofs.YtdkpmnefoobipaaGreatDoor
namespace Go.Proofs.YtdkpmnefoobipaaGreatDoor
open Go.RowKit Px

abbrev u64T : Nat := 130
abbrev vG (l : List Nat) : List Value := l.map fun x : Nat => Value.int .u64 (x : Int)
abbrev cG (l : List Nat) : List SV := (vG l).map fun u => SV.d (.val u)
theorem cG_at {p q : List Nat} {a i : Nat} (h : p.length = i) : (cG (p ++ a :: q))[((i : Int)).toNat * 1]? = some (.d (dU a)) := by
  subst h
  simp [cG, vG]
theorem cG_set {p q : List Nat} {a i : Nat} (v : Nat) (h : p.length = i) : (cG (p ++ a :: q)).set (((i : Int)).toNat * 1) (.d (dU v)) = cG (p ++ v :: q) := by
  subst h
  simp [cG, vG]
theorem cG_lt {p q : List Nat} {a i : Nat} (h : p.length = i) : Nat.blt (((i : Int)).toNat * 1) (cG (p ++ a :: q)).length = true := by
  refine Nat.ble_eq_true_of_le ?_
  simp [cG, vG]
  omega
theorem cG_take (l : List Nat) : ((l.map dU).take (l.length : Int).toNat).map SV.d = cG l := by
  rw [List.take_of_length_le (by simp), cG, vG, List.map_map, List.map_map]
  rfl
theorem toDs_cG (l : List Nat) : toDs (cG l) = some (l.map dU) := by
  rw [cG, toDs_map (fun u => DV.val u) (vG l), vG, List.map_map]
  rfl
theorem chunk_cG (l : List Nat) {n : Nat} (h : l.length = n) : chunk 1 n (l.map dU) = l.map dG := by
  subst h
  exact chunk_one dU l
theorem u64w {n : Nat} (h : n < 18446744073709551616) : IntKind.u64.wrap (n : Int) = (n : Int) := by
  rw [IntKind.wrap_u64]
  omega
theorem addS_next (A B : List Nat) (i : Nat) : addS A B (i + 1) = ((addS A B i).1 ++ [(gat A i + (addS A B i).2 + gat B i) % 1000000000], (gat A i + (addS A B i).2 + gat B i) / 1000000000) := rfl
set_option maxRecDepth 20000 in
set_option maxHeartbeats 4000000 in
theorem wPlus (m n : List Nat) (hgm : gok m) (hgn : gok n) (hlm : m.length ≤ 1000000) (hln : n.length ≤ 1000000) : PCalls Tryz.prog 83 [.sl 1 (m.map dG), .sl 1 (n.map dG)] (.d (.sl 1 ((plusG m n).map dG))) := by
  obtain ⟨r, hr⟩ : ∃ r, r = plusG m n := ⟨_, rfl⟩
  rw [← hr]
  by_cases hlt : m.length < n.length
  · have hl : m.length ≤ n.length := by omega
    have hr2 : r = (addS n m n.length).1 ++ (if 0 < (addS n m n.length).2 then [(addS n m n.length).2] else []) := by
      rw [hr, plusG_comm, plusG, Nat.max_eq_left hl]
    have u0 : decide (((m.map dG).length : Int) < ((n.map dG).length : Int)) = true := by simp; omega
    have hw0 : IntKind.i64.wrap (((n.map dG).length : Int) + 1) = (n.length : Int) + 1 := by rw [List.length_map, wrapI _ (by omega)]
    have hle0 : ((n.map dG).length : Int) = (n.length : Int) := by simp
    clear hr
    refine pcalls_of_pw Tryz.func83 rfl Tryz.ntmps83 Tryz.results83 (by simp) fun B w0 => ?_
    refine pw_seq (pw_region (yAd rfl (yQ (pw_seq (pw_seq (pw_region (yMd rfl (yN rfl (yMd rfl ?_))))))))); refine yN rfl (yB rfl rfl rfl rfl (yQ (q_then ?_))); rw [u0]; refine pw_ct rfl (pw_region (yMd rfl (yMd rfl (yAd rfl (yAd rfl (yQ (pw_seq (pw_region (yMd rfl ?_))))))))); refine yN rfl (yMd rfl (yN rfl (yB rfl rfl rfl rfl ?_))); rw [hw0]
    refine yMk (n := (n.length : Int)) (c := (n.length : Int) + 1) (by omega) (by omega) (by omega) (by omega) (congrArg (fun k : Int => SV.d (dI k)) hle0) rfl rfl ?_; refine yAw rfl (yQ (pw_seq (pw_region (yMw rfl (yMd rfl (yCp (ds := n.map dU) (by rw [List.map_map]; rfl) (by simp) (by omega) rfl rfl (by simp) rfl (yQ (pw_seq (pw_region ?_))))))))); refine yAd rfl (yQ (pw_seq (pw_seq (pw_region (yMw rfl (yNb rfl (yMd rfl (yQ (pw_block ?_))))))))); refine pw_loop (fun i : Nat => ⟨69, [(1, .d (.sl 1 (m.map dG))), (5, .bs 20 n.length u64T 1), (6, .d (dU (addS n m i).2)), (25, .d (dI n.length)), (26, .d (dI i))], [(20, cG ((addS n m i).1 ++ n.drop i))], []⟩) (fun i => i ≤ n.length) (fun i => n.length - i) 0 (Nat.zero_le _)
      ⟨rfl, ⟨.refl _, .refl _, .refl _, .refl _, .refl _, trivial⟩, ⟨⟨_, rfl, lesC_eq (cG_take n)⟩, trivial⟩, trivial, by simp [PS.closed, SV.ok, aget, Nat.beq, -List.map_take, -List.map_set, -List.map_append, -List.map_drop]⟩ ?_
    intro i hi
    obtain ⟨h1, h2, h3, -⟩ := addS_spec hgn hgm i
    have hnx := addS_next n m i
    obtain ⟨⟨p, c⟩, hp⟩ : ∃ q, q = addS n m i := ⟨_, rfl⟩
    rw [← hp] at h1 h2 h3 hnx ⊢
    simp only at h1 h2 h3 hnx ⊢
    rcases Nat.lt_or_ge i n.length with hi2 | hi2
    · have t1 : decide ((i : Int) < (n.length : Int)) = true := decide_eq_true (by omega)
      obtain ⟨a, ha⟩ : ∃ a, n[i]? = some a := ⟨_, List.getElem?_eq_getElem hi2⟩
      have hga := gat_get ha
      have ha9 : a < 1000000000 := hgn a (List.mem_of_getElem? ha)
      have hdr : n.drop i = a :: n.drop (i + 1) := by
        obtain ⟨q1, q2⟩ := List.getElem?_eq_some_iff.1 ha
        rw [List.drop_eq_getElem_cons q1, q2]
      obtain ⟨q, hq⟩ : ∃ q, q = n.drop (i + 1) := ⟨_, rfl⟩
      rw [hdr, ← hq]
      rw [hga] at hnx
      have hat := cG_at (q := q) (a := a) h1
      have hs1 := cG_set (q := q) (a := a) (a + c) h1
      have hl1 := cG_lt (q := q) (a := a) h1
      have w1 : IntKind.u64.wrap ((a : Int) + (c : Int)) = ((a + c : Nat) : Int) := by rw [← Int.natCast_add]; exact u64w (by omega)
      have hat2 := cG_at (q := q) (a := a + c) h1
      have hwi := wrapI ((i : Int) + 1) (by omega)
      rcases Nat.lt_or_ge i m.length with hj | hj
      · have t2 : decide ((i : Int) < ((m.map dG).length : Int)) = true := decide_eq_true (by rw [List.length_map]; omega)
        obtain ⟨b, hb⟩ : ∃ b, m[i]? = some b := ⟨_, List.getElem?_eq_getElem hj⟩
        have hb9 : b < 1000000000 := hgm b (List.mem_of_getElem? hb)
        have eb := ix dG m (i : Int) i b rfl hb
        have hgb := gat_get hb
        rw [hgb] at hnx
        have w2 : IntKind.u64.wrap (((a + c : Nat) : Int) + (b : Int)) = ((a + c + b : Nat) : Int) := by rw [← Int.natCast_add]; exact u64w (by omega)
        have hs2 := cG_set (q := q) (a := a + c) (a + c + b) h1
        have hl2 := cG_lt (q := q) (a := a + c) h1
        have hat3 := cG_at (q := q) (a := a + c + b) h1
        have hs3 := cG_set (q := q) (a := a + c + b) ((a + c + b) % 1000000000) h1
        have hl3 := cG_lt (q := q) (a := a + c + b) h1
        have wq : IntKind.u64.wrap (((a + c + b : Nat) : Int).tdiv 1000000000) = (((a + c + b) / 1000000000 : Nat) : Int) := u64w (n := (a + c + b) / 1000000000) (by omega)
        refine pw_seq (pw_region (yB rfl rfl rfl rfl (yQ (pw_seq ?_)))); rw [t1]; refine pw_ct rfl (pw_skip (pw_seq (pw_block (pw_seq (pw_region (yMd rfl (yAd rfl (yQ (pw_seq ?_))))))))); refine pw_region (yMw rfl (yMd rfl (yWb (by omega) (by omega) rfl rfl rfl (yLd rfl rfl hat (yMd rfl (yB rfl rfl rfl rfl (yWb (by omega) (by omega) rfl rfl rfl ?_))))))); rw [w1]; refine ySd rfl rfl rfl hs1 ?_ hl1; refine yQ (pw_seq (pw_seq (pw_region (yMd rfl (yMd rfl (yN rfl (yB rfl rfl rfl rfl (yQ (q_then ?_))))))))); rw [t2]; refine pw_ct rfl ?_; refine pw_draw Tryz.mixed (by kernel_rfl) ?_; refine yMw rfl (yMd rfl (yWb (by omega) (by omega) rfl rfl rfl (yLd rfl rfl hat2 (yMd rfl (yMd rfl (yW eb (by omega) rfl rfl (yLr rfl rfl (yB rfl rfl rfl rfl (yWb (by omega) (by omega) rfl rfl rfl ?_))))))))); rw [w2]; refine ySd rfl rfl rfl hs2 ?_ hl2; refine yQ (pw_seq (pw_region (yMw rfl (yMd rfl (yWb (by omega) (by omega) rfl rfl rfl (yLd rfl rfl hat3 (yB rfl rfl rfl rfl (yAd rfl (yQ ?_))))))))); refine pw_region (yMw rfl (yMd rfl (yWb (by omega) (by omega) rfl rfl rfl (yLd rfl rfl hat3 (yB rfl rfl rfl rfl (yWb (by omega) (by omega) rfl rfl rfl ?_)))))); refine ySd rfl rfl rfl hs3 ?_ hl3; refine yQ (pw_region (yB rfl rfl rfl rfl (yMd rfl (yQ (q_then ?_)))))
        rw [wq]
        refine ⟨i + 1, by omega, by omega, rfl, ⟨.refl _, .refl _, .of_eq (by rw [hnx]; rfl), .refl _, .of_eq (congrArg (fun n => SV.d (dI n)) hwi), trivial⟩, ⟨⟨_, rfl, lesC_eq (by rw [hnx, ← hq, List.append_assoc]; rfl)⟩, trivial⟩, trivial, by simp [PS.closed, SV.ok, aget, Nat.beq, -List.map_take, -List.map_set, -List.map_append, -List.map_drop]⟩
      · have t2 : decide ((i : Int) < ((m.map dG).length : Int)) = false := decide_eq_false (by rw [List.length_map]; omega)
        rw [gat_ge hj, Nat.add_zero] at hnx
        have hs3 := cG_set (q := q) (a := a + c) ((a + c) % 1000000000) h1
        have hl3 := cG_lt (q := q) (a := a + c) h1
        have wq : IntKind.u64.wrap (((a + c : Nat) : Int).tdiv 1000000000) = (((a + c) / 1000000000 : Nat) : Int) := u64w (n := (a + c) / 1000000000) (by omega)
        refine pw_seq (pw_region (yB rfl rfl rfl rfl (yQ (pw_seq ?_)))); rw [t1]; refine pw_ct rfl (pw_skip (pw_seq (pw_block (pw_seq (pw_region (yMd rfl (yAd rfl (yQ (pw_seq ?_))))))))); refine pw_region (yMw rfl (yMd rfl (yWb (by omega) (by omega) rfl rfl rfl (yLd rfl rfl hat (yMd rfl (yB rfl rfl rfl rfl (yWb (by omega) (by omega) rfl rfl rfl ?_))))))); rw [w1]; refine ySd rfl rfl rfl hs1 ?_ hl1; refine yQ (pw_seq (pw_seq (pw_region (yMd rfl (yMd rfl (yN rfl (yB rfl rfl rfl rfl (yQ (q_then ?_))))))))); rw [t2]; refine pw_cf rfl (pw_skip (pw_seq (pw_region (yMw rfl (yMd rfl (yWb (by omega) (by omega) rfl rfl rfl (yLd rfl rfl hat2 (yB rfl rfl rfl rfl (yAd rfl ?_))))))))); refine yQ (pw_region (yMw rfl (yMd rfl (yWb (by omega) (by omega) rfl rfl rfl (yLd rfl rfl hat2 (yB rfl rfl rfl rfl (yWb (by omega) (by omega) rfl rfl rfl ?_))))))); refine ySd rfl rfl rfl hs3 ?_ hl3; refine yQ (pw_region (yB rfl rfl rfl rfl (yMd rfl (yQ (q_then ?_))))); rw [wq]
        refine ⟨i + 1, by omega, by omega, rfl, ⟨.refl _, .refl _, .of_eq (by rw [hnx]; rfl), .refl _, .of_eq (congrArg (fun n => SV.d (dI n)) hwi), trivial⟩, ⟨⟨_, rfl, lesC_eq (by rw [hnx, ← hq, List.append_assoc]; rfl)⟩, trivial⟩, trivial, by simp [PS.closed, SV.ok, aget, Nat.beq, -List.map_take, -List.map_set, -List.map_append, -List.map_drop]⟩
    · have t1 : decide ((i : Int) < (n.length : Int)) = false := decide_eq_false (by omega)
      obtain rfl : i = n.length := by omega
      rw [← hp] at hr2
      simp only at hr2
      rw [List.drop_length, List.append_nil]
      rcases Nat.eq_zero_or_pos c with hc | hc
      · subst hc
        rw [if_neg (by omega), List.append_nil] at hr2
        subst hr2
        refine pw_seq (pw_region (yB rfl rfl rfl rfl (yQ (pw_seq ?_)))); rw [t1]; refine pw_cf rfl (pw_exit (pw_seq (pw_seq (pw_region (yMd rfl (yB rfl rfl rfl rfl (yQ (pw_cf rfl (pw_skip ?_))))))))); refine pw_seq (pw_region (yMw rfl (yAw rfl (yQ ?_)))); refine pw_frz 4 20 (es := r.map dG) (ds := r.map dU) (by simp; omega) (chunk_cG r h1) (toDs_cG _) rfl rfl ?_; refine pw_ret ?_
        exact q_ret _ (.tmp rfl .nil) rfl
      · have t3 : decide ((c : Int) > 0) = true := decide_eq_true (by omega)
        rw [if_pos hc] at hr2
        have hrl : r.length = n.length + 1 := by rw [hr2]; simp; omega
        have hrc : (vG p ++ [Value.int .u64 (c : Int)]).map (fun u => SV.d (.val u)) = cG r := by rw [hr2]; simp [cG, vG]
        refine pw_seq (pw_region (yB rfl rfl rfl rfl (yQ (pw_seq ?_)))); rw [t1]; refine pw_cf rfl (pw_exit (pw_seq (pw_seq (pw_region (yMd rfl (yB rfl rfl rfl rfl (yQ (q_then ?_)))))))); rw [t3]; refine pw_ct rfl (pw_region (yMw rfl (yMd rfl (yR (es := [[_]]) rfl rfl rfl rfl rfl (yTw (us := vG p) (vs := [Value.int .u64 (c : Int)]) (m := 1) (n := n.length) (by omega) (by omega) (by omega) rfl rfl (by simp; omega) rfl rfl rfl (yAw rfl (yQ (pw_seq (pw_region ?_))))))))); refine yMw rfl (yAw rfl (yQ ?_)); refine pw_frz 4 20 (es := r.map dG) (ds := r.map dU) (by simp; omega) (chunk_cG r hrl) (by rw [hrc]; exact toDs_cG _) rfl rfl ?_; refine pw_ret ?_
        exact q_ret _ (.tmp rfl .nil) rfl
  · have hl : n.length ≤ m.length := by omega
    have hr2 : r = (addS m n m.length).1 ++ (if 0 < (addS m n m.length).2 then [(addS m n m.length).2] else []) := by
      rw [hr, plusG, Nat.max_eq_left hl]
    have u0 : decide (((m.map dG).length : Int) < ((n.map dG).length : Int)) = false := by simp; omega
    have hw0 : IntKind.i64.wrap (((m.map dG).length : Int) + 1) = (m.length : Int) + 1 := by rw [List.length_map, wrapI _ (by omega)]
    have hle0 : ((m.map dG).length : Int) = (m.length : Int) := by simp
    clear hr
    refine pcalls_of_pw Tryz.func83 rfl Tryz.ntmps83 Tryz.results83 (by simp) fun B w0 => ?_
    refine pw_seq (pw_region (yAd rfl (yQ (pw_seq (pw_seq (pw_region (yMd rfl (yN rfl (yMd rfl ?_))))))))); refine yN rfl (yB rfl rfl rfl rfl (yQ (q_then ?_))); rw [u0]; refine pw_cf rfl (pw_skip (pw_seq (pw_region (yMd rfl (yN rfl (yMd rfl (yN rfl (yB rfl rfl rfl rfl ?_)))))))); rw [hw0]
    refine yMk (n := (m.length : Int)) (c := (m.length : Int) + 1) (by omega) (by omega) (by omega) (by omega) (congrArg (fun k : Int => SV.d (dI k)) hle0) rfl rfl ?_; refine yAw rfl (yQ (pw_seq (pw_region (yMw rfl (yMd rfl (yCp (ds := m.map dU) (by rw [List.map_map]; rfl) (by simp) (by omega) rfl rfl (by simp) rfl (yQ (pw_seq (pw_region ?_))))))))); refine yAd rfl (yQ (pw_seq (pw_seq (pw_region (yMw rfl (yNb rfl (yMd rfl (yQ (pw_block ?_))))))))); refine pw_loop (fun i : Nat => ⟨69, [(1, .d (.sl 1 (n.map dG))), (5, .bs 20 m.length u64T 1), (6, .d (dU (addS m n i).2)), (25, .d (dI m.length)), (26, .d (dI i))], [(20, cG ((addS m n i).1 ++ m.drop i))], []⟩) (fun i => i ≤ m.length) (fun i => m.length - i) 0 (Nat.zero_le _)
      ⟨rfl, ⟨.refl _, .refl _, .refl _, .refl _, .refl _, trivial⟩, ⟨⟨_, rfl, lesC_eq (cG_take m)⟩, trivial⟩, trivial, by simp [PS.closed, SV.ok, aget, Nat.beq, -List.map_take, -List.map_set, -List.map_append, -List.map_drop]⟩ ?_
    intro i hi
    obtain ⟨h1, h2, h3, -⟩ := addS_spec hgm hgn i
    have hnx := addS_next m n i
    obtain ⟨⟨p, c⟩, hp⟩ : ∃ q, q = addS m n i := ⟨_, rfl⟩
    rw [← hp] at h1 h2 h3 hnx ⊢
    simp only at h1 h2 h3 hnx ⊢
    rcases Nat.lt_or_ge i m.length with hi2 | hi2
    · have t1 : decide ((i : Int) < (m.length : Int)) = true := decide_eq_true (by omega)
      obtain ⟨a, ha⟩ : ∃ a, m[i]? = some a := ⟨_, List.getElem?_eq_getElem hi2⟩
      have hga := gat_get ha
      have ha9 : a < 1000000000 := hgm a (List.mem_of_getElem? ha)
      have hdr : m.drop i = a :: m.drop (i + 1) := by
        obtain ⟨q1, q2⟩ := List.getElem?_eq_some_iff.1 ha
        rw [List.drop_eq_getElem_cons q1, q2]
      obtain ⟨q, hq⟩ : ∃ q, q = m.drop (i + 1) := ⟨_, rfl⟩
      rw [hdr, ← hq]
      rw [hga] at hnx
      have hat := cG_at (q := q) (a := a) h1
      have hs1 := cG_set (q := q) (a := a) (a + c) h1
      have hl1 := cG_lt (q := q) (a := a) h1
      have w1 : IntKind.u64.wrap ((a : Int) + (c : Int)) = ((a + c : Nat) : Int) := by rw [← Int.natCast_add]; exact u64w (by omega)
      have hat2 := cG_at (q := q) (a := a + c) h1
      have hwi := wrapI ((i : Int) + 1) (by omega)
      rcases Nat.lt_or_ge i n.length with hj | hj
      · have t2 : decide ((i : Int) < ((n.map dG).length : Int)) = true := decide_eq_true (by rw [List.length_map]; omega)
        obtain ⟨b, hb⟩ : ∃ b, n[i]? = some b := ⟨_, List.getElem?_eq_getElem hj⟩
        have hb9 : b < 1000000000 := hgn b (List.mem_of_getElem? hb)
        have eb := ix dG n (i : Int) i b rfl hb
        have hgb := gat_get hb
        rw [hgb] at hnx
        have w2 : IntKind.u64.wrap (((a + c : Nat) : Int) + (b : Int)) = ((a + c + b : Nat) : Int) := by rw [← Int.natCast_add]; exact u64w (by omega)
        have hs2 := cG_set (q := q) (a := a + c) (a + c + b) h1
        have hl2 := cG_lt (q := q) (a := a + c) h1
        have hat3 := cG_at (q := q) (a := a + c + b) h1
        have hs3 := cG_set (q := q) (a := a + c + b) ((a + c + b) % 1000000000) h1
        have hl3 := cG_lt (q := q) (a := a + c + b) h1
        have wq : IntKind.u64.wrap (((a + c + b : Nat) : Int).tdiv 1000000000) = (((a + c + b) / 1000000000 : Nat) : Int) := u64w (n := (a + c + b) / 1000000000) (by omega)
        refine pw_seq (pw_region (yB rfl rfl rfl rfl (yQ (pw_seq ?_)))); rw [t1]; refine pw_ct rfl (pw_skip (pw_seq (pw_block (pw_seq (pw_region (yMd rfl (yAd rfl (yQ (pw_seq ?_))))))))); refine pw_region (yMw rfl (yMd rfl (yWb (by omega) (by omega) rfl rfl rfl (yLd rfl rfl hat (yMd rfl (yB rfl rfl rfl rfl (yWb (by omega) (by omega) rfl rfl rfl ?_))))))); rw [w1]; refine ySd rfl rfl rfl hs1 ?_ hl1; refine yQ (pw_seq (pw_seq (pw_region (yMd rfl (yMd rfl (yN rfl (yB rfl rfl rfl rfl (yQ (q_then ?_))))))))); rw [t2]; refine pw_ct rfl ?_; refine pw_draw Tryz.mixed (by kernel_rfl) ?_; refine yMw rfl (yMd rfl (yWb (by omega) (by omega) rfl rfl rfl (yLd rfl rfl hat2 (yMd rfl (yMd rfl (yW eb (by omega) rfl rfl (yLr rfl rfl (yB rfl rfl rfl rfl (yWb (by omega) (by omega) rfl rfl rfl ?_))))))))); rw [w2]; refine ySd rfl rfl rfl hs2 ?_ hl2; refine yQ (pw_seq (pw_region (yMw rfl (yMd rfl (yWb (by omega) (by omega) rfl rfl rfl (yLd rfl rfl hat3 (yB rfl rfl rfl rfl (yAd rfl (yQ ?_))))))))); refine pw_region (yMw rfl (yMd rfl (yWb (by omega) (by omega) rfl rfl rfl (yLd rfl rfl hat3 (yB rfl rfl rfl rfl (yWb (by omega) (by omega) rfl rfl rfl ?_)))))); refine ySd rfl rfl rfl hs3 ?_ hl3; refine yQ (pw_region (yB rfl rfl rfl rfl (yMd rfl (yQ (q_then ?_)))))
        rw [wq]
        refine ⟨i + 1, by omega, by omega, rfl, ⟨.refl _, .refl _, .of_eq (by rw [hnx]; rfl), .refl _, .of_eq (congrArg (fun n => SV.d (dI n)) hwi), trivial⟩, ⟨⟨_, rfl, lesC_eq (by rw [hnx, ← hq, List.append_assoc]; rfl)⟩, trivial⟩, trivial, by simp [PS.closed, SV.ok, aget, Nat.beq, -List.map_take, -List.map_set, -List.map_append, -List.map_drop]⟩
      · have t2 : decide ((i : Int) < ((n.map dG).length : Int)) = false := decide_eq_false (by rw [List.length_map]; omega)
        rw [gat_ge hj, Nat.add_zero] at hnx
        have hs3 := cG_set (q := q) (a := a + c) ((a + c) % 1000000000) h1
        have hl3 := cG_lt (q := q) (a := a + c) h1
        have wq : IntKind.u64.wrap (((a + c : Nat) : Int).tdiv 1000000000) = (((a + c) / 1000000000 : Nat) : Int) := u64w (n := (a + c) / 1000000000) (by omega)
        refine pw_seq (pw_region (yB rfl rfl rfl rfl (yQ (pw_seq ?_)))); rw [t1]; refine pw_ct rfl (pw_skip (pw_seq (pw_block (pw_seq (pw_region (yMd rfl (yAd rfl (yQ (pw_seq ?_))))))))); refine pw_region (yMw rfl (yMd rfl (yWb (by omega) (by omega) rfl rfl rfl (yLd rfl rfl hat (yMd rfl (yB rfl rfl rfl rfl (yWb (by omega) (by omega) rfl rfl rfl ?_))))))); rw [w1]; refine ySd rfl rfl rfl hs1 ?_ hl1; refine yQ (pw_seq (pw_seq (pw_region (yMd rfl (yMd rfl (yN rfl (yB rfl rfl rfl rfl (yQ (q_then ?_))))))))); rw [t2]; refine pw_cf rfl (pw_skip (pw_seq (pw_region (yMw rfl (yMd rfl (yWb (by omega) (by omega) rfl rfl rfl (yLd rfl rfl hat2 (yB rfl rfl rfl rfl (yAd rfl ?_))))))))); refine yQ (pw_region (yMw rfl (yMd rfl (yWb (by omega) (by omega) rfl rfl rfl (yLd rfl rfl hat2 (yB rfl rfl rfl rfl (yWb (by omega) (by omega) rfl rfl rfl ?_))))))); refine ySd rfl rfl rfl hs3 ?_ hl3; refine yQ (pw_region (yB rfl rfl rfl rfl (yMd rfl (yQ (q_then ?_))))); rw [wq]
        refine ⟨i + 1, by omega, by omega, rfl, ⟨.refl _, .refl _, .of_eq (by rw [hnx]; rfl), .refl _, .of_eq (congrArg (fun n => SV.d (dI n)) hwi), trivial⟩, ⟨⟨_, rfl, lesC_eq (by rw [hnx, ← hq, List.append_assoc]; rfl)⟩, trivial⟩, trivial, by simp [PS.closed, SV.ok, aget, Nat.beq, -List.map_take, -List.map_set, -List.map_append, -List.map_drop]⟩
    · have t1 : decide ((i : Int) < (m.length : Int)) = false := decide_eq_false (by omega)
      obtain rfl : i = m.length := by omega
      rw [← hp] at hr2
      simp only at hr2
      rw [List.drop_length, List.append_nil]
      rcases Nat.eq_zero_or_pos c with hc | hc
      · subst hc
        rw [if_neg (by omega), List.append_nil] at hr2
        subst hr2
        refine pw_seq (pw_region (yB rfl rfl rfl rfl (yQ (pw_seq ?_)))); rw [t1]; refine pw_cf rfl (pw_exit (pw_seq (pw_seq (pw_region (yMd rfl (yB rfl rfl rfl rfl (yQ (pw_cf rfl (pw_skip ?_))))))))); refine pw_seq (pw_region (yMw rfl (yAw rfl (yQ ?_)))); refine pw_frz 4 20 (es := r.map dG) (ds := r.map dU) (by simp; omega) (chunk_cG r h1) (toDs_cG _) rfl rfl ?_; refine pw_ret ?_
        exact q_ret _ (.tmp rfl .nil) rfl
      · have t3 : decide ((c : Int) > 0) = true := decide_eq_true (by omega)
        rw [if_pos hc] at hr2
        have hrl : r.length = m.length + 1 := by rw [hr2]; simp; omega
        have hrc : (vG p ++ [Value.int .u64 (c : Int)]).map (fun u => SV.d (.val u)) = cG r := by rw [hr2]; simp [cG, vG]
        refine pw_seq (pw_region (yB rfl rfl rfl rfl (yQ (pw_seq ?_)))); rw [t1]; refine pw_cf rfl (pw_exit (pw_seq (pw_seq (pw_region (yMd rfl (yB rfl rfl rfl rfl (yQ (q_then ?_)))))))); rw [t3]; refine pw_ct rfl (pw_region (yMw rfl (yMd rfl (yR (es := [[_]]) rfl rfl rfl rfl rfl (yTw (us := vG p) (vs := [Value.int .u64 (c : Int)]) (m := 1) (n := m.length) (by omega) (by omega) (by omega) rfl rfl (by simp; omega) rfl rfl rfl (yAw rfl (yQ (pw_seq (pw_region ?_))))))))); refine yMw rfl (yAw rfl (yQ ?_)); refine pw_frz 4 20 (es := r.map dG) (ds := r.map dU) (by simp; omega) (chunk_cG r hrl) (by rw [hrc]; exact toDs_cG _) rfl rfl ?_; refine pw_ret ?_
        exact q_ret _ (.tmp rfl .nil) rfl
end Go.Proofs.YtdkpmnefoobipaaGreatDoor
namespace Go.Proofs.YtdkpmnefoobipaaGreatDoor
open Go.RowKit Px

theorem dgs_nil {a : Str} (h : (dgs a).1 = []) : (dgs a).2 = false := by
  cases hb : (dgs a).2 with
  | false => rfl
  | true => exact absurd h (dgs_neg hb)
set_option maxRecDepth 20000 in
set_option maxHeartbeats 2000000 in
theorem wReadNil (a : Str) (ha : a.length ≤ 1000000) (h0 : (dgs a).1 = []) : PCalls Tryz.prog 54 [dS a] (.d (.agg [dB false, .val (.slice none 0 0)])) := by
  have c1 := wDigits a (by omega)
  rw [dgs_nil h0, h0] at c1
  refine pcalls_of_pw Tryz.func54 rfl Tryz.ntmps54 Tryz.results54 (by simp) fun B w0 => ?_
  refine pw_seq (pw_region (yZ (cs := [_, _]) rfl rfl (yQ (pw_seq (pw_region (yMd rfl (yC (c1) rfl rfl (yMp rfl (yX rfl rfl ?_))))))))); refine yX rfl rfl (yAd rfl (yAd rfl (yQ (pw_seq (pw_region (yAd rfl (yQ (pw_seq (pw_seq ?_))))))))); refine pw_region (yMd rfl (yNs rfl (yAd rfl (yQ (pw_block ?_))))); refine pw_loop (fun i : Nat => ⟨37, [(2, .bx 2 0), (4, .d (dB false)), (5, .d (.val (.slice none 0 0))), (6, .d (dI 0))], [(2, [.d (dB false), .d (.val (.slice none 0 0))])], []⟩) (fun i => i = 0) (fun i => i) 0 rfl
    ⟨rfl, ⟨.refl _, .refl _, .refl _, .refl _, trivial⟩, ⟨⟨_, rfl, .refl _, .refl _, trivial⟩, trivial⟩, trivial, rfl⟩ ?_
  intro i hi
  refine pw_seq (pw_seq (pw_region (yMd rfl (yB rfl rfl rfl rfl (yQ (pw_cf rfl (pw_exit (pw_seq (pw_region ?_))))))))); refine yMd rfl (yMd rfl (yG (ys := [_, _]) rfl rfl (yS (cs' := [_, _]) rfl rfl rfl rfl rfl (yQ (pw_ret ?_)))))
  exact q_ret _ (.agg inferInstance rfl rfl rfl rfl .nil) rfl
end Go.Proofs.YtdkpmnefoobipaaGreatDoor
namespace Go.Proofs.YtdkpmnefoobipaaGreatDoor
open Go.RowKit Px

namespace Px
section
variable {P : Program} {sq : Bool} {ops : Array Oper} {K : PS → Prop} {rest : List Oper} {st : PS} {d : Option Nat} {ty : TypeId} {pos : String} {af : Array Edge} {gd : Option (Nat × Bool)}
theorem ls_eqsl (t t' : TypeId) (x : Operand) {te k : Nat} {es : List (List DV)} (hp : P.underlying t = some (.slice te)) (hx : asSl (st.ev x) = some (k, es)) (h0 : 0 < es.length) (hd : dstOk ⟨d, .binOp .eql t x (.const (.slice none 0 0)) t', ty, pos, af, gd⟩ st = true) : LocS P ⟨d, .binOp .eql t x (.const (.slice none 0 0)) t', ty, pos, af, gd⟩ st (.d (.val (.bool false))) .no := fun st2 ha =>
  OpS.value (ha.dst hd) fun _ _ g a w h => by
    have h1 := h.eval x
    rw [ha.ev x (by simp [Op.operands])] at h1
    obtain ⟨A, c, news, hv, -, -, -, -, hcell, -⟩ := DRep.row (h1.asSl hx)
    obtain ⟨b, off, rfl, -⟩ := hcell h0
    refine ⟨.bool false, w, ?_, Below.refl _ _, DRep.val _ rfl⟩
    have h5 : a.eval (.const (.slice none 0 0)) = .slice none 0 0 := rfl
    simp only [execOp, hv, h5]
    simp [eqGuard, Lib.run_eql_slice_nil w t te _ _ _ _ _ hp, Result.andThen]
theorem yEn {t t' : Nat} {x : Operand} {te k : Nat} {es : List (List DV)} (hp : P.underlying t = some (.slice te)) (h0 : 0 < es.length) (hx : asSl (st.ev x) = some (k, es)) (h : YR P sq ops K rest (st.put d (.d (.val (.bool false))))) (hd : dstOk ⟨d, .binOp .eql t x (.const (.slice none 0 0)) t', ty, pos, af, gd⟩ st = true := by kernel_rfl) (hk : opOk ⟨d, .binOp .eql t x (.const (.slice none 0 0)) t', ty, pos, af, gd⟩ st .no = true := by kernel_rfl) (hw : st.want ops ⟨d, .binOp .eql t x (.const (.slice none 0 0)) t', ty, pos, af, gd⟩ = some true := by rfl) :
    YR P sq ops K (⟨d, .binOp .eql t x (.const (.slice none 0 0)) t', ty, pos, af, gd⟩ :: rest) st := yr_v (ls_eqsl t t' x hp hx h0 hd) hk hw h
theorem yEz {t t' : Nat} {x : Operand} {te : Nat} (hp : P.underlying t = some (.slice te)) (hx : st.ev x = .d (.val (.slice none 0 0))) (h : YR P sq ops K rest (st.put d (.d (.val (.bool true))))) (hd : dstOk ⟨d, .binOp .eql t x (.const (.slice none 0 0)) t', ty, pos, af, gd⟩ st = true := by kernel_rfl) (hk : opOk ⟨d, .binOp .eql t x (.const (.slice none 0 0)) t', ty, pos, af, gd⟩ st .no = true := by kernel_rfl) (hw : st.want ops ⟨d, .binOp .eql t x (.const (.slice none 0 0)) t', ty, pos, af, gd⟩ = some true := by rfl) :
    YR P sq ops K (⟨d, .binOp .eql t x (.const (.slice none 0 0)) t', ty, pos, af, gd⟩ :: rest) st := yr_v (ls_bin_run .eql t t' x (.const (.slice none 0 0)) hx rfl (fun w => by
      have e : (eqGuard .eql t x (.const (.slice none 0 0)) (.slice none 0 0) (.slice none 0 0) >>= fun _ => binOp .eql t (.slice none 0 0) (.slice none 0 0)) = binOp .eql t (.slice none 0 0) (.slice none 0 0) := rfl
      rw [e]
      exact Lib.run_eql_slice_nil w t te none 0 0 0 0 hp) rfl hd) hk hw h
theorem yBw {t t' : Nat} {x y : Operand} {k : IntKind} {a b c : Int} (hw2 : k.wrap (a + b) = c) (hx : st.ev x = .d (.val (.int k a))) (hy : st.ev y = .d (.val (.int k b))) (h : YR P sq ops K rest (st.put d (.d (.val (.int k c))))) (hd : dstOk ⟨d, .binOp .add t x y t', ty, pos, af, gd⟩ st = true := by kernel_rfl) (hk : opOk ⟨d, .binOp .add t x y t', ty, pos, af, gd⟩ st .no = true := by kernel_rfl) (hw : st.want ops ⟨d, .binOp .add t x y t', ty, pos, af, gd⟩ = some true := by rfl) :
    YR P sq ops K (⟨d, .binOp .add t x y t', ty, pos, af, gd⟩ :: rest) st := by
  subst hw2
  exact yB hx hy (by cases k <;> rfl) rfl h hd hk hw
end
theorem noTs_box1 {st : PS} {t i : Nat} {cs : List SV} (hb : st.b = [(i, cs)]) (hs : (st.s.all fun p => p.2.noTs t) = true) (hc : (cs.all fun x => x.noTs t) = true) : st.noTs t = true := by
  unfold PS.noTs
  rw [hb, hs]
  simp only [List.all_cons, List.all_nil, hc, Bool.and_self]
theorem PCalls.mono_args {P : Program} {f : Nat} {xs ys : List DV} {r : SV} (h : PCalls P f xs r) (hl : ys.length = xs.length) (hi : ∀ (i : Nat) x y, ys[i]? = some x → xs[i]? = some y → ∀ F w v, DRep F w v x → DRep F w v y) : PCalls P f ys r := fun F w vals hvl hv hg =>
  h F w vals (hvl.trans hl) (fun i v y hvi hy => by
    obtain ⟨x, hx⟩ : ∃ x, ys[i]? = some x := ⟨_, List.getElem?_eq_getElem (by rw [hl]; exact (List.getElem?_eq_some_iff.1 hy).1)⟩
    exact hi i x y hx hy F w v (hv i v x hvi hx)) hg
end Px

theorem noTs_cG (l : List Nat) (t : Nat) : ((cG l).all fun x => x.noTs t) = true := by
  rw [List.all_eq_true]
  intro x hx
  simp only [cG, vG, List.mem_map] at hx
  obtain ⟨u, -, rfl⟩ := hx
  rfl
def dMg : List Nat → DV
  | [] => .val (.slice none 0 0)
  | x :: l => .sl 1 ((x :: l).map dG)
theorem dMg_sl {F : Nat → Nat → Prop} {w : World} {v : Value} {l : List Nat} (h : DRep F w v (dMg l)) : DRep F w v (.sl 1 (l.map dG)) := by
  cases l with
  | nil =>
    have := DRep.val_eq h
    subst this
    exact DRep.nil
  | cons x l => exact h
theorem mg1 {f : Nat} {m : List Nat} {r : SV} (h : PCalls Tryz.prog f [.sl 1 (m.map dG)] r) : PCalls Tryz.prog f [dMg m] r := h.mono_args rfl fun i x y hx hy F w v hv => by
  match i, hx, hy with
  | 0, hx, hy => cases hx; cases hy; exact dMg_sl hv
  | i + 1, hx, hy => simp at hx
theorem mg2 {f : Nat} {m n : List Nat} {r : SV} (h : PCalls Tryz.prog f [.sl 1 (m.map dG), .sl 1 (n.map dG)] r) : PCalls Tryz.prog f [dMg m, dMg n] r := h.mono_args rfl fun i x y hx hy F w v hv => by
  match i, hx, hy with
  | 0, hx, hy => cases hx; cases hy; exact dMg_sl hv
  | 1, hx, hy => cases hx; cases hy; exact dMg_sl hv
  | i + 2, hx, hy => simp at hx

abbrev dNm (b : Bool) (l : List Nat) : List DV := [dB b, dMg l]
theorem wReadM (a : Str) (ha : a.length ≤ 1000000) : PCalls Tryz.prog 54 [dS a] (.d (.agg (dNm (dgs a).2 (rdG (dgs a).1)))) := by
  by_cases h : (dgs a).1 = []
  · have := wReadNil a ha h
    rw [dgs_nil h, h, rdG_nil]
    exact this
  · have := wRead a ha
    rw [rdG_pos h] at this ⊢
    exact this

set_option maxRecDepth 20000 in
set_option maxHeartbeats 1000000 in
theorem wCloneNil : PCalls Tryz.prog 116 [.val (.slice none 0 0)] (.d (.val (.slice none 0 0))) := by
  refine pcalls_of_pw Tryz.func116 rfl Tryz.ntmps116 Tryz.results116 (by simp) fun B w0 => ?_
  refine pw_seq (pw_region (yAd rfl (yQ (pw_seq (pw_seq (pw_region (yMd rfl (yEz Tryz.underlying91 rfl (yQ ?_))))))))); refine pw_ct rfl (pw_seq (pw_region (yAd rfl (yQ (pw_ret (q_then_ret ?_))))))
  exact q_ret _ (.tmp rfl .nil) rfl
set_option maxRecDepth 20000 in
set_option maxHeartbeats 1000000 in
theorem wClone (l : List Nat) (h0 : 0 < l.length) (hl : l.length ≤ 1000000) : POwn Tryz.prog 116 [.sl 1 (l.map dG)] u64T 1 (l.map dG) := by
  refine pown_of_pw (t := 130 * 100000 + 5) Tryz.func116 rfl Tryz.ntmps116 Tryz.results116 (by simp) rfl fun B w0 => ?_
  refine pw_seq (pw_region (yAd rfl (yQ (pw_seq (pw_seq (pw_region (yMd rfl (yEn Tryz.underlying91 (by simp; omega) rfl (yQ ?_))))))))); refine pw_cf rfl (pw_skip (pw_seq (pw_region (yEb rfl (yMd rfl (yTw (us := []) (vs := vG l) (m := l.length) (n := 0) h0 (by omega) (by omega) (by rw [vG, List.map_map]; exact chunk_cG l rfl) (by simp) rfl rfl rfl rfl (yAw rfl (yQ ?_)))))))); refine pw_tkb 2 5 (130 * 100000 + 5) (n := 0 + l.length) (es := l.map dG) (ds := l.map dU) (by simp) (chunk_cG l (by simp)) (toDs_cG _) rfl rfl rfl rfl (noTs_box1 (i := 5) (cs := cG l) rfl rfl (noTs_cG l _)) ?_; refine pw_ret ?_
  exact q_own rfl (congrArg some (by simp))

theorem subS_next (m n : List Nat) (i : Nat) : subS m n (i + 1) = if gat m i < (subS m n i).2 + gat n i then ((subS m n i).1 ++ [gat m i + 1000000000 - ((subS m n i).2 + gat n i)], 1) else ((subS m n i).1 ++ [gat m i - ((subS m n i).2 + gat n i)], 0) := rfl
set_option maxRecDepth 20000 in
set_option maxHeartbeats 4000000 in
theorem wMinusP (m n : List Nat) (hgm : gok m) (hgn : gok n) (h0 : 0 < m.length) (hlm : m.length ≤ 1000000) : PCalls Tryz.prog 85 [.sl 1 (m.map dG), .sl 1 (n.map dG)] (.d (.sl 1 ((cutG (subS m n m.length).1).map dG))) := by
  have c1 := wClone m h0 hlm
  obtain ⟨z, hz⟩ : ∃ z, z = (subS m n m.length).1 := ⟨_, rfl⟩
  have hzl : z.length = m.length := by rw [hz]; exact (subS_spec hgm hgn m.length).1
  have c2 := wCut z (by omega)
  rw [← hz]
  obtain ⟨r, hr⟩ : ∃ r, r = cutG z := ⟨_, rfl⟩
  rw [← hr] at c2 ⊢
  refine pcalls_of_pw Tryz.func85 rfl Tryz.ntmps85 Tryz.results85 (by simp) fun B w0 => ?_
  refine pw_seq (pw_region (yAd rfl (yQ (pw_seq (pw_region (yMd rfl (yCob (vs := vG m) c1 (by simp; omega) (by rw [vG, List.map_map]; simp only [List.length_map]; exact chunk_cG m rfl) (by simp) rfl rfl (yAw rfl (yQ ?_))))))))); refine pw_seq (pw_region (yAd rfl (yQ (pw_seq (pw_seq (pw_region (yMw rfl (yNb rfl (yMd rfl ?_))))))))); refine yQ (pw_block ?_); refine pw_loop (fun i : Nat => ⟨49, [(1, .d (.sl 1 (n.map dG))), (5, .bs 10 (m.map dG).length u64T 1), (6, .d (dU (subS m n i).2)), (12, .d (dI (m.map dG).length)), (13, .d (dI i))], [(10, cG ((subS m n i).1 ++ m.drop i))], []⟩) (fun i => i ≤ m.length) (fun i => m.length - i) 0 (Nat.zero_le _)
    ⟨rfl, ⟨.refl _, .refl _, .refl _, .refl _, .refl _, trivial⟩, ⟨⟨_, rfl, lesC_eq rfl⟩, trivial⟩, trivial, by simp [PS.closed, SV.ok, aget, Nat.beq, -List.map_take, -List.map_set, -List.map_append, -List.map_drop]⟩ ?_
  intro i hi
  obtain ⟨h1, h2, h3, -⟩ := subS_spec hgm hgn i
  have hnx := subS_next m n i
  obtain ⟨⟨p, c⟩, hp⟩ : ∃ q, q = subS m n i := ⟨_, rfl⟩
  rw [← hp] at h1 h2 h3 hnx ⊢
  simp only at h1 h2 h3 hnx ⊢
  rcases Nat.lt_or_ge i m.length with hi2 | hi2
  · have t1 : decide ((i : Int) < ((m.map dG).length : Int)) = true := decide_eq_true (by rw [List.length_map]; omega)
    obtain ⟨a, ha⟩ : ∃ a, m[i]? = some a := ⟨_, List.getElem?_eq_getElem hi2⟩
    have hga := gat_get ha
    have ha9 : a < 1000000000 := hgm a (List.mem_of_getElem? ha)
    have hdr : m.drop i = a :: m.drop (i + 1) := by
      obtain ⟨q1, q2⟩ := List.getElem?_eq_some_iff.1 ha
      rw [List.drop_eq_getElem_cons q1, q2]
    obtain ⟨q, hq⟩ : ∃ q, q = m.drop (i + 1) := ⟨_, rfl⟩
    rw [hdr, ← hq]
    rw [hga] at hnx
    have hat := cG_at (q := q) (a := a) h1
    have hwi := wrapI ((i : Int) + 1) (by omega)
    have hml : (i : Int) < ((m.map dG).length : Int) := by rw [List.length_map]; omega
    rcases Nat.lt_or_ge i n.length with hj | hj
    · have t2 : decide ((i : Int) < ((n.map dG).length : Int)) = true := decide_eq_true (by rw [List.length_map]; omega)
      obtain ⟨b, hb⟩ : ∃ b, n[i]? = some b := ⟨_, List.getElem?_eq_getElem hj⟩
      have hb9 : b < 1000000000 := hgn b (List.mem_of_getElem? hb)
      have eb := ix dG n (i : Int) i b rfl hb
      have hgb := gat_get hb
      rw [hgb] at hnx
      have w1 : IntKind.u64.wrap ((c : Int) + (b : Int)) = ((c + b : Nat) : Int) := by rw [← Int.natCast_add]; exact u64w (by omega)
      by_cases hlt : a < c + b
      · have t3 : decide ((a : Int) < (((c + b) : Nat) : Int)) = true := decide_eq_true (by omega)
        rw [if_pos hlt] at hnx
        obtain ⟨a2, ha2⟩ : ∃ x, x = a + 1000000000 := ⟨_, rfl⟩
        rw [← ha2] at hnx
        have w2 : IntKind.u64.wrap ((a : Int) + 1000000000) = (a2 : Int) := by rw [IntKind.wrap_u64]; omega
        have hs1 := cG_set (q := q) (a := a) a2 h1
        have hl1 := cG_lt (q := q) (a := a) h1
        have hat2 := cG_at (q := q) (a := a2) h1
        have w3 : IntKind.u64.wrap ((a2 : Int) - (((c + b) : Nat) : Int)) = ((a2 - (c + b) : Nat) : Int) := by rw [← Int.natCast_sub (by omega)]; exact u64w (by omega)
        have hs2 := cG_set (q := q) (a := a2) (a2 - (c + b)) h1
        have hl2 := cG_lt (q := q) (a := a2) h1
        refine pw_seq (pw_region (yB rfl rfl rfl rfl (yQ (pw_seq ?_)))); rw [t1]; refine pw_ct rfl (pw_skip (pw_seq (pw_block (pw_seq (pw_region (yMd rfl (yAd rfl (yQ (pw_seq ?_))))))))); refine pw_region (yMd rfl (yAd rfl (yQ (pw_seq (pw_seq (pw_region (yMd rfl (yMd rfl (yN rfl ?_))))))))); refine yB rfl rfl rfl rfl (yQ (q_then ?_)); rw [t2]; refine pw_ct rfl (pw_region (yMd rfl (yMd rfl (yMd rfl (yW eb (by omega) rfl rfl (yLr rfl rfl (yB rfl rfl rfl rfl (yAd rfl (yQ ?_))))))))); refine pw_seq (pw_region (yAd rfl (yQ (pw_seq (pw_seq (pw_region (yMw rfl (yMd rfl (yWb (by omega) (by omega) rfl rfl rfl ?_))))))))); refine yLd rfl rfl hat (yMd rfl (yB rfl rfl rfl rfl (yQ (q_then ?_)))); rw [w1]; rw [t3]
        refine pw_ct rfl (pw_seq (pw_region (yMw rfl (yMd rfl (yWb (by omega) (by omega) rfl rfl rfl (yLd rfl rfl hat (yBw w2 rfl rfl (yWb (by omega) (by omega) rfl rfl rfl ?_)))))))); refine ySd rfl rfl rfl hs1 ?_ hl1; refine yQ (pw_region (yAd rfl (yQ (pw_region (yMw rfl (yMd rfl (yWb (by omega) (by omega) rfl rfl rfl (yLd rfl rfl hat2 (yMd rfl ?_))))))))); refine yB rfl rfl rfl rfl (yWb (by omega) (by omega) rfl rfl rfl ?_); rw [w3]; refine ySd rfl rfl rfl hs2 ?_ hl2; refine yQ (pw_region (yB rfl rfl rfl rfl (yMd rfl (yQ (q_then ?_)))))
        refine ⟨i + 1, by omega, by omega, rfl, ⟨.refl _, .refl _, .of_eq (by rw [hnx]; rfl), .refl _, .of_eq (congrArg (fun n => SV.d (dI n)) hwi), trivial⟩, ⟨⟨_, rfl, lesC_eq (by rw [hnx, ← hq, List.append_assoc]; rfl)⟩, trivial⟩, trivial, by simp [PS.closed, SV.ok, aget, Nat.beq, -List.map_take, -List.map_set, -List.map_append, -List.map_drop]⟩
      · have t3 : decide ((a : Int) < (((c + b) : Nat) : Int)) = false := decide_eq_false (by omega)
        rw [if_neg hlt] at hnx
        have w3 : IntKind.u64.wrap ((a : Int) - (((c + b) : Nat) : Int)) = ((a - (c + b) : Nat) : Int) := by rw [← Int.natCast_sub (by omega)]; exact u64w (by omega)
        have hs2 := cG_set (q := q) (a := a) (a - (c + b)) h1
        have hl2 := cG_lt (q := q) (a := a) h1
        refine pw_seq (pw_region (yB rfl rfl rfl rfl (yQ (pw_seq ?_)))); rw [t1]; refine pw_ct rfl (pw_skip (pw_seq (pw_block (pw_seq (pw_region (yMd rfl (yAd rfl (yQ (pw_seq ?_))))))))); refine pw_region (yMd rfl (yAd rfl (yQ (pw_seq (pw_seq (pw_region (yMd rfl (yMd rfl (yN rfl ?_))))))))); refine yB rfl rfl rfl rfl (yQ (q_then ?_)); rw [t2]; refine pw_ct rfl (pw_region (yMd rfl (yMd rfl (yMd rfl (yW eb (by omega) rfl rfl (yLr rfl rfl (yB rfl rfl rfl rfl (yAd rfl (yQ ?_))))))))); refine pw_seq (pw_region (yAd rfl (yQ (pw_seq (pw_seq (pw_region (yMw rfl (yMd rfl (yWb (by omega) (by omega) rfl rfl rfl ?_))))))))); refine yLd rfl rfl hat (yMd rfl (yB rfl rfl rfl rfl (yQ (q_then ?_)))); rw [w1]; rw [t3]
        refine pw_cf rfl (pw_skip (pw_region (yMw rfl (yMd rfl (yWb (by omega) (by omega) rfl rfl rfl (yLd rfl rfl hat (yMd rfl (yB rfl rfl rfl rfl (yWb (by omega) (by omega) rfl rfl rfl ?_))))))))); rw [w3]; refine ySd rfl rfl rfl hs2 ?_ hl2; refine yQ (pw_region (yB rfl rfl rfl rfl (yMd rfl (yQ (q_then ?_)))))
        refine ⟨i + 1, by omega, by omega, rfl, ⟨.refl _, .refl _, .of_eq (by rw [hnx]; rfl), .refl _, .of_eq (congrArg (fun n => SV.d (dI n)) hwi), trivial⟩, ⟨⟨_, rfl, lesC_eq (by rw [hnx, ← hq, List.append_assoc]; rfl)⟩, trivial⟩, trivial, by simp [PS.closed, SV.ok, aget, Nat.beq, -List.map_take, -List.map_set, -List.map_append, -List.map_drop]⟩
    · have t2 : decide ((i : Int) < ((n.map dG).length : Int)) = false := decide_eq_false (by rw [List.length_map]; omega)
      simp only [gat_ge hj, Nat.add_zero] at hnx
      by_cases hlt : a < c
      · have t3 : decide ((a : Int) < ((c : Nat) : Int)) = true := decide_eq_true (by omega)
        rw [if_pos hlt] at hnx
        obtain ⟨a2, ha2⟩ : ∃ x, x = a + 1000000000 := ⟨_, rfl⟩
        rw [← ha2] at hnx
        have w2 : IntKind.u64.wrap ((a : Int) + 1000000000) = (a2 : Int) := by rw [IntKind.wrap_u64]; omega
        have hs1 := cG_set (q := q) (a := a) a2 h1
        have hl1 := cG_lt (q := q) (a := a) h1
        have hat2 := cG_at (q := q) (a := a2) h1
        have w3 : IntKind.u64.wrap ((a2 : Int) - ((c : Nat) : Int)) = ((a2 - c : Nat) : Int) := by rw [← Int.natCast_sub (by omega)]; exact u64w (by omega)
        have hs2 := cG_set (q := q) (a := a2) (a2 - c) h1
        have hl2 := cG_lt (q := q) (a := a2) h1
        refine pw_seq (pw_region (yB rfl rfl rfl rfl (yQ (pw_seq ?_)))); rw [t1]; refine pw_ct rfl (pw_skip (pw_seq (pw_block (pw_seq (pw_region (yMd rfl (yAd rfl (yQ (pw_seq ?_))))))))); refine pw_region (yMd rfl (yAd rfl (yQ (pw_seq (pw_seq (pw_region (yMd rfl (yMd rfl (yN rfl ?_))))))))); refine yB rfl rfl rfl rfl (yQ (q_then ?_)); rw [t2]; refine pw_cf rfl (pw_skip (pw_seq (pw_region (yAd rfl (yQ (pw_seq (pw_seq (pw_region (yMw rfl ?_))))))))); refine yMd rfl (yWb (by omega) (by omega) rfl rfl rfl (yLd rfl rfl hat (yMd rfl (yB rfl rfl rfl rfl (yQ (q_then ?_)))))); rw [t3]; refine pw_ct rfl (pw_seq (pw_region (yMw rfl (yMd rfl (yWb (by omega) (by omega) rfl rfl rfl (yLd rfl rfl hat (yBw w2 rfl rfl (yWb (by omega) (by omega) rfl rfl rfl ?_)))))))); refine ySd rfl rfl rfl hs1 ?_ hl1; refine yQ (pw_region (yAd rfl (yQ (pw_region (yMw rfl (yMd rfl (yWb (by omega) (by omega) rfl rfl rfl (yLd rfl rfl hat2 (yMd rfl ?_))))))))); refine yB rfl rfl rfl rfl (yWb (by omega) (by omega) rfl rfl rfl ?_); rw [w3]; refine ySd rfl rfl rfl hs2 ?_ hl2; refine yQ (pw_region (yB rfl rfl rfl rfl (yMd rfl (yQ (q_then ?_)))))
        refine ⟨i + 1, by omega, by omega, rfl, ⟨.refl _, .refl _, .of_eq (by rw [hnx]; rfl), .refl _, .of_eq (congrArg (fun n => SV.d (dI n)) hwi), trivial⟩, ⟨⟨_, rfl, lesC_eq (by rw [hnx, ← hq, List.append_assoc]; rfl)⟩, trivial⟩, trivial, by simp [PS.closed, SV.ok, aget, Nat.beq, -List.map_take, -List.map_set, -List.map_append, -List.map_drop]⟩
      · have t3 : decide ((a : Int) < ((c : Nat) : Int)) = false := decide_eq_false (by omega)
        rw [if_neg hlt] at hnx
        have w3 : IntKind.u64.wrap ((a : Int) - ((c : Nat) : Int)) = ((a - c : Nat) : Int) := by rw [← Int.natCast_sub (by omega)]; exact u64w (by omega)
        have hs2 := cG_set (q := q) (a := a) (a - c) h1
        have hl2 := cG_lt (q := q) (a := a) h1
        refine pw_seq (pw_region (yB rfl rfl rfl rfl (yQ (pw_seq ?_)))); rw [t1]; refine pw_ct rfl (pw_skip (pw_seq (pw_block (pw_seq (pw_region (yMd rfl (yAd rfl (yQ (pw_seq ?_))))))))); refine pw_region (yMd rfl (yAd rfl (yQ (pw_seq (pw_seq (pw_region (yMd rfl (yMd rfl (yN rfl ?_))))))))); refine yB rfl rfl rfl rfl (yQ (q_then ?_)); rw [t2]; refine pw_cf rfl (pw_skip (pw_seq (pw_region (yAd rfl (yQ (pw_seq (pw_seq (pw_region (yMw rfl ?_))))))))); refine yMd rfl (yWb (by omega) (by omega) rfl rfl rfl (yLd rfl rfl hat (yMd rfl (yB rfl rfl rfl rfl (yQ (q_then ?_)))))); rw [t3]; refine pw_cf rfl (pw_skip (pw_region (yMw rfl (yMd rfl (yWb (by omega) (by omega) rfl rfl rfl (yLd rfl rfl hat (yMd rfl (yB rfl rfl rfl rfl (yWb (by omega) (by omega) rfl rfl rfl ?_))))))))); rw [w3]; refine ySd rfl rfl rfl hs2 ?_ hl2; refine yQ (pw_region (yB rfl rfl rfl rfl (yMd rfl (yQ (q_then ?_)))))
        refine ⟨i + 1, by omega, by omega, rfl, ⟨.refl _, .refl _, .of_eq (by rw [hnx]; rfl), .refl _, .of_eq (congrArg (fun n => SV.d (dI n)) hwi), trivial⟩, ⟨⟨_, rfl, lesC_eq (by rw [hnx, ← hq, List.append_assoc]; rfl)⟩, trivial⟩, trivial, by simp [PS.closed, SV.ok, aget, Nat.beq, -List.map_take, -List.map_set, -List.map_append, -List.map_drop]⟩
  · have t1 : decide ((i : Int) < ((m.map dG).length : Int)) = false := decide_eq_false (by rw [List.length_map]; omega)
    obtain rfl : i = m.length := by omega
    rw [← hp] at hz
    simp only at hz
    rw [List.drop_length, List.append_nil, ← hz]
    refine pw_frz 5 10 (n := (m.map dG).length) (es := z.map dG) (ds := z.map dU) (by simp; omega) (chunk_cG z (by simp; omega)) (toDs_cG _) rfl rfl ?_; refine pw_seq (pw_region (yB rfl rfl rfl rfl (yQ (pw_seq ?_)))); rw [t1]; refine pw_cf rfl (pw_exit (pw_seq (pw_region (yMd rfl (yC (c2) rfl rfl (yAd rfl (yQ (pw_ret ?_))))))))
    exact q_ret _ (.tmp rfl .nil) rfl
end Go.Proofs.YtdkpmnefoobipaaGreatDoor
set_option maxHeartbeats 1000000
namespace Go.Proofs.YtdkpmnefoobipaaGreatDoor.Px
open Go.RowKit Go.Shelf

theorem frz_heap (w : World) (a : Addr) (n b : Nat) (h : b ≠ a.block) : (w.freeze a n).heap[b]? = w.heap[b]? := by
  unfold World.freeze
  split
  · rfl
  · simp only [Array.getElem?_modify]
    rw [if_neg (fun e => h e.symm)]
theorem frz_size (w : World) (a : Addr) (n : Nat) : (w.freeze a n).heap.size = w.heap.size := by
  unfold World.freeze
  split
  · rfl
  · simp
theorem frz_see (w : World) (a : Addr) (n b o : Nat) : see (w.freeze a n) b o = see w b o := by
  by_cases h : b = a.block
  · subst h
    unfold World.freeze
    split
    · rfl
    · unfold see
      simp only [Array.getElem?_modify, if_true]
      cases w.heap[a.block]? with
      | none => rfl
      | some x => cases x <;> rfl
  · exact see_of_block (frz_heap w a n b h) o
theorem frz_shape (w : World) (a : Addr) (n b : Nat) : (w.freeze a n).shape? b = w.shape? b := by
  by_cases h : b = a.block
  · subst h
    unfold World.freeze
    split
    · rfl
    · unfold World.shape?
      simp only [Array.getElem?_modify, if_true]
      cases w.heap[a.block]? with
      | none => rfl
      | some x => cases x <;> rfl
  · exact shape_of_block (frz_heap w a n b h)

def PS.tdel (st : PS) (t : Nat) : PS := { st with t := st.t.filter fun p => !Nat.beq p.1 t }
theorem tdel_get (st : PS) (t j : Nat) : (st.tdel t).tget j = if j = t then none else st.tget j := aget_filter st.t t j
def Gh.delt (g : Gh) (t : Nat) : Gh := { g with tk := fun j => if j = t then none else g.tk j }
theorem Gh.delt_tk {g : Gh} {t j : Nat} {T : Tk} (h : (g.delt t).tk j = some T) : g.tk j = some T ∧ j ≠ t := by
  simp only [Gh.delt] at h
  split at h
  · cases h
  · rename_i e; exact ⟨h, e⟩
theorem ownsRow_heap {w w' : World} {base E k n : Nat} {v : Value} {xs : List Value} (h : w.ownsRow base E k v n xs) (hh : ∀ b, v.ownBlock = some b → w'.heap[b]? = w.heap[b]?) : w'.ownsRow base E k v n xs := by
  refine ⟨h.1, ?_⟩
  rcases h.2 with h1 | ⟨g, cap, cur, h1, h2, h3, h4⟩
  · exact .inl h1
  · exact .inr ⟨g, cap, cur, h1, h2, (hh g (by rw [h1]; rfl)).trans h3, h4⟩
theorem Rep.frz {B : Nat} {w0 : Cx} {g : Gh} {st : PS} {a : Act} {w : World} (h : Rep B w0 g st a w) {t gb n c : Nat} {T : Tk} (hT : g.tk t = some T) (hv : T.v = .slice (some ⟨gb, 0, none⟩) n c) (m : Nat) : Rep B w0 (g.delt t) (st.tdel t) a (w.freeze ⟨gb, 0, none⟩ m) := by
  have hob : T.v.ownBlock = some gb := by rw [hv]; rfl
  have ev : Evo g w (g.delt t) (w.freeze ⟨gb, 0, none⟩ m) := ⟨Lib.below_freeze (Below.refl 0 w) (Nat.zero_le _) m, rfl, fun b o hf _ => ⟨⟨hf.1, hf.2.1, fun t' T' n' c' q1 q2 => hf.2.2 t' T' n' c' (Gh.delt_tk q1).1 q2⟩, frz_see _ _ _ _ _⟩, fun b hb => frz_heap _ _ _ _ fun e => hb (.inr (.inr ⟨t, T, hT, by rw [hob, e]⟩)), fun _ _ h => .inl h, fun _ T' h' => .inl ⟨T', (Gh.delt_tk h').1, .inl rfl⟩, fun t' T' _ h' hb => .inr (.inr ⟨t', T', (Gh.delt_tk h').1, hb⟩), fun _ _ _ _ _ => frz_shape _ _ _ _⟩
  have srep : ∀ v x, SRep g w v x → SRep (g.delt t) (w.freeze ⟨gb, 0, none⟩ m) v x := fun v x hx =>
    hx.extp ev.fx (fun _ _ _ h => h) (fun t' k es _ T' hT' => ⟨T', (Gh.delt_tk hT').1, .inl rfl⟩) fun _ _ _ _ => frz_shape _ _ _ _
  have hne : ∀ i b, g.bl i = some b → (w.freeze ⟨gb, 0, none⟩ m).heap[b]? = w.heap[b]? := fun i b hi => frz_heap _ _ _ _ fun e => (h.toks t T hT).2 i gb hob (by rw [hi, e])
  refine { h with evo := h.evo.trans ev, base := by rw [frz_size]; exact h.base, f0 := h.f0, lim := h.lim, size := h.size, slots := fun j => srep _ _ (h.slots j), glob := fun q cs hq => srep _ (.rd cs) (h.glob q cs hq), boxes := fun j cs hj hlt => ?_, maps := fun j ms hj hge => ?_, blk := fun j b hj => ⟨(h.blk j b hj).1, by rw [frz_size]; exact (h.blk j b hj).2⟩, dom := h.dom, inj := h.inj, toks := fun t' T' hT' => ?_, tf0 := fun t' T' b o hT' hb => h.tf0 t' T' b o (Gh.delt_tk hT').1 hb, telt := fun t' T' hT' => h.telt t' T' (Gh.delt_tk hT').1, tdis := fun t1 t2 T1 T2 b h1 h2 => h.tdis t1 t2 T1 T2 b (Gh.delt_tk h1).1 (Gh.delt_tk h2).1, tdom := fun t' T' hT' => ?_, tlen := fun t' n' ht' => ?_ }
  · obtain ⟨b, xs, T0, h2, h3, h4, h5, h6⟩ := h.boxes j cs hj hlt
    refine ⟨b, xs, T0, h2, (hne j b h2).trans h3, h4, fun q c0 hq => ?_, h6⟩
    obtain ⟨x, h8, h9⟩ := h5 q c0 hq
    exact ⟨x, h8, srep _ _ h9⟩
  · obtain ⟨b, es, c0, h4, h5, h6⟩ := h.maps j ms hj hge
    exact ⟨b, es, c0, h4, (hne j b h4).trans h5, h6.mono ev.fx⟩
  · obtain ⟨h1, h2⟩ := Gh.delt_tk hT'
    obtain ⟨⟨n', xs, h3⟩, h4⟩ := h.toks t' T' h1
    exact ⟨⟨n', xs, ownsRow_heap h3 fun b hb => frz_heap _ _ _ _ fun e => h2 (h.tdis t' t T' T gb h1 hT (by rw [hb, e]) hob)⟩, h4⟩
  · obtain ⟨h1, h2⟩ := Gh.delt_tk hT'
    rw [tdel_get, if_neg h2]
    exact h.tdom t' T' h1
  · rw [tdel_get] at ht'
    split at ht'
    · cases ht'
    · rename_i e
      obtain ⟨T', A, c0, h1, h2⟩ := h.tlen t' n' ht'
      exact ⟨T', A, c0, by simp only [Gh.delt]; rw [if_neg e]; exact h1, h2⟩

set_option maxHeartbeats 1000000 in
set_option maxRecDepth 100000 in
theorem str_raw {P : Program} {ρ : Ren} (L : Lays.n169 P ρ) (X : Builder.Extra P ρ) (b g cap cells : Nat) (l : List UInt8) (w : World) (h0 : l ≠ []) (c0 : w.cell? ⟨b, 1, none⟩ = some (.slice (some ⟨g, 0, none⟩) l.length cap)) (hsh : w.shape? g = some (ρ.t 5, cells)) (hn : l.length ≤ cells) (hcap : l.length ≤ cap) (hm : l.length ≤ 9223372036854775807)
    (hcell : ∀ (j : Nat) x, l[j]? = some x → w.cell? ((⟨g, 0, none⟩ : Addr).add j) = some (.int .u8 x.toNat)) :
    Calls P (ρ.f 169) #[.pointer (some ⟨b, 0, none⟩)] w fun e w' => e = .returned (.string ⟨l.toArray⟩) ∧ w' = w.drew.freeze ⟨g, 0, none⟩ l.length := by
  have hl0 : l.length ≠ 0 := by simpa using h0
  have c1 : w.drew.cell? ⟨b, 1, none⟩ = some (.slice (some ⟨g, 0, none⟩) l.length cap) := c0
  have hSD : (Builtin.unsafeSliceData_ #[(ρ.t 37)] (ρ.t 127) #[.slice (some ⟨g, 0, none⟩) l.length cap]).run P w.drew = .ok (.pointer (some ⟨g, 0, none⟩)) w.drew :=
    Lib.run_unsafeSliceData_row _ _ _ _ _ _ (by omega)
  have hUS : (Builtin.unsafeString_ #[(ρ.t 127), (ρ.t 3)] (ρ.t 9) #[.pointer (some ⟨g, 0, none⟩), .int .i64 l.length]).run P w.drew = .ok (.string ⟨l.toArray⟩) (w.drew.freeze ⟨g, 0, none⟩ l.length) :=
    Lib.run_unsafeString_row w.drew (ρ.t 127) (ρ.t 3) (ρ.t 9) (ρ.t 5) L.t127 X.cellsByte g cells hsh l h0 hn hm hcell
  have mixed := L.mixed
  have t72 := L.t72; have a72 := L.a72; have z72 := L.z72; have v72 := L.v72; have u72 := run_underlying L.t72
  have t70 := L.t70; have a70 := L.a70; have z70 := L.z70; have v70 := L.v70; have u70 := run_underlying L.t70
  have t37 := L.t37; have a37 := L.a37; have z37 := L.z37; have v37 := L.v37; have u37 := run_underlying L.t37
  have t127 := L.t127; have a127 := L.a127; have z127 := L.z127; have v127 := L.v127; have u127 := run_underlying L.t127
  have t3 := L.t3; have a3 := L.a3; have z3 := L.z3; have v3 := L.v3; have u3 := run_underlying L.t3
  have t9 := L.t9; have a9 := L.a9; have z9 := L.z9; have v9 := L.v9; have u9 := run_underlying L.t9
  have t5 := X.t5; have a5 := X.a5; have z5 := X.z5; have v5 := X.v5; have u5 := run_underlying X.t5
  go_enter L.f169, Body.n169_ntmps ρ
  go_wp2
  go_region_o
  all_goals (go_wp2; go_ret; exact ⟨rfl, rfl⟩)

section
variable {P : Program} {ops : Array Oper} {K : PS → Prop} {rest : List Oper} {st : PS} {d : Option Nat} {ty : TypeId} {pos : String} {af : Array Edge} {gd : Option (Nat × Bool)}
theorem yStr {f e t : Nat} {l : List UInt8} {es : List (List DV)} {x : Operand} {x0 : SV} {ts : Array TypeId} {ρ : Ren} [hB : HasBody P f] (L : Lays.n169 P ρ) (X : Builder.Extra P ρ) (hf : ρ.f 169 = f) (hE : t / 100000 = ρ.t 5) (h0 : l ≠ []) (hes : es = l.map fun c => [DV.val (.int .u8 c.toNat)]) (hx : st.ev x = .bx e 0) (hi : st.bget e = some [x0, .ts t 1 es]) (ht : st.tget t = some es.length)
    (h : YR P true ops K rest (((st.kill e).tdel t).put d (.d (dS l)))) (hlt : Nat.blt e 500000 = true := by rfl) (hd : dstOk ⟨d, .call { callee := .value (.func f), args := #[x], argTypes := ts }, ty, pos, af, gd⟩ st = true := by kernel_rfl) (hw : st.want ops ⟨d, .call { callee := .value (.func f), args := #[x], argTypes := ts }, ty, pos, af, gd⟩ = some true := by rfl) :
    YR P true ops K (⟨d, .call { callee := .value (.func f), args := #[x], argTypes := ts }, ty, pos, af, gd⟩ :: rest) st := by
  subst hf
  refine .any rfl fun B w0 Q hQ g a w hr => ?_
  have h1 := hr.eval x
  rw [hx] at h1
  obtain ⟨b, hb, hax⟩ := h1
  obtain ⟨b', xs, T0, q1, q2, q3, q4, q5⟩ := hr.boxes e _ hi (Nat.le_of_ble_eq_true hlt)
  rw [hb] at q1
  cases q1
  obtain ⟨x1, q6, q7, q8⟩ := q4 1 (.ts t 1 es) rfl
  obtain ⟨T, A, c, r1, r2⟩ := hr.tlen t _ ht
  obtain ⟨hk, hT⟩ := q8 T r1
  have hx1 : x1 = T.v := (hT A _ c r2).2 rfl
  obtain ⟨⟨n', xs', -, hown⟩, -⟩ := hr.toks t T r1
  have hlen : es.length = l.length := by rw [hes, List.length_map]
  have hl0 : 0 < l.length := List.length_pos_iff.2 h0
  rcases hown with ⟨hv, h00⟩ | ⟨gb, cap, cur, hv, -, hg, hnc, hcm, hcs, -⟩
  · rw [r2] at hv
    have := (Value.slice.inj hv).2.1
    omega
  have hv2 : T.v = .slice (some ⟨gb, 0, none⟩) n' cap := hv
  rw [r2] at hv
  have hn' : es.length = n' := (Value.slice.inj hv).2.1
  obtain ⟨A2, c2, news, s1, -, s3, -, s5, s6, -, s8⟩ := DRep.row q7
  obtain ⟨b2, off2, s9, s10⟩ := s6 (by omega)
  rw [hx1, hv2, s9] at s1
  have hbo : gb = b2 ∧ 0 = off2 := by
    have := Option.some.inj (Value.slice.inj s1).1
    cases this
    exact ⟨rfl, rfl⟩
  obtain ⟨rfl, rfl⟩ := hbo
  have hcell : ∀ (j : Nat) y, l[j]? = some y → w.cell? ((⟨gb, 0, none⟩ : Addr).add j) = some (.int .u8 y.toNat) := fun j y hj => by
    obtain ⟨u, u1, u2⟩ := s8 j 0 [DV.val (.int .u8 y.toNat)] _ (by rw [hes, List.getElem?_map, hj]; rfl) rfl
    rw [Nat.mul_one, Nat.add_zero] at u1
    have := (s10 j u u1).1
    rw [DRep.val_eq u2] at this
    rw [Addr.add_lit]
    exact this
  have hc1 : w.cell? ⟨b, 1, none⟩ = some (.slice (some ⟨gb, 0, none⟩) l.length cap) := by
    have : x1 = .slice (some ⟨gb, 0, none⟩) l.length cap := by rw [hx1, hv2, ← hn', hlen]
    rw [← this]
    simp only [World.cell?, q2, Option.isSome_none, Bool.false_eq_true, if_false]
    exact q6
  have hsh : w.shape? gb = some (ρ.t 5, cur.size) := by
    rw [← hE, ← hr.telt t T r1]
    simp [World.shape?, hg]
  have hcall := str_raw L X b gb cap cur.size l w h0 hc1 hsh (by rw [hcs, hk]; omega) (by omega) (by unfold maxLen at hcm; omega) hcell
  have hrun : (execOp a.eval ⟨d, .call { callee := .value (.func (ρ.f 169)), args := #[x], argTypes := ts }, ty, pos, af, gd⟩).run P w = .ok (.enter (ρ.f 169) #[.pointer (some ⟨b, 0, none⟩)]) w := by
    simp only [execOp, resolve, Act.eval, Deferred.ofValue, Sem.run_bind, Sem.run_pure, Result.andThen_ok, invoke]
    rw [hB.run]
    simp [hax]
  unfold wpList
  rw [if_pos (want_spec hr hw)]
  refine .inl ?_
  unfold Oper.wp
  rw [hrun]
  show Calls P (ρ.f 169) _ w _
  refine hcall.mono ?_
  rintro en w' ⟨rfl, rfl⟩
  have r3 : Rep B w0 g st a w.drew := hr.grow (Below.drew (Below.refl _ _))
  have r4 := (r3.kill e).2
  have r5 := r4.frz (t := t) (T := T) r1 hv2 l.length
  exact h.sound hQ (r5.put (x := .d (dS l)) (DRep.val _ rfl) _ (dstOk_spec (st := st) hd))
end
end Go.Proofs.YtdkpmnefoobipaaGreatDoor.Px
set_option maxHeartbeats 1000000
namespace Go.Proofs.YtdkpmnefoobipaaGreatDoor.Px
open Go.RowKit

section
variable {P : Program} {B : Nat} {w0 : Cx} {Q : Exit → PS → Prop} {st : PS} {c : Code}
theorem pw_tx (s : Nat) {i T n : Nat} (hs : st.get s = .tx i T n) (h : PW P B w0 c Q (st.put (some s) (.bx i 0))) : PW P B w0 c Q st := fun g a w hr => by
  have hv := hr.slots s
  rw [hs] at hv
  obtain ⟨b, h1, h2, -⟩ := hv
  refine h g a w { hr with lim := hr.lim, size := hr.size, boxes := hr.boxes, maps := hr.maps, dom := hr.dom, tdom := hr.tdom, tlen := hr.tlen, glob := hr.glob, slots := fun j => ?_ }
  rw [get_put]
  by_cases e : j = s
  · rw [if_pos e, e]; exact ⟨b, h1, h2⟩
  · rw [if_neg e]; exact hr.slots j
end
section
variable {P : Program} {sq : Bool} {ops : Array Oper} {K : PS → Prop} {rest : List Oper} {st : PS} {d : Option Nat} {ty : TypeId} {pos : String} {af : Array Edge} {gd : Option (Nat × Bool)}
theorem ls_allocT (T : TypeId) {e : Nat} {zs : List Value} [hz : ZeroOf P T zs] (hi : st.bget e = none) (hd : dstOk ⟨some e, .alloc T, ty, pos, af, gd⟩ st = true) :
    LocS P ⟨some e, .alloc T, ty, pos, af, gd⟩ st (.tx e T zs.length) (.box e (zs.map fun z => .d (.val z))) := fun st2 ha => by
  intro B w0 g a w K Q hr hK
  obtain ⟨z, h1, h2⟩ := hz.run w
  have hrun : (execOp a.eval ⟨some e, .alloc T, ty, pos, af, gd⟩).run P w = .ok (.value (.pointer (some ⟨w.heap.size, 0, none⟩))) (w.alloc (.cells zs.toArray T)) := by
    rw [← h2]
    simp [execOp, Instr.alloc, newVar, newRow, go_sem, h1]
  have hin : e < st2.n := dstOk_spec (ha.dst hd) e rfl
  have hlim : st2.n ≤ 10000 := hr.lim
  have hrep := hr.newb e T (ha.fresh rfl e rfl e (newOf_self (by omega)) hi) hin zs.toArray (zs.map fun z => .d (.val z)) (by simp) (fun j c hj => by
    rw [List.getElem?_map, Option.map_eq_some_iff] at hj
    obtain ⟨y, h3, rfl⟩ := hj
    exact ⟨y, by simpa using h3, DRep.val y (hz.one y (List.mem_of_getElem? h3))⟩) (fun u hu => hz.one u (by simpa using hu))
  unfold Oper.wp
  rw [hrun]
  refine hK _ _ _ (hrep.put (x := .tx e T zs.length) ?_ _ (dstOk_spec (st := st2.bput e _) (ha.dst hd)))
  refine ⟨w.heap.size, by simp [Gh.addb], rfl, ?_⟩
  unfold World.shape?
  rw [heap_alloc_new]
  simp
theorem yQa {T e : Nat} {zs : List Value} [hz : ZeroOf P T zs] (hi : st.bget e = none)
    (h : YR P sq ops K rest ((st.bput e (zs.map fun z => .d (.val z))).put (some e) (.tx e T zs.length))) (hd : dstOk ⟨some e, .alloc T, ty, pos, af, gd⟩ st = true := by kernel_rfl) (hk : opOk ⟨some e, .alloc T, ty, pos, af, gd⟩ st (.box e (zs.map fun z => .d (.val z))) = true := by kernel_rfl) (hw : st.want ops ⟨some e, .alloc T, ty, pos, af, gd⟩ = some true := by rfl) :
    YR P sq ops K (⟨some e, .alloc T, ty, pos, af, gd⟩ :: rest) st := yr_b (ls_allocT T hi hd) hk hw h
theorem yQm {i T n : Nat} {y : Operand} (hx : st.ev y = .tx i T n) (h : YR P sq ops K rest (st.put d (.tx i T n))) (hd : dstOk ⟨d, .move y, ty, pos, af, gd⟩ st = true := by kernel_rfl) (hk : opOk ⟨d, .move y, ty, pos, af, gd⟩ st .no = true := by kernel_rfl) (hw : st.want ops ⟨d, .move y, ty, pos, af, gd⟩ = some true := by rfl) : YR P sq ops K (⟨d, .move y, ty, pos, af, gd⟩ :: rest) st := yr_v (lm (x := .tx i T n) hx hd) hk hw h
theorem yQl {i' T' n' : Nat} {T : Nat} {y : Operand} {i off : Nat} {cs : List SV} [AggOf P T false 1] (hx : st.ev y = .bx i off) (hi : st.bget i = some cs) (hc : cs[off]? = some (.tx i' T' n')) (h : YR P sq ops K rest (st.put d (.tx i' T' n'))) (hd : dstOk ⟨d, .load T y, ty, pos, af, gd⟩ st = true := by kernel_rfl) (hk : opOk ⟨d, .load T y, ty, pos, af, gd⟩ st .no = true := by kernel_rfl) (hw : st.want ops ⟨d, .load T y, ty, pos, af, gd⟩ = some true := by rfl) (h5 : Nat.blt i 500000 = true := by rfl) : YR P sq ops K (⟨d, .load T y, ty, pos, af, gd⟩ :: rest) st := yr_v (load_bx T y (Nat.le_of_ble_eq_true h5) hx hi hc hd) hk hw h
theorem yQs {i' T' n' : Nat} {T : Nat} {z y : Operand} {i off : Nat} {cs cs' : List SV} [AggOf P T false 1] (hz : st.ev z = .bx i off) (hi : st.bget i = some cs) (hy : st.ev y = .tx i' T' n') (hcs : cs.set off (.tx i' T' n') = cs') (h : YR P sq ops K rest ((st.bput i cs').put d .any)) (hle : Nat.blt off cs.length = true := by kernel_rfl) (hd : dstOk ⟨d, .store T z y, ty, pos, af, gd⟩ st = true := by kernel_rfl) (hk : opOk ⟨d, .store T z y, ty, pos, af, gd⟩ st (.box i cs') = true := by kernel_rfl) (hw : st.want ops ⟨d, .store T z y, ty, pos, af, gd⟩ = some true := by rfl) (h5 : Nat.blt i 500000 = true := by rfl) : YR P sq ops K (⟨d, .store T z y, ty, pos, af, gd⟩ :: rest) st := by subst hcs; exact yr_b (store1 (x := .tx i' T' n') (Nat.le_of_ble_eq_true h5) hz hi hy rfl (Nat.le_of_ble_eq_true hle) hd) hk hw h
theorem ls_nilT (x : Operand) {i T n : Nat} (hx : st.ev x = .tx i T n) (hd : dstOk ⟨d, .nilCheck x, ty, pos, af, gd⟩ st = true) : LocS P ⟨d, .nilCheck x, ty, pos, af, gd⟩ st (.bx i 0) .no := fun st2 ha =>
  OpS.value (ha.dst hd) fun _ _ g a w h => by
    have h1 := h.eval x
    rw [ha.ev x (by simp [Op.operands]), hx] at h1
    obtain ⟨b, h2, h3, -⟩ := h1
    refine ⟨.pointer (some ⟨b, 0, none⟩), w, ?_, Below.refl _ _, b, h2, rfl⟩
    simp [execOp, h3]
theorem yQN {x : Operand} {i T n : Nat} (hx : st.ev x = .tx i T n) (h : YR P sq ops K rest (st.put d (.bx i 0))) (hd : dstOk ⟨d, .nilCheck x, ty, pos, af, gd⟩ st = true := by kernel_rfl) (hk : opOk ⟨d, .nilCheck x, ty, pos, af, gd⟩ st .no = true := by kernel_rfl) (hw : st.want ops ⟨d, .nilCheck x, ty, pos, af, gd⟩ = some true := by rfl) :
    YR P sq ops K (⟨d, .nilCheck x, ty, pos, af, gd⟩ :: rest) st := yr_v (ls_nilT x hx hd) hk hw h
theorem ls_toU (S D : TypeId) (x : Operand) {i T n t : Nat} {j : TypeInfo} (hs : P.underlying S = some (.pointer t)) (hD : P.underlying D = some .unsafePointer) (ht : P.info? t = some j) (hj : j.size ≠ 0) (hn : 0 < n) (hx : st.ev x = .tx i T n) (hd : dstOk ⟨d, .convert S D x, ty, pos, af, gd⟩ st = true) : LocS P ⟨d, .convert S D x, ty, pos, af, gd⟩ st (.tx i T n) .no := fun st2 ha =>
  OpS.value (ha.dst hd) fun _ _ g a w h => by
    have h1 := h.eval x
    rw [ha.ev x (by simp [Op.operands]), hx] at h1
    obtain ⟨b, h2, h3, h4⟩ := h1
    refine ⟨.pointer (some ⟨b, 0, none⟩), w, ?_, Below.refl _ _, b, h2, rfl, h4⟩
    simp [execOp, h3, Lib.run_to_unsafe w ⟨b, 0, none⟩ hs hD ht hj h4 hn, Result.andThen]
theorem yQu {S D : Nat} {x : Operand} {i T n t : Nat} {j : TypeInfo} (hs : P.underlying S = some (.pointer t)) (hD : P.underlying D = some .unsafePointer) (ht : P.info? t = some j) (hj : j.size ≠ 0) (hn : 0 < n) (hx : st.ev x = .tx i T n) (h : YR P sq ops K rest (st.put d (.tx i T n))) (hd : dstOk ⟨d, .convert S D x, ty, pos, af, gd⟩ st = true := by kernel_rfl) (hk : opOk ⟨d, .convert S D x, ty, pos, af, gd⟩ st .no = true := by kernel_rfl) (hw : st.want ops ⟨d, .convert S D x, ty, pos, af, gd⟩ = some true := by rfl) :
    YR P sq ops K (⟨d, .convert S D x, ty, pos, af, gd⟩ :: rest) st := yr_v (ls_toU S D x hs hD ht hj hn hx hd) hk hw h
theorem ls_ofU (S D : TypeId) (x : Operand) {i T n u : Nat} {j : TypeInfo} (hs : P.underlying S = some .unsafePointer) (hD : P.underlying D = some (.pointer u)) (hu : P.info? u = some j) (hl : liesAt P P.depth T (n / P.cellsOf T) 0 u 1 = true) (hx : st.ev x = .tx i T n) (hd : dstOk ⟨d, .convert S D x, ty, pos, af, gd⟩ st = true) : LocS P ⟨d, .convert S D x, ty, pos, af, gd⟩ st (.tx i T n) .no := fun st2 ha =>
  OpS.value (ha.dst hd) fun _ _ g a w h => by
    have h1 := h.eval x
    rw [ha.ev x (by simp [Op.operands]), hx] at h1
    obtain ⟨b, h2, h3, h4⟩ := h1
    refine ⟨.pointer (some ⟨b, 0, none⟩), w, ?_, Below.refl _ _, b, h2, rfl, h4⟩
    simp [execOp, h3, Lib.run_from_unsafe w ⟨b, 0, none⟩ hs hD hu h4 hl, Result.andThen]
theorem yQc {S D : Nat} {x : Operand} {i T n u : Nat} {j : TypeInfo} (hs : P.underlying S = some .unsafePointer) (hD : P.underlying D = some (.pointer u)) (hu : P.info? u = some j) (hl : liesAt P P.depth T (n / P.cellsOf T) 0 u 1 = true) (hx : st.ev x = .tx i T n) (h : YR P sq ops K rest (st.put d (.tx i T n))) (hd : dstOk ⟨d, .convert S D x, ty, pos, af, gd⟩ st = true := by kernel_rfl) (hk : opOk ⟨d, .convert S D x, ty, pos, af, gd⟩ st .no = true := by kernel_rfl) (hw : st.want ops ⟨d, .convert S D x, ty, pos, af, gd⟩ = some true := by rfl) :
    YR P sq ops K (⟨d, .convert S D x, ty, pos, af, gd⟩ :: rest) st := yr_v (ls_ofU S D x hs hD hu hl hx hd) hk hw h
theorem ls_same (f : Nat) (x : Operand) (ts : Array TypeId) {i T n : Nat} (hf : ∀ v w, (callFunc f #[v]).run P w = .ok (.value v) w) (hx : st.ev x = .tx i T n) (hd : dstOk ⟨d, .call { callee := .value (.func f), args := #[x], argTypes := ts }, ty, pos, af, gd⟩ st = true) : LocS P ⟨d, .call { callee := .value (.func f), args := #[x], argTypes := ts }, ty, pos, af, gd⟩ st (.tx i T n) .no := fun st2 ha =>
  OpS.value (ha.dst hd) fun _ _ g a w h => by
    have h1 := h.eval x
    rw [ha.ev x (by simp [Op.operands, Call.operands]), hx] at h1
    obtain ⟨b, h2, h3, h4⟩ := h1
    refine ⟨.pointer (some ⟨b, 0, none⟩), w, ?_, Below.refl _ _, b, h2, rfl, h4⟩
    simp only [execOp, resolve, Act.eval, Deferred.ofValue, Sem.run_bind, Sem.run_pure, Result.andThen_ok, invoke]
    simp [h3, hf]
theorem yQn {f : Nat} {x : Operand} {ts : Array TypeId} {i T n : Nat} (hf : ∀ v w, (callFunc f #[v]).run P w = .ok (.value v) w) (hx : st.ev x = .tx i T n) (h : YR P sq ops K rest (st.put d (.tx i T n))) (hd : dstOk ⟨d, .call { callee := .value (.func f), args := #[x], argTypes := ts }, ty, pos, af, gd⟩ st = true := by kernel_rfl) (hk : opOk ⟨d, .call { callee := .value (.func f), args := #[x], argTypes := ts }, ty, pos, af, gd⟩ st .no = true := by kernel_rfl) (hw : st.want ops ⟨d, .call { callee := .value (.func f), args := #[x], argTypes := ts }, ty, pos, af, gd⟩ = some true := by rfl) :
    YR P sq ops K (⟨d, .call { callee := .value (.func f), args := #[x], argTypes := ts }, ty, pos, af, gd⟩ :: rest) st := yr_v (ls_same f x ts hf hx hd) hk hw h
theorem run_eql_ptr_nil {tp te : TypeId} (w : World) (a : Addr) (hp : P.underlying tp = some (.pointer te)) : (binOp .eql tp (.pointer (some a)) (.pointer none)).run P w = .ok (.bool false) w := by
  have h : ∀ d : Nat, (Op.equalIn (d + 1) tp (.pointer (some a)) (.pointer none)).run P w = .ok false w := fun d => by
    simp [Op.equalIn, run_underlying hp]
  simp only [binOp]
  simp [Op.equal, Op.maxDepth, h 9999]
theorem run_eql_nil_nil {tp te : TypeId} (w : World) (hp : P.underlying tp = some (.pointer te)) : (binOp .eql tp (.pointer none) (.pointer none)).run P w = .ok (.bool true) w := by
  have h : ∀ d : Nat, (Op.equalIn (d + 1) tp (.pointer none) (.pointer none)).run P w = .ok true w := fun d => by
    simp [Op.equalIn, run_underlying hp]
  simp only [binOp]
  simp [Op.equal, Op.maxDepth, h 9999]
theorem ls_eqn (t t' : TypeId) (x : Operand) {i T n te : Nat} (hp : P.underlying t = some (.pointer te)) (hx : st.ev x = .tx i T n) (hd : dstOk ⟨d, .binOp .eql t x (.const (.pointer none)) t', ty, pos, af, gd⟩ st = true) : LocS P ⟨d, .binOp .eql t x (.const (.pointer none)) t', ty, pos, af, gd⟩ st (.d (.val (.bool false))) .no := fun st2 ha =>
  OpS.value (ha.dst hd) fun _ _ g a w h => by
    have h1 := h.eval x
    rw [ha.ev x (by simp [Op.operands]), hx] at h1
    obtain ⟨b, h2, h3, h4⟩ := h1
    refine ⟨.bool false, w, ?_, Below.refl _ _, DRep.val _ rfl⟩
    have h5 : a.eval (.const (.pointer none)) = .pointer none := rfl
    simp only [execOp, h3, h5]
    simp [eqGuard, run_eql_ptr_nil w _ hp, Result.andThen]
theorem yQe {t t' : Nat} {x : Operand} {i T n te : Nat} (hp : P.underlying t = some (.pointer te)) (hx : st.ev x = .tx i T n) (h : YR P sq ops K rest (st.put d (.d (.val (.bool false))))) (hd : dstOk ⟨d, .binOp .eql t x (.const (.pointer none)) t', ty, pos, af, gd⟩ st = true := by kernel_rfl) (hk : opOk ⟨d, .binOp .eql t x (.const (.pointer none)) t', ty, pos, af, gd⟩ st .no = true := by kernel_rfl) (hw : st.want ops ⟨d, .binOp .eql t x (.const (.pointer none)) t', ty, pos, af, gd⟩ = some true := by rfl) :
    YR P sq ops K (⟨d, .binOp .eql t x (.const (.pointer none)) t', ty, pos, af, gd⟩ :: rest) st := yr_v (ls_eqn t t' x hp hx hd) hk hw h
theorem yQz {t t' : Nat} {x : Operand} {te : Nat} (hp : P.underlying t = some (.pointer te)) (hx : st.ev x = .d (.val (.pointer none))) (h : YR P sq ops K rest (st.put d (.d (.val (.bool true))))) (hd : dstOk ⟨d, .binOp .eql t x (.const (.pointer none)) t', ty, pos, af, gd⟩ st = true := by kernel_rfl) (hk : opOk ⟨d, .binOp .eql t x (.const (.pointer none)) t', ty, pos, af, gd⟩ st .no = true := by kernel_rfl) (hw : st.want ops ⟨d, .binOp .eql t x (.const (.pointer none)) t', ty, pos, af, gd⟩ = some true := by rfl) :
    YR P sq ops K (⟨d, .binOp .eql t x (.const (.pointer none)) t', ty, pos, af, gd⟩ :: rest) st := yr_v (ls_bin_run .eql t t' x (.const (.pointer none)) hx rfl (fun w => by
      have e : (eqGuard .eql t x (.const (.pointer none)) (.pointer none) (.pointer none) >>= fun _ => binOp .eql t (.pointer none) (.pointer none)) = binOp .eql t (.pointer none) (.pointer none) := rfl
      rw [e]
      exact run_eql_nil_nil w hp) rfl hd) hk hw h
theorem ls_nes (t t' : TypeId) (x y : Operand) {i T n te : Nat} {j : TypeInfo} (hp : P.underlying t = some (.pointer te)) (hte : P.info? te = some j) (hx : st.ev x = .tx i T n) (hy : st.ev y = .tx i T n) (hd : dstOk ⟨d, .binOp .neq t x y t', ty, pos, af, gd⟩ st = true) : LocS P ⟨d, .binOp .neq t x y t', ty, pos, af, gd⟩ st (.d (.val (.bool false))) .no := fun st2 ha =>
  OpS.value (ha.dst hd) fun _ _ g a w h => by
    have h1 := h.eval x
    rw [ha.ev x (by simp [Op.operands]), hx] at h1
    obtain ⟨b, h2, h3, -⟩ := h1
    have h5 := h.eval y
    rw [ha.ev y (by simp [Op.operands]), hy] at h5
    obtain ⟨b', h6, h7, -⟩ := h5
    rw [h2] at h6
    cases h6
    refine ⟨.bool false, w, ?_, Below.refl _ _, DRep.val _ rfl⟩
    simp only [execOp, h3, h7]
    simp [eqGuard, Lib.run_neq_ptr_same w _ hp hte, Result.andThen]
theorem yQq {t t' : Nat} {x y : Operand} {i T n te : Nat} {j : TypeInfo} (hp : P.underlying t = some (.pointer te)) (hte : P.info? te = some j) (hx : st.ev x = .tx i T n) (hy : st.ev y = .tx i T n) (h : YR P sq ops K rest (st.put d (.d (.val (.bool false))))) (hd : dstOk ⟨d, .binOp .neq t x y t', ty, pos, af, gd⟩ st = true := by kernel_rfl) (hk : opOk ⟨d, .binOp .neq t x y t', ty, pos, af, gd⟩ st .no = true := by kernel_rfl) (hw : st.want ops ⟨d, .binOp .neq t x y t', ty, pos, af, gd⟩ = some true := by rfl) :
    YR P sq ops K (⟨d, .binOp .neq t x y t', ty, pos, af, gd⟩ :: rest) st := yr_v (ls_nes t t' x y hp hte hx hy hd) hk hw h
end
end Go.Proofs.YtdkpmnefoobipaaGreatDoor.Px
set_option maxHeartbeats 1000000
namespace Go.Proofs.YtdkpmnefoobipaaGreatDoor.Px
open Go.RowKit

theorem run_app_str {P : Program} (w : World) (base : Nat) (t u ty e : TypeId) (i : TypeInfo) (ht : P.underlying t = some (.slice e)) (hu : P.underlying u = some .string) (hi : P.info? e = some i) (hz : i.zero = some (.int .u8 0))
    (hsize : i.size = 1) (hby : i.bytes = 1) (v : Value) (n : Nat) (xs : List Value) (hown : w.ownsRow base e 1 v n xs) (s : ByteArray)
    (h63 : n + s.size ≤ maxLen) (hbytes : n + s.size ≤ 140737488355328) (hbase : base ≤ w.heap.size) (hs0 : 0 < s.size) :
    ∃ v' w', (Builtin.append_ #[t, u] ty #[v, .string s]).run P w = .ok v' w' ∧ w'.ownsRow base e 1 v' (n + s.size) (xs ++ Lib.strCells s) ∧ Below 0 w w' ∧
      (∀ b, b < w.heap.size → v.ownBlock ≠ some b → w'.heap[b]? = w.heap[b]?) ∧ (∀ b o, b < w.heap.size → v.ownBlock = some b → o < n → w'.cell? ⟨b, o, none⟩ = w.cell? ⟨b, o, none⟩) ∧
      (v'.ownBlock = v.ownBlock ∨ v'.ownBlock = some w.heap.size) := by
  have hsmall : n + s.size ≤ 9223372036854775807 := by simp only [maxLen] at h63; omega
  have hxl : xs.length = n := by simpa using hown.1
  have hlen : (xs ++ Lib.strCells s).length = (n + s.size) * 1 := by rw [List.length_append, hxl, Lib.strCells_length, Nat.mul_one]
  have grown : ∀ (old : Nat), old < n + s.size →
      (w.drew.alloc (.cells (xs.toArray ++ (Lib.strCells s).toArray ++ Builtin.zeroCells (Value.int .u8 0).cells (grownCap w (n + s.size) old e - (n + s.size))) e)).ownsRow base e 1
        (.slice (some ⟨w.heap.size, 0, none⟩) (n + s.size) (grownCap w (n + s.size) old e)) (n + s.size) (xs ++ Lib.strCells s) := by
    intro old ho
    have hge := grownCap_ge w (n + s.size) old e
    have hcm : grownCap w (n + s.size) old e ≤ maxLen := grownCap_le_maxLen w (n + s.size) old e h63
    refine ⟨hlen, .inr ⟨w.heap.size, _, _, rfl, hbase, heap_alloc_new w.drew _, hge, hcm, ?_, ?_⟩⟩
    · have hz1 : (Value.int IntKind.u8 0).cells.size = 1 := rfl
      simp only [Array.size_append, List.size_toArray, size_zeroCells, hz1, hxl, Lib.strCells_length]
      omega
    · simp only [Array.toList_append, List.append_assoc]
      rw [← List.append_assoc, ← hlen]
      exact List.take_left
  have hold : ∀ o b, b < w.heap.size → (w.drew.alloc o).heap[b]? = w.heap[b]? := fun o b hb => Below.heap_alloc w.drew o b hb
  have hbel : ∀ o, Below 0 w (w.drew.alloc o) := fun o => ⟨rfl, rfl, rfl, by simp, fun k hk => by omega⟩
  rcases hown.2 with ⟨rfl, rfl⟩ | ⟨gb, cap, cur, rfl, hbg, hg, hnc, hcm, hcs, htake⟩
  · have hx : xs = [] := List.eq_nil_of_length_eq_zero hxl
    subst hx
    have hr := run_append_nil_string (P := P) w t u ty e i (.int .u8 0) ht hu hi hz s (by omega) (by omega) (by rw [hby]; omega)
    have hgr := grown 0 (by omega)
    simp only [Nat.zero_add, List.nil_append, Array.empty_append] at hgr ⊢
    have e1 : (s.data.map fun b => Value.int .u8 b.toNat) = (Lib.strCells s).toArray := by
      apply Array.ext'
      simp [Lib.strCells]
    rw [e1] at hr
    exact ⟨_, _, hr, hgr, hbel _, fun b hb _ => hold _ b hb, fun b o hb h => by simp [Value.ownBlock] at h, .inr rfl⟩
  · have hcs' : cur.size = cap := by simpa using hcs
    by_cases hroom : n + s.size ≤ cap
    · have hr := Lib.run_append_room_string (P := P) w t u ty e i ht hu hi hsize gb n cap cur hg s hroom (by omega)
      refine ⟨_, _, hr, ⟨hlen, .inr ⟨gb, cap, _, rfl, hbg, setRow_heap w gb cur _ e _ hg, hroom, hcm, ?_, ?_⟩⟩, ⟨rfl, rfl, rfl, by simp [World.setRow], fun k hk => by omega⟩, fun b _ hb => setRow_other w gb b _ (fun e => hb (by simp [Value.ownBlock, e])), fun b o _ hb ho => ?_, .inl rfl⟩
      · simp only [List.size_toArray, List.length_append, List.length_take, List.length_drop, Array.length_toList, Lib.strCells_length]
        omega
      · have ht' : cur.toList.take n = xs := by simpa using htake
        rw [ht', ← hlen]
        exact List.take_left
      · obtain rfl : gb = b := by simpa [Value.ownBlock] using hb
        have h2 := setRow_heap w gb cur (cur.toList.take n ++ Lib.strCells s ++ cur.toList.drop (n + s.size)).toArray e _ hg
        simp only [World.cell?, h2, hg, Option.isSome_none, Bool.false_eq_true, if_false]
        rw [List.getElem?_toArray, List.append_assoc, List.getElem?_append_left (by simp; omega), List.getElem?_take_of_lt ho]
        simp
    · have holds : ∀ j u, xs[j]? = some u → w.cell? ((⟨gb, 0, none⟩ : Addr).add j) = some u := hown.cells (g := gb) rfl
      have hr := Lib.run_append_grow_string (P := P) w t u ty e i (.int .u8 0) ht hu hi hz ⟨gb, 0, none⟩ n cap xs (by rw [hsize]; simpa using hxl) holds s (by omega) (by omega) (by rw [hby]; exact growslice_fits (by omega) (by omega))
      exact ⟨_, _, hr, grown cap (by omega), hbel _, fun b hb _ => hold _ b hb, fun b o hb _ _ => by simp only [World.cell?, hold _ b hb], .inr rfl⟩

section
variable {P : Program} {st : PS} {d : Option Nat} {ty : TypeId} {pos : String} {af : Array Edge} {gd : Option (Nat × Bool)}

theorem ls_appstr (T U : TypeId) (s x : Operand) {E t n : Nat} {es es2 : List (List DV)} {l : List UInt8} [hA : AppOf P T E 1 1] (hz0 : (P.info? E).bind (·.zero) = some (.int .u8 0)) (hU : P.underlying U = some .string) (h0l : 0 < l.length) (hes2 : es2 = l.map fun c => [DV.val (.int .u8 c.toNat)]) (hs : st.ev s = .ts t 1 es) (ht : st.tget t = some n) (hn : n = es.length) (hx : st.ev x = .d (dS l)) (hE : t / 100000 = E)
    (hl : es.length + es2.length ≤ 140737488351232) (hd : dstOk ⟨d, .call { callee := .builtin .append, args := #[s, x], argTypes := #[T, U] }, ty, pos, af, gd⟩ st = true) :
    LocS P ⟨d, .call { callee := .builtin .append, args := #[s, x], argTypes := #[T, U] }, ty, pos, af, gd⟩ st (.ts t 1 (es ++ es2)) (.tok t (es.length + es2.length)) := fun st2 ha => by
  subst hn
  intro B w0 g a w K Q hr hK
  have h1 := hr.eval s
  rw [ha.ev s (by simp [Op.operands, Call.operands]), hs] at h1
  obtain ⟨h1, h2⟩ := h1
  obtain ⟨A1, c1, ys, hv1, hc1, hm1, hk1, hl1, hcell1, hone1, hrep1⟩ := DRep.row h1
  have h3 := hr.eval x
  rw [ha.ev x (by simp [Op.operands, Call.operands]), hx] at h3
  have hv2 : a.eval x = .string ⟨l.toArray⟩ := DRep.val_eq h3
  obtain ⟨news, hnews⟩ : ∃ news, news = Lib.strCells ⟨l.toArray⟩ := ⟨_, rfl⟩
  have hnl : news = l.map fun c => Value.int .u8 c.toNat := by rw [hnews]; simp [Lib.strCells]
  have hsz : (⟨l.toArray⟩ : ByteArray).size = es2.length := by rw [hes2, List.length_map]; simp [ByteArray.size]
  have hl2 : news.length = es2.length * 1 := by rw [hnl, hes2]; simp
  have hone2 : ∀ u ∈ news, u.oneCell' = true := by rw [hnews]; exact Lib.strCells_oneCell _
  have hk2 : ∀ e ∈ es2, e.length = 1 := fun e he => by
    rw [hes2, List.mem_map] at he
    obtain ⟨c, -, rfl⟩ := he
    rfl
  have hrep2 : ∀ (i j : Nat) e y, es2[i]? = some e → e[j]? = some y → ∃ u, news[i * 1 + j]? = some u ∧ DRep (Fx g) w u y := fun i j e y he hy => by
    rw [hes2, List.getElem?_map, Option.map_eq_some_iff] at he
    obtain ⟨c, hc, rfl⟩ := he
    match j, hy with
    | 0, hy =>
      cases hy
      exact ⟨.int .u8 c.toNat, by rw [hnl, Nat.mul_one, Nat.add_zero, List.getElem?_map, hc]; rfl, DRep.val _ rfl⟩
    | j + 1, hy => simp at hy
  have hl20 : 0 < es2.length := by rw [hes2, List.length_map]; exact h0l
  obtain ⟨T', A, c, h4, h5⟩ := hr.tlen t es.length ((ha.tk rfl s (by simp [Op.operands, Call.operands]) t 1 es hs).trans ht)
  obtain ⟨h6, h7⟩ := h2 T' h4
  have h8 : a.eval s = T'.v := (h7 A es.length c h5).2 rfl
  obtain ⟨⟨n', xs, h9⟩, h10⟩ := hr.toks t T' h4
  obtain rfl : es.length = n' := own_of_tip h9 h5
  have hTE : T'.E = E := (hr.telt t T' h4).trans hE
  obtain ⟨i, z, q1, q2, q3, q4, q5⟩ := hA.inf
  rw [hTE, h6] at h9
  have hz1 : z = .int .u8 0 := by
    rw [q1, Option.bind_some, q2] at hz0
    exact Option.some.inj hz0
  subst hz1
  obtain ⟨v', w', r1, r2, r3, r4, r5, r6⟩ := run_app_str (P := P) w 0 T U ty E i hA.und hU q1 q2 q3 q4 T'.v es.length xs h9 ⟨l.toArray⟩ (by unfold maxLen; omega) (by omega) (Nat.zero_le _) (by omega)
  rw [hsz, ← hnews] at r2
  have hxs : xs = ys := by
    apply List.ext_getElem?
    intro j
    have hlx := h9.1
    by_cases hj : j < es.length * 1
    · have h0 : 0 < es.length := by
        rcases Nat.eq_zero_or_pos es.length with h0 | h0
        · rw [h0] at hj; simp at hj
        · exact h0
      obtain ⟨b, off, hA1, hcell⟩ := hcell1 h0
      obtain ⟨u, hu⟩ : ∃ u, ys[j]? = some u := ⟨_, List.getElem?_eq_getElem (by omega)⟩
      obtain ⟨u', hu'⟩ : ∃ u, xs[j]? = some u := ⟨_, List.getElem?_eq_getElem (by omega)⟩
      have e1 : T'.v = .slice (some ⟨b, off, none⟩) es.length c1 := by rw [← h8, hv1, hA1]
      have e2 := own_cell h9 (b := b) (by rw [e1]; rfl) j u' hu'
      obtain ⟨A3, c3, e3, -, e4⟩ := own_form h9
      have e5 := e4 b (by rw [e1]; rfl)
      have e6 : off = 0 := by
        have := e1.symm.trans e5
        have := (Value.slice.inj this).1
        simpa using this
      have e7 := (hcell j u hu).1
      rw [e6, Nat.zero_add, e2] at e7
      rw [hu, hu', Option.some.inj e7]
    · rw [List.getElem?_eq_none (by omega), List.getElem?_eq_none (by omega)]
  subst hxs
  obtain ⟨fx, hrep'⟩ := hr.app t es.length es2.length T' h4 xs news v' (by rw [hTE, h6]; exact h9) (by rw [hTE, h6]; exact r2) r3 (fun b hb hne => r4 b hb hne) (fun b o hb hb' ho => r5 b o hb hb' (by rw [h6] at ho; omega)) r6 (fun h => by omega)
  have hrun : (execOp a.eval ⟨d, .call { callee := .builtin .append, args := #[s, x], argTypes := #[T, U] }, ty, pos, af, gd⟩).run P w = .ok (.value v') w' := by
    simp only [execOp, resolve, invoke, builtin, Sem.run_bind, Sem.run_pure, Result.andThen_ok, List.map_toArray, List.map_cons, List.map_nil, h8, hv2, r1]
  unfold Oper.wp
  rw [hrun]
  refine hK _ _ _ (hrep'.put (v := v') (x := .ts t 1 (es ++ es2)) ⟨?_, fun T2 hT2 => ?_⟩ _ (dstOk_spec (st := st2.tput t _) (ha.dst hd)))
  · obtain ⟨A3, c3, e3, e4, e5⟩ := own_form r2
    have e3' : v' = .slice A3 (es ++ es2).length c3 := by rw [List.length_append]; exact e3
    refine (congrArg (fun q => DRep (Fx (g.sett t ⟨v', T'.E, T'.k⟩)) w' q (.sl 1 (es ++ es2))) e3').mpr ?_
    refine DRep.of_row (xs := xs ++ news) (by rw [List.length_append]; exact e4) (by rw [List.length_append]; exact Nat.le_trans hl (by decide)) (fun e he => ?_) (fun h0 => ?_) (fun u hu => ?_) fun i j e y he hy => ?_
    · rcases List.mem_append.1 he with he | he
      · exact hk1 e he
      · exact hk2 e he
    · rcases r2.2 with ⟨e6, e7⟩ | ⟨gb, cap, cur, e6, e7, e8, -⟩
      · rw [List.length_append] at h0; omega
      · have e9 : A3 = some ⟨gb, 0, none⟩ := (Value.slice.inj (e3.symm.trans e6)).1
        refine ⟨gb, 0, e9, fun j u hj => ⟨?_, ?_⟩⟩
        · rw [Nat.zero_add]; exact own_cell r2 (by rw [e6]; rfl) j u hj
        · refine ⟨hrep'.tf0 t ⟨v', T'.E, T'.k⟩ gb _ (by simp [Gh.sett]) (by show v'.ownBlock = _; rw [e6]; rfl), fun i' hi' => ?_, fun t2 T2 n2 c2' hT2 hv2' => ?_⟩
          · exact (hrep'.toks t ⟨v', T'.E, T'.k⟩ (by simp [Gh.sett])).2 i' gb (by rw [show (⟨v', T'.E, T'.k⟩ : Tk).v = v' from rfl, e6]; rfl) hi'
          · have htt : t2 = t := hrep'.tdis t2 t T2 ⟨v', T'.E, T'.k⟩ gb hT2 (by simp [Gh.sett]) (by rw [hv2']; rfl) (by rw [show (⟨v', T'.E, T'.k⟩ : Tk).v = v' from rfl, e6]; rfl)
            subst htt
            simp only [Gh.sett, if_pos] at hT2
            cases hT2
            have e10 : n2 = es.length + es2.length := (Value.slice.inj ((show v' = _ from hv2').symm.trans e6)).2.1
            have hlt := (List.getElem?_eq_some_iff.1 hj).1
            rw [r2.1] at hlt
            show 0 + j < n2 * T'.k
            rw [e10, h6, Nat.zero_add]
            exact hlt
    · rcases List.mem_append.1 hu with hu | hu
      · exact hone1 u hu
      · exact hone2 u hu
    · by_cases hi : i < es.length
      · rw [List.getElem?_append_left hi] at he
        obtain ⟨u, e6, e7⟩ := hrep1 i j e y he hy
        refine ⟨u, ?_, e7.mono fx⟩
        rw [List.getElem?_append_left (List.getElem?_eq_some_iff.1 e6).1]
        exact e6
      · rw [List.getElem?_append_right (by omega)] at he
        obtain ⟨u, e6, e7⟩ := hrep2 (i - es.length) j e y he hy
        refine ⟨u, ?_, e7.mono fx⟩
        have : i * 1 + j - xs.length = (i - es.length) * 1 + j := by
          rw [h9.1, Nat.sub_mul]
          have := Nat.mul_le_mul_right 1 (show es.length ≤ i by omega)
          omega
        rw [List.getElem?_append_right (by rw [h9.1]; have := Nat.mul_le_mul_right 1 (show es.length ≤ i by omega); omega), this]
        exact e6
  · simp only [Gh.sett, if_pos] at hT2
    cases hT2
    refine ⟨h6, fun A3 n3 c3 e3 => ?_⟩
    have e4 : n3 = es.length + es2.length := own_of_tip r2 e3
    rw [List.length_append]
    exact ⟨by omega, fun _ => rfl⟩
variable {sq : Bool} {ops : Array Oper} {K : PS → Prop} {rest : List Oper}
theorem yTs {T U E t n m : Nat} {x y : Operand} {es es2 es' : List (List DV)} {l : List UInt8} [hA : AppOf P T E 1 1] (hz0 : (P.info? E).bind (·.zero) = some (.int .u8 0)) (hU : P.underlying U = some .string) (h0l : 0 < l.length) (hes2 : es2 = l.map fun c => [DV.val (.int .u8 c.toNat)]) (hl : es.length + es2.length ≤ 140737488351232) (hs : st.ev x = .ts t 1 es) (ht : st.tget t = some n) (hn : n = es.length) (hx : st.ev y = .d (dS l)) (hE : t / 100000 = E) (he : es ++ es2 = es') (hm : es.length + es2.length = m) (h : YR P sq ops K rest ((st.tput t m).put d (.ts t 1 es'))) (hd : dstOk ⟨d, .call { callee := .builtin .append, args := #[x, y], argTypes := #[T, U] }, ty, pos, af, gd⟩ st = true := by kernel_rfl) (hk : opOk ⟨d, .call { callee := .builtin .append, args := #[x, y], argTypes := #[T, U] }, ty, pos, af, gd⟩ st (.tok t m) = true := by kernel_rfl) (hw : st.want ops ⟨d, .call { callee := .builtin .append, args := #[x, y], argTypes := #[T, U] }, ty, pos, af, gd⟩ = some true := by rfl) : YR P sq ops K (⟨d, .call { callee := .builtin .append, args := #[x, y], argTypes := #[T, U] }, ty, pos, af, gd⟩ :: rest) st := by subst he hm; exact yr_t (ls_appstr T U x y hz0 hU h0l hes2 hs ht hn hx hE hl hd) hk hw h
end
end Go.Proofs.YtdkpmnefoobipaaGreatDoor.Px
namespace Go.Proofs.YtdkpmnefoobipaaGreatDoor
open Go.RowKit Px

abbrev bT : Nat := 139
abbrev uT : Nat := 5 * 100000 + 4
abbrev uT2 : Nat := 5 * 100000 + 10004
abbrev dY (c : UInt8) : List DV := [DV.val (.int .u8 c.toNat)]
theorem hU139 : ∃ j, Tryz.prog.info? 139 = some j ∧ j.size ≠ 0 := by
  have h : (Tryz.prog.info? 139).map (·.size) = some 2 := by kernel_rfl
  obtain ⟨j, h1, h2⟩ := Option.map_eq_some_iff.1 h
  exact ⟨j, h1, by omega⟩
theorem hNoEsc (v : Value) (w : World) : (callFunc 164 #[v]).run Tryz.prog w = .ok (.value v) w := by
  rw [run_callFunc_extern Tryz.func164 (by kernel_rfl) (by kernel_rfl) (by kernel_rfl) (e := Extern.AbiNoEscape.same) (by kernel_rfl), Lib.run_noEscape]
  rfl
theorem hLies : liesAt Tryz.prog Tryz.prog.depth 139 (2 / Tryz.prog.cellsOf 139) 0 139 1 = true := by kernel_rfl

set_option maxRecDepth 20000 in
set_option maxHeartbeats 1000000 in
theorem wCcF (l : List UInt8) : PCx Tryz.prog 122 [.tx 10004 bT 2] [(10004, [.d (.val (.pointer none)), .ts uT2 1 (l.map dY)])] [(uT2, (l.map dY).length)] (.tup []) [(10004, [.tx 10004 bT 2, .ts uT2 1 (l.map dY)])] [(uT2, (l.map dY).length)] := by
  obtain ⟨j, hj, hj0⟩ := hU139
  refine pcx_of_pw Tryz.func122 rfl Tryz.ntmps122 Tryz.results122 (by simp) fun B w0 => ?_
  refine pw_seq (pw_region (yQm rfl (yQN rfl (yFb rfl (yLd rfl rfl rfl (yQz Tryz.underlying136 rfl (yQ (pw_ct rfl (pw_region ?_))))))))); refine yQm rfl (yQm rfl (yQu Tryz.underlying136 Tryz.underlying201 hj hj0 (by decide) rfl (yQn hNoEsc rfl (yQc Tryz.underlying201 Tryz.underlying136 hj hLies rfl (yQN rfl (yFb rfl (yQs (cs' := [_, _]) rfl rfl rfl rfl (yQ ?_))))))))
  exact q_xe [] .nil rfl ⟨rfl, trivial⟩ ⟨rfl, trivial⟩
set_option maxRecDepth 20000 in
set_option maxHeartbeats 1000000 in
theorem wCcU (l : List UInt8) : PCx Tryz.prog 122 [.tx 10004 bT 2] [(10004, [.tx 10004 bT 2, .ts uT2 1 (l.map dY)])] [(uT2, (l.map dY).length)] (.tup []) [(10004, [.tx 10004 bT 2, .ts uT2 1 (l.map dY)])] [(uT2, (l.map dY).length)] := by
  obtain ⟨j, hj, hj0⟩ := hU139
  refine pcx_of_pw Tryz.func122 rfl Tryz.ntmps122 Tryz.results122 (by simp) fun B w0 => ?_
  refine pw_seq (pw_region (yQm rfl (yQN rfl (yFb rfl (yQl rfl rfl rfl (yQe Tryz.underlying136 rfl (yQ (pw_cf rfl (pw_seq ?_))))))))); refine pw_region (yQm rfl (yQN rfl (yFb rfl (yQl rfl rfl rfl (yQm rfl (yQq Tryz.underlying136 hj rfl rfl (yQ (pw_cf rfl (pw_skip ?_)))))))))
  exact q_xe [] .nil rfl ⟨rfl, trivial⟩ ⟨rfl, trivial⟩
end Go.Proofs.YtdkpmnefoobipaaGreatDoor
namespace Go.Proofs.YtdkpmnefoobipaaGreatDoor
open Go.RowKit Px

set_option maxRecDepth 20000 in
set_option maxHeartbeats 1000000 in
theorem wWbF (l : List UInt8) (c : UInt8) (hl : l.length ≤ 100000000) : PCx Tryz.prog 89 [.tx 4 bT 2, .d (.val (.int .u8 c.toNat))] [(4, [.d (.val (.pointer none)), .ts uT 1 (l.map dY)])] [(uT, (l.map dY).length)] (.d (.val .nilIface)) [(4, [.tx 4 bT 2, .ts uT 1 ((l ++ [c]).map dY)])] [(uT, ((l ++ [c]).map dY).length)] := by
  refine pcx_of_pw Tryz.func89 rfl Tryz.ntmps89 Tryz.results89 (by simp) fun B w0 => ?_
  refine pw_seq (pw_region (yAd rfl (yQ (pw_seq (pw_region (yQm rfl ?_)))))); refine yCx (wCcF l) rfl ⟨rfl, trivial⟩ ⟨rfl, trivial⟩ ?_ (hfit := by kernel_rfl); refine yQ (pw_seq (pw_region (yQm rfl (yQm rfl (yQN rfl (yFb rfl (yLt rfl rfl rfl (yMd rfl (yR (es := [[_]]) rfl rfl rfl rfl rfl ?_))))))))); refine yT (es' := (l ++ [c]).map dY) (m := ((l ++ [c]).map dY).length) (by simp; omega) (by simp; omega) rfl rfl rfl rfl rfl (by simp) (by simp) (yQN rfl (yFb rfl (ySt (cs' := [_, _]) rfl rfl rfl rfl (yQ (pw_seq (pw_region (yAd rfl (yQ (pw_ret ?_)))))))))
  exact q_x _ (.tmp rfl .nil) rfl ⟨rfl, trivial⟩ ⟨rfl, trivial⟩
set_option maxRecDepth 20000 in
set_option maxHeartbeats 1000000 in
theorem wWsF (l s : List UInt8) (hl : l.length ≤ 100000000) (hs : s.length ≤ 100000000) (h0 : 0 < s.length) : PCx Tryz.prog 90 [.tx 4 bT 2, .d (dS s)] [(4, [.d (.val (.pointer none)), .ts uT 1 (l.map dY)])] [(uT, (l.map dY).length)] (.tup [dI s.length, .val .nilIface]) [(4, [.tx 4 bT 2, .ts uT 1 ((l ++ s).map dY)])] [(uT, ((l ++ s).map dY).length)] := by
  refine pcx_of_pw Tryz.func90 rfl Tryz.ntmps90 Tryz.results90 (by simp) fun B w0 => ?_
  refine pw_seq (pw_region (yAd rfl (yAd rfl (yQ (pw_seq (pw_region (yQm rfl ?_))))))); refine yCx (wCcF l) rfl ⟨rfl, trivial⟩ ⟨rfl, trivial⟩ ?_ (hfit := by kernel_rfl)
  refine yQ (pw_seq (pw_region (yQm rfl (yQm rfl (yQN rfl (yFb rfl (yLt rfl rfl rfl (yMd rfl ?_)))))))); refine yTs (es2 := s.map dY) (es' := (l ++ s).map dY) (m := ((l ++ s).map dY).length) (by kernel_rfl) Tryz.underlying9 h0 rfl (by simp; omega) rfl rfl rfl rfl rfl (by simp) (by simp) ?_; refine yQN rfl (yFb rfl (ySt (cs' := [_, _]) rfl rfl rfl rfl (yQ (pw_seq (pw_region (yMd rfl (yNs rfl (yAd rfl (yAd rfl ?_))))))))); refine yQ (pw_ret ?_)
  exact q_x _ (.tmp rfl (.tmp rfl .nil)) rfl ⟨rfl, trivial⟩ ⟨rfl, trivial⟩
set_option maxRecDepth 20000 in
set_option maxHeartbeats 1000000 in
theorem wWsU (l s : List UInt8) (hl : l.length ≤ 100000000) (hs : s.length ≤ 100000000) (h0 : 0 < s.length) : PCx Tryz.prog 90 [.tx 4 bT 2, .d (dS s)] [(4, [.tx 4 bT 2, .ts uT 1 (l.map dY)])] [(uT, (l.map dY).length)] (.tup [dI s.length, .val .nilIface]) [(4, [.tx 4 bT 2, .ts uT 1 ((l ++ s).map dY)])] [(uT, ((l ++ s).map dY).length)] := by
  refine pcx_of_pw Tryz.func90 rfl Tryz.ntmps90 Tryz.results90 (by simp) fun B w0 => ?_
  refine pw_seq (pw_region (yAd rfl (yAd rfl (yQ (pw_seq (pw_region (yQm rfl ?_))))))); refine yCx (wCcU l) rfl ⟨rfl, trivial⟩ ⟨rfl, trivial⟩ ?_ (hfit := by kernel_rfl)
  refine yQ (pw_seq (pw_region (yQm rfl (yQm rfl (yQN rfl (yFb rfl (yLt rfl rfl rfl (yMd rfl ?_)))))))); refine yTs (es2 := s.map dY) (es' := (l ++ s).map dY) (m := ((l ++ s).map dY).length) (by kernel_rfl) Tryz.underlying9 h0 rfl (by simp; omega) rfl rfl rfl rfl rfl (by simp) (by simp) ?_; refine yQN rfl (yFb rfl (ySt (cs' := [_, _]) rfl rfl rfl rfl (yQ (pw_seq (pw_region (yMd rfl (yNs rfl (yAd rfl (yAd rfl ?_))))))))); refine yQ (pw_ret ?_)
  exact q_x _ (.tmp rfl (.tmp rfl .nil)) rfl ⟨rfl, trivial⟩ ⟨rfl, trivial⟩
end Go.Proofs.YtdkpmnefoobipaaGreatDoor
namespace Go.Proofs.YtdkpmnefoobipaaGreatDoor
open Go.RowKit Go.Sort Go.Lib Go.Shelf

set_option maxRecDepth 100000 in
theorem fmtU_small (i : Nat) (hi : i < 100) (w : World) :
    Calls Tryz.prog 123 #[.int .u64 i, .int .i64 10] w fun e w' => e = .returned (.string ⟨(Lib.decDigits i).toArray⟩) ∧ w' = w := by
  have hc : ∀ W, Calls Tryz.prog 165 #[.int .i64 i] W fun e w' => e = .returned (.string ⟨(Lib.decDigits i).toArray⟩) ∧ w' = W := fun W =>
    Any.internal_strconv_small (ρ := Tryz.itoa_ren) { Tryz.itoa with } i hi W
  have iu : (i : Int) < 100 := by omega
  go_enter Tryz.func123, Tryz.ntmps123
  go_wp2_with fail
  refine (hc _).mono ?_
  rintro e w' ⟨rfl, rfl⟩
  go_wp2_with fail
  go_ret
  exact ⟨rfl, rfl⟩

set_option maxHeartbeats 12800000 in
set_option maxRecDepth 100000 in
theorem fmtU_big (u : Nat) (hu : 100 ≤ u) (hu64 : u < 18446744073709551616) (w : World) (htab : Lib.TabIs Tryz.prog w "internal/strconv.uint64pow10" .u64 Lib.pow10Tab) :
    Calls Tryz.prog 123 #[.int .u64 u, .int .i64 10] w fun e w' => e = .returned (.string ⟨(Lib.decDigits u).toArray⟩) ∧ Below w.heap.size w w' := by
  have L := Tryz.itoa
  have hu1 : 1 ≤ u := by omega
  have iu : (100 : Int) ≤ (u : Int) := by omega
  have hnd20 : Lib.nDigits u ≤ 20 := by have := Lib.numDigits_eq u hu1 hu64; split at this <;> omega
  have hal : Tryz.prog.arrayLen 203 = 24 := by kernel_rfl
  have hsl : ∀ W, (Instr.sliceAt 203 (.pointer (some ⟨w.heap.size, 0, none⟩)) none (some (.int .i64 (Lib.nDigits u : Int))) none).run Tryz.prog W = .ok (.slice (some ⟨w.heap.size, 0, none⟩) (Lib.nDigits u) 24) W := fun W => by
    rw [run_sliceAt_array_h W 203 ⟨w.heap.size, 0, none⟩ (by simp [Program.arrayLen, Program.elem, Tryz.underlying203]) .i64 (Lib.nDigits u : Int) (by omega) (by rw [hal]; omega)]
    go_simp
  have hH0 := Lib.holds_zero0 w 203 (Lib.nDigits u) (by omega)
  have hfmt : Calls Tryz.prog 167 _ _ _ := Any.internal_strconv_formatBase10 (ρ := Tryz.itoa_ren) { L with } w.heap.size 0 24 u (Array.replicate (Lib.nDigits u) 0) (w.alloc (.cells Lib.zeros24 203)) hH0 (by rw [Array.size_replicate]; exact Lib.lt_pow_nDigits u) hu64 (by rw [Array.size_replicate]; omega)
  rw [Array.size_replicate] at hfmt
  have hnd : ∀ W, Lib.TabIs Tryz.prog W "internal/strconv.uint64pow10" .u64 Lib.pow10Tab → Calls Tryz.prog 166 #[.int .u64 u] W fun e w' => e = .returned (.int .i64 (Lib.nDigits u)) ∧ w' = W := fun W h => Any.internal_strconv_numDigits (ρ := Tryz.itoa_ren) { L with } u hu1 hu64 W h
  have HH0 := Lib.hid hH0
  clear hH0 hal
  go_enter Tryz.func123, Tryz.ntmps123
  go_wp2_with fail
  refine (hnd _ (Lib.tabIs_alloc htab _)).mono ?_
  rintro e w' ⟨rfl, rfl⟩
  go_wp2_with fail
  refine hfmt.mono ?_
  rintro e w' ⟨rfl, k, v', dk, rfl, hF⟩
  have hcv : (convert 137 9 (.slice (some ⟨w.heap.size, 0, none⟩) (Lib.nDigits u) 24)).run Tryz.prog ((putRow (fun (b : UInt8) => Value.int .u8 (b.toNat : Int)) (w.alloc (.cells Lib.zeros24 203)) w.heap.size 0 dk).drewN k) = .ok (.string ⟨(Lib.decDigits u).toArray⟩) ((putRow (fun (b : UInt8) => Value.int .u8 (b.toNat : Int)) (w.alloc (.cells Lib.zeros24 203)) w.heap.size 0 dk).drewN k) := by
    have h := run_convert_bytes_back (P := Tryz.prog) ((putRow (fun (b : UInt8) => Value.int .u8 (b.toNat : Int)) (w.alloc (.cells Lib.zeros24 203)) w.heap.size 0 dk).drewN k) 137 9 5 ⟨w.heap.size, 0, none⟩ 24 (Lib.decDigits u) Tryz.underlying137 Tryz.underlying5 Tryz.underlying9 (fun j hj => by
      rw [Lib.row_is_numeral hF j hj, Lib.add_plain, World.cell?_drewN]
      exact cell?_putRow (fun (b : UInt8) => Value.int .u8 (b.toNat : Int)) _ w.heap.size 0 _ dk HH0.out (by rw [hF.size, Array.size_replicate]) j (by rw [hF.size]; rw [Lib.decDigits_length] at hj; exact hj))
    rw [Lib.decDigits_length] at h
    exact h
  have hbel : Below w.heap.size w ((putRow (fun (b : UInt8) => Value.int .u8 (b.toNat : Int)) (w.alloc (.cells Lib.zeros24 203)) w.heap.size 0 dk).drewN k) := by
    obtain ⟨os, eo⟩ := Lib.fin_at w (.cells Lib.zeros24 203) dk k 0
    rw [eo]
    exact Lib.below_grow _ w (Nat.le_refl _) k os
  go_wp2
  go_ret
  exact ⟨rfl, hbel⟩
end Go.Proofs.YtdkpmnefoobipaaGreatDoor
namespace Go.Proofs.YtdkpmnefoobipaaGreatDoor
open Go.RowKit Px

theorem decDigits_fmt (n : Nat) : Lib.decDigits n = fmt n := by
  unfold fmt
  by_cases h : n = 0
  · rw [if_pos h, h, Lib.decDigits, dif_pos (by decide)]
    decide
  · rw [if_neg h]
    exact decDigits_dec h
theorem wFmtUi (u : Nat) (hu : u < 18446744073709551616) : PCalls Tryz.prog 123 [dU u, dI 10] (.d (dS (fmt u))) :=
  PCalls.of_any (us := [vS (fmt u)]) rfl (one_all _ rfl) fun F w vals hl hr hg => by
    obtain rfl : vals = [.int .u64 u, .int .i64 10] := vals_of (us := [.int .u64 u, .int .i64 10]) hl hr
    rw [← decDigits_fmt]
    by_cases h : u < 100
    · refine (fmtU_small u h w).mono ?_
      rintro e w' ⟨rfl, rfl⟩
      exact ⟨rfl, Below.refl _ _⟩
    · refine (fmtU_big u (by omega) hu w (tab_is hg)).mono ?_
      rintro e w' ⟨rfl, h⟩
      exact ⟨rfl, h⟩
set_option maxRecDepth 20000 in
theorem wFmtU (u : Nat) (hu : u < 18446744073709551616) : PCalls Tryz.prog 91 [dU u, dI 10] (.d (dS (fmt u))) := by
  have c1 := wFmtUi u hu
  refine pcalls_of_pw Tryz.func91 rfl Tryz.ntmps91 Tryz.results91 (by simp) fun B w0 => ?_
  refine pw_seq (pw_region (yAd rfl (yQ (pw_seq (pw_region (yMd rfl (yMd rfl (yC (c1) rfl rfl (yAd rfl ?_))))))))); refine yQ (pw_ret ?_)
  exact q_ret _ (.tmp rfl .nil) rfl
theorem bExtraR : Builder.Extra Tryz.prog Tryz.repeat_ren := { sizeBuilder := by kernel_rfl, liesBuilder := by kernel_rfl, t5 := by kernel_rfl, a5 := fun _ => by kernel_rfl, z5 := fun _ => by kernel_rfl, v5 := fun _ => by kernel_rfl, infoByte := by kernel_rfl, cellsByte := by kernel_rfl, sizeByte := by kernel_rfl, neB5 := by decide }
theorem bExtraS : Builder.Extra Tryz.prog Tryz.bst_ren := { sizeBuilder := by kernel_rfl, liesBuilder := by kernel_rfl, t5 := by kernel_rfl, a5 := fun _ => by kernel_rfl, z5 := fun _ => by kernel_rfl, v5 := fun _ => by kernel_rfl, infoByte := by kernel_rfl, cellsByte := by kernel_rfl, sizeByte := by kernel_rfl, neB5 := by decide }
theorem wRepeat (k : Nat) (hk : k ≤ 9) : PCalls Tryz.prog 92 [dS [48], dI k] (.d (dS (List.replicate k 48))) :=
  PCalls.of_any (us := [vS (List.replicate k 48)]) rfl (one_all _ rfl) fun F w vals hl hr hg => by
    obtain rfl : vals = [vS [48], .int .i64 k] := vals_of (us := [vS [48], .int .i64 k]) hl hr
    have e : Lib.repeatL [48] k = List.replicate k 48 := by
      have := Lib.repeatL_replicate 48 1 k
      rwa [Nat.mul_one] at this
    refine (Any.strings_Repeat Tryz.repeat bExtraR ⟨#[48]⟩ k w (by omega) (by show 1 * k ≤ _; omega)).mono ?_
    rintro en w' ⟨rfl, h⟩
    refine ⟨?_, h⟩
    show Ending.returned (.string ⟨(Lib.repeatL [48] k).toArray⟩) = _
    rw [e]
theorem text_pos {l : List Nat} {x : Nat} (hg : gok (l ++ [x])) (hx : x ≠ 0) (b : Bool) : canon (sg b (gval (l ++ [x]))) = (if b then [45] else []) ++ fmt x ++ pads l := by
  have h1 := dec_groups (gok_append.1 hg).1 hx
  have h2 : gval (l ++ [x]) ≠ 0 := by
    rw [gval_snoc]
    have : 0 < 1000000000 ^ l.length * x := Nat.mul_pos (Nat.pow_pos (by decide)) (by omega)
    omega
  have h3 : fmt x = dec x := by unfold fmt; rw [if_neg hx]
  unfold canon sg
  cases b with
  | true =>
    simp only [if_true]
    rw [if_pos (by omega), Int.natAbs_neg, Int.natAbs_natCast, h1, h3]
    rfl
  | false =>
    simp only [Bool.false_eq_true, if_false]
    rw [if_neg (by omega), Int.natAbs_natCast, h1, h3]
    rfl
theorem text_zero {l : List Nat} (h : cutG l = []) (b : Bool) : canon (sg b (gval l)) = [] := by
  rw [← cutG_gval, h]
  cases b <;> exact canon_zero
theorem fmt_pos (n : Nat) : 0 < (fmt n).length := by
  unfold fmt
  split
  · decide
  · rename_i h
    rcases Nat.eq_zero_or_pos (dec n).length with e | e
    · have := natOf_dec n
      rw [List.length_eq_zero_iff.1 e] at this
      exact absurd this.symm h
    · exact e
theorem pads_next {l : List Nat} {j y : Nat} (h : l[j]? = some y) : pads (l.drop j) = pads (l.drop (j + 1)) ++ padk 9 y := by
  obtain ⟨h1, h2⟩ := List.getElem?_eq_some_iff.1 h
  rw [List.drop_eq_getElem_cons h1, h2, pads]
end Go.Proofs.YtdkpmnefoobipaaGreatDoor
namespace Go.Proofs.YtdkpmnefoobipaaGreatDoor
open Go.RowKit Px

theorem cutG_len (l : List Nat) : (cutG l).length ≤ l.length := by
  induction l with
  | nil => simp [cutG]
  | cons x l ih =>
    rw [cutG]
    split
    · simp
    · simp only [List.length_cons]; omega
set_option maxRecDepth 20000 in
set_option maxHeartbeats 2000000 in
theorem wText (b : Bool) (l : List Nat) (hg : gok l) (hl : l.length ≤ 1000000) : PCalls Tryz.prog 55 [.agg (dNum b l)] (.d (dS (canon (sg b (gval l))))) := by
  have c1 := wCut l hl
  have hcl := cutG_len l
  have hcg := cutG_gok hg
  obtain ⟨r, hr⟩ : ∃ r, r = canon (sg b (gval l)) := ⟨_, rfl⟩
  rw [← hr]
  rcases List.eq_nil_or_concat (cutG l) with h0 | ⟨l', x, h0⟩
  · have hr0 : r = [] := by rw [hr, text_zero h0]
    subst hr0
    rw [h0] at c1
    refine pcalls_of_pw Tryz.func55 rfl Tryz.ntmps55 Tryz.results55 (by simp) fun B w0 => ?_
    refine pw_seq (pw_region (yK (cs := [_, _]) rfl rfl (yAd rfl (yQ (pw_seq (pw_region (yFb rfl (yLd rfl rfl rfl (yC (c1) rfl rfl ?_))))))))); refine yAd rfl (yQ (pw_seq (pw_seq (pw_region (yMd rfl (yN rfl (yB rfl rfl rfl rfl (yQ (pw_ct rfl ?_))))))))); refine pw_seq (pw_region (yAd rfl (yQ (pw_ret (q_then_ret ?_)))))
    exact q_ret _ (.tmp rfl .nil) rfl
  have hlast := cutG_last l
  have hgv := cutG_gval l
  rw [List.concat_eq_append] at h0
  rw [h0] at c1 hcl hcg hlast hgv
  have hx0 : x ≠ 0 := by rintro rfl; simp at hlast
  have hx9 : x < 1000000000 := hcg x (by simp)
  have hy9 : ∀ j y, l'[j]? = some y → y < 1000000000 := fun j y hy => hcg y (List.mem_append_left _ (List.mem_of_getElem? hy))
  have htp := text_pos hcg hx0 b
  rw [hgv, ← hr] at htp
  obtain ⟨m, hm⟩ : ∃ m, m = l' ++ [x] := ⟨_, rfl⟩
  have hml : m.length = l'.length + 1 := by rw [hm]; simp
  have hmx : m[l'.length]? = some x := by rw [hm]; simp
  have hmi : ∀ i y, l'[i]? = some y → m[i]? = some y := fun i y hy => by rw [hm, List.getElem?_append_left (List.getElem?_eq_some_iff.1 hy).1]; exact hy
  rw [← hm] at c1
  have hll : l'.length ≤ 1000000 := by simp at hcl; omega
  clear hr h0 hlast hgv hcg hm
  obtain ⟨s, hs⟩ : ∃ s, s = fmt x := ⟨_, rfl⟩
  have hs0 : 0 < s.length := by rw [hs]; exact fmt_pos x
  have hs9 : s.length ≤ 9 := by rw [hs]; exact fmt_len (k := 9) (by omega) (by decide)
  have c2 := wFmtU x (by omega)
  rw [← hs] at c2 htp
  clear hs
  have u1 : (((m.map dG).length : Int) == 0) = false := by rw [List.length_map, hml]; simp; omega
  have hw1 : IntKind.i64.wrap (((m.map dG).length : Int) - 1) = (l'.length : Int) := by rw [List.length_map, wrapI _ (by omega)]; omega
  have hw2 : IntKind.i64.wrap (((m.map dG).length : Int) - 2) = (l'.length : Int) - 1 := by rw [List.length_map, wrapI _ (by omega)]; omega
  have ex := ix dG m (l'.length : Int) l'.length x rfl hmx
  cases b with
  | true =>
    have hrl : r = [45] ++ s ++ pads l' := by rw [htp]; rfl
    refine pcalls_of_pw Tryz.func55 rfl Tryz.ntmps55 Tryz.results55 (by simp) fun B w0 => ?_
    refine pw_seq (pw_region (yK (cs := [_, _]) rfl rfl (yAd rfl (yQ (pw_seq (pw_region (yFb rfl (yLd rfl rfl rfl (yC (c1) rfl rfl ?_))))))))); refine yAd rfl (yQ (pw_seq (pw_seq (pw_region (yMd rfl (yN rfl (yB rfl rfl rfl rfl (yQ (q_then ?_))))))))); rw [u1]; refine pw_cf rfl (pw_skip (pw_seq (pw_region (yQa rfl (yQ ?_))))); refine pw_tokb 4 1 uT 1 rfl rfl rfl rfl ?_; refine pw_seq (pw_seq (pw_region (yFb rfl (yLd rfl rfl rfl (yQ (pw_ct rfl (pw_region ?_))))))); refine yCx (wWbF [] 45 (by simp)) rfl ⟨rfl, trivial⟩ ⟨rfl, trivial⟩ ?_ (hfit := by kernel_rfl); refine yQ (pw_seq (pw_region (yMd rfl (yMd rfl (yN rfl (yB rfl rfl rfl rfl ?_)))))); rw [hw1]; refine yW ex (by omega) rfl rfl (yLr rfl rfl (yC (c2) rfl rfl ?_)); refine yCx (wWsU [45] s (by simp) (by omega) hs0) rfl ⟨rfl, trivial⟩ ⟨rfl, trivial⟩ ?_ (hfit := by kernel_rfl); refine yQ (pw_seq (pw_seq (pw_region (yMd rfl (yN rfl (yB rfl rfl rfl rfl (yAd rfl (yQ (pw_block ?_))))))))); rw [hw2]
    refine pw_loop (fun j : Nat => ⟨44, [(3, .d (.sl 1 (m.map dG))), (4, .tx 4 bT 2), (5, .d (dI ((j : Int) - 1)))], [(4, [.tx 4 bT 2, .ts uT 1 (([45] ++ s ++ pads (l'.drop j)).map dY)])], [(uT, (([45] ++ s ++ pads (l'.drop j)).map dY).length)]⟩) (fun j => j ≤ l'.length) (fun j => j) l'.length (Nat.le_refl _)
      ⟨rfl, ⟨.refl _, .refl _, .refl _, trivial⟩, ⟨⟨_, rfl, .refl _, .of_eq (by simp [pads]), trivial⟩, trivial⟩, ⟨(by first | (simp [pads]; done) | (simp [pads]; rfl)), trivial⟩, rfl⟩ ?_
    intro j hj
    rcases Nat.eq_zero_or_pos j with h0 | h0
    · subst h0
      have u2 : decide (((0 : Nat) : Int) - 1 ≥ 0) = false := decide_eq_false (by omega)
      rw [List.drop_zero, ← hrl]
      have hr0 : r ≠ [] := by rw [hrl]; intro e; have := congrArg List.length e; rw [List.length_append, List.length_append] at this; simp only [List.length_nil] at this; omega
      refine pw_tx 4 rfl ?_; refine pw_seq (pw_seq (pw_region (yMd rfl (yB rfl rfl rfl rfl (yQ (pw_cf rfl (pw_exit (pw_seq (pw_region ?_))))))))); refine yStr (l := r) Tryz.bst bExtraS rfl rfl hr0 rfl rfl rfl rfl (yAd rfl (yQ (pw_ret ?_))); rw [u2]
      exact q_ret _ (.tmp rfl .nil) rfl
    obtain ⟨i, rfl⟩ : ∃ i, j = i + 1 := ⟨j - 1, by omega⟩
    have u2 : decide (((i + 1 : Nat) : Int) - 1 ≥ 0) = true := decide_eq_true (by omega)
    obtain ⟨y, hy⟩ : ∃ y, l'[i]? = some y := ⟨_, List.getElem?_eq_getElem (by omega)⟩
    have ey := ix dG m (((i + 1 : Nat) : Int) - 1) i y (by omega) (hmi i y hy)
    have hyl := hy9 i y hy
    have hnx := pads_next hy
    have hfp := fmt_pad (k := 9) (n := y) (by omega) (by decide)
    have hfl := fmt_len (k := 9) (n := y) (by omega) (by decide)
    have c3 := wFmtU y (by omega)
    obtain ⟨t, ht⟩ : ∃ t, t = fmt y := ⟨_, rfl⟩
    rw [← ht] at c3 hfp hfl
    have c4 := wRepeat (9 - t.length) (by omega)
    obtain ⟨z, hz⟩ : ∃ z, z = List.replicate (9 - t.length) (48 : UInt8) := ⟨_, rfl⟩
    have hzl : z.length = 9 - t.length := by rw [hz]; simp
    rw [← hz] at c4 hfp
    have hw3 : IntKind.i64.wrap (9 - (t.length : Int)) = ((9 - t.length : Nat) : Int) := by rw [wrapI _ (by omega)]; omega
    have hw4 : IntKind.i64.wrap (((i + 1 : Nat) : Int) - 1 - 1) = (i : Int) - 1 := by rw [wrapI _ (by omega)]; omega
    have hpl : (pads (l'.drop (i + 1))).length ≤ 9000000 := by rw [pads_length, List.length_drop]; omega
    obtain ⟨p, hp⟩ : ∃ p, p = pads (l'.drop (i + 1)) := ⟨_, rfl⟩
    rw [← hp] at hnx hpl ⊢
    refine pw_seq (pw_seq (pw_region (yMd rfl (yB rfl rfl rfl rfl (yQ (q_then ?_)))))); rw [u2]; refine pw_ct rfl (pw_skip (pw_seq (pw_block (pw_seq (pw_region (yMd rfl (yMd rfl (yW ey (by omega) rfl rfl (yLr rfl rfl ?_))))))))); refine yC (c3) rfl rfl (yAd rfl (yQ (pw_region (yMd rfl (yNs rfl (yB rfl rfl rfl rfl ?_)))))); rw [hw3]; refine yC (c4) rfl rfl (yMd rfl (yBsa (l1 := z) (l2 := t) (by omega) rfl rfl ?_)); refine yCx (wWsU ([45] ++ s ++ p) (z ++ t) (by simp; omega) (by simp; omega) (by simp; omega)) rfl ⟨rfl, trivial⟩ ⟨rfl, trivial⟩ ?_ (hfit := by kernel_rfl); refine yQ (pw_region (yMd rfl (yB rfl rfl rfl rfl (yAd rfl (yQ (q_then ?_)))))); rw [hw4]
    refine ⟨i, by omega, by omega, rfl, ⟨.refl _, .refl _, .refl _, trivial⟩, ⟨⟨_, rfl, .refl _, .of_eq ?_, trivial⟩, trivial⟩, ⟨?_, trivial⟩, rfl⟩
    · rw [hnx, hfp, List.append_assoc ([45] ++ s) p]
    · rw [hnx, hfp, List.append_assoc ([45] ++ s) p]; rfl
  | false =>
    have hrl : r = ([] : Str) ++ s ++ pads l' := by rw [htp]; rfl
    refine pcalls_of_pw Tryz.func55 rfl Tryz.ntmps55 Tryz.results55 (by simp) fun B w0 => ?_
    refine pw_seq (pw_region (yK (cs := [_, _]) rfl rfl (yAd rfl (yQ (pw_seq (pw_region (yFb rfl (yLd rfl rfl rfl (yC (c1) rfl rfl ?_))))))))); refine yAd rfl (yQ (pw_seq (pw_seq (pw_region (yMd rfl (yN rfl (yB rfl rfl rfl rfl (yQ (q_then ?_))))))))); rw [u1]; refine pw_cf rfl (pw_skip (pw_seq (pw_region (yQa rfl (yQ ?_))))); refine pw_tokb 4 1 uT 1 rfl rfl rfl rfl ?_; refine pw_seq (pw_seq (pw_region (yFb rfl (yLd rfl rfl rfl (yQ (pw_cf rfl (pw_skip (pw_seq (pw_region ?_))))))))); refine yMd rfl (yMd rfl (yN rfl (yB rfl rfl rfl rfl ?_))); rw [hw1]
    refine yW ex (by omega) rfl rfl (yLr rfl rfl (yC (c2) rfl rfl ?_)); refine yCx (wWsF [] s (by simp) (by omega) hs0) rfl ⟨rfl, trivial⟩ ⟨rfl, trivial⟩ ?_ (hfit := by kernel_rfl); refine yQ (pw_seq (pw_seq (pw_region (yMd rfl (yN rfl (yB rfl rfl rfl rfl (yAd rfl (yQ (pw_block ?_))))))))); rw [hw2]
    refine pw_loop (fun j : Nat => ⟨44, [(3, .d (.sl 1 (m.map dG))), (4, .tx 4 bT 2), (5, .d (dI ((j : Int) - 1)))], [(4, [.tx 4 bT 2, .ts uT 1 ((([] : Str) ++ s ++ pads (l'.drop j)).map dY)])], [(uT, ((([] : Str) ++ s ++ pads (l'.drop j)).map dY).length)]⟩) (fun j => j ≤ l'.length) (fun j => j) l'.length (Nat.le_refl _)
      ⟨rfl, ⟨.refl _, .refl _, .refl _, trivial⟩, ⟨⟨_, rfl, .refl _, .of_eq (by simp [pads]), trivial⟩, trivial⟩, ⟨(by first | (simp [pads]; done) | (simp [pads]; rfl)), trivial⟩, rfl⟩ ?_
    intro j hj
    rcases Nat.eq_zero_or_pos j with h0 | h0
    · subst h0
      have u2 : decide (((0 : Nat) : Int) - 1 ≥ 0) = false := decide_eq_false (by omega)
      rw [List.drop_zero, ← hrl]
      have hr0 : r ≠ [] := by rw [hrl]; intro e; have := congrArg List.length e; rw [List.length_append, List.length_append] at this; simp only [List.length_nil] at this; omega
      refine pw_tx 4 rfl ?_; refine pw_seq (pw_seq (pw_region (yMd rfl (yB rfl rfl rfl rfl (yQ (pw_cf rfl (pw_exit (pw_seq (pw_region ?_))))))))); refine yStr (l := r) Tryz.bst bExtraS rfl rfl hr0 rfl rfl rfl rfl (yAd rfl (yQ (pw_ret ?_))); rw [u2]
      exact q_ret _ (.tmp rfl .nil) rfl
    obtain ⟨i, rfl⟩ : ∃ i, j = i + 1 := ⟨j - 1, by omega⟩
    have u2 : decide (((i + 1 : Nat) : Int) - 1 ≥ 0) = true := decide_eq_true (by omega)
    obtain ⟨y, hy⟩ : ∃ y, l'[i]? = some y := ⟨_, List.getElem?_eq_getElem (by omega)⟩
    have ey := ix dG m (((i + 1 : Nat) : Int) - 1) i y (by omega) (hmi i y hy)
    have hyl := hy9 i y hy
    have hnx := pads_next hy
    have hfp := fmt_pad (k := 9) (n := y) (by omega) (by decide)
    have hfl := fmt_len (k := 9) (n := y) (by omega) (by decide)
    have c3 := wFmtU y (by omega)
    obtain ⟨t, ht⟩ : ∃ t, t = fmt y := ⟨_, rfl⟩
    rw [← ht] at c3 hfp hfl
    have c4 := wRepeat (9 - t.length) (by omega)
    obtain ⟨z, hz⟩ : ∃ z, z = List.replicate (9 - t.length) (48 : UInt8) := ⟨_, rfl⟩
    have hzl : z.length = 9 - t.length := by rw [hz]; simp
    rw [← hz] at c4 hfp
    have hw3 : IntKind.i64.wrap (9 - (t.length : Int)) = ((9 - t.length : Nat) : Int) := by rw [wrapI _ (by omega)]; omega
    have hw4 : IntKind.i64.wrap (((i + 1 : Nat) : Int) - 1 - 1) = (i : Int) - 1 := by rw [wrapI _ (by omega)]; omega
    have hpl : (pads (l'.drop (i + 1))).length ≤ 9000000 := by rw [pads_length, List.length_drop]; omega
    obtain ⟨p, hp⟩ : ∃ p, p = pads (l'.drop (i + 1)) := ⟨_, rfl⟩
    rw [← hp] at hnx hpl ⊢
    refine pw_seq (pw_seq (pw_region (yMd rfl (yB rfl rfl rfl rfl (yQ (q_then ?_)))))); rw [u2]; refine pw_ct rfl (pw_skip (pw_seq (pw_block (pw_seq (pw_region (yMd rfl (yMd rfl (yW ey (by omega) rfl rfl (yLr rfl rfl ?_))))))))); refine yC (c3) rfl rfl (yAd rfl (yQ (pw_region (yMd rfl (yNs rfl (yB rfl rfl rfl rfl ?_)))))); rw [hw3]; refine yC (c4) rfl rfl (yMd rfl (yBsa (l1 := z) (l2 := t) (by omega) rfl rfl ?_)); refine yCx (wWsU (([] : Str) ++ s ++ p) (z ++ t) (by simp; omega) (by simp; omega) (by simp; omega)) rfl ⟨rfl, trivial⟩ ⟨rfl, trivial⟩ ?_ (hfit := by kernel_rfl); refine yQ (pw_region (yMd rfl (yB rfl rfl rfl rfl (yAd rfl (yQ (q_then ?_)))))); rw [hw4]
    refine ⟨i, by omega, by omega, rfl, ⟨.refl _, .refl _, .refl _, trivial⟩, ⟨⟨_, rfl, .refl _, .of_eq ?_, trivial⟩, trivial⟩, ⟨?_, trivial⟩, rfl⟩
    · rw [hnx, hfp, List.append_assoc (([] : Str) ++ s) p]
    · rw [hnx, hfp, List.append_assoc (([] : Str) ++ s) p]; rfl
end Go.Proofs.YtdkpmnefoobipaaGreatDoor
namespace Go.Proofs.YtdkpmnefoobipaaGreatDoor
open Go.RowKit Px

namespace Px
section
variable {P : Program} {sq : Bool} {ops : Array Oper} {K : PS → Prop} {rest : List Oper} {st : PS} {d : Option Nat} {ty : TypeId} {pos : String} {af : Array Edge} {gd : Option (Nat × Bool)}
theorem run_eql_bool (t : Nat) (o1 o2 : Operand) (a b : Bool) (hp : P.underlying t = some .bool) (w : World) : (eqGuard .eql t o1 o2 (.bool a) (.bool b) >>= fun _ => binOp .eql t (.bool a) (.bool b)).run P w = .ok (.bool (a == b)) w := by
  simp [eqGuard, binOp, go_sem, run_equal_bool w t a b hp]
theorem yBb {t t' : Nat} {x y : Operand} {a b c : Bool} (hp : P.underlying t = some .bool) (hc : (a == b) = c) (hx : st.ev x = .d (.val (.bool a))) (hy : st.ev y = .d (.val (.bool b))) (h : YR P sq ops K rest (st.put d (.d (.val (.bool c))))) (hd : dstOk ⟨d, .binOp .eql t x y t', ty, pos, af, gd⟩ st = true := by kernel_rfl) (hk : opOk ⟨d, .binOp .eql t x y t', ty, pos, af, gd⟩ st .no = true := by kernel_rfl) (hw : st.want ops ⟨d, .binOp .eql t x y t', ty, pos, af, gd⟩ = some true := by rfl) :
    YR P sq ops K (⟨d, .binOp .eql t x y t', ty, pos, af, gd⟩ :: rest) st := by
  subst hc
  exact yr_v (ls_bin_run .eql t t' x y hx hy (run_eql_bool t x y a b hp) rfl hd) hk hw h
end
end Px
set_option maxRecDepth 20000 in
set_option maxHeartbeats 1000000 in
theorem wMinusN : PCalls Tryz.prog 85 [.val (.slice none 0 0), .val (.slice none 0 0)] (.d (.sl 1 [])) := by
  have c1 := wCloneNil
  have c2 : PCalls Tryz.prog 88 [.val (.slice none 0 0)] (.d (.sl 1 [])) := mg1 (m := []) (wCut [] (by simp))
  refine pcalls_of_pw Tryz.func85 rfl Tryz.ntmps85 Tryz.results85 (by simp) fun B w0 => ?_
  refine pw_seq (pw_region (yAd rfl (yQ (pw_seq (pw_region (yMd rfl (yC (c1) rfl rfl (yAd rfl (yQ ?_))))))))); refine pw_seq (pw_region (yAd rfl (yQ (pw_seq (pw_seq (pw_region (yMd rfl (yNl rfl (yMd rfl ?_))))))))); refine yQ (pw_block ?_); refine pw_loop (fun i : Nat => ⟨49, [(5, .d (.val (.slice none 0 0))), (12, .d (dI 0)), (13, .d (dI 0))], [], []⟩) (fun i => i = 0) (fun i => i) 0 rfl ⟨rfl, ⟨.refl _, .refl _, .refl _, trivial⟩, trivial, trivial, rfl⟩ ?_
  intro i hi
  refine pw_seq (pw_region (yB rfl rfl rfl rfl (yQ (pw_seq (pw_cf rfl (pw_exit (pw_seq (pw_region (yMd rfl ?_))))))))); refine yC (c2) rfl rfl (yAd rfl (yQ (pw_ret ?_)))
  exact q_ret _ (.tmp rfl .nil) rfl
theorem wMinus (m n : List Nat) (hgm : gok m) (hgn : gok n) (hle : n.length ≤ m.length) (hlm : m.length ≤ 1000000) : PCalls Tryz.prog 85 [dMg m, dMg n] (.d (.sl 1 ((cutG (subS m n m.length).1).map dG))) := by
  cases m with
  | nil =>
    have hn : n = [] := List.length_eq_zero_iff.1 (Nat.le_zero.1 hle)
    subst hn
    exact wMinusN
  | cons x m => exact mg2 (wMinusP (x :: m) n hgm hgn (by simp) hlm)

def addN (b1 : Bool) (l1 : List Nat) (b2 : Bool) (l2 : List Nat) : Bool × List Nat :=
  if b1 = b2 then (b1, plusG l1 l2) else if cmpG l1 l2 < 0 then (b2, cutG (subS l2 l1 l2.length).1) else (b1, cutG (subS l1 l2 l1.length).1)
theorem grp_len_le {x y : Nat} (h : x ≤ y) : (grp x).length ≤ (grp y).length := by
  rcases Nat.lt_or_ge (grp y).length (grp x).length with h1 | h1
  · have := grp_lt_of_len h1
    omega
  · exact h1
theorem sub_grp {x y : Nat} (h : y ≤ x) : gok (cutG (subS (grp x) (grp y) (grp x).length).1) ∧ gval (cutG (subS (grp x) (grp y) (grp x).length).1) = x - y := by
  have h1 := subS_end (gok_grp x) (gok_grp y) (grp_len_le h) (by rw [gval_grp, gval_grp]; exact h)
  rw [gval_grp, gval_grp] at h1
  exact ⟨cutG_gok h1.1, by rw [cutG_gval]; exact h1.2⟩
theorem addN_spec (b1 b2 : Bool) (x y : Nat) : gok (addN b1 (grp x) b2 (grp y)).2 ∧ sg (addN b1 (grp x) b2 (grp y)).1 (gval (addN b1 (grp x) b2 (grp y)).2) = sg b1 x + sg b2 y := by
  unfold addN
  by_cases h : b1 = b2
  · rw [if_pos h]
    subst h
    obtain ⟨h1, h2⟩ := plusG_spec (gok_grp x) (gok_grp y)
    refine ⟨h1, ?_⟩
    rw [h2, gval_grp, gval_grp]
    cases b1 <;> simp [sg] <;> omega
  · rw [if_neg h]
    have hc := (cmpG_spec x y).1
    by_cases hlt : cmpG (grp x) (grp y) < 0
    · rw [if_pos hlt]
      have hxy := hc.1 hlt
      obtain ⟨h1, h2⟩ := sub_grp (Nat.le_of_lt hxy)
      refine ⟨h1, ?_⟩
      show sg b2 (gval _) = _
      rw [h2]
      cases b1 <;> cases b2 <;> simp [sg] at h ⊢ <;> omega
    · rw [if_neg hlt]
      have hxy : y ≤ x := by
        rcases Nat.lt_or_ge x y with h3 | h3
        · exact absurd (hc.2 h3) hlt
        · exact h3
      obtain ⟨h1, h2⟩ := sub_grp hxy
      refine ⟨h1, ?_⟩
      show sg b1 (gval _) = _
      rw [h2]
      cases b1 <;> cases b2 <;> simp [sg] at h ⊢ <;> omega
theorem addN_len (b1 b2 : Bool) {l1 l2 : List Nat} (h1 : gok l1) (h2 : gok l2) : (addN b1 l1 b2 l2).2.length ≤ l1.length + l2.length + 1 := by
  unfold addN
  split
  · have := (addS_spec h1 h2 (max l1.length l2.length)).1
    unfold plusG
    show List.length (_ ++ _) ≤ _
    rw [List.length_append, this]
    split <;> simp <;> omega
  · split
    · have := cutG_len (subS l2 l1 l2.length).1
      have h3 := (subS_spec h2 h1 l2.length).1
      show List.length (cutG _) ≤ _
      omega
    · have := cutG_len (subS l1 l2 l1.length).1
      have h3 := (subS_spec h1 h2 l1.length).1
      show List.length (cutG _) ≤ _
      omega

set_option maxRecDepth 20000 in
set_option maxHeartbeats 2000000 in
theorem wNAdd (b1 b2 : Bool) (x y : Nat) (h1 : (grp x).length ≤ 1000000) (h2 : (grp y).length ≤ 1000000) : PCalls Tryz.prog 53 [.agg (dNm b1 (grp x)), .agg (dNm b2 (grp y))] (.d (.agg (dNum (addN b1 (grp x) b2 (grp y)).1 (addN b1 (grp x) b2 (grp y)).2))) := by
  have c1 := mg2 (wPlus (grp x) (grp y) (gok_grp x) (gok_grp y) h1 h2)
  have c2 := mg2 (wCompare (grp x) (grp y) h1 h2)
  have hc := (cmpG_spec x y).1
  have c3 : ¬ cmpG (grp x) (grp y) < 0 → PCalls Tryz.prog 85 [dMg (grp x), dMg (grp y)] _ := fun h => wMinus (grp x) (grp y) (gok_grp x) (gok_grp y) (grp_len_le (by
    rcases Nat.lt_or_ge x y with h3 | h3
    · exact absurd (hc.2 h3) h
    · exact h3)) h1
  have c4 : cmpG (grp x) (grp y) < 0 → PCalls Tryz.prog 85 [dMg (grp y), dMg (grp x)] _ := fun h => wMinus (grp y) (grp x) (gok_grp y) (gok_grp x) (grp_len_le (Nat.le_of_lt (hc.1 h))) h2
  unfold addN
  obtain ⟨z1, hz1⟩ : ∃ z, z = plusG (grp x) (grp y) := ⟨_, rfl⟩
  obtain ⟨z2, hz2⟩ : ∃ z, z = cutG (subS (grp y) (grp x) (grp y).length).1 := ⟨_, rfl⟩
  obtain ⟨z3, hz3⟩ : ∃ z, z = cutG (subS (grp x) (grp y) (grp x).length).1 := ⟨_, rfl⟩
  rw [← hz1] at c1
  rw [← hz2] at c4
  rw [← hz3] at c3
  rw [← hz1, ← hz2, ← hz3]
  obtain ⟨k, hk⟩ : ∃ k, k = cmpG (grp x) (grp y) := ⟨_, rfl⟩
  rw [← hk] at c2 c3 c4 ⊢
  obtain ⟨dx, hdx⟩ : ∃ d, d = dMg (grp x) := ⟨_, rfl⟩
  obtain ⟨dy, hdy⟩ : ∃ d, d = dMg (grp y) := ⟨_, rfl⟩
  rw [← hdx, ← hdy] at c1 c2 c3 c4
  rw [dNm, dNm, ← hdx, ← hdy]
  clear hz1 hz2 hz3 hk hdx hdy hc
  cases b1 <;> cases b2
  · rw [if_pos rfl]
    refine pcalls_of_pw Tryz.func53 rfl Tryz.ntmps53 Tryz.results53 (by simp) fun B w0 => ?_
    refine pw_seq (pw_region (yK (cs := [_, _]) rfl rfl (yK (cs := [_, _]) rfl rfl (yZ (cs := [_, _]) rfl rfl (yQ (pw_seq (pw_seq (pw_region (yFb rfl ?_))))))))); refine yLd rfl rfl rfl (yFb rfl (yLd rfl rfl rfl (yBb (c := true) Tryz.underlying4 rfl rfl rfl (yQ (pw_ct rfl (pw_seq ?_)))))); refine pw_draw2 (id := 2) Tryz.mixed (by kernel_rfl) ?_; refine yFb rfl (yLd rfl rfl rfl (yFb rfl (yLd rfl rfl rfl (yFb rfl (yLd rfl rfl rfl (yC (c1) rfl rfl (yG (ys := [_, _]) rfl rfl (yS (cs' := [_, _]) rfl rfl rfl rfl rfl (yQ ?_))))))))); refine Px.Sep.mk (by kernel_rfl) ?_; refine pw_ret (q_then_ret ?_)
    exact q_ret _ (.agg inferInstance rfl rfl rfl rfl .nil) rfl
  · rw [if_neg (by decide)]
    by_cases hk : k < 0
    · rw [if_pos hk]
      have c4 := c4 hk
      have u : decide (k < 0) = true := decide_eq_true hk
      refine pcalls_of_pw Tryz.func53 rfl Tryz.ntmps53 Tryz.results53 (by simp) fun B w0 => ?_
      refine pw_seq (pw_region (yK (cs := [_, _]) rfl rfl (yK (cs := [_, _]) rfl rfl (yZ (cs := [_, _]) rfl rfl (yQ (pw_seq (pw_seq (pw_region (yFb rfl ?_))))))))); refine yLd rfl rfl rfl (yFb rfl (yLd rfl rfl rfl (yBb (c := false) Tryz.underlying4 rfl rfl rfl (yQ (pw_cf rfl (pw_skip (pw_seq (pw_seq (pw_region ?_))))))))); refine yFb rfl (yLd rfl rfl rfl (yFb rfl (yLd rfl rfl rfl (yC (c2) rfl rfl (yB rfl rfl rfl rfl (yQ (q_then ?_))))))); rw [u]
      refine pw_ct rfl (pw_region (yLa (ys := [_, _]) rfl rfl rfl rfl (yLa (ys := [_, _]) rfl rfl rfl rfl (yS (cs' := [_, _]) rfl rfl rfl rfl rfl (yS (cs' := [_, _]) rfl rfl rfl rfl rfl (yQ (pw_seq ?_))))))); refine pw_draw2 (id := 5) Tryz.mixed (by kernel_rfl) ?_; refine yFb rfl (yLd rfl rfl rfl (yFb rfl (yLd rfl rfl rfl (yFb rfl (yLd rfl rfl rfl (yC (c4) rfl rfl (yG (ys := [_, _]) rfl rfl (yS (cs' := [_, _]) rfl rfl rfl rfl rfl (yQ ?_))))))))); refine Px.Sep.mk (by kernel_rfl) ?_; refine pw_ret ?_
      exact q_ret _ (.agg inferInstance rfl rfl rfl rfl .nil) rfl
    · rw [if_neg hk]
      have c3 := c3 hk
      have u : decide (k < 0) = false := decide_eq_false hk
      refine pcalls_of_pw Tryz.func53 rfl Tryz.ntmps53 Tryz.results53 (by simp) fun B w0 => ?_
      refine pw_seq (pw_region (yK (cs := [_, _]) rfl rfl (yK (cs := [_, _]) rfl rfl (yZ (cs := [_, _]) rfl rfl (yQ (pw_seq (pw_seq (pw_region (yFb rfl ?_))))))))); refine yLd rfl rfl rfl (yFb rfl (yLd rfl rfl rfl (yBb (c := false) Tryz.underlying4 rfl rfl rfl (yQ (pw_cf rfl (pw_skip (pw_seq (pw_seq (pw_region ?_))))))))); refine yFb rfl (yLd rfl rfl rfl (yFb rfl (yLd rfl rfl rfl (yC (c2) rfl rfl (yB rfl rfl rfl rfl (yQ (q_then ?_))))))); rw [u]
      refine pw_cf rfl (pw_skip (pw_seq ?_)); refine pw_draw2 (id := 5) Tryz.mixed (by kernel_rfl) ?_; refine yFb rfl (yLd rfl rfl rfl (yFb rfl (yLd rfl rfl rfl (yFb rfl (yLd rfl rfl rfl (yC (c3) rfl rfl (yG (ys := [_, _]) rfl rfl (yS (cs' := [_, _]) rfl rfl rfl rfl rfl (yQ ?_))))))))); refine Px.Sep.mk (by kernel_rfl) ?_; refine pw_ret ?_
      exact q_ret _ (.agg inferInstance rfl rfl rfl rfl .nil) rfl
  · rw [if_neg (by decide)]
    by_cases hk : k < 0
    · rw [if_pos hk]
      have c4 := c4 hk
      have u : decide (k < 0) = true := decide_eq_true hk
      refine pcalls_of_pw Tryz.func53 rfl Tryz.ntmps53 Tryz.results53 (by simp) fun B w0 => ?_
      refine pw_seq (pw_region (yK (cs := [_, _]) rfl rfl (yK (cs := [_, _]) rfl rfl (yZ (cs := [_, _]) rfl rfl (yQ (pw_seq (pw_seq (pw_region (yFb rfl ?_))))))))); refine yLd rfl rfl rfl (yFb rfl (yLd rfl rfl rfl (yBb (c := false) Tryz.underlying4 rfl rfl rfl (yQ (pw_cf rfl (pw_skip (pw_seq (pw_seq (pw_region ?_))))))))); refine yFb rfl (yLd rfl rfl rfl (yFb rfl (yLd rfl rfl rfl (yC (c2) rfl rfl (yB rfl rfl rfl rfl (yQ (q_then ?_))))))); rw [u]
      refine pw_ct rfl (pw_region (yLa (ys := [_, _]) rfl rfl rfl rfl (yLa (ys := [_, _]) rfl rfl rfl rfl (yS (cs' := [_, _]) rfl rfl rfl rfl rfl (yS (cs' := [_, _]) rfl rfl rfl rfl rfl (yQ (pw_seq ?_))))))); refine pw_draw2 (id := 5) Tryz.mixed (by kernel_rfl) ?_; refine yFb rfl (yLd rfl rfl rfl (yFb rfl (yLd rfl rfl rfl (yFb rfl (yLd rfl rfl rfl (yC (c4) rfl rfl (yG (ys := [_, _]) rfl rfl (yS (cs' := [_, _]) rfl rfl rfl rfl rfl (yQ ?_))))))))); refine Px.Sep.mk (by kernel_rfl) ?_; refine pw_ret ?_
      exact q_ret _ (.agg inferInstance rfl rfl rfl rfl .nil) rfl
    · rw [if_neg hk]
      have c3 := c3 hk
      have u : decide (k < 0) = false := decide_eq_false hk
      refine pcalls_of_pw Tryz.func53 rfl Tryz.ntmps53 Tryz.results53 (by simp) fun B w0 => ?_
      refine pw_seq (pw_region (yK (cs := [_, _]) rfl rfl (yK (cs := [_, _]) rfl rfl (yZ (cs := [_, _]) rfl rfl (yQ (pw_seq (pw_seq (pw_region (yFb rfl ?_))))))))); refine yLd rfl rfl rfl (yFb rfl (yLd rfl rfl rfl (yBb (c := false) Tryz.underlying4 rfl rfl rfl (yQ (pw_cf rfl (pw_skip (pw_seq (pw_seq (pw_region ?_))))))))); refine yFb rfl (yLd rfl rfl rfl (yFb rfl (yLd rfl rfl rfl (yC (c2) rfl rfl (yB rfl rfl rfl rfl (yQ (q_then ?_))))))); rw [u]
      refine pw_cf rfl (pw_skip (pw_seq ?_)); refine pw_draw2 (id := 5) Tryz.mixed (by kernel_rfl) ?_; refine yFb rfl (yLd rfl rfl rfl (yFb rfl (yLd rfl rfl rfl (yFb rfl (yLd rfl rfl rfl (yC (c3) rfl rfl (yG (ys := [_, _]) rfl rfl (yS (cs' := [_, _]) rfl rfl rfl rfl rfl (yQ ?_))))))))); refine Px.Sep.mk (by kernel_rfl) ?_; refine pw_ret ?_
      exact q_ret _ (.agg inferInstance rfl rfl rfl rfl .nil) rfl
  · rw [if_pos rfl]
    refine pcalls_of_pw Tryz.func53 rfl Tryz.ntmps53 Tryz.results53 (by simp) fun B w0 => ?_
    refine pw_seq (pw_region (yK (cs := [_, _]) rfl rfl (yK (cs := [_, _]) rfl rfl (yZ (cs := [_, _]) rfl rfl (yQ (pw_seq (pw_seq (pw_region (yFb rfl ?_))))))))); refine yLd rfl rfl rfl (yFb rfl (yLd rfl rfl rfl (yBb (c := true) Tryz.underlying4 rfl rfl rfl (yQ (pw_ct rfl (pw_seq ?_)))))); refine pw_draw2 (id := 2) Tryz.mixed (by kernel_rfl) ?_; refine yFb rfl (yLd rfl rfl rfl (yFb rfl (yLd rfl rfl rfl (yFb rfl (yLd rfl rfl rfl (yC (c1) rfl rfl (yG (ys := [_, _]) rfl rfl (yS (cs' := [_, _]) rfl rfl rfl rfl rfl (yQ ?_))))))))); refine Px.Sep.mk (by kernel_rfl) ?_; refine pw_ret (q_then_ret ?_)
    exact q_ret _ (.agg inferInstance rfl rfl rfl rfl .nil) rfl
theorem val_sg (a : Str) : val a = sg (dgs a).2 (natOf (dgs a).1) := by
  unfold val sg
  rfl
theorem rdG_dgs (a : Str) : rdG (dgs a).1 = grp (natOf (dgs a).1) := rdG_grp (dgs_all a) (dgs_head a)
theorem sg_not (b : Bool) (n : Nat) : sg (!b) n = - sg b n := by
  cases b <;> simp [sg]
set_option maxRecDepth 20000 in
set_option maxHeartbeats 1000000 in
theorem wAddT (a b : Str) (ha : a.length ≤ 100000) (hb : b.length ≤ 100000) : PCalls Tryz.prog 26 [dS a, dS b] (.d (dS (canon (val a + val b)))) := by
  have c1 := wReadM a (by omega)
  have c2 := wReadM b (by omega)
  have h1 := Nat.le_trans (rdG_size (dgs a).1) (dgs_len a)
  have h2 := Nat.le_trans (rdG_size (dgs b).1) (dgs_len b)
  rw [rdG_dgs] at c1 c2 h1 h2
  have c3 := wNAdd (dgs a).2 (dgs b).2 (natOf (dgs a).1) (natOf (dgs b).1) (by omega) (by omega)
  obtain ⟨s1, s2⟩ := addN_spec (dgs a).2 (dgs b).2 (natOf (dgs a).1) (natOf (dgs b).1)
  have s3 := addN_len (dgs a).2 (dgs b).2 (gok_grp (natOf (dgs a).1)) (gok_grp (natOf (dgs b).1))
  rw [← val_sg, ← val_sg] at s2
  obtain ⟨z, hz⟩ : ∃ z, z = addN (dgs a).2 (grp (natOf (dgs a).1)) (dgs b).2 (grp (natOf (dgs b).1)) := ⟨_, rfl⟩
  rw [← hz] at c3 s1 s2 s3
  have c4 := wText z.1 z.2 s1 (by omega)
  rw [s2] at c4
  obtain ⟨r, hr⟩ : ∃ r, r = canon (val a + val b) := ⟨_, rfl⟩
  rw [← hr] at c4 ⊢
  obtain ⟨n1, hn1⟩ : ∃ d, d = dNm (dgs a).2 (grp (natOf (dgs a).1)) := ⟨_, rfl⟩
  obtain ⟨n2, hn2⟩ : ∃ d, d = dNm (dgs b).2 (grp (natOf (dgs b).1)) := ⟨_, rfl⟩
  obtain ⟨n3, hn3⟩ : ∃ d, d = dNum z.1 z.2 := ⟨_, rfl⟩
  rw [← hn1] at c1 c3
  rw [← hn2] at c2 c3
  rw [← hn3] at c3 c4
  clear hn1 hn2 hn3 hz s1 s2 s3
  refine pcalls_of_pw Tryz.func26 rfl Tryz.ntmps26 Tryz.results26 (by simp) fun B w0 => ?_
  refine pw_seq (pw_region (yAd rfl (yQ (pw_seq (pw_region (yMd rfl (yC (c1) rfl rfl (yMd rfl (yC (c2) rfl rfl ?_))))))))); refine yC (c3) rfl rfl (yC (c4) rfl rfl (yAd rfl (yQ (pw_ret ?_))))
  exact q_ret _ (.tmp rfl .nil) rfl
set_option maxRecDepth 20000 in
set_option maxHeartbeats 1000000 in
theorem wSubT (a b : Str) (ha : a.length ≤ 100000) (hb : b.length ≤ 100000) : PCalls Tryz.prog 62 [dS a, dS b] (.d (dS (canon (val a - val b)))) := by
  have c1 := wReadM a (by omega)
  have c2 := wReadM b (by omega)
  have h1 := Nat.le_trans (rdG_size (dgs a).1) (dgs_len a)
  have h2 := Nat.le_trans (rdG_size (dgs b).1) (dgs_len b)
  rw [rdG_dgs] at c1 c2 h1 h2
  have c3 := wNAdd (dgs a).2 (!(dgs b).2) (natOf (dgs a).1) (natOf (dgs b).1) (by omega) (by omega)
  obtain ⟨s1, s2⟩ := addN_spec (dgs a).2 (!(dgs b).2) (natOf (dgs a).1) (natOf (dgs b).1)
  have s3 := addN_len (dgs a).2 (!(dgs b).2) (gok_grp (natOf (dgs a).1)) (gok_grp (natOf (dgs b).1))
  rw [sg_not, ← val_sg, ← val_sg, ← Int.sub_eq_add_neg] at s2
  obtain ⟨z, hz⟩ : ∃ z, z = addN (dgs a).2 (grp (natOf (dgs a).1)) (!(dgs b).2) (grp (natOf (dgs b).1)) := ⟨_, rfl⟩
  rw [← hz] at c3 s1 s2 s3
  have c4 := wText z.1 z.2 s1 (by omega)
  rw [s2] at c4
  obtain ⟨r, hr⟩ : ∃ r, r = canon (val a - val b) := ⟨_, rfl⟩
  rw [← hr] at c4 ⊢
  obtain ⟨n1, hn1⟩ : ∃ d, d = dNm (dgs a).2 (grp (natOf (dgs a).1)) := ⟨_, rfl⟩
  obtain ⟨n2, hn2⟩ : ∃ d, d = dMg (grp (natOf (dgs b).1)) := ⟨_, rfl⟩
  obtain ⟨n3, hn3⟩ : ∃ d, d = dNum z.1 z.2 := ⟨_, rfl⟩
  rw [← hn1] at c1 c3
  rw [dNm, ← hn2] at c2 c3
  rw [← hn3] at c3 c4
  obtain ⟨t, ht⟩ : ∃ t, t = (dgs b).2 := ⟨_, rfl⟩
  rw [← ht] at c2 c3
  clear hn1 hn2 hn3 hz s1 s2 s3 ht
  refine pcalls_of_pw Tryz.func62 rfl Tryz.ntmps62 Tryz.results62 (by simp) fun B w0 => ?_
  refine pw_seq (pw_region (yAd rfl (yQ (pw_seq (pw_region (yMd rfl (yC (c2) rfl rfl (yZ (cs := [_, _]) rfl rfl (yS (cs' := [_, _]) rfl rfl rfl rfl rfl ?_))))))))); refine yQ (pw_seq (pw_region (yFb rfl (yLd rfl rfl rfl (yU rfl rfl rfl (yFb rfl (ySd (cs' := [_, _]) rfl rfl rfl rfl (yQ (pw_seq ?_))))))))); refine pw_draw Tryz.mixed (by kernel_rfl) ?_; refine yMd rfl (yC (c1) rfl rfl (yLa (ys := [_, _]) rfl rfl rfl rfl (yC (c3) rfl rfl (yC (c4) rfl rfl (yAd rfl (yQ (pw_ret ?_)))))))
  exact q_ret _ (.tmp rfl .nil) rfl
end Go.Proofs.YtdkpmnefoobipaaGreatDoor
namespace Go.Proofs.YtdkpmnefoobipaaGreatDoor
open Go.RowKit Px

instance : MapOf Tryz.prog 104 (dS []) := ⟨⟨9, 39, by kernel_rfl, by kernel_rfl, fun w => ⟨.string ⟨#[]⟩, by kernel_rfl, fun F w' => DRep.val _ rfl⟩⟩⟩
abbrev exT : Nat := 9 * 100000 + 18
def explR (s t : Stm) (days : Int) : List Str := if ckE s t days = 0 then exN (hdB s.hs t.hs) (ex2 t.ms (pt2 days s.ms t.ms).2 (ex1 s.ms t.ms (pt2 days s.ms t.ms).1 s.ms.length) t.ms.length) (hdB s.hs t.hs).length else []
theorem exP_at {P : List (Option Nat)} {i : Nat} {o : Option Nat} (h : P[i]?.getD none = o) (hi : i < P.length) : ((P.map ixO).map dZ)[((i : Int)).toNat]? = some (dZ (ixO o)) := by
  rw [Int.toNat_natCast, List.getElem?_map, List.getElem?_map, List.getElem?_eq_getElem hi]
  rw [List.getElem?_eq_getElem hi] at h
  subst h
  rfl
set_option maxRecDepth 20000 in
set_option maxHeartbeats 8000000 in
theorem wExplained (s t : Stm) (days : Int) (hs : fitS s) (ht : fitS t) (q1 : ∀ m ∈ s.ms, m.2.2.2.1.length ≤ 1000) (q2 : ∀ m ∈ t.ms, m.2.2.2.1.length ≤ 1000) (q3 : ∀ b ∈ hdB s.hs t.hs, b.2.2.1.length ≤ 1000 ∧ b.2.2.2.length ≤ 1000) : PCalls Tryz.prog 31 [.agg (dSt s), .agg (dSt t), dI days] (.tup [.sl 1 ((explR s t days).map dC), dI (ckE s t days)]) := by
  have c1 := wAll s t days hs ht
  obtain ⟨A0, hA⟩ : ∃ a, a = allR' s t days := ⟨_, rfl⟩
  rw [← hA] at c1
  obtain ⟨ck, hck⟩ : ∃ e, e = ckE s t days := ⟨_, rfl⟩
  obtain ⟨r, hr⟩ : ∃ e, e = explR s t days := ⟨_, rfl⟩
  rw [← hck] at c1 ⊢
  rw [← hr]
  rw [explR, ← hck] at hr
  by_cases h0 : ck = 0
  rotate_left
  · have t1 : (ck != 0) = true := by simpa using h0
    rw [if_neg h0] at hr
    subst hr
    refine pcalls_of_pw Tryz.func31 rfl Tryz.ntmps31 Tryz.results31 (by simp) fun B w0 => ?_
    refine pw_seq (pw_region (yK (cs := [_, _, _]) rfl rfl (yK (cs := [_, _, _]) rfl rfl (yAd rfl (yAd rfl (yQ (pw_seq (pw_region (yLa (ys := [_, _, _]) rfl rfl rfl rfl ?_))))))))); refine yLa (ys := [_, _, _]) rfl rfl rfl rfl (yMd rfl (yC (c1) rfl rfl (yMp rfl (yX rfl rfl (yX rfl rfl (yAd rfl (yAd rfl (yQ (pw_seq ?_))))))))); refine pw_seq (pw_region (yMd rfl (yB rfl rfl rfl rfl (yQ (q_then ?_))))); rw [t1]; refine pw_ct rfl (pw_seq (pw_region (yMd rfl (yAd rfl (yAd rfl (yQ (pw_ret (q_then_ret ?_))))))))
    exact q_ret _ (.tnil 1 rfl (.tmp rfl .nil)) rfl
  rw [if_pos h0] at hr
  have t1 : (ck != 0) = false := by simpa using h0
  obtain ⟨k1, k2, -⟩ := ckE_s (hck ▸ h0 : ckE s t days = 0)
  have c2 := wHoldings s t hs ht
  rw [holdR, ckE_zero (hck ▸ h0 : ckE s t days = 0), if_pos rfl] at c2
  have c3 := wPair s t days hs.ml ht.ml (stE_v k1) (stE_v k2)
  obtain ⟨l1, l2⟩ := pt2_len days s.ms t.ms
  have hlk : ∀ (i k : Nat), (pt2 days s.ms t.ms).1[i]?.getD none = some k → k < t.ms.length := fun i k h => pt2_lt days s.ms t.ms h
  obtain ⟨⟨P, T⟩, hp⟩ : ∃ p, p = pt2 days s.ms t.ms := ⟨_, rfl⟩
  rw [← hp] at c3 l1 l2 hlk hr
  simp only at c3 l1 l2 hlk hr
  obtain ⟨L, hL⟩ : ∃ l, l = hdB s.hs t.hs := ⟨_, rfl⟩
  rw [← hL] at c2 q3 hr
  have hLl : L.length ≤ 1000000 := by
    have := hdB_len s.hs t.hs
    have h1 := hs.hl
    have h2 := ht.hl
    rw [hL]; omega
  have hml := hs.ml
  have htl := ht.ml
  clear hp hck hA hL k1 k2 hs ht
  obtain ⟨d1, hs1, ms⟩ := s
  obtain ⟨d2, hs2, ts⟩ := t
  simp only at c1 c2 c3 q1 q2 q3 l1 l2 hlk hr hml htl
  have hx1 := ex1_len (pl := P) q1 q2
  refine pcalls_of_pw Tryz.func31 rfl Tryz.ntmps31 Tryz.results31 (by simp) fun B w0 => ?_
  refine pw_seq (pw_region (yK (cs := [_, _, _]) rfl rfl (yK (cs := [_, _, _]) rfl rfl (yAd rfl (yAd rfl (yQ (pw_seq (pw_region (yLa (ys := [_, _, _]) rfl rfl rfl rfl ?_))))))))); refine yLa (ys := [_, _, _]) rfl rfl rfl rfl (yMd rfl (yC (c1) rfl rfl (yMp rfl (yX rfl rfl (yX rfl rfl (yAd rfl (yAd rfl (yQ (pw_seq ?_))))))))); refine pw_seq (pw_region (yMd rfl (yB rfl rfl rfl rfl (yQ (q_then ?_))))); rw [t1]; refine pw_cf rfl (pw_skip (pw_seq (pw_region (yLa (ys := [_, _, _]) rfl rfl rfl rfl (yLa (ys := [_, _, _]) rfl rfl rfl rfl (yC (c2) rfl rfl (yMp rfl (yX rfl rfl (yX rfl rfl ?_))))))))); refine yAd rfl (yQ (pw_seq (pw_region (yLa (ys := [_, _, _]) rfl rfl rfl rfl (yLa (ys := [_, _, _]) rfl rfl rfl rfl (yMd rfl (yC (c3) rfl rfl (yMp rfl (yX rfl rfl ?_))))))))); refine yX rfl rfl (yAd rfl (yAd rfl (yQ (pw_seq (pw_region (yKm rfl (yAm rfl (yQ (pw_seq ?_))))))))); refine pw_seq (pw_region (yFb rfl (yLd rfl rfl rfl (yN rfl (yMd rfl (yQ (pw_block ?_))))))); refine pw_loop (fun i : Nat => ⟨131, [(4, .bx 4 0), (8, .d (.sl 4 (L.map dBk))), (10, .d (dIs (P.map ixO))), (11, .d (.sl 1 (T.map dBl))), (12, .mb 500044), (46, .d (.sl 5 (ms.map dM))), (47, .d (dI ms.length)), (48, .d (dI i))], [(4, [.d (dI d2), .d (.sl 2 (hs2.map dH)), .d (.sl 5 (ts.map dM))]), (500044, [.mc (kmap (mapD (ex1 ms ts P i)))])], []⟩) (fun i => i ≤ ms.length) (fun i => ms.length - i) 0 (Nat.zero_le _)
    ⟨rfl, ⟨.refl _, .refl _, .refl _, .refl _, .refl _, .refl _, .of_eq (congrArg (fun n : Nat => SV.d (dI n)) (by simp)), .refl _, trivial⟩, ⟨⟨_, rfl, .refl _, .refl _, .refl _, trivial⟩, ⟨_, rfl, lesC_eq rfl⟩, trivial⟩, trivial, rfl⟩ ?_
  intro i hi
  rcases Nat.lt_or_ge i ms.length with h | h
  · have u1 : decide ((i : Int) < (ms.length : Int)) = true := decide_eq_true (by omega)
    obtain ⟨⟨m0, m1, m2, m3, m4⟩, hm⟩ : ∃ a, ms[i]? = some a := ⟨_, List.getElem?_eq_getElem h⟩
    have em := ix dM ms i i (m0, m1, m2, m3, m4) rfl hm
    have hw := wrapI ((i : Int) + 1) (by omega)
    have hq := q1 _ (List.mem_of_getElem? hm)
    simp only at hq
    have hln := hx1 i m2
    have hnx : ex1 ms ts P (i + 1) = ex1 ms ts P (i + 1) := rfl
    conv at hnx => rhs; rw [ex1, hm]
    obtain ⟨M, hM⟩ : ∃ M, M = ex1 ms ts P i := ⟨_, rfl⟩
    rw [← hM] at hnx hln ⊢
    simp only at hnx
    have hg1 := mget_D m2 M
    have c4 := wAddT (getS m2 M) m3 (by omega) (by omega)
    have hs1 := mset_D m2 (addI (getS m2 M) m3) M
    obtain ⟨M1, hM1⟩ : ∃ M1, M1 = setS m2 (addI (getS m2 M) m3) M := ⟨_, rfl⟩
    have hln1 : (getS m2 M1).length ≤ 1000 + 4 * i + 2 := by
      rw [hM1, getS_set, if_pos rfl]
      exact addI_len (by omega) (by omega)
    rw [← hM1] at hnx hs1
    obtain ⟨v1, hv1⟩ : ∃ v, v = getS m2 M := ⟨_, rfl⟩
    rw [← hv1] at hg1 c4 hs1
    obtain ⟨a1, ha1⟩ : ∃ v, v = canon (val v1 + val m3) := ⟨_, rfl⟩
    have hs1 : mset m2 (dS (canon (val v1 + val m3))) (mapD M) = mapD M1 := hs1
    rw [← ha1] at c4 hs1
    clear hv1 ha1 hM1
    obtain ⟨o, ho⟩ : ∃ o, P[i]?.getD none = o := ⟨_, rfl⟩
    have ep := exP_at ho (by omega)
    rw [ho] at hnx
    cases o with
    | none =>
      have u2 : decide (ixO none ≥ 0) = false := rfl
      simp only [Option.bind_none] at hnx
      refine pw_seq (pw_region (yB rfl rfl rfl rfl (yQ (pw_seq ?_)))); rw [u1]; refine pw_ct rfl (pw_skip (pw_seq (pw_block (pw_seq (pw_region (yMd rfl (yW em (by omega) rfl rfl (yLs (ys := [_, _, _, _, _]) rfl rfl rfl (yZ (cs := [_, _, _, _, _]) rfl rfl ?_))))))))); refine yAd rfl (yS (cs' := [_, _, _, _, _]) rfl rfl rfl rfl rfl (yQ (pw_seq ?_))); refine pw_draw Tryz.mixed (by kernel_rfl) ?_; refine yMm rfl (yFb rfl (yLd rfl rfl rfl (yMm rfl (yFb rfl (yLd rfl rfl rfl (yKl (z := dS []) rfl rfl rfl hg1 (yFb rfl (yLd rfl rfl rfl (yC (c4) rfl rfl ?_))))))))); refine yKu (z := dS []) rfl rfl rfl rfl hs1 (yQ (pw_seq (pw_region (yMd rfl (yMd rfl (yW ep (by omega) rfl rfl (yLr rfl rfl (yAd rfl (yQ ?_))))))))); refine pw_seq (pw_region (yMd rfl (yB rfl rfl rfl rfl (yQ (pw_cf rfl (pw_skip (pw_region (yB rfl rfl rfl rfl (yMd rfl ?_))))))))); refine yQ (q_then ?_); rw [u2]
      refine ⟨i + 1, by omega, by omega, rfl, ⟨.refl _, .refl _, .refl _, .refl _, .refl _, .refl _, .refl _, .of_eq (congrArg (fun n => SV.d (dI n)) hw), trivial⟩, ⟨⟨_, rfl, .refl _, .refl _, .refl _, trivial⟩, ⟨_, rfl, lesC_eq (by rw [hnx])⟩, trivial⟩, trivial, rfl⟩
    | some k =>
      have hk := hlk i k ho
      obtain ⟨⟨x0, x1, x2, x3, x4⟩, hx⟩ : ∃ a, ts[k]? = some a := ⟨_, List.getElem?_eq_getElem hk⟩
      have eo := ix dM ts k k (x0, x1, x2, x3, x4) rfl hx
      have hqx := q2 _ (List.mem_of_getElem? hx)
      simp only at hqx
      rw [Option.bind_some, hx] at hnx
      simp only at hnx
      have u2 : decide (ixO (some k) ≥ 0) = true := decide_eq_true (by show (0 : Int) ≤ k; omega)
      have hg2 := mget_D m2 M1
      have c5 := wSubT (getS m2 M1) x3 (by omega) (by omega)
      have hs2 : mset m2 (dS (canon (val (getS m2 M1) - val x3))) (mapD M1) = mapD (setS m2 (subI (getS m2 M1) x3) M1) := mset_D m2 (subI (getS m2 M1) x3) M1
      obtain ⟨v2, hv2⟩ : ∃ v, v = getS m2 M1 := ⟨_, rfl⟩
      rw [← hv2] at hg2 c5 hs2 hnx
      obtain ⟨M2, hM2⟩ : ∃ M2, M2 = setS m2 (subI v2 x3) M1 := ⟨_, rfl⟩
      rw [← hM2] at hs2 hnx
      obtain ⟨a2, ha2⟩ : ∃ v, v = canon (val v2 - val x3) := ⟨_, rfl⟩
      rw [← ha2] at c5 hs2
      clear ha2 hM2 hv2
      refine pw_seq (pw_region (yB rfl rfl rfl rfl (yQ (pw_seq ?_)))); rw [u1]; refine pw_ct rfl (pw_skip (pw_seq (pw_block (pw_seq (pw_region (yMd rfl (yW em (by omega) rfl rfl (yLs (ys := [_, _, _, _, _]) rfl rfl rfl (yZ (cs := [_, _, _, _, _]) rfl rfl ?_))))))))); refine yAd rfl (yS (cs' := [_, _, _, _, _]) rfl rfl rfl rfl rfl (yQ (pw_seq ?_))); refine pw_draw Tryz.mixed (by kernel_rfl) ?_; refine yMm rfl (yFb rfl (yLd rfl rfl rfl (yMm rfl (yFb rfl (yLd rfl rfl rfl (yKl (z := dS []) rfl rfl rfl hg1 (yFb rfl (yLd rfl rfl rfl (yC (c4) rfl rfl ?_))))))))); refine yKu (z := dS []) rfl rfl rfl rfl hs1 (yQ (pw_seq (pw_region (yMd rfl (yMd rfl (yW ep (by omega) rfl rfl (yLr rfl rfl (yAd rfl (yQ ?_))))))))); refine pw_seq (pw_region (yMd rfl (yB rfl rfl rfl rfl (yQ (pw_ct rfl ?_))))); refine pw_draw Tryz.mixed (by kernel_rfl) ?_; refine yMm rfl (yFb rfl (yLd rfl rfl rfl (yMm rfl (yFb rfl (yLd rfl rfl rfl (yKl (z := dS []) rfl rfl rfl hg2 (yFb rfl (yLd rfl rfl rfl (yMd rfl ?_))))))))); refine yW eo (by show (0 : Int) ≤ k; omega) rfl rfl (yFr rfl rfl (yLr rfl rfl (yC (c5) rfl rfl (yKu (z := dS []) rfl rfl rfl rfl hs2 (yQ (pw_region (yB rfl rfl rfl rfl (yMd rfl (yQ ?_))))))))); refine q_then ?_; rw [u2]
      refine ⟨i + 1, by omega, by omega, rfl, ⟨.refl _, .refl _, .refl _, .refl _, .refl _, .refl _, .refl _, .of_eq (congrArg (fun n => SV.d (dI n)) hw), trivial⟩, ⟨⟨_, rfl, .refl _, .refl _, .refl _, trivial⟩, ⟨_, rfl, lesC_eq (by rw [hnx])⟩, trivial⟩, trivial, rfl⟩
  have u1 : decide ((i : Int) < (ms.length : Int)) = false := decide_eq_false (by omega)
  obtain rfl : i = ms.length := by omega
  have hx2 := ex2_len (tk := T) (M := ex1 ms ts P ms.length) (B := 1000 + 4 * ms.length) (fun m hm => by have := q2 m hm; omega) (hx1 ms.length)
  obtain ⟨M0, hM0⟩ : ∃ M, M = ex1 ms ts P ms.length := ⟨_, rfl⟩
  rw [← hM0] at hx2 hr ⊢
  clear hM0 hx1
  refine pw_seq (pw_region (yB rfl rfl rfl rfl (yQ (pw_seq ?_)))); rw [u1]; refine pw_cf rfl (pw_exit (pw_seq (pw_seq (pw_region (yFb rfl (yLd rfl rfl rfl (yN rfl (yMd rfl (yQ ?_))))))))); refine pw_block ?_; refine pw_loop (fun k : Nat => ⟨131, [(8, .d (.sl 4 (L.map dBk))), (11, .d (.sl 1 (T.map dBl))), (12, .mb 500044), (85, .d (.sl 5 (ts.map dM))), (86, .d (dI ts.length)), (87, .d (dI k))], [(500044, [.mc (kmap (mapD (ex2 ts T M0 k)))])], []⟩) (fun k => k ≤ ts.length) (fun k => ts.length - k) 0 (Nat.zero_le _)
    ⟨rfl, ⟨.refl _, .refl _, .refl _, .refl _, .of_eq (congrArg (fun n : Nat => SV.d (dI n)) (by simp)), .refl _, trivial⟩, ⟨⟨_, rfl, lesC_eq rfl⟩, trivial⟩, trivial, rfl⟩ ?_
  intro k hk
  rcases Nat.lt_or_ge k ts.length with h | h
  · have u2 : decide ((k : Int) < (ts.length : Int)) = true := decide_eq_true (by omega)
    obtain ⟨⟨x0, x1, x2, x3, x4⟩, hx⟩ : ∃ a, ts[k]? = some a := ⟨_, List.getElem?_eq_getElem h⟩
    have ex := ix dM ts k k (x0, x1, x2, x3, x4) rfl hx
    have hw := wrapI ((k : Int) + 1) (by omega)
    have hq := q2 _ (List.mem_of_getElem? hx)
    simp only at hq
    have et : (T.map dBl)[(k : Int).toNat]? = some (dBl (tkn T k)) := tk_at' (by omega)
    have hln := hx2 k x2
    have hnx : ex2 ts T M0 (k + 1) = ex2 ts T M0 (k + 1) := rfl
    conv at hnx => rhs; rw [ex2, hx]
    obtain ⟨M, hM⟩ : ∃ M, M = ex2 ts T M0 k := ⟨_, rfl⟩
    rw [← hM] at hnx hln ⊢
    simp only at hnx
    obtain ⟨b, hb⟩ : ∃ b, b = tkn T k := ⟨_, rfl⟩
    rw [← hb] at et hnx
    cases b with
    | true =>
      rw [if_pos rfl] at hnx
      refine pw_seq (pw_region (yB rfl rfl rfl rfl (yQ (pw_seq ?_)))); rw [u2]; refine pw_ct rfl (pw_skip (pw_seq (pw_block (pw_seq (pw_region (yMd rfl (yW ex (by omega) rfl rfl (yLs (ys := [_, _, _, _, _]) rfl rfl rfl (yZ (cs := [_, _, _, _, _]) rfl rfl ?_))))))))); refine yAd rfl (yS (cs' := [_, _, _, _, _]) rfl rfl rfl rfl rfl (yQ (pw_seq (pw_region (yMd rfl (yMd rfl (yW et (by omega) rfl rfl (yLr rfl rfl (yU rfl rfl rfl ?_))))))))); refine yQ (pw_cf rfl (pw_skip (pw_region (yB rfl rfl rfl rfl (yMd rfl (yQ (q_then ?_)))))))
      refine ⟨k + 1, by omega, by omega, rfl, ⟨.refl _, .refl _, .refl _, .refl _, .refl _, .of_eq (congrArg (fun n => SV.d (dI n)) hw), trivial⟩, ⟨⟨_, rfl, lesC_eq (by rw [hnx])⟩, trivial⟩, trivial, rfl⟩
    | false =>
      rw [if_neg (by decide)] at hnx
      have hg := mget_D x2 M
      have c4 := wSubT (getS x2 M) x3 (by omega) (by omega)
      have hs : mset x2 (dS (canon (val (getS x2 M) - val x3))) (mapD M) = mapD (setS x2 (subI (getS x2 M) x3) M) := mset_D x2 (subI (getS x2 M) x3) M
      obtain ⟨v, hv⟩ : ∃ v, v = getS x2 M := ⟨_, rfl⟩
      rw [← hv] at hg c4 hs hnx
      obtain ⟨M2, hM2⟩ : ∃ M2, M2 = setS x2 (subI v x3) M := ⟨_, rfl⟩
      rw [← hM2] at hs hnx
      obtain ⟨a2, ha2⟩ : ∃ w, w = canon (val v - val x3) := ⟨_, rfl⟩
      rw [← ha2] at c4 hs
      clear ha2 hM2 hv
      refine pw_seq (pw_region (yB rfl rfl rfl rfl (yQ (pw_seq ?_)))); rw [u2]; refine pw_ct rfl (pw_skip (pw_seq (pw_block (pw_seq (pw_region (yMd rfl (yW ex (by omega) rfl rfl (yLs (ys := [_, _, _, _, _]) rfl rfl rfl (yZ (cs := [_, _, _, _, _]) rfl rfl ?_))))))))); refine yAd rfl (yS (cs' := [_, _, _, _, _]) rfl rfl rfl rfl rfl (yQ (pw_seq (pw_region (yMd rfl (yMd rfl (yW et (by omega) rfl rfl (yLr rfl rfl (yU rfl rfl rfl ?_))))))))); refine yQ (pw_ct rfl ?_); refine pw_draw Tryz.mixed (by kernel_rfl) ?_; refine yMm rfl (yFb rfl (yLd rfl rfl rfl (yMm rfl (yFb rfl (yLd rfl rfl rfl (yKl (z := dS []) rfl rfl rfl hg (yFb rfl (yLd rfl rfl rfl (yC (c4) rfl rfl ?_))))))))); refine yKu (z := dS []) rfl rfl rfl rfl hs (yQ (pw_region (yB rfl rfl rfl rfl (yMd rfl (yQ (q_then ?_))))))
      refine ⟨k + 1, by omega, by omega, rfl, ⟨.refl _, .refl _, .refl _, .refl _, .refl _, .of_eq (congrArg (fun n => SV.d (dI n)) hw), trivial⟩, ⟨⟨_, rfl, lesC_eq (by rw [hnx])⟩, trivial⟩, trivial, rfl⟩
  have u2 : decide ((k : Int) < (ts.length : Int)) = false := decide_eq_false (by omega)
  obtain rfl : k = ts.length := by omega
  have hx3 := hx2 ts.length
  obtain ⟨M, hM⟩ : ∃ M, M = ex2 ts T M0 ts.length := ⟨_, rfl⟩
  rw [← hM] at hr hx3 ⊢
  clear hM hx2
  refine pw_seq (pw_region (yB rfl rfl rfl rfl (yQ (pw_seq ?_)))); rw [u2]; refine pw_cf rfl (pw_exit (pw_seq (pw_region (yAd rfl (yQ ?_))))); refine pw_tok 18 exT 1 rfl rfl rfl ?_; refine pw_seq (pw_seq (pw_region (yMd rfl (yN rfl (yMd rfl (yQ (pw_block ?_))))))); refine pw_loop (fun j : Nat => ⟨131, [(12, .mb 500044), (18, .ts exT 1 ((exN L M j).map dC)), (108, .d (.sl 4 (L.map dBk))), (109, .d (dI L.length)), (110, .d (dI j))], [(500044, [.mc (kmap (mapD (M)))])], [(exT, ((exN L M j).map dC).length)]⟩) (fun j => j ≤ L.length) (fun j => L.length - j) 0 (Nat.zero_le _)
    ⟨rfl, ⟨.refl _, .refl _, .refl _, .of_eq (congrArg (fun n : Nat => SV.d (dI n)) (by simp)), .refl _, trivial⟩, ⟨⟨_, rfl, lesC_eq rfl⟩, trivial⟩, ⟨rfl, trivial⟩, rfl⟩ ?_
  intro j hj
  rcases Nat.lt_or_ge j L.length with h | h
  · have u3 : decide ((j : Int) < (L.length : Int)) = true := decide_eq_true (by omega)
    obtain ⟨⟨b0, b1, b2, b3⟩, hb⟩ : ∃ a, L[j]? = some a := ⟨_, List.getElem?_eq_getElem h⟩
    have eb := ix dBk L j j (b0, b1, b2, b3) rfl hb
    have hw := wrapI ((j : Int) + 1) (by omega)
    obtain ⟨hq1, hq2⟩ := q3 _ (List.mem_of_getElem? hb)
    simp only at hq1 hq2
    have c4 := wSubT b2 b3 (by omega) (by omega)
    have hg := mget_D b1 M
    have hnx : exN L M (j + 1) = exN L M (j + 1) := rfl
    conv at hnx => rhs; rw [exN, hb]
    simp only at hnx
    have hzl := exN_len L M j
    obtain ⟨zs, hz⟩ : ∃ z, z = exN L M j := ⟨_, rfl⟩
    obtain ⟨v, hv⟩ : ∃ v, v = getS b1 M := ⟨_, rfl⟩
    rw [← hz, ← hv] at hnx
    rw [← hz] at hzl ⊢
    rw [← hv] at hg
    have hnx : exN L M (j + 1) = if canon (val b2 - val b3) = v then zs ++ [b1] else zs := hnx
    obtain ⟨a2, ha2⟩ : ∃ w, w = canon (val b2 - val b3) := ⟨_, rfl⟩
    rw [← ha2] at c4 hnx
    clear ha2 hv hz
    by_cases he : a2 = v
    · have t2 : (a2 == v) = true := by simpa using he
      rw [if_pos he] at hnx
      refine pw_seq (pw_region (yB rfl rfl rfl rfl (yQ (pw_seq ?_)))); rw [u3]; refine pw_ct rfl (pw_skip (pw_seq (pw_block (pw_seq (pw_region (yW eb (by omega) rfl rfl (yLs (ys := [_, _, _, _]) rfl rfl rfl (yZ (cs := [_, _, _, _]) rfl rfl (yS (cs' := [_, _, _, _]) rfl rfl rfl rfl rfl ?_))))))))); refine yQ (pw_seq ?_); refine pw_draw Tryz.mixed (by kernel_rfl) ?_; refine yFb rfl (yLd rfl rfl rfl (yFb rfl (yLd rfl rfl rfl (yC (c4) rfl rfl (yMm rfl (yFb rfl (yLd rfl rfl rfl (yKl (z := dS []) rfl rfl rfl hg (yBse rfl rfl ?_))))))))); refine yQ (q_then ?_); rw [t2]; refine pw_ct rfl (pw_region (yMt rfl (yFb rfl (yLd rfl rfl rfl (yR (es := [[_]]) rfl rfl rfl rfl rfl (yT (es' := (zs ++ [b1]).map dC) (m := ((zs ++ [b1]).map dC).length) (by simp; omega) (by simp; omega) rfl rfl rfl rfl rfl (by simp) (by simp) (yAt rfl (yQ (pw_region ?_))))))))); refine yB rfl rfl rfl rfl (yMd rfl (yQ (q_then ?_)))
      refine ⟨j + 1, by omega, by omega, rfl, ⟨.refl _, .of_eq (by rw [hnx]; rfl), .refl _, .refl _, .of_eq (congrArg (fun n => SV.d (dI n)) hw), trivial⟩, ⟨⟨_, rfl, lesC_eq rfl⟩, trivial⟩, ⟨(by rw [hnx]; rfl), trivial⟩, rfl⟩
    · have t2 : (a2 == v) = false := by simpa using he
      rw [if_neg he] at hnx
      refine pw_seq (pw_region (yB rfl rfl rfl rfl (yQ (pw_seq ?_)))); rw [u3]; refine pw_ct rfl (pw_skip (pw_seq (pw_block (pw_seq (pw_region (yW eb (by omega) rfl rfl (yLs (ys := [_, _, _, _]) rfl rfl rfl (yZ (cs := [_, _, _, _]) rfl rfl (yS (cs' := [_, _, _, _]) rfl rfl rfl rfl rfl ?_))))))))); refine yQ (pw_seq ?_); refine pw_draw Tryz.mixed (by kernel_rfl) ?_; refine yFb rfl (yLd rfl rfl rfl (yFb rfl (yLd rfl rfl rfl (yC (c4) rfl rfl (yMm rfl (yFb rfl (yLd rfl rfl rfl (yKl (z := dS []) rfl rfl rfl hg (yBse rfl rfl ?_))))))))); refine yQ (q_then ?_); rw [t2]; refine pw_cf rfl (pw_skip (pw_region (yB rfl rfl rfl rfl (yMd rfl (yQ (q_then ?_))))))
      refine ⟨j + 1, by omega, by omega, rfl, ⟨.refl _, .of_eq (by rw [hnx]; rfl), .refl _, .refl _, .of_eq (congrArg (fun n => SV.d (dI n)) hw), trivial⟩, ⟨⟨_, rfl, lesC_eq rfl⟩, trivial⟩, ⟨(by rw [hnx]; rfl), trivial⟩, rfl⟩
  have u3 : decide ((j : Int) < (L.length : Int)) = false := decide_eq_false (by omega)
  obtain rfl : j = L.length := by omega
  rw [← hr]
  refine pw_seq (pw_region (yB rfl rfl rfl rfl (yQ (pw_seq ?_)))); rw [u3]; refine pw_cf rfl (pw_exit (pw_seq (pw_region (yMt rfl (yAt rfl (yAd rfl (yQ (pw_ret ?_))))))))
  rw [h0]
  exact q_ret _ (.tmp rfl (.tmp rfl .nil)) rfl
end Go.Proofs.YtdkpmnefoobipaaGreatDoor
