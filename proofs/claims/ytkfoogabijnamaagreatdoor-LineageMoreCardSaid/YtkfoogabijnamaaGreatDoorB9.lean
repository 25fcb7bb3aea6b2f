/- Walks: the laws of heirs and origins. -/
import Derived.Test.YtkfoogabijnamaaGreatDoorB8
import Derived.Test.YtkfoogabijnamaaGreatDoorB4
import Derived.Lib.SliceRun
import Derived.Test.YtkfoogabijnamaaGreatDoorB3
namespace Go.Proofs.YtkfoogabijnamaaGreatDoor
open Go.RowKit Px

set_option maxRecDepth 20000 in
theorem wMor1 (H : List Str) (x : Str) (hl : H.length ≤ 1000000) : PCalls Tryz.prog 37 [dS x, .ref [dStrs H]] (.d (dB (noB H x))) := by
  have c1 := wContS H x hl
  rw [noB]
  obtain ⟨b, hb⟩ : ∃ b, b = H.contains x := ⟨_, rfl⟩
  rw [← hb] at c1 ⊢
  refine pcalls_of_pw Tryz.func37 rfl Tryz.ntmps37 Tryz.results37 (by simp) fun B w0 => ?_
  refine pw_ref 1 rfl ?_
  refine pw_seq ?_; refine pw_region ?_; refine yAd rfl ?_; refine yQ ?_; refine pw_seq ?_; refine pw_region ?_; refine yLr rfl rfl ?_; refine yMd rfl ?_; refine yC (c1) rfl rfl ?_; refine yU rfl rfl rfl ?_; refine yAd rfl ?_
  refine yQ ?_; refine pw_ret ?_
  exact q_ret _ (.tmp rfl .nil) rfl
theorem hPhMor1 (H : List Str) (hl : H.length ≤ 1000000) : ∀ xs r, phS (noB H) xs r → PCalls Tryz.prog 37 (xs ++ [.ref [dStrs H]]) r := by
  rintro _ _ ⟨c, rfl, rfl⟩
  exact wMor1 H c hl
end Go.Proofs.YtkfoogabijnamaaGreatDoor
set_option maxHeartbeats 1000000
namespace Go.Proofs.YtkfoogabijnamaaGreatDoor.Px
open Go.RowKit

def Rbq (p : Prop) (_ : Nat → Nat → Prop) (_ : World) (v : Value) : Prop := v = .bool false ∨ (v = .bool true ∧ p)
/-- a bool that may be true only if p -/
abbrev dBq (p : Prop) : DV := .abs (Rbq p)
theorem Rbq.mono {p : Prop} (F F' : Nat → Nat → Prop) (w w' : World) (v : Value) (h : Rbq p F w v) (_ : Kp F w F' w') : Rbq p F' w' v := h
theorem DRep.of_bq {F : Nat → Nat → Prop} {w : World} {v : Value} {p : Prop} (h : Rbq p F w v) : DRep F w v (dBq p) :=
  .abs Rbq.mono (by rcases h with rfl | ⟨rfl, -⟩ <;> rfl) h
theorem DRep.bq {F : Nat → Nat → Prop} {w : World} {v : Value} {p : Prop} (h : DRep F w v (dBq p)) : Rbq p F w v := by
  generalize e : dBq p = x at h
  cases h with
  | abs hR h1 h => cases e; exact h
  | _ => cases e
section
variable {P : Program} {sq : Bool} {ops : Array Oper} {K : PS → Prop} {rest : List Oper} {st : PS} {d : Option Nat} {ty : TypeId} {pos : String} {af : Array Edge} {gd : Option (Nat × Bool)}
theorem ls_equ (t t' : TypeId) (x : Operand) {te k : Nat} {es : List (List DV)} (hp : P.underlying t = some (.slice te)) (hx : asSl (st.ev x) = some (k, es)) (hd : dstOk ⟨d, .binOp .eql t x (.const (.slice none 0 0)) t', ty, pos, af, gd⟩ st = true) : LocS P ⟨d, .binOp .eql t x (.const (.slice none 0 0)) t', ty, pos, af, gd⟩ st (.d (dBq (es = []))) .no := fun st2 ha =>
  OpS.value (ha.dst hd) fun _ _ g a w h => by
    have h1 := h.eval x
    rw [ha.ev x (by simp [Op.operands])] at h1
    obtain ⟨A, c, news, hv, -, -, -, -, hcell, -⟩ := DRep.row (h1.asSl hx)
    have h5 : a.eval (.const (.slice none 0 0)) = .slice none 0 0 := rfl
    refine ⟨.bool A.isNone, w, ?_, Below.refl _ _, DRep.of_bq ?_⟩
    · simp only [execOp, hv, h5]
      simp [eqGuard, Lib.run_eql_slice_nil w t te _ _ _ _ _ hp, Result.andThen]
    · cases A with
      | some A => exact .inl rfl
      | none =>
        refine .inr ⟨rfl, ?_⟩
        cases es with
        | nil => rfl
        | cons e es =>
          obtain ⟨b, off, h2, -⟩ := hcell (by simp)
          cases h2
/-- a slice compared with nil: either way -/
theorem yEu {t t' : Nat} {x : Operand} {te k : Nat} {es : List (List DV)} (hp : P.underlying t = some (.slice te)) (hx : asSl (st.ev x) = some (k, es)) (h : YR P sq ops K rest (st.put d (.d (dBq (es = []))))) (hd : dstOk ⟨d, .binOp .eql t x (.const (.slice none 0 0)) t', ty, pos, af, gd⟩ st = true := by kernel_rfl) (hk : opOk ⟨d, .binOp .eql t x (.const (.slice none 0 0)) t', ty, pos, af, gd⟩ st .no = true := by kernel_rfl) (hw : st.want ops ⟨d, .binOp .eql t x (.const (.slice none 0 0)) t', ty, pos, af, gd⟩ = some true := by rfl) :
    YR P sq ops K (⟨d, .binOp .eql t x (.const (.slice none 0 0)) t', ty, pos, af, gd⟩ :: rest) st := yr_v (ls_equ t t' x hp hx hd) hk hw h
/-- nothing is appended to a row that may be written -/
theorem yTw0 {T E k bytes n i : Nat} {x y : Operand} [hA : AppOf P T E k bytes] (hx : st.ev x = .bs i n E k) (hy : asSl (st.ev y) = some (k, [])) (h : YR P sq ops K rest (st.put d (.bs i n E k))) (hd : dstOk ⟨d, .call { callee := .builtin .append, args := #[x, y], argTypes := #[T, T] }, ty, pos, af, gd⟩ st = true := by kernel_rfl) (hk : opOk ⟨d, .call { callee := .builtin .append, args := #[x, y], argTypes := #[T, T] }, ty, pos, af, gd⟩ st .no = true := by kernel_rfl) (hw : st.want ops ⟨d, .call { callee := .builtin .append, args := #[x, y], argTypes := #[T, T] }, ty, pos, af, gd⟩ = some true := by rfl) :
    YR P sq ops K (⟨d, .call { callee := .builtin .append, args := #[x, y], argTypes := #[T, T] }, ty, pos, af, gd⟩ :: rest) st := yr_v (fun st2 ha =>
  OpS.value (ha.dst hd) fun _ _ g a w hr => by
    have h1 := hr.eval x
    rw [ha.ev x (by simp [Op.operands, Call.operands]), hx] at h1
    have h1' := h1
    obtain ⟨b, c, p1, p2, p3, p4, p5⟩ := h1
    have h3 := hr.eval y
    rw [ha.ev y (by simp [Op.operands, Call.operands])] at h3
    obtain ⟨A2, c2, news, hv2, hc2, hm2, hk2, hl2, hcell2, hone2, hrep2⟩ := DRep.row (h3.asSl hy)
    obtain ⟨ti, z, q1, q2, q3, q4, q5⟩ := hA.inf
    refine ⟨a.eval x, w, ?_, Below.refl _ _, h1'⟩
    have r : (Builtin.append_ #[T, T] ty #[a.eval x, .slice A2 ([] : List (List DV)).length c2]).run P w = .ok (a.eval x) w := by
      rw [p2]
      cases A2 <;> simp [Builtin.append_, run_underlying hA.und, sizeOf, typeInfo, q1, Builtin.lenOf, Builtin.firstCells, loadCells, loadCellsFrom, storeCells, p3]
    simp only [execOp, resolve, invoke, builtin, Sem.run_bind, Sem.run_pure, Result.andThen_ok, List.map_toArray, List.map_cons, List.map_nil, hv2, r]) hk hw h
theorem ls_appendL (T : TypeId) (s x : Operand) {E k bytes t n : Nat} {es es2 : List (List DV)} [hA : AppOf P T E k bytes] (hs : st.ev s = .ts t k es) (ht : st.tget t = some n) (hn : n = es.length) (hx : asSl (st.ev x) = some (k, es2)) (hE : t / 100000 = E)
    (hb : (es.length + es2.length) * bytes ≤ 140737488355328) (hl : es.length + es2.length ≤ 140737488351232) (hd : dstOk ⟨d, .call { callee := .builtin .append, args := #[s, x], argTypes := #[T, T] }, ty, pos, af, gd⟩ st = true) :
    LocS P ⟨d, .call { callee := .builtin .append, args := #[s, x], argTypes := #[T, T] }, ty, pos, af, gd⟩ st (.ts t k (es ++ es2)) (.tok t (es.length + es2.length)) := fun st2 ha => by
  subst hn
  intro B w0 g a w K Q hr hK
  have h1 := hr.eval s
  rw [ha.ev s (by simp [Op.operands, Call.operands]), hs] at h1
  obtain ⟨h1, h2⟩ := h1
  obtain ⟨A1, c1, ys, hv1, hc1, hm1, hk1, hl1, hcell1, hone1, hrep1⟩ := DRep.row h1
  have h3 := hr.eval x
  rw [ha.ev x (by simp [Op.operands, Call.operands])] at h3
  obtain ⟨A2, c2, news, hv2, hc2, hm2, hk2, hl2, hcell2, hone2, hrep2⟩ := DRep.row (h3.asSl hx)
  obtain ⟨T', A, c, h4, h5⟩ := hr.tlen t es.length ((ha.tk rfl s (by simp [Op.operands, Call.operands]) t k es hs).trans ht)
  obtain ⟨h6, h7⟩ := h2 T' h4
  have h8 : a.eval s = T'.v := (h7 A es.length c h5).2 rfl
  obtain ⟨⟨n', xs, h9⟩, h10⟩ := hr.toks t T' h4
  obtain rfl : es.length = n' := own_of_tip h9 h5
  have hTE : T'.E = E := (hr.telt t T' h4).trans hE
  obtain ⟨i, z, q1, q2, q3, q4, q5⟩ := hA.inf
  rw [hTE, h6] at h9
  obtain ⟨v', w', r1, r2, r3, r4, r5, r6, r7⟩ := run_app (P := P) w 0 T ty E i z k bytes hA.und q1 q2 q3 q4 q5 T'.v es.length xs h9 A2 es2.length c2 news hl2 (fun h0 => by
    obtain ⟨b, off, rfl, hcell⟩ := hcell2 h0
    exact ⟨_, rfl, fun j u hj => by rw [Addr.add_lit]; exact (hcell j u hj).1⟩) hone2 (by unfold maxLen; omega) (by omega) (Nat.zero_le _)
  have hxs : xs = ys := by
    apply List.ext_getElem?
    intro j
    have hlx := h9.1
    by_cases hj : j < es.length * k
    · have h0 : 0 < es.length := by
        rcases Nat.eq_zero_or_pos es.length with h0 | h0
        · rw [h0] at hj; simp at hj
        · exact h0
      obtain ⟨b, off, hA1, hcell⟩ := hcell1 h0
      obtain ⟨u, hu⟩ : ∃ u, ys[j]? = some u := ⟨_, List.getElem?_eq_getElem (by omega)⟩
      obtain ⟨u', hu'⟩ : ∃ u, xs[j]? = some u := ⟨_, List.getElem?_eq_getElem (by omega)⟩
      have e1 : T'.v = .slice (some ⟨b, off, none⟩) es.length c1 := by rw [← h8, hv1, hA1]
      have e2 := own_cell h9 (b := b) (by rw [e1]; rfl) j u' hu'
      obtain ⟨A3, c3, e3, -, e4⟩ := own_form h9
      have e5 := e4 b (by rw [e1]; rfl)
      have e6 : off = 0 := by
        have := e1.symm.trans e5
        have := (Value.slice.inj this).1
        simpa using this
      have e7 := (hcell j u hu).1
      rw [e6, Nat.zero_add, e2] at e7
      rw [hu, hu', Option.some.inj e7]
    · rw [List.getElem?_eq_none (by omega), List.getElem?_eq_none (by omega)]
  subst hxs
  obtain ⟨fx, hrep'⟩ := hr.app t es.length es2.length T' h4 xs news v' (by rw [hTE, h6]; exact h9) (by rw [hTE, h6]; exact r2) r3 (fun b hb hne => r4 b hb hne) (fun b o hb hb' ho => r5 b o hb hb' (by rw [← h6]; exact ho)) r6 r7
  have hrun : (execOp a.eval ⟨d, .call { callee := .builtin .append, args := #[s, x], argTypes := #[T, T] }, ty, pos, af, gd⟩).run P w = .ok (.value v') w' := by
    simp only [execOp, resolve, invoke, builtin, Sem.run_bind, Sem.run_pure, Result.andThen_ok, List.map_toArray, List.map_cons, List.map_nil, h8, hv2, r1]
  unfold Oper.wp
  rw [hrun]
  refine hK _ _ _ (hrep'.put (v := v') (x := .ts t k (es ++ es2)) ⟨?_, fun T2 hT2 => ?_⟩ _ (dstOk_spec (st := st2.tput t _) (ha.dst hd)))
  · obtain ⟨A3, c3, e3, e4, e5⟩ := own_form r2
    have e3' : v' = .slice A3 (es ++ es2).length c3 := by rw [List.length_append]; exact e3
    refine (congrArg (fun q => DRep (Fx (g.sett t ⟨v', T'.E, T'.k⟩)) w' q (.sl k (es ++ es2))) e3').mpr ?_
    refine DRep.of_row (xs := xs ++ news) (by rw [List.length_append]; exact e4) (by rw [List.length_append]; exact Nat.le_trans hl (by decide)) (fun e he => ?_) (fun h0 => ?_) (fun u hu => ?_) fun i j e y he hy => ?_
    · rcases List.mem_append.1 he with he | he
      · exact hk1 e he
      · exact hk2 e he
    · rcases r2.2 with ⟨e6, e7⟩ | ⟨gb, cap, cur, e6, e7, e8, -⟩
      · rw [List.length_append] at h0; omega
      · have e9 : A3 = some ⟨gb, 0, none⟩ := (Value.slice.inj (e3.symm.trans e6)).1
        refine ⟨gb, 0, e9, fun j u hj => ⟨?_, ?_⟩⟩
        · rw [Nat.zero_add]; exact own_cell r2 (by rw [e6]; rfl) j u hj
        · refine ⟨hrep'.tf0 t ⟨v', T'.E, T'.k⟩ gb _ (by simp [Gh.sett]) (by show v'.ownBlock = _; rw [e6]; rfl), fun i' hi' => ?_, fun t2 T2 n2 c2' hT2 hv2' => ?_⟩
          · exact (hrep'.toks t ⟨v', T'.E, T'.k⟩ (by simp [Gh.sett])).2 i' gb (by rw [show (⟨v', T'.E, T'.k⟩ : Tk).v = v' from rfl, e6]; rfl) hi'
          · have htt : t2 = t := hrep'.tdis t2 t T2 ⟨v', T'.E, T'.k⟩ gb hT2 (by simp [Gh.sett]) (by rw [hv2']; rfl) (by rw [show (⟨v', T'.E, T'.k⟩ : Tk).v = v' from rfl, e6]; rfl)
            subst htt
            simp only [Gh.sett, if_pos] at hT2
            cases hT2
            have e10 : n2 = es.length + es2.length := (Value.slice.inj ((show v' = _ from hv2').symm.trans e6)).2.1
            have hlt := (List.getElem?_eq_some_iff.1 hj).1
            rw [r2.1] at hlt
            show 0 + j < n2 * T'.k
            rw [e10, h6, Nat.zero_add]
            exact hlt
    · rcases List.mem_append.1 hu with hu | hu
      · exact hone1 u hu
      · exact hone2 u hu
    · by_cases hi : i < es.length
      · rw [List.getElem?_append_left hi] at he
        obtain ⟨u, e6, e7⟩ := hrep1 i j e y he hy
        refine ⟨u, ?_, e7.mono fx⟩
        rw [List.getElem?_append_left (List.getElem?_eq_some_iff.1 e6).1]
        exact e6
      · rw [List.getElem?_append_right (by omega)] at he
        obtain ⟨u, e6, e7⟩ := hrep2 (i - es.length) j e y he hy
        refine ⟨u, ?_, e7.mono fx⟩
        have : i * k + j - xs.length = (i - es.length) * k + j := by
          rw [h9.1, Nat.sub_mul]
          have := Nat.mul_le_mul_right k (show es.length ≤ i by omega)
          omega
        rw [List.getElem?_append_right (by rw [h9.1]; have := Nat.mul_le_mul_right k (show es.length ≤ i by omega); omega), this]
        exact e6
  · simp only [Gh.sett, if_pos] at hT2
    cases hT2
    refine ⟨h6, fun A3 n3 c3 e3 => ?_⟩
    have e4 : n3 = es.length + es2.length := own_of_tip r2 e3
    rw [List.length_append]
    exact ⟨by omega, fun _ => rfl⟩
/-- an append near the end of all memory -/
theorem yTL {T E k bytes t n m : Nat} {x y : Operand} {es es2 es' : List (List DV)} [AppOf P T E k bytes] (hb : (es.length + es2.length) * bytes ≤ 140737488355328) (hl : es.length + es2.length ≤ 140737488351232) (hs : st.ev x = .ts t k es) (ht : st.tget t = some n) (hn : n = es.length) (hx : asSl (st.ev y) = some (k, es2)) (hE : t / 100000 = E) (he : es ++ es2 = es') (hm : es.length + es2.length = m) (h : YR P sq ops K rest ((st.tput t m).put d (.ts t k es'))) (hd : dstOk ⟨d, .call { callee := .builtin .append, args := #[x, y], argTypes := #[T, T] }, ty, pos, af, gd⟩ st = true := by kernel_rfl) (hk : opOk ⟨d, .call { callee := .builtin .append, args := #[x, y], argTypes := #[T, T] }, ty, pos, af, gd⟩ st (.tok t m) = true := by kernel_rfl) (hw : st.want ops ⟨d, .call { callee := .builtin .append, args := #[x, y], argTypes := #[T, T] }, ty, pos, af, gd⟩ = some true := by rfl) : YR P sq ops K (⟨d, .call { callee := .builtin .append, args := #[x, y], argTypes := #[T, T] }, ty, pos, af, gd⟩ :: rest) st := by subst he hm; exact yr_t (ls_appendL T x y hs ht hn hx hE hb hl hd) hk hw h
variable {B : Nat} {w0 : Cx} {Q : Exit → PS → Prop} {c : Code}
/-- both ways -/
theorem pw_bq (s : Nat) {p : Prop} (hs : st.get s = .d (dBq p)) (h1 : PW P B w0 c Q (st.put (some s) (.d (.val (.bool false))))) (h2 : p → PW P B w0 c Q (st.put (some s) (.d (.val (.bool true))))) : PW P B w0 c Q st := fun g a w hr => by
  have hv := hr.slots s
  rw [hs] at hv
  have hq : Rbq p (Fx g) w (a.tmps.getD s undef) := DRep.bq hv
  rcases hq with hq | ⟨hq, hp⟩
  · refine h1 g a w { hr with lim := hr.lim, size := hr.size, boxes := hr.boxes, maps := hr.maps, dom := hr.dom, tdom := hr.tdom, tlen := hr.tlen, glob := hr.glob, slots := fun j => ?_ }
    rw [get_put]
    by_cases e : j = s
    · rw [if_pos e, e, hq]; exact DRep.val _ rfl
    · rw [if_neg e]; exact hr.slots j
  · refine h2 hp g a w { hr with lim := hr.lim, size := hr.size, boxes := hr.boxes, maps := hr.maps, dom := hr.dom, tdom := hr.tdom, tlen := hr.tlen, glob := hr.glob, slots := fun j => ?_ }
    rw [get_put]
    by_cases e : j = s
    · rw [if_pos e, e, hq]; exact DRep.val _ rfl
    · rw [if_neg e]; exact hr.slots j
end
end Go.Proofs.YtkfoogabijnamaaGreatDoor.Px
set_option maxHeartbeats 1000000
namespace Go.Proofs.YtkfoogabijnamaaGreatDoor.Px
open Go.RowKit

/-- a function without captured variables, as a value -/
abbrev vF (f : FuncId) : Value := .func (.func f) #[] #[]
def cst : Operand → Operand
  | .func f => .const (vF f)
  | x => x
theorem cst_eval (a : Act) (x : Operand) : a.eval (cst x) = a.eval x := by cases x <;> rfl
section
variable {P : Program} {sq : Bool} {ops : Array Oper} {K : PS → Prop} {rest : List Oper} {st : PS} {d : Option Nat} {ty : TypeId} {pos : String} {af : Array Edge} {gd : Option (Nat × Bool)}
theorem ls_litf (T : TypeId) (n : Nat) (ps : List (Nat × Operand)) {E k : Nat} {zs : List Value} {qs : List (Nat × List DV)} {ys : List DV} {es : List (List DV)} [hB : LitOf P T E k zs] (hq : partDs st (ps.map fun p => (p.1, cst p.2)) = some qs) (hf : dfill (fun i => some (i * k, k)) (zerosD zs n) qs = some ys) (he : chunk k n ys = es) (hsm : Nat.ble (n * k) 16777216 = true) (hsn : Nat.ble n 16777216 = true) (hd : dstOk ⟨d, .buildSlice T n ps.toArray, ty, pos, af, gd⟩ st = true) :
    LocS P ⟨d, .buildSlice T n ps.toArray, ty, pos, af, gd⟩ st (.d (.sl k es)) .no := fun st2 ha => by
  have hsm := Nat.le_of_ble_eq_true hsm
  have hsn := Nat.le_of_ble_eq_true hsn
  refine OpS.value (ha.dst hd) fun _ _ g a w h => ?_
  have hq2 : partDs st2 (ps.map fun p => (p.1, cst p.2)) = some qs := by
    rw [partDs_congr (st := st) fun p hp => ?_]
    · exact hq
    · obtain ⟨q, hq', rfl⟩ := List.mem_map.1 hp
      have he := ha.ev q.2 (by
        simp only [Op.operands, List.mem_toArray, List.mem_map]
        exact ⟨q, hq', rfl⟩)
      cases h2 : q.2 with
      | func f => rfl
      | _ => rw [h2] at he; exact he
  obtain ⟨us, h1, -, h3⟩ := lit_core (P := P) (T := T) (d := d) (ty := ty) (pos := pos) (af := af) (gd := gd) hq2 hf he hsm hsn h
  refine ⟨_, _, ?_, (Below.refl _ _).alloc (Nat.le_refl _) _, h3⟩
  have e : execOp a.eval ⟨d, .buildSlice T n ps.toArray, ty, pos, af, gd⟩ = execOp a.eval ⟨d, .buildSlice T n (ps.map fun p => (p.1, cst p.2)).toArray, ty, pos, af, gd⟩ := by
    have : ((fun x : Nat × Operand => (x.1, a.eval x.2)) ∘ fun p : Nat × Operand => (p.1, cst p.2)) = fun x => (x.1, a.eval x.2) := by
      funext p
      simp [cst_eval]
    simp [execOp, this]
  rw [e]
  exact h1
/-- a list of functions -/
theorem yRfn {T n : Nat} {ps : List (Nat × Operand)} {E k : Nat} {zs : List Value} {qs : List (Nat × List DV)} {ys : List DV} {es : List (List DV)} [LitOf P T E k zs] (hq : partDs st (ps.map fun p => (p.1, cst p.2)) = some qs) (hf : dfill (fun i => some (i * k, k)) (zerosD zs n) qs = some ys) (he : chunk k n ys = es) (hs : Nat.ble (n * k) 16777216 = true) (hs' : Nat.ble n 16777216 = true) (h : YR P sq ops K rest (st.put d (.d (.sl k es)))) (hd : dstOk ⟨d, .buildSlice T n ps.toArray, ty, pos, af, gd⟩ st = true := by kernel_rfl) (hk : opOk ⟨d, .buildSlice T n ps.toArray, ty, pos, af, gd⟩ st .no = true := by kernel_rfl) (hw : st.want ops ⟨d, .buildSlice T n ps.toArray, ty, pos, af, gd⟩ = some true := by rfl) :
    YR P sq ops K (⟨d, .buildSlice T n ps.toArray, ty, pos, af, gd⟩ :: rest) st := yr_v (ls_litf T n ps hq hf he hs hs' hd) hk hw h
variable {B : Nat} {w0 : Cx} {Q : Exit → PS → Prop} {c : Code}
/-- a slot that holds such a value, told by what it does -/
theorem pw_fnv (s : Nat) {f : FuncId} (φ : List DV → SV → Prop) [hB : HasBody P f] (hc : ∀ xs r, φ xs r → PCalls P f xs r) (hs : st.get s = .d (.val (vF f))) (h : PW P B w0 c Q (st.put (some s) (.d (dF P φ)))) : PW P B w0 c Q st := fun g a w hr => by
  have hv := hr.slots s
  rw [hs] at hv
  have hq : a.tmps.getD s undef = vF f := DRep.val_eq hv
  have hd : DRep (Fx g) w (a.tmps.getD s undef) (dF P φ) := by
    rw [hq]
    refine DRep.of_beh ⟨f, [], rfl, hB.run, fun F' w' hk xs r vals hφ hl hv hgo => ?_⟩
    rw [List.append_nil]
    exact hc xs r hφ F' w' vals hl hv hgo
  refine h g a w { hr with lim := hr.lim, size := hr.size, boxes := hr.boxes, maps := hr.maps, dom := hr.dom, tdom := hr.tdom, tlen := hr.tlen, glob := hr.glob, slots := fun j => ?_ }
  rw [get_put]
  by_cases e : j = s
  · rw [if_pos e, e]; exact hd
  · rw [if_neg e]; exact hr.slots j
end
end Go.Proofs.YtkfoogabijnamaaGreatDoor.Px
namespace Go.Proofs.YtkfoogabijnamaaGreatDoor
open Go.RowKit Px

abbrev vSt (l : List Stp) : List Value := l.flatMap fun s => [vS s.c, vS s.f, vS s.t, vS s.q, vS s.m, vS s.k]
abbrev cSt (l : List Stp) : List SV := (vSt l).map fun u => SV.d (.val u)
theorem vSt_len (l : List Stp) : (vSt l).length = l.length * 6 := by
  induction l with
  | nil => rfl
  | cons s l ih =>
    show (vS s.c :: vS s.f :: vS s.t :: vS s.q :: vS s.m :: vS s.k :: vSt l).length = _
    simp only [List.length_cons, ih]
    omega
theorem chunk_vSt (l : List Stp) {n : Nat} (h : l.length = n) : chunk 6 n ((vSt l).map .val) = l.map dSp := by
  subst h
  induction l with
  | nil => rfl
  | cons x l ih =>
    show [dS x.c, dS x.f, dS x.t, dS x.q, dS x.m, dS x.k] :: chunk 6 l.length ((vSt l).map .val) = dSp x :: l.map dSp
    rw [ih]
    rfl
theorem toDs_vs (vs : List Value) : toDs (vs.map fun u => SV.d (.val u)) = some (vs.map DV.val) := toDs_map (fun u => DV.val u) vs
theorem noTs_vs (vs : List Value) (t : Nat) : ((vs.map fun u => SV.d (.val u)).all fun x => x.noTs t) = true := by
  rw [List.all_eq_true]
  intro x hx
  rw [List.mem_map] at hx
  obtain ⟨u, -, rfl⟩ := hx
  rfl
abbrev sT5 : Nat := 45 * 100000 + 5
set_option maxRecDepth 20000 in
set_option maxHeartbeats 1000000 in
theorem wCloneS (l : List Stp) (hl : l.length * 96 ≤ 140737488351232) : POwn Tryz.prog 35 [dSl l] 45 6 (l.map dSp) := by
  rcases Nat.eq_zero_or_pos l.length with h0 | h0
  · obtain rfl : l = [] := List.eq_nil_of_length_eq_zero h0
    refine pown_of_pw (t := sT5) Tryz.func35 rfl Tryz.ntmps35 Tryz.results35 (by simp) rfl fun B w0 => ?_
    refine pw_seq ?_; refine pw_region ?_; refine yAd rfl ?_; refine yQ ?_; refine pw_seq ?_; refine pw_seq ?_; refine pw_region ?_; refine yMd rfl ?_; refine yEu Tryz.underlying22 rfl ?_; refine yQ ?_; refine q_then ?_
    refine pw_bq 4 rfl ?_ fun _ => ?_
    · refine pw_cf rfl ?_; refine pw_skip ?_; refine pw_seq ?_; refine pw_region ?_; refine yEb rfl ?_; refine yMd rfl ?_; refine yTw0 rfl rfl ?_; refine yAw rfl ?_; refine yQ ?_
      refine pw_tkb 2 5 sT5 (n := 0) (es := []) (ds := []) rfl rfl rfl rfl rfl rfl rfl rfl ?_; refine pw_ret ?_
      exact q_own rfl rfl
    · refine pw_ct rfl ?_
      refine pw_seq ?_
      refine pw_region ?_
      refine yAd rfl ?_
      refine yQ ?_
      refine pw_tok 2 sT5 6 rfl rfl rfl ?_
      refine pw_ret ?_
      refine q_then_ret ?_
      exact q_own rfl rfl
  · refine pown_of_pw (t := sT5) Tryz.func35 rfl Tryz.ntmps35 Tryz.results35 (by simp) rfl fun B w0 => ?_
    refine pw_seq ?_; refine pw_region ?_; refine yAd rfl ?_; refine yQ ?_; refine pw_seq ?_; refine pw_seq ?_; refine pw_region ?_; refine yMd rfl ?_; refine yEn Tryz.underlying22 (by simp; omega) rfl ?_; refine yQ ?_
    refine pw_cf rfl ?_; refine pw_skip ?_; refine pw_seq ?_; refine pw_region ?_; refine yEb rfl ?_; refine yMd rfl ?_
    refine yTw (us := []) (vs := vSt l) (m := l.length) (n := 0) h0 (by omega) (by omega) (chunk_vSt l rfl) (vSt_len l) rfl rfl rfl rfl ?_; refine yAw rfl ?_; refine yQ ?_
    refine pw_tkb 2 5 sT5 (n := 0 + l.length) (es := l.map dSp) (ds := (vSt l).map .val) (by rw [List.length_map, vSt_len]; omega) (chunk_vSt l (by simp)) (toDs_vs _) rfl rfl rfl rfl (noTs_box1 (i := 5) (cs := cSt l) rfl rfl (noTs_vs _ _)) ?_
    refine pw_ret ?_
    exact q_own rfl (congrArg some (by simp))

/-! the functions that the law calls -/
def fnR (l : List Stp) : Nat → Str → List Str
  | 0, id => parR l id
  | 1, id => heiR l id
  | 2, id => orgR l id
  | _, id => cauR l id
def phR (R : List Stp → Str → List Str) (xs : List DV) (r : SV) : Prop := ∃ (l : List Stp) (id : Str), bdL 1000 l ∧ chkE l = 0 ∧ xs = [dSl l, dS id] ∧ r = .tup [dStrs (R l id), dI 0]
theorem hPhR0 : ∀ xs r, phR parR xs r → PCalls Tryz.prog 13 xs r := by
  rintro _ _ ⟨l, id, h1, h2, rfl, rfl⟩
  have := wParents l id h1
  rwa [okR, okE, if_pos h2, if_pos h2] at this
theorem hPhR1 : ∀ xs r, phR heiR xs r → PCalls Tryz.prog 17 xs r := by
  rintro _ _ ⟨l, id, h1, h2, rfl, rfl⟩
  have := wHeirs l id h1
  rwa [okR, okE, if_pos h2, if_pos h2] at this
theorem hPhR2 : ∀ xs r, phR orgR xs r → PCalls Tryz.prog 15 xs r := by
  rintro _ _ ⟨l, id, h1, h2, rfl, rfl⟩
  have := wOrigins l id h1
  rwa [okR, okE, if_pos h2, if_pos h2] at this
theorem hPhR3 : ∀ xs r, phR cauR xs r → PCalls Tryz.prog 19 xs r := by
  rintro _ _ ⟨l, id, h1, h2, rfl, rfl⟩
  have := wCauses l id h1
  rwa [okR, okE, if_pos h2, if_pos h2] at this
abbrev dFns : DV := .sl 1 [[.val (vF 13)], [.val (vF 17)], [.val (vF 15)], [.val (vF 19)]]
abbrev sT15 : Nat := 45 * 100000 + 15
set_option maxRecDepth 20000 in
set_option maxHeartbeats 8000000 in
theorem lawMore (l : List Stp) (s : Stp) (id : Str) (hw : l.length * 96 ≤ 140737488351232) : PCalls Tryz.prog 7 [dSl l, .agg (dSp s), dS id] (.d (dB true)) := by
  have k0 := wAwake
  obtain ⟨r, hr⟩ : ∃ r, r = l ++ [s] := ⟨_, rfl⟩
  have he : l.map dSp ++ [dSp s] = r.map dSp := by rw [hr]; simp
  have hm : (l.map dSp).length + [dSp s].length = (r.map dSp).length := by rw [hr]; simp
  have hb1 : ((l.map dSp).length + [dSp s].length) * 96 ≤ 140737488355328 := by simp; omega
  have hb2 : (l.map dSp).length + [dSp s].length ≤ 140737488351232 := by simp; omega
  have c1 := wCloneS l hw
  have k1 := wBigL r
  have hin : ∀ x ∈ l, x ∈ r := fun x hx => by rw [hr]; simp [hx]
  have hrl : r.length = l.length + 1 := by rw [hr]; simp
  clear hr
  obtain ⟨c, f, t, q, m, k⟩ := s
  refine pcalls_of_pw Tryz.func7 rfl Tryz.ntmps7 Tryz.results7 (by simp) fun B w0 => ?_
  refine pw_seq ?_; refine pw_region ?_; refine yK (cs := [_, _, _, _, _, _]) rfl rfl ?_; refine yAd rfl ?_; refine yQ ?_; refine pw_seq ?_
  refine pw_any ⟨75, [(0, .d (dSl l)), (2, .d (dS id)), (7, .d (dSl r))], [], []⟩ Tryz.mixed ?_ ?_; refine pa_step [_, _] rfl rfl ⟨⟨_, rfl, ?_⟩, ⟨_, rfl, ?_⟩, trivial⟩; refine yMd rfl ?_; refine yQ ?_
  refine pa_step [_, _] rfl rfl ⟨⟨_, rfl, ?_⟩, ⟨_, rfl, ?_⟩, trivial⟩; refine yCo (t := sT15) c1 rfl rfl rfl rfl ?_; refine yQ ?_; refine pa_step [_] rfl rfl ⟨⟨_, rfl, ?_⟩, trivial⟩
  refine yLa (ys := [_, _, _, _, _, _]) rfl rfl rfl rfl ?_; refine yQ ?_; refine pa_step [_] rfl rfl ⟨⟨_, rfl, ?_⟩, trivial⟩; refine yR (es := [dSp ⟨c, f, t, q, m, k⟩]) rfl rfl rfl rfl rfl ?_; refine yQ ?_
  refine pa_step [_] rfl rfl ⟨⟨_, rfl, ?_⟩, trivial⟩; refine yTL (es2 := [dSp ⟨c, f, t, q, m, k⟩]) hb1 hb2 rfl rfl rfl rfl rfl he hm ?_; refine yQ ?_; refine pa_step [_] rfl rfl ⟨⟨_, rfl, ?_⟩, trivial⟩; refine yAt rfl ?_; refine yQ ?_
  refine pa_fin rfl ⟨rfl, ⟨.refl _, .refl _, .tok _ _ _, trivial⟩, trivial, trivial, rfl⟩; refine yLa (ys := [_, _, _, _, _, _]) rfl rfl rfl rfl ?_; refine yQ ?_; refine pa_step [_, _] rfl rfl ⟨⟨_, rfl, ?_⟩, ⟨_, rfl, ?_⟩, trivial⟩
  refine yCo (t := sT15) c1 rfl rfl rfl rfl ?_; refine yQ ?_; refine pa_step [_] rfl rfl ⟨⟨_, rfl, ?_⟩, trivial⟩; refine yR (es := [dSp ⟨c, f, t, q, m, k⟩]) rfl rfl rfl rfl rfl ?_; refine yQ ?_
  refine pa_step [_] rfl rfl ⟨⟨_, rfl, ?_⟩, trivial⟩; refine yTL (es2 := [dSp ⟨c, f, t, q, m, k⟩]) hb1 hb2 rfl rfl rfl rfl rfl he hm ?_; refine yQ ?_; refine pa_step [_] rfl rfl ⟨⟨_, rfl, ?_⟩, trivial⟩; refine yAt rfl ?_; refine yQ ?_
  refine pa_fin rfl ⟨rfl, ⟨.refl _, .refl _, .tok _ _ _, trivial⟩, trivial, trivial, rfl⟩; refine yR (es := [dSp ⟨c, f, t, q, m, k⟩]) rfl rfl rfl rfl rfl ?_; refine yQ ?_; refine pa_step [_] rfl rfl ⟨⟨_, rfl, ?_⟩, trivial⟩
  refine yCo (t := sT15) c1 rfl rfl rfl rfl ?_; refine yQ ?_; refine pa_step [_] rfl rfl ⟨⟨_, rfl, ?_⟩, trivial⟩; refine yTL (es2 := [dSp ⟨c, f, t, q, m, k⟩]) hb1 hb2 rfl rfl rfl rfl rfl he hm ?_; refine yQ ?_
  refine pa_step [_] rfl rfl ⟨⟨_, rfl, ?_⟩, trivial⟩; refine yAt rfl ?_; refine yQ ?_; refine pa_fin rfl ⟨rfl, ⟨.refl _, .refl _, .tok _ _ _, trivial⟩, trivial, trivial, rfl⟩; refine yLa (ys := [_, _, _, _, _, _]) rfl rfl rfl rfl ?_
  refine yQ ?_; refine pa_step [_, _] rfl rfl ⟨⟨_, rfl, ?_⟩, ⟨_, rfl, ?_⟩, trivial⟩; refine yMd rfl ?_; refine yQ ?_; refine pa_step [_, _] rfl rfl ⟨⟨_, rfl, ?_⟩, ⟨_, rfl, ?_⟩, trivial⟩; refine yCo (t := sT15) c1 rfl rfl rfl rfl ?_
  refine yQ ?_; refine pa_step [_] rfl rfl ⟨⟨_, rfl, ?_⟩, trivial⟩; refine yR (es := [dSp ⟨c, f, t, q, m, k⟩]) rfl rfl rfl rfl rfl ?_; refine yQ ?_; refine pa_step [_] rfl rfl ⟨⟨_, rfl, ?_⟩, trivial⟩
  refine yTL (es2 := [dSp ⟨c, f, t, q, m, k⟩]) hb1 hb2 rfl rfl rfl rfl rfl he hm ?_; refine yQ ?_; refine pa_step [_] rfl rfl ⟨⟨_, rfl, ?_⟩, trivial⟩; refine yAt rfl ?_; refine yQ ?_
  refine pa_fin rfl ⟨rfl, ⟨.refl _, .refl _, .tok _ _ _, trivial⟩, trivial, trivial, rfl⟩; refine yR (es := [dSp ⟨c, f, t, q, m, k⟩]) rfl rfl rfl rfl rfl ?_; refine yQ ?_; refine pa_step [_] rfl rfl ⟨⟨_, rfl, ?_⟩, trivial⟩
  refine yCo (t := sT15) c1 rfl rfl rfl rfl ?_; refine yQ ?_; refine pa_step [_] rfl rfl ⟨⟨_, rfl, ?_⟩, trivial⟩; refine yTL (es2 := [dSp ⟨c, f, t, q, m, k⟩]) hb1 hb2 rfl rfl rfl rfl rfl he hm ?_; refine yQ ?_
  refine pa_step [_] rfl rfl ⟨⟨_, rfl, ?_⟩, trivial⟩; refine yAt rfl ?_; refine yQ ?_; refine pa_fin rfl ⟨rfl, ⟨.refl _, .refl _, .tok _ _ _, trivial⟩, trivial, trivial, rfl⟩
  refine yR (es := [dSp ⟨c, f, t, q, m, k⟩]) rfl rfl rfl rfl rfl ?_; refine yQ ?_; refine pa_step [_] rfl rfl ⟨⟨_, rfl, ?_⟩, trivial⟩; refine yMd rfl ?_; refine yQ ?_; refine pa_step [_] rfl rfl ⟨⟨_, rfl, ?_⟩, trivial⟩
  refine yCo (t := sT15) c1 rfl rfl rfl rfl ?_; refine yQ ?_; refine pa_step [_] rfl rfl ⟨⟨_, rfl, ?_⟩, trivial⟩; refine yTL (es2 := [dSp ⟨c, f, t, q, m, k⟩]) hb1 hb2 rfl rfl rfl rfl rfl he hm ?_; refine yQ ?_
  refine pa_step [_] rfl rfl ⟨⟨_, rfl, ?_⟩, trivial⟩; refine yAt rfl ?_; refine yQ ?_; refine pa_fin rfl ⟨rfl, ⟨.refl _, .refl _, .tok _ _ _, trivial⟩, trivial, trivial, rfl⟩; refine pw_seq ?_; refine pw_seq ?_; refine pw_region ?_
  refine yMd rfl ?_
  clear c1 he hm hb1 hb2
  cases hg : bigL r with
  | true =>
    rw [hg] at k1
    refine yC (k1) rfl rfl ?_; refine yMd rfl ?_; refine yO rfl ?_; refine yO rfl ?_; refine yO rfl ?_; refine yPd rfl rfl ?_; refine yMd rfl ?_; refine yO rfl ?_; refine yO rfl ?_; refine yO rfl ?_; refine yPd rfl rfl ?_
    refine yMd rfl ?_; refine yO rfl ?_; refine yO rfl ?_; refine yO rfl ?_; refine yPd rfl rfl ?_; refine yMd rfl ?_; refine yO rfl ?_; refine yO rfl ?_; refine yO rfl ?_; refine yPd rfl rfl ?_; refine yQ ?_; refine pw_ct rfl ?_
    refine pw_seq ?_; refine pw_region ?_; refine yC (k0) rfl rfl ?_; refine yAd rfl ?_; refine yQ ?_; refine pw_ret ?_; refine q_then_ret ?_
    exact q_ret _ (.tmp rfl .nil) rfl
  | false =>
  rw [hg] at k1
  by_cases hn : 60 < id.length
  · have t0 : decide ((id.length : Int) > 60) = true := decide_eq_true (by omega)
    refine yC (k1) rfl rfl ?_; refine yMd rfl ?_; refine yMd rfl ?_; refine yNs rfl ?_; refine yB rfl rfl rfl rfl ?_; refine yVd rfl rfl ?_; refine yMd rfl ?_; rw [t0]; refine yO rfl ?_; refine yO rfl ?_; refine yO rfl ?_
    refine yPd rfl rfl ?_; refine yMd rfl ?_; refine yO rfl ?_; refine yO rfl ?_; refine yO rfl ?_; refine yPd rfl rfl ?_; refine yMd rfl ?_; refine yO rfl ?_; refine yO rfl ?_; refine yO rfl ?_; refine yPd rfl rfl ?_; refine yQ ?_
    refine pw_ct rfl ?_; refine pw_seq ?_; refine pw_region ?_; refine yC (k0) rfl rfl ?_; refine yAd rfl ?_; refine yQ ?_; refine pw_ret ?_; refine q_then_ret ?_
    exact q_ret _ (.tmp rfl .nil) rfl
  have t0 : decide ((id.length : Int) > 60) = false := decide_eq_false (by omega)
  by_cases hn2 : 15 < l.length
  · have t1 : decide (((l.map dSp).length : Int) > 15) = true := decide_eq_true (by rw [List.length_map]; omega)
    refine yC (k1) rfl rfl ?_; refine yMd rfl ?_; refine yMd rfl ?_; refine yNs rfl ?_; refine yB rfl rfl rfl rfl ?_; refine yVd rfl rfl ?_; refine yMd rfl ?_; rw [t0]; refine yMd rfl ?_; refine yN rfl ?_; refine yB rfl rfl rfl rfl ?_
    refine yVd rfl rfl ?_; refine yMd rfl ?_; rw [t1]; refine yO rfl ?_; refine yO rfl ?_; refine yO rfl ?_; refine yPd rfl rfl ?_; refine yMd rfl ?_; refine yO rfl ?_; refine yO rfl ?_; refine yO rfl ?_; refine yPd rfl rfl ?_
    refine yQ ?_; refine pw_ct rfl ?_; refine pw_seq ?_; refine pw_region ?_; refine yC (k0) rfl rfl ?_; refine yAd rfl ?_; refine yQ ?_; refine pw_ret ?_; refine q_then_ret ?_
    exact q_ret _ (.tmp rfl .nil) rfl
  have t1 : decide (((l.map dSp).length : Int) > 15) = false := decide_eq_false (by rw [List.length_map]; omega)
  have hbr := bigL_bd hg
  have hbl : bdL 1000 l := ⟨by have := hbr.1; omega, fun x hx => hbr.2 x (hin x hx)⟩
  have k2 := wChk l hbl
  have k3 := wChk r hbr
  by_cases e1 : chkE l = 0
  rotate_left
  · have t2 : (chkE l != 0) = true := by simpa using e1
    refine yC (k1) rfl rfl ?_; refine yMd rfl ?_; refine yMd rfl ?_; refine yNs rfl ?_; refine yB rfl rfl rfl rfl ?_; refine yVd rfl rfl ?_; refine yMd rfl ?_; rw [t0]; refine yMd rfl ?_; refine yN rfl ?_; refine yB rfl rfl rfl rfl ?_
    refine yVd rfl rfl ?_; refine yMd rfl ?_; rw [t1]; refine yMd rfl ?_; refine yC (k2) rfl rfl ?_; refine yB rfl rfl rfl rfl ?_; refine yVd rfl rfl ?_; refine yMd rfl ?_; rw [t2]; refine yO rfl ?_; refine yO rfl ?_; refine yO rfl ?_
    refine yPd rfl rfl ?_; refine yQ ?_; refine pw_ct rfl ?_; refine pw_seq ?_; refine pw_region ?_; refine yC (k0) rfl rfl ?_; refine yAd rfl ?_; refine yQ ?_; refine pw_ret ?_; refine q_then_ret ?_
    exact q_ret _ (.tmp rfl .nil) rfl
  rw [e1] at k2
  by_cases e2 : chkE r = 0
  rotate_left
  · have t3 : (chkE r != 0) = true := by simpa using e2
    refine yC (k1) rfl rfl ?_; refine yMd rfl ?_; refine yMd rfl ?_; refine yNs rfl ?_; refine yB rfl rfl rfl rfl ?_; refine yVd rfl rfl ?_; refine yMd rfl ?_; rw [t0]; refine yMd rfl ?_; refine yN rfl ?_; refine yB rfl rfl rfl rfl ?_
    refine yVd rfl rfl ?_; refine yMd rfl ?_; rw [t1]; refine yMd rfl ?_; refine yC (k2) rfl rfl ?_; refine yB rfl rfl rfl rfl ?_; refine yVd rfl rfl ?_; refine yMd rfl ?_; refine yMd rfl ?_; refine yC (k3) rfl rfl ?_
    refine yB rfl rfl rfl rfl ?_; refine yVd rfl rfl ?_; refine yQ ?_; refine q_then ?_; rw [t3]; refine pw_ct rfl ?_; refine pw_seq ?_; refine pw_region ?_; refine yC (k0) rfl rfl ?_; refine yAd rfl ?_; refine yQ ?_; refine pw_ret ?_
    refine q_then_ret ?_
    exact q_ret _ (.tmp rfl .nil) rfl
  rw [e2] at k3
  have y0 : (parR l id).any (noB (parR r id)) = false := noB_none (parR_mono hin id)
  have y1 : (heiR l id).any (noB (heiR r id)) = false := noB_none (heiR_mono hin id)
  have y2 : (orgR l id).any (noB (orgR r id)) = false := noB_none (orgR_mono hin id)
  have y3 : (cauR l id).any (noB (cauR r id)) = false := noB_none (cauR_mono hin id)
  have z0 := parR_len l id
  have z1 := heiR_len l id
  have z2 := filt_len (orgF l id) (·.t) l
  have z3 := filt_len (cauF l id) (·.c) l
  have x0 := parR_len r id
  have x1 := heiR_len r id
  have x2 := filt_len (orgF r id) (·.t) r
  have x3 := filt_len (cauF r id) (·.c) r
  have hl5 := hbr.1
  refine yC (k1) rfl rfl ?_; refine yMd rfl ?_; refine yMd rfl ?_; refine yNs rfl ?_; refine yB rfl rfl rfl rfl ?_; refine yVd rfl rfl ?_; refine yMd rfl ?_; rw [t0]; refine yMd rfl ?_; refine yN rfl ?_; refine yB rfl rfl rfl rfl ?_
  refine yVd rfl rfl ?_; refine yMd rfl ?_; rw [t1]; refine yMd rfl ?_; refine yC (k2) rfl rfl ?_; refine yB rfl rfl rfl rfl ?_; refine yVd rfl rfl ?_; refine yMd rfl ?_; refine yMd rfl ?_; refine yC (k3) rfl rfl ?_
  refine yB rfl rfl rfl rfl ?_; refine yVd rfl rfl ?_; refine yQ ?_; refine pw_cf rfl ?_; refine pw_skip ?_; refine pw_seq ?_; refine pw_seq ?_; refine pw_region ?_
  refine yRfn (es := [[.val (vF 13)], [.val (vF 17)], [.val (vF 15)], [.val (vF 19)]]) rfl rfl rfl rfl rfl ?_; refine yN rfl ?_; refine yMd rfl ?_; refine yQ ?_; refine pw_block ?_
  refine pw_loop (fun i : Nat => ⟨75, [(0, .d (dSl l)), (2, .d (dS id)), (7, .d (dSl r)), (42, .d dFns), (43, .d (dI 4)), (44, .d (dI i))], [], []⟩) (fun i => i ≤ 4) (fun i => 4 - i) 0 (Nat.zero_le _) ⟨rfl, ⟨.refl _, .refl _, .refl _, .refl _, .refl _, .refl _, trivial⟩, trivial, trivial, rfl⟩ ?_
  intro i hi
  rcases Nat.lt_or_ge i 4 with h | h
  rotate_left
  · have u1 : decide ((i : Int) < 4) = false := decide_eq_false (by omega)
    refine pw_seq ?_; refine pw_region ?_; refine yB rfl rfl rfl rfl ?_; refine yQ ?_; refine pw_seq ?_; rw [u1]; refine pw_cf rfl ?_; refine pw_exit ?_; refine pw_seq ?_; refine pw_region ?_; refine yC (k0) rfl rfl ?_
    refine yAd rfl ?_; refine yQ ?_; refine pw_ret ?_
    exact q_ret _ (.tmp rfl .nil) rfl
  have u1 : decide ((i : Int) < 4) = true := decide_eq_true (by omega)
  have hw := wrapI ((i : Int) + 1) (by omega)
  have hcase : i = 0 ∨ i = 1 ∨ i = 2 ∨ i = 3 := by omega
  rcases hcase with rfl | rfl | rfl | rfl
  · obtain ⟨a, ha⟩ : ∃ a, a = parR l id := ⟨_, rfl⟩
    obtain ⟨b, hb⟩ : ∃ b, b = parR r id := ⟨_, rfl⟩
    have p1 : phR parR [dSl l, dS id] (.tup [dStrs a, dI 0]) := ⟨l, id, hbl, e1, rfl, by rw [ha]⟩
    have p2 : phR parR [dSl r, dS id] (.tup [dStrs b, dI 0]) := ⟨r, id, hbr, e2, rfl, by rw [hb]⟩
    have la : a.length ≤ 1000000 := by rw [ha]; exact Nat.le_trans z0 (by omega)
    have lb : b.length ≤ 1000000 := by rw [hb]; exact Nat.le_trans x0 (by omega)
    rw [← ha, ← hb] at y0
    have c6 := wHasFS (noB b) a la
    rw [y0] at c6
    have hph := hPhMor1 b lb
    clear ha hb
    have ex : ([[.val (vF 13)], [.val (vF 17)], [.val (vF 15)], [.val (vF 19)]] : List (List DV))[((0 : Nat) : Int).toNat]? = some [.val (vF 13)] := rfl
    refine pw_seq ?_; refine pw_region ?_; refine yB rfl rfl rfl rfl ?_; refine yQ ?_; refine pw_seq ?_; refine pw_ct rfl ?_; refine pw_skip ?_; refine pw_seq ?_; refine pw_block ?_; refine pw_seq ?_; refine pw_region ?_
    refine yW ex (by omega) rfl rfl ?_; refine yLr rfl rfl ?_; refine yAd rfl ?_; refine yQ ?_; refine pw_fnv 9 (phR parR) hPhR0 rfl ?_; refine pw_seq ?_; refine pw_region ?_; refine yMd rfl ?_; refine yMd rfl ?_; refine yMd rfl ?_
    refine yCv p1 rfl rfl rfl ?_; refine yMp rfl ?_; refine yX rfl rfl ?_; refine yX rfl rfl ?_; refine yAd rfl ?_; refine yAd rfl ?_; refine yQ ?_; refine pw_seq ?_; refine pw_region ?_; refine yMd rfl ?_; refine yMd rfl ?_
    refine yMd rfl ?_; refine yCv p2 rfl rfl rfl ?_; refine yMp rfl ?_; refine yX rfl rfl ?_; refine yX rfl rfl ?_; refine yZ (cs := [_]) rfl rfl ?_; refine ySl (cs' := [_]) rfl rfl rfl rfl ?_; refine yAd rfl ?_; refine yQ ?_
    refine pw_seq ?_; refine pw_region ?_; refine yMd rfl ?_; refine yB rfl rfl rfl rfl ?_; refine yMd rfl ?_; refine yMd rfl ?_; refine yB rfl rfl rfl rfl ?_; refine yVd rfl rfl ?_; refine yMd rfl ?_; refine yMd rfl ?_
    refine yCm rfl ?_; refine yCf c6 (.d rfl (.fn inferInstance rfl rfl hph .nil)) rfl ?_; refine yVd rfl rfl ?_; refine yQ ?_; refine pw_cf rfl ?_; refine pw_skip ?_; refine pw_region ?_; refine yB rfl rfl rfl rfl ?_; refine yMd rfl ?_
    refine yQ ?_; refine q_then ?_; rw [u1]
    exact ⟨0 + 1, by omega, by omega, rfl, ⟨.refl _, .refl _, .refl _, .refl _, .refl _, .of_eq (congrArg (fun n => SV.d (dI n)) hw), trivial⟩, trivial, trivial, rfl⟩
  · obtain ⟨a, ha⟩ : ∃ a, a = heiR l id := ⟨_, rfl⟩
    obtain ⟨b, hb⟩ : ∃ b, b = heiR r id := ⟨_, rfl⟩
    have p1 : phR heiR [dSl l, dS id] (.tup [dStrs a, dI 0]) := ⟨l, id, hbl, e1, rfl, by rw [ha]⟩
    have p2 : phR heiR [dSl r, dS id] (.tup [dStrs b, dI 0]) := ⟨r, id, hbr, e2, rfl, by rw [hb]⟩
    have la : a.length ≤ 1000000 := by rw [ha]; exact Nat.le_trans z1 (by omega)
    have lb : b.length ≤ 1000000 := by rw [hb]; exact Nat.le_trans x1 (by omega)
    rw [← ha, ← hb] at y1
    have c6 := wHasFS (noB b) a la
    rw [y1] at c6
    have hph := hPhMor1 b lb
    clear ha hb
    have ex : ([[.val (vF 13)], [.val (vF 17)], [.val (vF 15)], [.val (vF 19)]] : List (List DV))[((1 : Nat) : Int).toNat]? = some [.val (vF 17)] := rfl
    refine pw_seq ?_; refine pw_region ?_; refine yB rfl rfl rfl rfl ?_; refine yQ ?_; refine pw_seq ?_; refine pw_ct rfl ?_; refine pw_skip ?_; refine pw_seq ?_; refine pw_block ?_; refine pw_seq ?_; refine pw_region ?_
    refine yW ex (by omega) rfl rfl ?_; refine yLr rfl rfl ?_; refine yAd rfl ?_; refine yQ ?_; refine pw_fnv 9 (phR heiR) hPhR1 rfl ?_; refine pw_seq ?_; refine pw_region ?_; refine yMd rfl ?_; refine yMd rfl ?_; refine yMd rfl ?_
    refine yCv p1 rfl rfl rfl ?_; refine yMp rfl ?_; refine yX rfl rfl ?_; refine yX rfl rfl ?_; refine yAd rfl ?_; refine yAd rfl ?_; refine yQ ?_; refine pw_seq ?_; refine pw_region ?_; refine yMd rfl ?_; refine yMd rfl ?_
    refine yMd rfl ?_; refine yCv p2 rfl rfl rfl ?_; refine yMp rfl ?_; refine yX rfl rfl ?_; refine yX rfl rfl ?_; refine yZ (cs := [_]) rfl rfl ?_; refine ySl (cs' := [_]) rfl rfl rfl rfl ?_; refine yAd rfl ?_; refine yQ ?_
    refine pw_seq ?_; refine pw_region ?_; refine yMd rfl ?_; refine yB rfl rfl rfl rfl ?_; refine yMd rfl ?_; refine yMd rfl ?_; refine yB rfl rfl rfl rfl ?_; refine yVd rfl rfl ?_; refine yMd rfl ?_; refine yMd rfl ?_
    refine yCm rfl ?_; refine yCf c6 (.d rfl (.fn inferInstance rfl rfl hph .nil)) rfl ?_; refine yVd rfl rfl ?_; refine yQ ?_; refine pw_cf rfl ?_; refine pw_skip ?_; refine pw_region ?_; refine yB rfl rfl rfl rfl ?_; refine yMd rfl ?_
    refine yQ ?_; refine q_then ?_; rw [u1]
    exact ⟨1 + 1, by omega, by omega, rfl, ⟨.refl _, .refl _, .refl _, .refl _, .refl _, .of_eq (congrArg (fun n => SV.d (dI n)) hw), trivial⟩, trivial, trivial, rfl⟩
  · obtain ⟨a, ha⟩ : ∃ a, a = orgR l id := ⟨_, rfl⟩
    obtain ⟨b, hb⟩ : ∃ b, b = orgR r id := ⟨_, rfl⟩
    have p1 : phR orgR [dSl l, dS id] (.tup [dStrs a, dI 0]) := ⟨l, id, hbl, e1, rfl, by rw [ha]⟩
    have p2 : phR orgR [dSl r, dS id] (.tup [dStrs b, dI 0]) := ⟨r, id, hbr, e2, rfl, by rw [hb]⟩
    have la : a.length ≤ 1000000 := by rw [ha]; exact Nat.le_trans z2 (by omega)
    have lb : b.length ≤ 1000000 := by rw [hb]; exact Nat.le_trans x2 (by omega)
    rw [← ha, ← hb] at y2
    have c6 := wHasFS (noB b) a la
    rw [y2] at c6
    have hph := hPhMor1 b lb
    clear ha hb
    have ex : ([[.val (vF 13)], [.val (vF 17)], [.val (vF 15)], [.val (vF 19)]] : List (List DV))[((2 : Nat) : Int).toNat]? = some [.val (vF 15)] := rfl
    refine pw_seq ?_; refine pw_region ?_; refine yB rfl rfl rfl rfl ?_; refine yQ ?_; refine pw_seq ?_; refine pw_ct rfl ?_; refine pw_skip ?_; refine pw_seq ?_; refine pw_block ?_; refine pw_seq ?_; refine pw_region ?_
    refine yW ex (by omega) rfl rfl ?_; refine yLr rfl rfl ?_; refine yAd rfl ?_; refine yQ ?_; refine pw_fnv 9 (phR orgR) hPhR2 rfl ?_; refine pw_seq ?_; refine pw_region ?_; refine yMd rfl ?_; refine yMd rfl ?_; refine yMd rfl ?_
    refine yCv p1 rfl rfl rfl ?_; refine yMp rfl ?_; refine yX rfl rfl ?_; refine yX rfl rfl ?_; refine yAd rfl ?_; refine yAd rfl ?_; refine yQ ?_; refine pw_seq ?_; refine pw_region ?_; refine yMd rfl ?_; refine yMd rfl ?_
    refine yMd rfl ?_; refine yCv p2 rfl rfl rfl ?_; refine yMp rfl ?_; refine yX rfl rfl ?_; refine yX rfl rfl ?_; refine yZ (cs := [_]) rfl rfl ?_; refine ySl (cs' := [_]) rfl rfl rfl rfl ?_; refine yAd rfl ?_; refine yQ ?_
    refine pw_seq ?_; refine pw_region ?_; refine yMd rfl ?_; refine yB rfl rfl rfl rfl ?_; refine yMd rfl ?_; refine yMd rfl ?_; refine yB rfl rfl rfl rfl ?_; refine yVd rfl rfl ?_; refine yMd rfl ?_; refine yMd rfl ?_
    refine yCm rfl ?_; refine yCf c6 (.d rfl (.fn inferInstance rfl rfl hph .nil)) rfl ?_; refine yVd rfl rfl ?_; refine yQ ?_; refine pw_cf rfl ?_; refine pw_skip ?_; refine pw_region ?_; refine yB rfl rfl rfl rfl ?_; refine yMd rfl ?_
    refine yQ ?_; refine q_then ?_; rw [u1]
    exact ⟨2 + 1, by omega, by omega, rfl, ⟨.refl _, .refl _, .refl _, .refl _, .refl _, .of_eq (congrArg (fun n => SV.d (dI n)) hw), trivial⟩, trivial, trivial, rfl⟩
  · obtain ⟨a, ha⟩ : ∃ a, a = cauR l id := ⟨_, rfl⟩
    obtain ⟨b, hb⟩ : ∃ b, b = cauR r id := ⟨_, rfl⟩
    have p1 : phR cauR [dSl l, dS id] (.tup [dStrs a, dI 0]) := ⟨l, id, hbl, e1, rfl, by rw [ha]⟩
    have p2 : phR cauR [dSl r, dS id] (.tup [dStrs b, dI 0]) := ⟨r, id, hbr, e2, rfl, by rw [hb]⟩
    have la : a.length ≤ 1000000 := by rw [ha]; exact Nat.le_trans z3 (by omega)
    have lb : b.length ≤ 1000000 := by rw [hb]; exact Nat.le_trans x3 (by omega)
    rw [← ha, ← hb] at y3
    have c6 := wHasFS (noB b) a la
    rw [y3] at c6
    have hph := hPhMor1 b lb
    clear ha hb
    have ex : ([[.val (vF 13)], [.val (vF 17)], [.val (vF 15)], [.val (vF 19)]] : List (List DV))[((3 : Nat) : Int).toNat]? = some [.val (vF 19)] := rfl
    refine pw_seq ?_; refine pw_region ?_; refine yB rfl rfl rfl rfl ?_; refine yQ ?_; refine pw_seq ?_; refine pw_ct rfl ?_; refine pw_skip ?_; refine pw_seq ?_; refine pw_block ?_; refine pw_seq ?_; refine pw_region ?_
    refine yW ex (by omega) rfl rfl ?_; refine yLr rfl rfl ?_; refine yAd rfl ?_; refine yQ ?_; refine pw_fnv 9 (phR cauR) hPhR3 rfl ?_; refine pw_seq ?_; refine pw_region ?_; refine yMd rfl ?_; refine yMd rfl ?_; refine yMd rfl ?_
    refine yCv p1 rfl rfl rfl ?_; refine yMp rfl ?_; refine yX rfl rfl ?_; refine yX rfl rfl ?_; refine yAd rfl ?_; refine yAd rfl ?_; refine yQ ?_; refine pw_seq ?_; refine pw_region ?_; refine yMd rfl ?_; refine yMd rfl ?_
    refine yMd rfl ?_; refine yCv p2 rfl rfl rfl ?_; refine yMp rfl ?_; refine yX rfl rfl ?_; refine yX rfl rfl ?_; refine yZ (cs := [_]) rfl rfl ?_; refine ySl (cs' := [_]) rfl rfl rfl rfl ?_; refine yAd rfl ?_; refine yQ ?_
    refine pw_seq ?_; refine pw_region ?_; refine yMd rfl ?_; refine yB rfl rfl rfl rfl ?_; refine yMd rfl ?_; refine yMd rfl ?_; refine yB rfl rfl rfl rfl ?_; refine yVd rfl rfl ?_; refine yMd rfl ?_; refine yMd rfl ?_
    refine yCm rfl ?_; refine yCf c6 (.d rfl (.fn inferInstance rfl rfl hph .nil)) rfl ?_; refine yVd rfl rfl ?_; refine yQ ?_; refine pw_cf rfl ?_; refine pw_skip ?_; refine pw_region ?_; refine yB rfl rfl rfl rfl ?_; refine yMd rfl ?_
    refine yQ ?_; refine q_then ?_; rw [u1]
    exact ⟨3 + 1, by omega, by omega, rfl, ⟨.refl _, .refl _, .refl _, .refl _, .refl _, .of_eq (congrArg (fun n => SV.d (dI n)) hw), trivial⟩, trivial, trivial, rfl⟩
end Go.Proofs.YtkfoogabijnamaaGreatDoor
