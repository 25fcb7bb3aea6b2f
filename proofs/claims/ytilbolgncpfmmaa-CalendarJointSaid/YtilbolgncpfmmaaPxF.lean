import Derived.Test.YtilbolgncpfmmaaPxS
/- The logic of pure states: function values. -/
set_option maxHeartbeats 1000000
namespace Go.Proofs.Ytilbolgncpfmmaa.Px
open Go.RowKit

/-- nothing of the cells F is lost -/
def Keeps (F : Nat → Nat → Prop) (w : World) (F' : Nat → Nat → Prop) (w' : World) : Prop :=
  ∀ b o, F b o → (w.cell? ⟨b, o, none⟩).isSome → F' b o ∧ w'.cell? ⟨b, o, none⟩ = w.cell? ⟨b, o, none⟩
theorem Keeps.trans {F F' F'' : Nat → Nat → Prop} {w w' w'' : World} (h : Keeps F w F' w') (h' : Keeps F' w' F'' w'') : Keeps F w F'' w'' := fun b o hF hc => by
  obtain ⟨h1, h2⟩ := h b o hF hc
  obtain ⟨h3, h4⟩ := h' b o h1 (by rw [h2]; exact hc)
  exact ⟨h3, h4.trans h2⟩
/-- how a function value behaves: what it returns for what it is given -/
def Beh (P : Program) (φ : List DV → SV → Prop) (F : Nat → Nat → Prop) (w : World) (v : Value) : Prop :=
  ∃ f, ∃ caps : List Value, v = .func (.func f) #[] caps.toArray ∧ (∀ w args, (callFunc f args).run P w = .ok (.enter f args) w) ∧
    ∀ F' w', Keeps F w F' w' → ∀ xs r (vals : List Value), φ xs r → vals.length = xs.length → (∀ (i : Nat) v x, vals[i]? = some v → xs[i]? = some x → DRep F' w' v x) →
      Calls P f (vals ++ caps).toArray w' fun e w'' => ∃ v, e = .returned v ∧ SRep (gF fun b o => F' b o ∨ w'.heap.size ≤ b) w'' v r ∧ Below w'.heap.size w' w''
theorem Beh.mono {P : Program} {φ : List DV → SV → Prop} (F F' : Nat → Nat → Prop) (w w' : World) (v : Value) (h : Beh P φ F w v) (hk : ∀ b o, F b o → (w.cell? ⟨b, o, none⟩).isSome → F' b o ∧ w'.cell? ⟨b, o, none⟩ = w.cell? ⟨b, o, none⟩) : Beh P φ F' w' v := by
  obtain ⟨f, caps, h1, h2, h3⟩ := h
  exact ⟨f, caps, h1, h2, fun F'' w'' hk' => h3 F'' w'' (Keeps.trans hk hk')⟩
abbrev dF (P : Program) (φ : List DV → SV → Prop) : DV := .abs (Beh P φ)
theorem DRep.beh {P : Program} {φ : List DV → SV → Prop} {F : Nat → Nat → Prop} {w : World} {v : Value} (h : DRep F w v (dF P φ)) : Beh P φ F w v := by
  generalize e : dF P φ = x at h
  cases h with
  | abs hR h1 h => cases e; exact h
  | _ => cases e
theorem DRep.of_beh {P : Program} {φ : List DV → SV → Prop} {F : Nat → Nat → Prop} {w : World} {v : Value} (h : Beh P φ F w v) : DRep F w v (dF P φ) :=
  .abs Beh.mono (by obtain ⟨f, caps, rfl, -⟩ := h; rfl) h

section
variable {P : Program} {sq : Bool} {ops : Array Oper} {K : PS → Prop} {rest : List Oper} {st : PS} {d : Option Nat} {op : Op} {ty : TypeId} {pos : String} {af : Array Edge} {gd : Option (Nat × Bool)} {q : Nat × Bool}

/-- a call of a function value -/
theorem ls_callv (x : Operand) (l : List Operand) (ts : Array TypeId) {φ : List DV → SV → Prop} {ys : List DV} {r : SV} (hx : st.ev x = .d (dF P φ)) (hargs : evDs st l = some ys) (hc : φ ys r) (hres : resOk r = true) (hd : dstOk ⟨d, .call { callee := .value x, args := l.toArray, argTypes := ts }, ty, pos, af, gd⟩ st = true) :
    LocS P ⟨d, .call { callee := .value x, args := l.toArray, argTypes := ts }, ty, pos, af, gd⟩ st r .no := fun st2 ha => by
  intro B w0 g a w K Q hr hK
  have hev : evDs st2 l = some ys := by rw [evDs_congr fun x hx => ha.ev x (by simp [Op.operands, Call.operands, hx])]; exact hargs
  obtain ⟨h1, h2⟩ := evDs_get hev
  have hxe := hr.eval x
  rw [ha.ev x (by simp [Op.operands, Call.operands]), hx] at hxe
  obtain ⟨f, caps, hv, hB, hb⟩ := DRep.beh hxe
  have hcall := hb (Fx g) w (fun b o h _ => ⟨h, rfl⟩) ys r (l.map a.eval) hc (by simpa using h1) (fun i v x hv hx => by
    rw [List.getElem?_map, Option.map_eq_some_iff] at hv
    obtain ⟨y, h3, rfl⟩ := hv
    exact (hr.eval y).toD (h2 i y x h3 hx))
  have hrun : (execOp a.eval ⟨d, .call { callee := .value x, args := l.toArray, argTypes := ts }, ty, pos, af, gd⟩).run P w = .ok (.enter f (l.map a.eval ++ caps).toArray) w := by
    simp only [execOp, resolve, hv, Deferred.ofValue, Sem.run_bind, Sem.run_pure, Result.andThen_ok, invoke]
    rw [hB]
    simp
  unfold Oper.wp
  rw [hrun]
  show Calls P f _ w _
  refine hcall.mono ?_
  rintro e w' ⟨v, rfl, h3, h4⟩
  exact hK g _ _ ((hr.grow h4).put (SRep.of_call hr h3 hres) _ (dstOk_spec (ha.dst hd)))

/-! making a function value -/
def capsOf (st : PS) : List Operand → Option (List Nat)
  | [] => some []
  | x :: l => match st.ev x, capsOf st l with
    | .bx i 0, some is => some (i :: is)
    | _, _ => none
theorem capsOf_get {l : List Operand} {is : List Nat} (h : capsOf st l = some is) {g : Gh} {w : World} {ρ : Operand → Value} (hρ : ∀ x ∈ l, SRep g w (ρ x) (st.ev x)) :
    ∃ bs : List Nat, l.map ρ = bs.map (fun b => Value.pointer (some ⟨b, 0, none⟩)) ∧ bs.length = is.length ∧ ∀ (i : Nat) b c, bs[i]? = some b → is[i]? = some c → g.bl c = some b := by
  induction l generalizing is with
  | nil => cases h; exact ⟨[], rfl, rfl, fun i b c hb => by simp at hb⟩
  | cons x l ih =>
    simp only [capsOf] at h
    split at h
    · rename_i i is' h1 h2
      cases h
      obtain ⟨bs, h3, h4, h5⟩ := ih h2 fun y hy => hρ y (by simp [hy])
      have h6 := hρ x (by simp)
      rw [h1] at h6
      obtain ⟨b, h7, h8⟩ := h6
      refine ⟨b :: bs, by simp [h3, h8], by simp [h4], fun j b' c hb hc => ?_⟩
      cases j with
      | zero => simp at hb hc; subst hb hc; exact h7
      | succ j => exact h5 j b' c (by simpa using hb) (by simpa using hc)
    · cases h
theorem capsOf_congr {st2 : PS} {l : List Operand} (h : ∀ x ∈ l, st2.ev x = st.ev x) : capsOf st2 l = capsOf st l := by
  induction l with
  | nil => rfl
  | cons x l ih => simp only [capsOf]; rw [h x (by simp), ih fun y hy => h y (by simp [hy])]
theorem ls_makeFunc (f : FuncId) (l : List Operand) {caps : List Nat} (h : capsOf st l = some caps) (hd : dstOk ⟨d, .makeFunc (.func f) #[] l.toArray, ty, pos, af, gd⟩ st = true) :
    LocS P ⟨d, .makeFunc (.func f) #[] l.toArray, ty, pos, af, gd⟩ st (.fn f caps) .no := fun st2 ha =>
  OpS.value (ha.dst hd) fun _ _ g a w hr => by
    have h2 : capsOf st2 l = some caps := by rw [capsOf_congr fun x hx => ha.ev x (by simp [Op.operands, hx])]; exact h
    obtain ⟨bs, h3, h4, h5⟩ := capsOf_get h2 (ρ := a.eval) fun x _ => hr.eval x
    refine ⟨.func (.func f) #[] (l.map a.eval).toArray, w, ?_, Below.refl _ _, bs, by rw [h3], h4, h5⟩
    simp [execOp, Instr.makeFunc]

/-! a call that is given function values over boxes of one's own -/
def boxDs (st : PS) : List Nat → Option (List (List DV))
  | [] => some []
  | c :: l => match (st.bget c).bind toDs, boxDs st l with
    | some x, some xs => some (x :: xs)
    | _, _ => none
inductive ArgF (P : Program) (st : PS) : List Operand → List DV → Prop
  | nil : ArgF P st [] []
  | d {x : Operand} {y : DV} {l : List Operand} {ys : List DV} (h : toD (st.ev x) = some y) (hl : ArgF P st l ys) : ArgF P st (x :: l) (y :: ys)
  | fn {x : Operand} {f : FuncId} {caps : List Nat} {css : List (List DV)} {φ : List DV → SV → Prop} {l : List Operand} {ys : List DV} (hB : HasBody P f) (h : st.ev x = .fn f caps) (hcs : boxDs st caps = some css)
      (hc : ∀ xs r, φ xs r → PCalls P f (xs ++ css.map .ref) r) (hl : ArgF P st l ys) : ArgF P st (x :: l) (dF P φ :: ys)
def plainR : SV → Bool
  | .d (.val _) => true
  | .tup xs => xs.all fun | .val _ => true | _ => false
  | _ => false

theorem boxDs_get {l : List Nat} {css : List (List DV)} (h : boxDs st l = some css) : l.length = css.length ∧ ∀ (j : Nat) c ds, l[j]? = some c → css[j]? = some ds → ∃ cs, st.bget c = some cs ∧ toDs cs = some ds := by
  induction l generalizing css with
  | nil => cases h; exact ⟨rfl, fun j c ds hj => by simp at hj⟩
  | cons c l ih =>
    simp only [boxDs] at h
    split at h
    · rename_i x xs h1 h2
      cases h
      obtain ⟨h3, h4⟩ := ih h2
      refine ⟨by simp [h3], fun j c' ds hc hd => ?_⟩
      cases j with
      | zero =>
        simp at hc hd
        subst hc hd
        obtain ⟨cs, h5, h6⟩ := Option.bind_eq_some_iff.1 h1
        exact ⟨cs, h5, h6⟩
      | succ j => exact h4 j c' ds (by simpa using hc) (by simpa using hd)
    · cases h
theorem boxDs_congr {st2 : PS} {l : List Nat} (h : ∀ c ∈ l, st2.bget c = st.bget c) : boxDs st2 l = boxDs st l := by
  induction l with
  | nil => rfl
  | cons x l ih => simp only [boxDs]; rw [h x (by simp), ih fun y hy => h y (by simp [hy])]
theorem ArgF.congr {st2 : PS} {l : List Operand} {ys : List DV} (h : ArgF P st l ys) (h1 : ∀ x ∈ l, st2.ev x = st.ev x) (h2 : ∀ x ∈ l, ∀ f caps, st.ev x = .fn f caps → ∀ c ∈ caps, st2.bget c = st.bget c) : ArgF P st2 l ys := by
  induction h with
  | nil => exact .nil
  | @d x y l ys h _ ih => exact .d (by rw [h1 x (by simp)]; exact h) (ih (fun x hx => h1 x (by simp [hx])) fun x hx => h2 x (by simp [hx]))
  | @fn x f caps css φ l ys hB h hcs hc _ ih =>
    exact .fn hB (by rw [h1 x (by simp)]; exact h) (by rw [boxDs_congr (h2 x (by simp) f caps h)]; exact hcs) hc (ih (fun x hx => h1 x (by simp [hx])) fun x hx => h2 x (by simp [hx]))
/-- the boxes of one's own are fixed while a function that is called runs -/
def FxB (g : Gh) (b o : Nat) : Prop := Fx g b o ∨ ∃ i, g.bl i = some b
theorem ref_box {B : Nat} {w0 : Cx} {g : Gh} {a : Act} {w : World} {c b : Nat} {cs : List SV} {ds : List DV} (hr : Rep B w0 g st a w) (hc : st.bget c = some cs) (hd : toDs cs = some ds) (hb : g.bl c = some b) : DRep (FxB g) w (.pointer (some ⟨b, 0, none⟩)) (.ref ds) := by
  obtain ⟨b', xs, T, h1, h2, h3, h4, h5⟩ := hr.boxes c cs hc
  rw [hb] at h1
  cases h1
  obtain ⟨h6, h7⟩ := toDs_get hd
  refine .ref (fun j => (xs[j]?).getD undef) (fun j hj => ?_) (fun j x hx => ?_)
  · have hlt : j < xs.size := by omega
    refine ⟨?_, .inr ⟨c, hb⟩, ?_⟩
    · simp [World.cell?, h2, hlt]
    · simp only [Array.getElem?_eq_getElem hlt, Option.getD_some]; exact h5 _ (Array.getElem_mem hlt)
  · obtain ⟨y, h8, h9⟩ := h7 j x hx
    obtain ⟨u, h10, h11⟩ := h4 j y h8
    simp only [h10, Option.getD_some]
    exact (h11.toD h9).mono fun b o hf _ => ⟨.inl hf, rfl⟩
theorem argF_rep {B : Nat} {w0 : Cx} {g : Gh} {a : Act} {w : World} {l : List Operand} {ys : List DV} (hr : Rep B w0 g st a w) (h : ArgF P st l ys) :
    l.length = ys.length ∧ ∀ (i : Nat) v x, (l.map a.eval)[i]? = some v → ys[i]? = some x → DRep (FxB g) w v x := by
  induction h with
  | nil => exact ⟨rfl, fun i v x hv => by simp at hv⟩
  | @d x y l ys h _ ih =>
    refine ⟨by simp [ih.1], fun i v z hv hz => ?_⟩
    cases i with
    | zero => simp at hv hz; subst hv hz; exact ((hr.eval x).toD h).mono fun b o hf _ => ⟨.inl hf, rfl⟩
    | succ i => exact ih.2 i v z (by simpa using hv) (by simpa using hz)
  | @fn x f caps css φ l ys hB h hcs hc _ ih =>
    refine ⟨by simp [ih.1], fun i v z hv hz => ?_⟩
    cases i with
    | zero =>
      simp at hv hz
      subst hv hz
      have hx := hr.eval x
      rw [h] at hx
      obtain ⟨bs, h1, h2, h3⟩ := hx
      obtain ⟨h4, h5⟩ := boxDs_get hcs
      refine DRep.of_beh ⟨f, bs.map fun b => Value.pointer (some ⟨b, 0, none⟩), h1, hB.run, fun F' w' hk xs r vals hφ hl hv => ?_⟩
      refine hc xs r hφ F' w' (vals ++ bs.map fun b => Value.pointer (some ⟨b, 0, none⟩)) (by simp [hl, h2, h4]) fun j u y hu hy => ?_
      by_cases hj : j < xs.length
      · rw [List.getElem?_append_left (by omega)] at hu hy
        exact hv j u y hu hy
      · rw [List.getElem?_append_right (by omega)] at hu hy
        rw [hl] at hu
        rw [List.getElem?_map, Option.map_eq_some_iff] at hu hy
        obtain ⟨b, h6, rfl⟩ := hu
        obtain ⟨ds, h7, rfl⟩ := hy
        have hlt : j - xs.length < caps.length := by rw [h4]; exact (List.getElem?_eq_some_iff.1 h7).1
        obtain ⟨cs, h8, h9⟩ := h5 _ _ ds (List.getElem?_eq_getElem hlt) h7
        exact (ref_box hr h8 h9 (h3 _ b _ h6 (List.getElem?_eq_getElem hlt))).mono hk
    | succ i => exact ih.2 i v z (by simpa using hv) (by simpa using hz)
theorem DRep.val_any {F F' : Nat → Nat → Prop} {w w' : World} {v u : Value} (h : DRep F w v (.val u)) : DRep F' w' v (.val u) := by
  generalize e : DV.val u = x at h
  cases h with
  | val _ hv => cases e; exact .val _ hv
  | _ => cases e
theorem SRep.plain {g g' : Gh} {w : World} {v : Value} {r : SV} (h : SRep g w v r) (hp : plainR r = true) : SRep g' w v r := by
  cases r with
  | d x => cases x <;> first | exact DRep.val_any h | cases hp
  | tup xs =>
    obtain ⟨vs, h1, h2, h3⟩ := h
    refine ⟨vs, h1, h2, fun i y x hy hx => ?_⟩
    have h4 := h3 i y x hy hx
    have h5 := List.all_eq_true.1 hp x (List.mem_of_getElem? hx)
    cases x <;> first | exact DRep.val_any h4 | cases h5
  | _ => cases hp
theorem plainR_ok {r : SV} (hp : plainR r = true) : resOk r = true := by cases r <;> first | rfl | cases hp

theorem ls_callf (f : FuncId) (l : List Operand) (ts : Array TypeId) {ys : List DV} {r : SV} [hB : HasBody P f] (hargs : ArgF P st l ys) (hc : PCalls P f ys r) (hres : plainR r = true) (hd : dstOk ⟨d, .call { callee := .value (.func f), args := l.toArray, argTypes := ts }, ty, pos, af, gd⟩ st = true) :
    LocS P ⟨d, .call { callee := .value (.func f), args := l.toArray, argTypes := ts }, ty, pos, af, gd⟩ st r .no := fun st2 ha => by
  intro B w0 g a w K Q hr hK
  have hev : ArgF P st2 l ys := hargs.congr (fun x hx => ha.ev x (by simp [Op.operands, Call.operands, hx])) fun x hx f' caps h => ha.fn rfl x (by simp [Op.operands, Call.operands, hx]) f' caps h
  obtain ⟨h1, h2⟩ := argF_rep hr hev
  have hcall := hc (FxB g) w (l.map a.eval) (by simpa using h1) h2
  have hrun : (execOp a.eval ⟨d, .call { callee := .value (.func f), args := l.toArray, argTypes := ts }, ty, pos, af, gd⟩).run P w = .ok (.enter f (l.map a.eval).toArray) w := by
    simp only [execOp, resolve, Act.eval, Deferred.ofValue, Sem.run_bind, Sem.run_pure, Result.andThen_ok, invoke]
    rw [hB.run]
    simp
  unfold Oper.wp
  rw [hrun]
  show Calls P f _ w _
  refine hcall.mono ?_
  rintro e w' ⟨v, rfl, h3, h4⟩
  exact hK g _ _ ((hr.grow h4).put (h3.plain hres) _ (dstOk_spec (ha.dst hd)))

/-- a pointer to fixed cells that one was given -/
theorem pw_ref {B : Nat} {w0 : Cx} {Q : Exit → PS → Prop} {c : Code} (s : Nat) {cs : List DV} (hs : st.get s = .d (.ref cs)) (h : PW P B w0 c Q (st.put (some s) (.rd cs))) : PW P B w0 c Q st := fun g a w hr =>
  h g a w ⟨hr.below, hr.base, hr.f0, hr.size, hr.defers, fun i => by
    have h1 := hr.slots i
    by_cases e : i = s
    · subst e
      rw [hs] at h1
      rw [get_put, if_pos rfl]
      exact SRep.le h1 (.ref cs)
    · rw [get_put, if_neg e]; exact h1, hr.boxes, hr.blk, hr.dom, hr.inj, hr.toks, hr.telt, hr.tdis, hr.tdom, hr.tlen⟩
theorem yCv {x : Operand} {l : List Operand} {ts : Array TypeId} {φ : List DV → SV → Prop} {ys : List DV} {r : SV} (hc : φ ys r) (hx : st.ev x = .d (dF P φ)) (ha : evDs st l = some ys) (hr : resOk r = true) (h : YR P sq ops K rest (st.put d r)) (hd : dstOk ⟨d, .call { callee := .value x, args := l.toArray, argTypes := ts }, ty, pos, af, gd⟩ st = true := by kernel_rfl) (hk : opOk ⟨d, .call { callee := .value x, args := l.toArray, argTypes := ts }, ty, pos, af, gd⟩ st .no = true := by kernel_rfl) (hw : st.want ops ⟨d, .call { callee := .value x, args := l.toArray, argTypes := ts }, ty, pos, af, gd⟩ = some true := by rfl) : YR P sq ops K (⟨d, .call { callee := .value x, args := l.toArray, argTypes := ts }, ty, pos, af, gd⟩ :: rest) st := yr_v (ls_callv x l ts hx ha hc hr hd) hk hw h
theorem yCm {f : Nat} {l : List Operand} {caps : List Nat} (hx : capsOf st l = some caps) (h : YR P sq ops K rest (st.put d (.fn f caps))) (hd : dstOk ⟨d, .makeFunc (.func f) #[] l.toArray, ty, pos, af, gd⟩ st = true := by kernel_rfl) (hk : opOk ⟨d, .makeFunc (.func f) #[] l.toArray, ty, pos, af, gd⟩ st .no = true := by kernel_rfl) (hw : st.want ops ⟨d, .makeFunc (.func f) #[] l.toArray, ty, pos, af, gd⟩ = some true := by rfl) : YR P sq ops K (⟨d, .makeFunc (.func f) #[] l.toArray, ty, pos, af, gd⟩ :: rest) st := yr_v (ls_makeFunc f l hx hd) hk hw h
theorem yCf {f : Nat} {l : List Operand} {ts : Array TypeId} {ys : List DV} {r : SV} [HasBody P f] (hc : PCalls P f ys r) (ha : ArgF P st l ys) (hr : plainR r = true) (h : YR P sq ops K rest (st.put d r)) (hd : dstOk ⟨d, .call { callee := .value (.func f), args := l.toArray, argTypes := ts }, ty, pos, af, gd⟩ st = true := by kernel_rfl) (hk : opOk ⟨d, .call { callee := .value (.func f), args := l.toArray, argTypes := ts }, ty, pos, af, gd⟩ st .no = true := by kernel_rfl) (hw : st.want ops ⟨d, .call { callee := .value (.func f), args := l.toArray, argTypes := ts }, ty, pos, af, gd⟩ = some true := by rfl) : YR P sq ops K (⟨d, .call { callee := .value (.func f), args := l.toArray, argTypes := ts }, ty, pos, af, gd⟩ :: rest) st := yr_v (ls_callf f l ts ha hc hr hd) hk hw h
end
end Go.Proofs.Ytilbolgncpfmmaa.Px
