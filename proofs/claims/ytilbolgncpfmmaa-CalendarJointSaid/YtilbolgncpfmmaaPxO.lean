/- The logic of pure states: rows that a call makes anew, and rows that a call changes. -/
import Derived.Test.YtilbolgncpfmmaaPxF
set_option maxHeartbeats 1000000
namespace Go.Proofs.Ytilbolgncpfmmaa.Px
open Go.RowKit

/-- the cells that a new row may read -/
def OwnF (F : Nat → Nat → Prop) (N k : Nat) (v : Value) (b o : Nat) : Prop := (F b o ∨ N ≤ b) ∧ ∀ n c, v = .slice (some ⟨b, 0, none⟩) n c → o < n * k
/-- a function that gives a row of one's own -/
def POwn (P : Program) (f : FuncId) (args : List DV) (E k : Nat) (es : List (List DV)) : Prop :=
  ∀ (F : Nat → Nat → Prop) (w : World) (vals : List Value), vals.length = args.length → (∀ (i : Nat) v x, vals[i]? = some v → args[i]? = some x → DRep F w v x) →
    Calls P f vals.toArray w fun e w' => ∃ v xs, e = .returned v ∧ w'.ownsRow w.heap.size E k v es.length xs ∧ DRep (OwnF F w.heap.size k v) w' v (.sl k es) ∧ Below w.heap.size w w'
theorem POwn.pcalls {P : Program} {f : FuncId} {args : List DV} {E k : Nat} {es : List (List DV)} (h : POwn P f args E k es) : PCalls P f args (.d (.sl k es)) := fun F w vals hl hr =>
  (h F w vals hl hr).mono fun _ _ ⟨v, _, h1, _, h3, h4⟩ => ⟨v, h1, h3.mono fun _ _ hf _ => ⟨Fx.gF hf.1, rfl⟩, h4⟩

def QOwn (s t k : Nat) (es : List (List DV)) : Exit → PS → Prop
  | .normal, st | .ret, st => st.get s = .ts t k es ∧ st.tget t = some es.length
  | _, _ => False
theorem q_own {s t k : Nat} {es : List (List DV)} {st : PS} (h : st.get s = .ts t k es) (h' : st.tget t = some es.length) : QOwn s t k es .ret st := ⟨h, h'⟩
theorem pown_of_pw {P : Program} {f : FuncId} {fn : Func} {c : Code} {n s t E k : Nat} {args : List DV} {es : List (List DV)} (hf : P.funcs[f]? = some fn) (hb : fn.body = some c) (hn : fn.ntmps = n) (hrs : fn.results = #[.tmp s]) (hl : args.length ≤ n) (hE : t / 100000 = E)
    (h : ∀ B w0, PW P B w0 c (QOwn s t k es) ⟨n, argS 0 args, [], []⟩) : POwn P f args E k es := by
  intro F w vals hvl hv
  refine calls_of_wp hf hb ?_
  have hrep : Rep w.heap.size ⟨w, F⟩ (gF fun b o => F b o ∨ w.heap.size ≤ b) ⟨n, argS 0 args, [], []⟩ { tmps := vals.toArray ++ Array.replicate (fn.ntmps - vals.toArray.size) undef, defers := [] } w := by
    refine ⟨Below.refl _ _, Nat.le_refl _, ⟨fun b o h => .inr h, fun b o h => h⟩, by simp; omega, rfl, fun i => ?_, fun i cs hi => (by cases hi), fun i b hi => (by cases hi), fun i b hi => (by cases hi), fun i j b hi => (by cases hi), fun t T hT => (by cases hT), fun t T hT => (by cases hT), fun t t' T T' b h1 => (by cases h1), fun t T hT => (by cases hT), fun t n ht => (by cases ht)⟩
    unfold PS.get
    simp only [aget_argS, Nat.zero_le, if_true, Nat.sub_zero]
    cases hx : args[i]? with
    | none => trivial
    | some x =>
      have hlt : i < vals.length := by rw [hvl]; exact (List.getElem?_eq_some_iff.1 hx).1
      have h1 := hv i _ x (List.getElem?_eq_getElem hlt) hx
      have h2 : (vals.toArray ++ Array.replicate (fn.ntmps - vals.toArray.size) undef).getD i undef = vals[i] := by
        simp [Array.getD, hlt]
        omega
      simp only [Option.map_some]
      show DRep _ w _ x
      rw [h2]
      exact h1.mono fun b o hF _ => ⟨Fx.gF (.inl hF), rfl⟩
  refine wp_mono (h w.heap.size ⟨w, F⟩ _ _ _ hrep) fun e a' w' ⟨g, st, h1, h2⟩ => ?_
  have fin : (st.get s = .ts t k es ∧ st.tget t = some es.length) → a'.defers = [] ∧ ∃ v, (results fn a'.tmps).run P w' = .ok v w' ∧ ∃ v' xs, Ending.returned v = .returned v' ∧ w'.ownsRow w.heap.size E k v' es.length xs ∧ DRep (OwnF F w.heap.size k v') w' v' (.sl k es) ∧ Below w.heap.size w w' := by
    rintro ⟨h3, h4⟩
    obtain ⟨T, A, cc, h5, h6⟩ := h1.tlen t _ h4
    have h7 := h1.slots s
    rw [h3] at h7
    obtain ⟨h8, h9⟩ := h7
    obtain ⟨hk, h10⟩ := h9 T h5
    have hv' := (h10 A _ cc h6).2 rfl
    obtain ⟨⟨n', xs, h11⟩, -⟩ := h1.toks t T h5
    have hT := h1.telt t T h5
    have hn' : n' = es.length := by
      obtain ⟨A2, c2, q1, -, -⟩ := own_form h11
      rw [h6] at q1; cases q1; rfl
    subst hn'
    have hrun : (results fn a'.tmps).run P w' = .ok (a'.tmps.getD s undef) w' := by
      rw [show results fn a'.tmps = (fn.results.mapM (resF a'.tmps) >>= fun vs => pure (if h : vs.size = 1 then vs[0] else .tuple vs)) from rfl, hrs, Array.mapM_eq_mapM_toList]
      simp only [Sem.run_bind, Sem.run_map]
      rfl
    refine ⟨h1.defers, _, hrun, _, xs, rfl, ?_, h8.mono fun b o hf _ => ⟨⟨h1.f0.2 b o hf.1, fun n c hvc => ?_⟩, rfl⟩, h1.below⟩
    · rw [hv', ← hk, ← hE, ← hT]; exact h11
    · rw [← hk]; exact hf.2.2 t T n c h5 (hv' ▸ hvc)
  cases e with
  | normal => exact fin h2
  | ret => exact fin h2
  | _ => exact h2.elim

section
variable {P : Program} {ops : Array Oper} {K : PS → Prop} {rest : List Oper} {st : PS} {ty : TypeId} {pos : String} {af : Array Edge} {gd : Option (Nat × Bool)}

/-- a new row comes to the state -/
theorem Rep.newrow {B : Nat} {w0 : Cx} {g : Gh} {a : Act} {w w' : World} (hr : Rep B w0 g st a w) {t E k e : Nat} {v : Value} {es : List (List DV)} {xs : List Value} (hb : Below w.heap.size w w') (hown : w'.ownsRow w.heap.size E k v es.length xs) (hd : DRep (OwnF (Fx g) w.heap.size k v) w' v (.sl k es))
    (hE : t / 100000 = E) (ht : st.tget t = none) (hno : st.noTs t = true) (he : e < st.n) : Rep B w0 (g.sett t ⟨v, E, k⟩) ((st.tput t es.length).put (some e) (.ts t k es)) (a.put (some e) v) w' := by
  have hno' := hno
  unfold PS.noTs at hno'
  rw [Bool.and_eq_true, List.all_eq_true, List.all_eq_true] at hno'
  have hgt : g.tk t = none := by
    cases e' : g.tk t with
    | none => rfl
    | some T => exact absurd ht (hr.tdom t T e')
  obtain ⟨A, c, hvA, -, hvo⟩ := own_form hown
  have fx : ∀ b o, Fx g b o → (w.cell? ⟨b, o, none⟩).isSome → Fx (g.sett t ⟨v, E, k⟩) b o ∧ w'.cell? ⟨b, o, none⟩ = w.cell? ⟨b, o, none⟩ := by
    refine fun b o hf' hs => ?_
    have hlt := cell_lt hs
    refine ⟨⟨hf'.1, hf'.2.1, fun t' T' n' c' q1 q2 => ?_⟩, hb.cell (p := ⟨b, o, none⟩) hlt⟩
    simp only [Gh.sett] at q1
    by_cases e' : t' = t
    · rw [if_pos e'] at q1
      cases q1
      have := (hown.lt b (by rw [show v = _ from q2]; rfl)).1
      omega
    · rw [if_neg e'] at q1; exact hf'.2.2 t' T' n' c' q1 q2
  have srep : ∀ v' x, SRep g w v' x → x.noTs t = true → SRep (g.sett t ⟨v, E, k⟩) w' v' x := by
    intro v' x hx hxt
    cases x with
    | any => trivial
    | d x => exact DRep.mono hx fx
    | ts t' k' es' =>
      refine ⟨DRep.mono hx.1 fx, fun T' hT' => ?_⟩
      simp only [Gh.sett] at hT'
      have hne : t' ≠ t := fun e' => by rw [e'] at hxt; simp [SV.noTs, Nat.beq_refl] at hxt
      rw [if_neg hne] at hT'
      exact hx.2 T' hT'
    | bx i off => exact hx
    | rd cs =>
      obtain ⟨b, off, f, q1, q2⟩ := hx
      refine ⟨b, off, f, q1, fun j x hj => ?_⟩
      obtain ⟨q3, q4, q5', q5⟩ := q2 j x hj
      obtain ⟨q6, q7⟩ := fx _ _ q4 (by rw [q3]; rfl)
      exact ⟨q7.trans q3, q6, q5', q5.mono fx⟩
    | tup xs =>
      obtain ⟨vs, q1, q2, q3⟩ := hx
      exact ⟨vs, q1, q2, fun i y x hy hx => (q3 i y x hy hx).mono fx⟩
    | fn f caps => exact hx
  have hr' := hr.grow hb
  have hnew : Rep B w0 (g.sett t ⟨v, E, k⟩) (st.tput t es.length) a w' := by
    refine ⟨hr'.below, hr'.base, hr'.f0, hr'.size, hr'.defers, fun i => srep _ _ (hr.slots i) ?_, fun i cs hi => ?_, hr'.blk, hr'.dom, hr'.inj, fun t' T' hT' => ?_, fun t' T' hT' => ?_, fun t1 t2 T1 T2 b q1 q2 q3 q4 => ?_, fun t' T' hT' => ?_, fun t' n' hn => ?_⟩
    · show ((st.tput t es.length).get i).noTs t = true
      unfold PS.get
      cases e2 : aget (st.tput t es.length).s i with
      | none => rfl
      | some x => exact hno'.1 _ (aget_mem e2)
    · obtain ⟨b, ys, T', q1, q2, q3, q4, q5⟩ := hr.boxes i cs hi
      refine ⟨b, ys, T', q1, (hb.block b (hr.blk i b q1).2).trans q2, q3, fun j c hj => ?_, q5⟩
      obtain ⟨x, q6, q7⟩ := q4 j c hj
      have q8 := hno'.2 _ (aget_mem hi)
      rw [List.all_eq_true] at q8
      exact ⟨x, q6, srep _ _ q7 (q8 c (List.mem_of_getElem? hj))⟩
    · simp only [Gh.sett] at hT'
      by_cases e' : t' = t
      · rw [if_pos e'] at hT'; cases hT'
        refine ⟨⟨es.length, xs, hown.1, ?_⟩, fun i b hb' hi => ?_⟩
        · rcases hown.2 with q | ⟨gb, cap, cur, q1, q2, q3⟩
          · exact .inl q
          · exact .inr ⟨gb, cap, cur, q1, Nat.le_trans hr.base q2, q3⟩
        · have q1 := (hr.blk i b hi).2
          have q2 := (hown.lt b hb').1
          omega
      · rw [if_neg e'] at hT'; exact hr'.toks t' T' hT'
    · simp only [Gh.sett] at hT'
      by_cases e' : t' = t
      · rw [if_pos e'] at hT'; cases hT'; rw [e', hE]
      · rw [if_neg e'] at hT'; exact hr'.telt t' T' hT'
    · simp only [Gh.sett] at q1 q2
      by_cases e1 : t1 = t <;> by_cases e2 : t2 = t
      · omega
      · rw [if_pos e1] at q1; rw [if_neg e2] at q2; cases q1
        obtain ⟨⟨n', ys, q5⟩, -⟩ := hr.toks t2 T2 q2
        have := (q5.lt b q4).2
        have := (hown.lt b q3).1
        omega
      · rw [if_neg e1] at q1; rw [if_pos e2] at q2; cases q2
        obtain ⟨⟨n', ys, q5⟩, -⟩ := hr.toks t1 T1 q1
        have := (q5.lt b q3).2
        have := (hown.lt b q4).1
        omega
      · rw [if_neg e1] at q1; rw [if_neg e2] at q2; exact hr'.tdis t1 t2 T1 T2 b q1 q2 q3 q4
    · rw [tget_tput]
      simp only [Gh.sett] at hT'
      by_cases e' : t' = t
      · simp [e']
      · rw [if_neg e'] at hT' ⊢; exact hr'.tdom t' T' hT'
    · rw [tget_tput] at hn
      by_cases e' : t' = t
      · rw [if_pos e'] at hn; cases hn
        exact ⟨⟨v, E, k⟩, A, c, by simp [Gh.sett, e'], hvA⟩
      · rw [if_neg e'] at hn
        obtain ⟨T', A, c, q1, q2⟩ := hr'.tlen t' n' hn
        exact ⟨T', A, c, by simp [Gh.sett, e', q1], q2⟩
  refine hnew.put (v := v) (x := .ts t k es) ⟨hd.mono fun b o hf hs => ⟨?_, rfl⟩, fun T' hT' => ?_⟩ (some e) (fun i hi => by cases hi; exact he)
  · obtain ⟨q1, q2⟩ := hf
    have hfg : Fx g b o := by
      rcases q1 with q1 | q1
      · exact q1
      · refine ⟨hr.f0.1 b o (Nat.le_trans hr.base q1), fun i hi => ?_, fun t' T' n' c' q3 q4 => ?_⟩
        · have := (hr.blk i b hi).2; omega
        · obtain ⟨⟨n'', ys, q5⟩, -⟩ := hr.toks t' T' q3
          have := (q5.lt b (by rw [q4]; rfl)).2
          omega
    refine ⟨hfg.1, hfg.2.1, fun t' T' n' c' q3 q4 => ?_⟩
    simp only [Gh.sett] at q3
    by_cases e' : t' = t
    · rw [if_pos e'] at q3; cases q3; exact q2 n' c' q4
    · rw [if_neg e'] at q3; exact hfg.2.2 t' T' n' c' q3 q4
  · simp only [Gh.sett, if_pos] at hT'
    cases hT'
    refine ⟨rfl, fun A' n' c' q => ?_⟩
    rw [show v = _ from hvA] at q
    cases q
    exact ⟨Nat.le_refl _, fun _ => rfl⟩

theorem run_call {d : Option Nat} {f : FuncId} {l : List Operand} {ts : Array TypeId} [hB : HasBody P f] {a : Act} {w : World} : (execOp a.eval ⟨d, .call { callee := .value (.func f), args := l.toArray, argTypes := ts }, ty, pos, af, gd⟩).run P w = .ok (.enter f (l.map a.eval).toArray) w := by
  simp only [execOp, resolve, Act.eval, Deferred.ofValue, Sem.run_bind, Sem.run_pure, Result.andThen_ok, invoke]
  rw [hB.run]
  simp
/-- a call that gives a row of one's own -/
theorem yCo {f e t E k : Nat} {l : List Operand} {ts : Array TypeId} {ys : List DV} {es : List (List DV)} [hB : HasBody P f] (hc : POwn P f ys E k es) (ha : evDs st l = some ys) (hE : t / 100000 = E) (ht : st.tget t = none) (hno : st.noTs t = true)
    (h : YR P true ops K rest ((st.tput t es.length).put (some e) (.ts t k es))) (hd : dstOk ⟨some e, .call { callee := .value (.func f), args := l.toArray, argTypes := ts }, ty, pos, af, gd⟩ st = true := by kernel_rfl)
    (hw : st.want ops ⟨some e, .call { callee := .value (.func f), args := l.toArray, argTypes := ts }, ty, pos, af, gd⟩ = some true := by rfl) :
    YR P true ops K (⟨some e, .call { callee := .value (.func f), args := l.toArray, argTypes := ts }, ty, pos, af, gd⟩ :: rest) st := by
  refine .any rfl fun B w0 Q hQ g a w hr => ?_
  obtain ⟨h1, h2⟩ := evDs_get ha
  have hcall := hc (Fx g) w (l.map a.eval) (by simpa using h1) (fun i v x hv hx => by
    rw [List.getElem?_map, Option.map_eq_some_iff] at hv
    obtain ⟨y, h3, rfl⟩ := hv
    exact (hr.eval y).toD (h2 i y x h3 hx))
  have hrun : (execOp a.eval ⟨some e, .call { callee := .value (.func f), args := l.toArray, argTypes := ts }, ty, pos, af, gd⟩).run P w = .ok (.enter f (l.map a.eval).toArray) w := by
    simp only [execOp, resolve, Act.eval, Deferred.ofValue, Sem.run_bind, Sem.run_pure, Result.andThen_ok, invoke]
    rw [hB.run]
    simp
  unfold wpList
  rw [if_pos (want_spec hr hw)]
  refine .inl ?_
  unfold Oper.wp
  rw [hrun]
  show Calls P f _ w _
  refine hcall.mono ?_
  rintro e' w' ⟨v, xs, rfl, h3, h4, h5⟩
  exact h.sound hQ (hr.newrow h5 h3 h4 hE ht hno (dstOk_spec hd e rfl))

/-- a function that changes a row of plain values; r: it gives the row itself -/
def PRow (P : Program) (f : FuncId) (E : Nat) (vs vs' : List Value) (r : Bool) : Prop :=
  ∀ (N : Nat) (w : World) (v : Value), w.ownsRow N E 1 v vs.length vs → N ≤ w.heap.size → Calls P f #[v] w fun e w' => ∃ v', (r = true → e = .returned v') ∧ (r = false → e = .returned (.tuple #[]) ∧ v' = v) ∧ w'.ownsRow N E 1 v' vs'.length vs' ∧ w.grownBy w' v.ownBlock
abbrev dVs (vs : List Value) : List (List DV) := vs.map fun u => [.val u]
theorem row_dvs {F : Nat → Nat → Prop} {w : World} {v : Value} {vs : List Value} (h : DRep F w v (.sl 1 (dVs vs))) {N E : Nat} {xs : List Value} (ho : w.ownsRow N E 1 v vs.length xs) : xs = vs := by
  rcases ho.2 with ⟨rfl, h0⟩ | ⟨gb, cap, cur, rfl, -, hg, hc, -, hsz, ht⟩
  · have := ho.1
    have e1 : vs = [] := List.eq_nil_of_length_eq_zero h0
    have e2 : xs = [] := List.eq_nil_of_length_eq_zero (by omega)
    rw [e1, e2]
  · obtain ⟨A, c, news, hv, -, -, -, hl, hcell, -, hrep⟩ := DRep.row h
    rw [List.length_map] at hl
    have hxl := ho.1
    refine List.ext_getElem? fun i => ?_
    by_cases hi : i < vs.length
    · obtain ⟨u, q1, q2⟩ := hrep i 0 [.val vs[i]] (.val vs[i]) (by rw [List.getElem?_map, List.getElem?_eq_getElem hi]; rfl) rfl
      obtain ⟨b, off, q3, q4⟩ := hcell (by rw [List.length_map]; omega)
      have q5 := (q4 _ u q1).1
      rw [DRep.val_eq q2] at q5
      rw [q3] at hv
      obtain ⟨hv1, -, -⟩ := Value.slice.inj hv
      cases hv1
      rw [← ht, List.getElem?_take_of_lt (by omega), List.getElem?_eq_getElem hi]
      simp only [World.cell?, hg, Option.isSome_none, Bool.false_eq_true, if_false] at q5
      simpa using q5
    · rw [List.getElem?_eq_none (by omega), List.getElem?_eq_none (by omega)]
/-- after a change nothing but the row is told -/
theorem Rep.changed {B : Nat} {w0 : Cx} {g : Gh} {a : Act} {w w' : World} (hr : Rep B w0 g st a w) {t E s : Nat} {v v' : Value} {vs' : List Value} {a' : Act} (hgr : w.grownBy w' v.ownBlock) (hB : ∀ b, v.ownBlock = some b → B ≤ b) (hown : w'.ownsRow B E 1 v' vs'.length vs') (h1 : ∀ u ∈ vs', u.oneCell' = true)
    (hE : t / 100000 = E) (hn : a'.tmps.size = st.n) (hdf : a'.defers = []) (hs : a'.tmps.getD s undef = v') : Rep B w0 ⟨g.f0, fun _ => none, fun t' => if t' = t then some ⟨v', E, 1⟩ else none⟩ ⟨st.n, [(s, .ts t 1 (dVs vs'))], [], [(t, vs'.length)]⟩ a' w' := by
  obtain ⟨A, c, hvA, -, hvo⟩ := own_form hown
  refine ⟨⟨hgr.os.trans hr.below.os, hgr.tape.trans hr.below.tape, hgr.output.trans hr.below.output, Nat.le_trans hr.below.size hgr.size, fun b hb => ?_⟩, Nat.le_trans hr.base hgr.size, hr.f0, hn, hdf, fun i => ?_, fun i cs hi => (by cases hi), fun i b hi => (by cases hi), fun i b hi => (by cases hi), fun i j b hi => (by cases hi), fun t' T' hT' => ?_, fun t' T' hT' => ?_, fun t1 t2 T1 T2 b q1 q2 _ _ => ?_, fun t' T' hT' => ?_, fun t' n' hn' => ?_⟩
  · exact (hgr.block b (Nat.lt_of_lt_of_le hb hr.base) (fun e => by have := hB b e.symm; omega)).trans (hr.below.block b hb)
  · unfold PS.get
    rw [aget_cons]
    by_cases e : i = s
    · rw [if_pos e, e, hs]
      refine ⟨?_, fun T' hT' => ?_⟩
      · have hlen : vs'.length = (dVs vs').length := by simp
        rw [hvA, hlen]
        have hcap : vs'.length ≤ c ∧ vs'.length ≤ 9223372036854775807 := by
          rcases hown.2 with ⟨q1, q2⟩ | ⟨gb, cap, cur, q1, -, -, q4, q5, -⟩
          · rw [hvA] at q1; obtain ⟨-, q6, q7⟩ := Value.slice.inj q1; omega
          · rw [hvA] at q1; obtain ⟨-, q6, q7⟩ := Value.slice.inj q1; unfold maxLen at q5; omega
        refine DRep.of_row (xs := vs') (by rw [← hlen]; exact hcap.1) (by rw [← hlen]; exact hcap.2) (fun x hx => by obtain ⟨p, -, rfl⟩ := List.mem_map.1 hx; rfl) (fun h0 => ?_) h1 fun i j x y hx hy => ?_
        · rcases hown.2 with ⟨q1, q2⟩ | ⟨gb, cap, cur, q1, q2, q3, q4, q5, q6, q7⟩
          · rw [← hlen] at h0; omega
          · rw [hvA] at q1
            obtain ⟨qA, -, qc⟩ := Value.slice.inj q1
            refine ⟨gb, 0, qA, fun j u hj => ⟨?_, hr.f0.1 gb _ q2, fun _ h => (by cases h), fun t' T' n' c' q8 q9 => ?_⟩⟩
            · have hlt := (List.getElem?_eq_some_iff.1 hj).1
              rw [← q7, List.getElem?_take_of_lt (by omega)] at hj
              simp only [World.cell?, q3, Option.isSome_none, Bool.false_eq_true, if_false, Nat.zero_add]
              simpa using hj
            · simp only at q8
              split at q8
              · cases q8
                obtain ⟨-, qn, -⟩ := Value.slice.inj q9
                have := (List.getElem?_eq_some_iff.1 hj).1
                rw [← hlen] at qn
                show 0 + j < n' * 1
                omega
              · cases q8
        · rw [List.getElem?_map, Option.map_eq_some_iff] at hx
          obtain ⟨u, q1, rfl⟩ := hx
          match j, hy with
          | 0, hy => cases hy; exact ⟨u, by simpa using q1, .val _ (h1 u (List.mem_of_getElem? q1))⟩
          | j + 1, hy => simp at hy
      · simp only [if_pos] at hT'
        cases hT'
        refine ⟨rfl, fun A' n' c' q => ?_⟩
        rw [hvA] at q
        cases q
        exact ⟨by simp, fun _ => rfl⟩
    · rw [if_neg e]; trivial
  · simp only at hT'
    split at hT'
    · cases hT'; exact ⟨⟨_, _, hown⟩, fun i b _ h => by cases h⟩
    · cases hT'
  · simp only at hT'
    split at hT'
    · rename_i e; cases hT'; rw [e, hE]
    · cases hT'
  · simp only at q1 q2
    split at q1
    · split at q2
      · omega
      · cases q2
    · cases q1
  · simp only at hT'
    split at hT'
    · rename_i e; subst e; simp [PS.tget, aget_cons]
    · cases hT'
  · simp only [PS.tget, aget_cons] at hn'
    split at hn'
    · rename_i e; cases hn'; exact ⟨⟨v', E, 1⟩, A, c, by simp [e], hvA⟩
    · simp [aget] at hn'

/-- a call that changes a row, and gives nothing: s is the variable that holds the row -/
theorem yRw {f E t : Nat} {e : Option Nat} {x : Operand} {ts : Array TypeId} {vs vs' : List Value} [hB : HasBody P f] (s : Nat) (hc : PRow P f E vs vs' false) (h1 : ∀ u ∈ vs', u.oneCell' = true) (hx : st.ev x = .ts t 1 (dVs vs)) (hs : st.get s = .ts t 1 (dVs vs)) (ht : st.tget t = some vs.length) (hE : t / 100000 = E) (hes : e ≠ some s)
    (h : YR P true ops K rest ⟨st.n, [(s, .ts t 1 (dVs vs'))], [], [(t, vs'.length)]⟩) (hw : st.want ops ⟨e, .call { callee := .value (.func f), args := #[x], argTypes := ts }, ty, pos, af, gd⟩ = some true := by rfl) :
    YR P true ops K (⟨e, .call { callee := .value (.func f), args := #[x], argTypes := ts }, ty, pos, af, gd⟩ :: rest) st := by
  refine .any rfl fun B w0 Q hQ g a w hr => ?_
  obtain ⟨T, A, cc, h5, h6⟩ := hr.tlen t _ ht
  have hTE := hr.telt t T h5
  obtain ⟨⟨n', xs, h7⟩, -⟩ := hr.toks t T h5
  have hn' : n' = vs.length := by
    obtain ⟨A2, c2, q1, -, -⟩ := own_form h7
    rw [h6] at q1; cases q1; rfl
  subst hn'
  have hvx : ∀ u, SRep g w u (.ts t 1 (dVs vs)) → u = T.v ∧ T.k = 1 ∧ DRep (Fx g) w u (.sl 1 (dVs vs)) := fun u hu => by
    obtain ⟨q1, q2⟩ := hu
    obtain ⟨q3, q4⟩ := q2 T h5
    exact ⟨(q4 A _ cc h6).2 (by simp), q3, q1⟩
  have hxe := hr.eval x
  rw [hx] at hxe
  obtain ⟨ex, hk, hdx⟩ := hvx _ hxe
  have hse := hr.slots s
  rw [hs] at hse
  obtain ⟨es, -, -⟩ := hvx _ hse
  rw [hk, hTE, hE] at h7
  have hxs := row_dvs (ex ▸ hdx) h7
  subst hxs
  have hcall := hc B w T.v h7 hr.base
  have hrun : (execOp a.eval ⟨e, .call { callee := .value (.func f), args := #[x], argTypes := ts }, ty, pos, af, gd⟩).run P w = .ok (.enter f #[a.eval x]) w := run_call (l := [x])
  unfold wpList
  rw [if_pos (want_spec hr hw)]
  refine .inl ?_
  unfold Oper.wp
  rw [hrun, ex]
  show Calls P f _ w _
  refine hcall.mono ?_
  rintro e' w' ⟨v', -, q1, q2, q3⟩
  obtain ⟨rfl, rfl⟩ := q1 rfl
  refine h.sound hQ (hr.changed (v := T.v) q3 (fun b hb => (h7.lt b hb).1) q2 h1 hE (by cases e <;> simp [Act.put, hr.size]) (by cases e <;> exact hr.defers) ?_)
  cases e with
  | none => exact es
  | some e =>
    simp only [Act.put]
    have hne : s ≠ e := fun h => hes (by rw [h])
    by_cases hlt : e < a.tmps.size
    · rw [getD_set _ _ _ _ _ hlt, if_neg hne]; exact es
    · rw [Array.setIfInBounds_def, dif_neg hlt]; exact es
/-- a call that changes a row, and gives it -/
theorem yRg {f E t e : Nat} {x : Operand} {ts : Array TypeId} {vs vs' : List Value} [hB : HasBody P f] (hc : PRow P f E vs vs' true) (h1 : ∀ u ∈ vs', u.oneCell' = true) (hx : st.ev x = .ts t 1 (dVs vs)) (ht : st.tget t = some vs.length) (hE : t / 100000 = E)
    (h : YR P true ops K rest ⟨st.n, [(e, .ts t 1 (dVs vs'))], [], [(t, vs'.length)]⟩) (hd : dstOk ⟨some e, .call { callee := .value (.func f), args := #[x], argTypes := ts }, ty, pos, af, gd⟩ st = true := by kernel_rfl) (hw : st.want ops ⟨some e, .call { callee := .value (.func f), args := #[x], argTypes := ts }, ty, pos, af, gd⟩ = some true := by rfl) :
    YR P true ops K (⟨some e, .call { callee := .value (.func f), args := #[x], argTypes := ts }, ty, pos, af, gd⟩ :: rest) st := by
  refine .any rfl fun B w0 Q hQ g a w hr => ?_
  obtain ⟨T, A, cc, h5, h6⟩ := hr.tlen t _ ht
  have hTE := hr.telt t T h5
  obtain ⟨⟨n', xs, h7⟩, -⟩ := hr.toks t T h5
  have hn' : n' = vs.length := by
    obtain ⟨A2, c2, q1, -, -⟩ := own_form h7
    rw [h6] at q1; cases q1; rfl
  subst hn'
  have hxe := hr.eval x
  rw [hx] at hxe
  obtain ⟨hdx, q2⟩ := hxe
  obtain ⟨hk, q4⟩ := q2 T h5
  have ex := (q4 A _ cc h6).2 (by simp)
  rw [hk, hTE, hE] at h7
  have hxs := row_dvs (ex ▸ hdx) h7
  subst hxs
  have hcall := hc B w T.v h7 hr.base
  have hrun : (execOp a.eval ⟨some e, .call { callee := .value (.func f), args := #[x], argTypes := ts }, ty, pos, af, gd⟩).run P w = .ok (.enter f #[a.eval x]) w := run_call (l := [x])
  unfold wpList
  rw [if_pos (want_spec hr hw)]
  refine .inl ?_
  unfold Oper.wp
  rw [hrun, ex]
  show Calls P f _ w _
  refine hcall.mono ?_
  rintro e' w' ⟨v', q0, -, q2, q3⟩
  obtain rfl := q0 rfl
  have hlt : e < a.tmps.size := by rw [hr.size]; exact dstOk_spec hd e rfl
  refine h.sound hQ (hr.changed (v := T.v) q3 (fun b hb => (h7.lt b hb).1) q2 h1 hE (by simp [Act.put, hr.size]) hr.defers ?_)
  simp only [Act.put]
  rw [getD_set _ _ _ _ _ hlt, if_pos rfl]
end
/-- a cell of a box that holds nil becomes a row of one's own -/
theorem pw_tokb {P : Program} {B : Nat} {w0 : Cx} {Q : Exit → PS → Prop} {st : PS} {c : Code} (i off t k : Nat) {cs : List SV} (hi : st.bget i = some cs) (hc : cs[off]? = some (.d (.val (.slice none 0 0)))) (ht : st.tget t = none) (hno : st.noTs t = true) (h : PW P B w0 c Q ((st.bput i (cs.set off (.ts t k []))).tput t 0)) : PW P B w0 c Q st := fun g a w hr => by
  have hno' := hno
  unfold PS.noTs at hno'
  rw [Bool.and_eq_true, List.all_eq_true, List.all_eq_true] at hno'
  have hgt : g.tk t = none := by
    cases e : g.tk t with
    | none => rfl
    | some T => exact absurd ht (hr.tdom t T e)
  refine h (g.sett t ⟨.slice none 0 0, t / 100000, k⟩) a w ⟨hr.below, hr.base, hr.f0, hr.size, hr.defers, fun j => ?_, fun j cs' hj => ?_, hr.blk, fun j b hj => ?_, hr.inj, fun t' T' hT' => ?_, fun t' T' hT' => ?_, fun t1 t2 T1 T2 b h1 h2 h3 h4 => ?_, fun t' T' hT' => ?_, fun t' n hn => ?_⟩
  · refine (hr.slots j).newt ?_ rfl
    unfold PS.get
    cases e2 : aget st.s j with
    | none => rfl
    | some x => exact hno'.1 _ (aget_mem e2)
  · have hj' : (st.bput i (cs.set off (.ts t k []))).bget j = some cs' := hj
    rw [bget_bput] at hj'
    by_cases e : j = i
    · rw [if_pos e] at hj'
      cases hj'
      subst e
      obtain ⟨b, xs, T, h1, h2, h3, h4, h5⟩ := hr.boxes j cs hi
      refine ⟨b, xs, T, h1, h2, by simp [h3], fun q c hq => ?_, h5⟩
      by_cases eq : q = off
      · subst eq
        rw [List.getElem?_set_self (List.getElem?_eq_some_iff.1 hc).1] at hq
        cases hq
        obtain ⟨x, h6, h7⟩ := h4 q _ hc
        have hx : x = .slice none 0 0 := DRep.val_eq h7
        refine ⟨x, h6, ?_⟩
        rw [hx]
        refine ⟨DRep.nil, fun T hT => ?_⟩
        simp only [Gh.sett, if_pos] at hT
        cases hT
        refine ⟨rfl, fun A n c h1 => ?_⟩
        cases h1
        exact ⟨Nat.le_refl _, fun _ => rfl⟩
      · rw [List.getElem?_set_ne (Ne.symm eq)] at hq
        obtain ⟨x, h6, h7⟩ := h4 q c hq
        have h8 := hno'.2 _ (aget_mem hi)
        rw [List.all_eq_true] at h8
        exact ⟨x, h6, h7.newt (h8 c (List.mem_of_getElem? hq)) rfl⟩
    · rw [if_neg e] at hj'
      obtain ⟨b, xs, T, h1, h2, h3, h4, h5⟩ := hr.boxes j cs' hj'
      refine ⟨b, xs, T, h1, h2, h3, fun q c hq => ?_, h5⟩
      obtain ⟨x, h6, h7⟩ := h4 q c hq
      have h8 := hno'.2 _ (aget_mem hj')
      rw [List.all_eq_true] at h8
      exact ⟨x, h6, h7.newt (h8 c (List.mem_of_getElem? hq)) rfl⟩
  · show (st.bput i (cs.set off (.ts t k []))).bget j ≠ none
    rw [bget_bput]
    split
    · simp
    · exact hr.dom j b hj
  · simp only [Gh.sett] at hT'
    by_cases e : t' = t
    · rw [if_pos e] at hT'; cases hT'
      exact ⟨⟨0, [], World.ownsRow_nil _ _ _ _⟩, fun i b hb => by simp [Value.ownBlock] at hb⟩
    · rw [if_neg e] at hT'; exact hr.toks t' T' hT'
  · simp only [Gh.sett] at hT'
    by_cases e : t' = t
    · rw [if_pos e] at hT'; cases hT'; rw [e]
    · rw [if_neg e] at hT'; exact hr.telt t' T' hT'
  · simp only [Gh.sett] at h1 h2
    by_cases e1 : t1 = t
    · rw [if_pos e1] at h1; cases h1; simp [Value.ownBlock] at h3
    · by_cases e2 : t2 = t
      · rw [if_pos e2] at h2; cases h2; simp [Value.ownBlock] at h4
      · rw [if_neg e1] at h1; rw [if_neg e2] at h2; exact hr.tdis t1 t2 T1 T2 b h1 h2 h3 h4
  · rw [tget_tput]
    simp only [Gh.sett] at hT'
    by_cases e : t' = t
    · simp [e]
    · rw [if_neg e] at hT' ⊢; exact hr.tdom t' T' hT'
  · rw [tget_tput] at hn
    by_cases e : t' = t
    · rw [if_pos e] at hn; cases hn
      exact ⟨⟨.slice none 0 0, t / 100000, k⟩, none, 0, by simp [Gh.sett, e], rfl⟩
    · rw [if_neg e] at hn
      obtain ⟨T', A, c, q1, q2⟩ := hr.tlen t' n hn
      exact ⟨T', A, c, by simp [Gh.sett, e, q1], q2⟩
end Go.Proofs.Ytilbolgncpfmmaa.Px
