/- Plain mathematics of strings as lists of bytes: their order, ascending lists. -/
import Derived.Test.YtddfimjiihggmaaGreatDoorB3
import Derived.Test.YtddfimjiihggmaaGreatDoorRows
import Derived.LaidMore
import Derived.Lay
import Derived.Stop.Joined
import Derived.Lib.SmallJoins
import Derived.Lib.SplitLaws
import Derived.Sort.KeysCollected
import Derived.Lib.ItoaNum
import Derived.Sort.Walk0
set_option maxHeartbeats 16000000
set_option maxRecDepth 20000
namespace Go.Proofs.YtddfimjiihggmaaGreatDoor
abbrev ltS (a b : F6) : Bool := Go.Op.bytesLess a b
theorem Ew (a b : UInt8) (x y : F6) : ltS (a :: x) (b :: y) = (decide (a < b) || (a == b && ltS x y)) := rfl
theorem U3 (a : F6) : ltS a a = false := by
 induction a with
 | nil => rfl
 | cons x a ih =>
  rw [Ew, ih, Bool.and_false, Bool.or_false]
  exact A7 (UInt8.lt_irrefl x)
theorem Bs {a b c : F6} (h : ltS a b = true) (k : ltS b c = true) : ltS a c = true := by
 induction a generalizing b c with
 | nil =>
  cases b with
  | nil => cases h
  | cons y b => cases c with
   | nil => cases k
   | cons z c => rfl
 | cons x a ih =>
  cases b with
  | nil => cases h
  | cons y b =>
   cases c with
   | nil => cases k
   | cons z c =>
    rw [Ew] at h k ⊢
    simp only [Bool.or_eq_true, decide_eq_true_eq, C9, beq_iff_eq] at h k ⊢
    rcases h with h | ⟨rfl, h⟩
    · rcases k with k | ⟨rfl, k⟩
      · exact .inl (UInt8.lt_trans h k)
      · exact .inl h
    · rcases k with k | ⟨rfl, k⟩
      · exact .inl k
      · exact .inr ⟨rfl, ih h k⟩
theorem X2 (a b : F6) : ltS a b = true ∨ a = b ∨ ltS b a = true := by
 induction a generalizing b with
 | nil => cases b with
  | nil => exact .inr (.inl V)
  | cons y b => exact .inl V
 | cons x a ih =>
  cases b with
  | nil => exact .inr (.inr V)
  | cons y b =>
   rw [Ew, Ew]
   simp only [Bool.or_eq_true, decide_eq_true_eq, C9, beq_iff_eq]
   rcases Decidable.em (x < y) with h | h
   · exact .inl (.inl h)
   · rcases Decidable.em (y < x) with k | k
     · exact .inr (.inr (.inl k))
     · have e : x = y := by
        apply UInt8.toNat_inj.1
        rw [UInt8.lt_iff_toNat_lt] at h k
        omega
       subst e
       rcases ih b with i | rfl | i
       · exact .inl (.inr ⟨rfl, i⟩)
       · exact .inr (.inl V)
       · exact .inr (.inr (.inr ⟨rfl, i⟩))
theorem Z3 {a b : F6} (h : ltS a b = true) : ltS b a = false := by
 cases k : ltS b a with
 | false => rfl
 | true => have := Bs h k; rw [U3] at this; cases this
theorem ltS_ne {a b : F6} (h : ltS a b = true) : a ≠ b := fun e => by rw [e, U3] at h; cases h
open Go.RowKit Px
variable {us : List Value} {args : List DV} {P : Program} {f : FuncId}
abbrev dI (n : Int) : DV := .val (.int .i64 n)
theorem Q7 {a b : Int} (h : a = b) : SVle (.d (dI a)) (.d (dI b)) := .of_eq (G6 (fun n => SV.d (dI n)) h)
theorem Ht {a b : Nat} (h : a = b) : SVle (.d (dI a)) (.d (dI b)) := .of_eq (G6 (fun n : Nat => SV.d (dI n)) h)
abbrev dU (n : Nat) : DV := .val (.int .u64 n)
abbrev dB (b : Bool) : DV := .val (.bool b)
abbrev dC (l : F6) : List DV := [dS l]
theorem ix {α : Type} (f : α → List DV) (l : List α) (n : Int) (i : Nat) (x : α) (h : n = i) (hx : l[i]? = some x) : (l.map f)[n.toNat]? = some (f x) := by
 subst h
 rw [H0, C6, hx]; rfl
theorem J0 (n : Int) (h : -9223372036854775808 ≤ n ∧ n ≤ 9223372036854775807) : IntKind.i64.wrap n = n := IntWalk.i64_in n h
theorem PCalls.of_any {v : Value} (hv : v = (match us with | [u] => u | us => .tuple us.toArray)) (hu : ∀ u ∈ us, u.oneCell' = true)
 (h : ∀ (F : Nat → Nat → Prop) (w : World) (vals : List Value), vals.length = args.length → (∀ (i : Nat) v x, vals[i]? = some v → args[i]? = some x → DRep F w v x) → GlobOk F w → Calls P f vals.toArray w fun e w' => e = .returned v ∧ Below w.heap.size w w') : PCalls P f args (AH (us.map .val)) := by
 intro F w vals hl hr hg
 refine (h F w vals hl hr hg).mono ?_
 rintro e w' ⟨rfl, hb⟩
 refine ⟨_, V, ?_, hb⟩
 subst hv
 match us, hu with
 | [], _ => exact ⟨[], V, V, fun i y x hy => by simp at hy⟩
 | [u], hu => exact DRep.val u (hu u (by simp))
 | u :: u' :: us, hu =>
  refine ⟨u :: u' :: us, V, by simp, fun i y x hy hx => ?_⟩
  simp only [← List.map_cons, C6] at hx
  rw [hy] at hx
  cases hx
  exact DRep.val y (hu y (C0 hy))
theorem HU {F : Nat → Nat → Prop} {w : World} {vals : List Value} (hl : vals.length = (us.map DV.val).length) (hr : ∀ (i : Nat) v x, vals[i]? = some v → (us.map DV.val)[i]? = some x → DRep F w v x) : vals = us := by
 apply List.ext_getElem (by simpa using hl)
 intro i h1 h2
 have := hr i _ _ (A4 h1) (A4 (by simpa using h2))
 simp only [List.getElem_map] at this
 exact DRep.val_eq this
theorem JY (hp : PCalls P f args (.d (dB true))) (w : World) (vals : List Value) (hl : vals.length = args.length) (hr : ∀ (i : Nat) v x, vals[i]? = some v → args[i]? = some x → DRep (fun _ _ => True) w v x) (hg : GlobOk (fun _ _ => True) w) :
 Calls P f vals.toArray w fun e w' => e = .returned (.bool true) ∧ Below w.heap.size w w' :=
 (hp (fun _ _ => True) w vals hl hr hg).mono fun e w' ⟨v, h1, h2, h3⟩ => by
  have : v = .bool true := DRep.val_eq h2
  subst this
  exact ⟨h1, h3⟩
open Go.ChangeShapes Go.WideShapes Go.ChangeAt Go.RowKit Go.Joins Px
theorem own : ownKnob Tryz.prog.godebug = none := by kernel_rfl
def pow10 : List Int := [1, 10, 100, 1000, 10000, 100000, 1000000, 10000000, 100000000, 1000000000, 10000000000, 100000000000, 1000000000000, 10000000000000, 100000000000000, 1000000000000000, 10000000000000000, 100000000000000000, 1000000000000000000, 10000000000000000000]
theorem gs_eq : gs = [(5, pow10.map fun n => DV.val (.int .u64 n))] := rfl
section
variable {H : Type} {enc : TypeId × Value → H}
theorem Mq {W : World} {cs : Array Value} {fuel : Nat} {x : DataW Unit × List MemPlace} {sp : Nat → Bool} {hd : Bool} (hv : W.var? Tryz.prog "internal/strconv.uint64pow10" = some cs) (hx : x.1 = .agg (pow10.map fun n => .lit (.int .u64 n)))
 (h : DataW.trod (fun _ => ()) Tryz.prog W 0 sp hd fuel 293 cs.toList = some x) : GlobOk (fun _ _ => True) W := by
 obtain ⟨xs, m, -, rfl, hl, hn, FV⟩ := DataW.trod_array Tryz.underlying293 h
 have hc : Tryz.prog.cellsOf 198 = 1 := by kernel_rfl
 have Mk : Tryz.prog.cellsOf 293 = 20 := by kernel_rfl
 rw [Mk] at hl
 have hx : xs.map (·.1) = pow10.map fun n => (.lit (.int .u64 n) : DataW Unit) := DataW.agg.inj hx
 have hp : pow10.length = 20 := rfl
 have hcs : cs.toList = pow10.map fun n => Value.int .u64 n := by
  apply List.ext_getElem?
  intro r
  by_cases hr : r < 20
  · have hE := FV r hr
    rw [hc, Nat.mul_one, A4 (by omega)] at hE
    obtain ⟨z, e1, e2, -⟩ := DataW.trod_int Tryz.underlying198 hE
    have e4 : (xs.map (·.1))[r]? = (pow10.map fun n => (.lit (.int .u64 n) : DataW Unit))[r]? := by rw [hx]
    rw [C6, C6, A4 (by omega : r < xs.length), A4 (by omega : r < pow10.length), e2] at e4
    simp only [Option.map_some, Option.some.injEq, DataW.lit.injEq, Lit.int.injEq, true_and] at e4
    have h0 : ((cs.toList.drop r).take 1)[0]? = some (.int .u64 z) := by rw [e1]; rfl
    have h1 : cs.toList[r]? = some (.int .u64 z) := by simpa using h0
    rw [h1, C6, A4 (by omega : r < pow10.length), e4]
    rfl
  · rw [H4 (by omega), H4 (by simp [hp]; omega)]
 have hg : Tryz.prog.globalNamed "internal/strconv.uint64pow10" = some 5 := by kernel_rfl
 have M3 := World.var?_cell hg hv
 obtain ⟨T, z, Bx⟩ : ∃ T z, W.heap[5]? = some (.cells cs T z) := by
  simp only [World.var?, hg, Option.bind_some] at hv
  split at hv
  · rename_i a b c hh; cases hv; exact ⟨_, _, hh⟩
  · cases hv
 intro q ds hq
 rw [gs_eq] at hq
 simp only [G1] at hq
 cases hb : Nat.beq 5 q with
 | false => rw [hb] at hq; cases hq
 | true =>
  have e := G0 hb
  subst e
  rw [hb] at hq
  cases hq
  refine ⟨.ref (fun j => (pow10.map fun n => Value.int .u64 n)[j]?.getD default) (fun j hj => ?_) (fun j x hj => ?_), pow10.map fun n => Value.int .u64 n, by rw [List.map_map]; rfl, T, z, ?_⟩
  · rw [A8] at hj
    have e1 : (pow10.map fun n => Value.int .u64 n)[j]? = some (Value.int .u64 pow10[j]) := by rw [C6, A4 hj]; rfl
    refine ⟨?_, D5, ?_⟩
    · rw [E6, M3 j, ← Array.getElem?_toList, hcs, e1]; rfl
    · rw [e1]; rfl
  · rw [C6, C7] at hj
    obtain ⟨n, hn, rfl⟩ := hj
    have e1 : (pow10.map fun n => Value.int .u64 n)[j]? = some (Value.int .u64 n) := by rw [C6, hn]; rfl
    rw [e1]
    exact .val _ V
  · rw [Bx, ← hcs]
theorem laidOut : laidOutB Tryz.prog = true := by kernel_rfl
theorem Di {W W' : World} (hb : Below W.heap.size W W') : ∀ (ts : List TypeId) (vs : List Value) (ds : List (DataW H)) (ps : List MemPlace), (∀ t ∈ ts, Tryz.prog.readableRec t = true ∧ t < Tryz.prog.types.size) → (∀ x ∈ ps, x.block < W.heap.size) →
 DataW.TrodAll enc Tryz.prog W 0 (fun _ => true) true ts vs ds ps → DataW.TrodAll enc Tryz.prog W' 0 (fun b => decide (b < W.heap.size)) true ts vs ds ps
 | [], vs, ds, ps, _, _, h => by
  obtain ⟨rfl, rfl, rfl⟩ := trodAll_nil h
  exact trodAll_mk0
 | t :: ts, vs, ds, ps, ht, hlt, h => by
  obtain ⟨v, vs', d, ds', p, q, rfl, rfl, rfl, h1, h2⟩ := trodAll_cons h
  exact trodAll_cons_mk (Below.trod laidOut (ht t (by simp)).1 (ht t (by simp)).2 h1 hb fun x hx => hlt x (by simp [hx]))
   (Di hb ts vs' ds' q (fun t' QE => ht t' (by simp [QE])) (fun x hx => hlt x (by simp [hx])) h2)
theorem Ui {f : Func} {s : ChangeSpec} {W W' : World} {args : Array Value} {ds : List (DataW H)} {before : List MemPlace} (hW : DataW.Whole enc Tryz.prog f.params.toList s.vars false W args.toList ds [] before) (hv : s.vars = [])
 (hres : f.resultTypes = #[4]) (JP : s.fn H (ds ++ []) = { results := [.lit (.bool true)], args := ds }) (hread : ∀ t ∈ f.params.toList, Tryz.prog.readableRec t = true ∧ t < Tryz.prog.types.size) (hb : Below W.heap.size W W') :
 s.post enc Tryz.prog f false true false false W args (.bool true) W' := by
 have hW' := hW
 obtain ⟨p, q, hA, hV, rfl, hfz, hnd⟩ := hW
 rw [hv] at hV
 obtain ⟨-, rfl⟩ := trodVars_none hV
 have hlt : ∀ x ∈ p, x.block < W.heap.size := fun x hx => hW'.lt x (by simp [hx])
 refine ⟨ds, [], p ++ [], [], p, [], hW', ?_, ?_, ?_, hb.frame _, fun h => by cases h⟩
 · rw [JP, hres]
   exact trodAll_mk1 (shut_bool Tryz.underlying4 _)
 · rw [JP]
   exact Di hb _ _ _ _ hread hlt hA
 · rw [JP, hv]
   rfl
end
end Go.Proofs.YtddfimjiihggmaaGreatDoor
namespace Go.Proofs.YtddfimjiihggmaaGreatDoor.Px
open Go.RowKit
variable {es : List (List DV)} {F : Nat → Nat → Prop} {vs : List Value} {w : World} {B : Nat} {w0 : Cx} {a : Act} {g : Gh} {v : Value}
theorem Rep.rebox {st : PS} {w' : World} (h : Rep B w0 g st a w) {i b b' T : Nat} (hlt : i < 500000) (FC : Qw i) (AW : g.bl i = some b) (Mn : Below 0 w w') (O4 : ∀ k, k < w.heap.size → k ≠ b → w'.heap[k]? = w.heap[k]?) (Ci : b' = b ∨ w.heap.size ≤ b')
 (xs : Array Value) (Bx : w'.heap[b']? = some (.cells xs T (0, 0))) (vs : List Value) (hl : vs.length ≤ xs.size) (hx : ∀ (j : Nat) u, vs[j]? = some u → xs[j]? = some u ∧ u.oneCell' = true) :
 Rep B w0 (g.addb i b') ((st.kill i).bput i (vs.map fun u => .d (.val u))) a w' := by
 have Dq : b' < w'.heap.size := (D1.1 Bx).1
 have DQ : ∀ j c, j ≠ i → g.bl j = some c → c ≠ b' ∧ w'.heap[c]? = w.heap[c]? := fun j c hj hc => by
  have h1 : c ≠ b := fun e => hj (h.inj j i b (by rw [hc, e]) AW)
  have h2 := (h.blk j c hc).2
  refine ⟨fun e => ?_, O4 c h2 h1⟩
  rcases Ci with e2 | e2
  · exact h1 (e.trans e2)
  · omega
 have ev : Evo g w (g.addb i b') w' := by
  refine ⟨Mn, V, fun c o hf hs => ?_, fun c hc => ?_, fun j c hj => ?_, fun _ T h => .inl ⟨T, h, .inl V⟩, fun t T _ h h' => .inr (.inr ⟨t, T, h, h'⟩), fun j c hj hc hc' => ?_⟩
  · have DC := Y0 hs
    have QM : c ≠ b := fun e => hf.2.1 i (by rw [AW, e])
    refine ⟨⟨hf.1, fun j hj => ?_, hf.2.2⟩, L0 (O4 c DC QM) o⟩
    simp only [Gh.addb] at hj
    split at hj
    · cases hj
      rcases Ci with e2 | e2
      · exact QM e2
      · omega
    · exact hf.2.1 j hj
  · rcases D6 c w.heap.size with h1 | h1
    · exact O4 c h1 fun e => hc (.inr (.inl ⟨i, e ▸ AW⟩))
    · exact G5 (.inl h1) hc
  · simp only [Gh.addb] at hj
    split at hj
    · rename_i e
      cases hj
      refine .inr ⟨e ▸ FC, ?_⟩
      rcases Ci with e2 | e2
      · exact .inr (.inl ⟨i, e2 ▸ AW⟩)
      · exact .inl e2
    · exact .inl hj
  · have Ch : j ≠ i := fun e => hj (e ▸ FC)
    exact J6 (DQ j c Ch hc).2
 have srep : ∀ v x, SRep g w v x → SRep (g.addb i b') w' v (x.kill i) := fun v x hx =>
  (hx.le (Hh i x)).extp ev.fx (fun j hj c hc => by
   simp only [Gh.addb]
   rw [B5 (Cv hj).2]
   exact hc) (fun t' k' es e T' N1 => ⟨T', N1, .inl V⟩) fun j hj c hc => J6 (DQ j c (Cv hj).2 hc).2
 obtain ⟨-, hk⟩ := h.kill i
 have hxs : ∀ (j : Nat) c, (vs.map fun u => SV.d (.val u))[j]? = some c → ∃ x, xs[j]? = some x ∧ SRep (g.addb i b') w' x c := fun j c hj => by
  rw [C6, C7] at hj
  obtain ⟨u, hu, rfl⟩ := hj
  obtain ⟨h1, h2⟩ := hx j u hu
  exact ⟨u, h1, DRep.val u h2⟩
 refine { hk with evo := h.evo.trans ev, defers := h.defers.evo ev, base := F3 h.base Mn.size, f0 := h.f0, lim := hk.lim, size := hk.size, glob := fun q cs hq => srep _ (.rd cs) (h.glob q cs hq), slots := fun j => ?_, boxes := fun j cs' hj OX => ?_, maps := fun j ms hj Q9 => ?_, blk := fun j c hj => ?_, dom := fun j c hj => ?_, inj := fun j k c hj hk => ?_, toks := fun t' T' N1 => ?_, tf0 := h.tf0, telt := h.telt, tdis := h.tdis, tdom := h.tdom, tlen := h.tlen }
 · show SRep _ w' _ ((st.kill i).get j)
   rw [Ez]
   exact srep _ _ (h.slots j)
 · rw [K5] at hj
   by_cases e : j = i
   · rw [B9 e] at hj
     cases hj
     refine ⟨b', xs, T, by simp [Gh.addb, e], Bx, by simpa using hl, hxs, fun q u hq hu => ?_⟩
     rw [A8] at hq
     have h1 := hx q _ (A4 hq)
     rw [h1.1] at hu
     cases hu
     exact h1.2
   · rw [B5 e] at hj
     rw [S3, B5 e, C7] at hj
     obtain ⟨cs0, q1, rfl⟩ := hj
     obtain ⟨c, ys, T', q2, q3, q4, q5, q6⟩ := h.boxes j cs0 q1 OX
     refine ⟨c, ys, T', by simp [Gh.addb, e, q2], (DQ j c e q2).2.trans q3, by simpa using q4, fun q c0 hq => ?_, fun q u hq hu => q6 q u (by simpa using hq) hu⟩
     rw [C6, C7] at hq
     obtain ⟨c1, q7, rfl⟩ := hq
     obtain ⟨x, q8, q9⟩ := q5 q c1 q7
     exact ⟨x, q8, srep _ _ q9⟩
 · have e : j ≠ i := by omega
   rw [K5, B5 e, S3, B5 e, C7] at hj
   obtain ⟨cs0, q1, q2⟩ := hj
   have q3 := Hg q2
   subst q3
   obtain ⟨c, es, c', q4, q5, q6⟩ := h.maps j ms q1 Q9
   exact ⟨c, es, c', by simp [Gh.addb, e, q4], (DQ j c e q4).2.trans q5, q6.mono ev.fx⟩
 · simp only [Gh.addb] at hj
   split at hj
   · cases hj
     refine ⟨fun o => ?_, Dq⟩
     rcases Ci with e2 | e2
     · rw [e2]; exact (h.blk i b AW).1 o
     · exact h.f0 _ o (F3 h.base e2)
   · exact ⟨(h.blk j c hj).1, I8 (h.blk j c hj).2 Mn.size⟩
 · rw [K5]
   simp only [Gh.addb] at hj
   split at hj
   · rename_i e; simp [e]
   · rename_i e
     rw [B5 e, S3, B5 e]
     have := h.dom j c hj
     cases q : st.bget j with
     | none => exact G5 q this
     | some x => simp
 · simp only [Gh.addb] at hj hk
   split at hj <;> split at hk
   · omega
   · rename_i e1 e2; cases hj; exact G5 V (DQ k _ e2 hk).1
   · rename_i e1 e2; cases hk; exact G5 V (DQ j _ e1 hj).1
   · exact h.inj j k c hj hk
 · obtain ⟨⟨n, ys, h1⟩, h2⟩ := h.toks t' T' N1
   have h3 : ∀ c, T'.v.ownBlock = some c → c ≠ b ∧ c < w.heap.size := fun c hc => ⟨fun e => h2 i b (e ▸ hc) AW, (h1.lt c hc).2⟩
   refine ⟨⟨n, ys, M9 h1 fun c hc => O4 c (h3 c hc).2 (h3 c hc).1⟩, fun j c hc hj => ?_⟩
   simp only [Gh.addb] at hj
   split at hj
   · cases hj
     have := h3 _ hc
     rcases Ci with e2 | e2
     · exact this.1 e2
     · omega
   · exact h2 j c hc hj
section
variable {P : Program} {ops : Array Oper} {K : PS → Prop} {rest : List Oper} {st : PS} {ty : TypeId} {pos : String} {af : Array Edge} {gd : Option (Nat × Bool)}
theorem Jw {k m : Nat} {news : List Value} (hes : O8 k m (vs.map .val) = es) (FB : vs.length = m * k) (JE : news.length = es.length * k)
 (h : ∀ (i j : Nat) e z, es[i]? = some e → e[j]? = some z → ∃ u, news[i * k + j]? = some u ∧ DRep F w u z) : news = vs := by
 have hm : es.length = m := by rw [← hes, T7]
 refine List.ext_getElem? fun j => ?_
 by_cases hj : j < m * k
 · have hk0 : 0 < k := by
    rcases H1 k with h0 | h0
    · rw [h0, Nat.mul_zero] at hj; omega
    · exact h0
   have hq : j / k < es.length := by rw [hm]; exact Nat.div_lt_of_lt_mul (by rw [Nat.mul_comm]; exact hj)
   have hr : j % k < k := Nat.mod_lt _ hk0
   have he := A4 hq
   have hlen : es[j / k].length = k := by
    have := Da k m (vs.map .val) (by simpa using FB)
    exact this _ (by rw [hes]; exact List.getElem_mem hq)
   have hx := A4 (l := es[j / k]) (i := j % k) (by omega)
   obtain ⟨u, t1, t2⟩ := h _ _ _ _ he hx
   have t3 := (CD k m (vs.map .val) (j / k) (j % k) es[j / k] _ (by rw [hes]; exact he) hx (by simpa using FB)).1
   have e : j / k * k + j % k = j := by rw [Nat.mul_comm]; exact Nat.div_add_mod j k
   rw [e] at t1 t3
   rw [C6, C7] at t3
   obtain ⟨u', t4, t5⟩ := t3
   rw [← t5] at t2
   rw [t1, t4, DRep.val_eq t2]
 · rw [H4 (by rw [JE, hm]; omega), H4 (by omega)]
theorem yTn {T E k bytes m e : Nat} {x y : Operand} [hA : AppOf P T E k bytes] (h0 : 0 < m) (_ : 0 < k) (hb : m * bytes ≤ 140737488351232) (hm : m ≤ 140737488351232) (hes : O8 k m (vs.map .val) = es) (FB : vs.length = m * k) (hx : st.ev x = .d (.val (.slice none 0 0))) (hy : asSl (st.ev y) = some (k, es)) (hi : st.bget e = none)
 (h : YR P true ops K rest ((st.bput e (vs.map fun u => .d (.val u))).put (some e) (.bs e m E k))) (hd : H8 ⟨some e, .call { callee := .builtin .append, args := #[x, y], argTypes := #[T, T] }, ty, pos, af, gd⟩ st = true := by kernel_rfl) (hw : st.want ops ⟨some e, .call { callee := .builtin .append, args := #[x, y], argTypes := #[T, T] }, ty, pos, af, gd⟩ = some true := by rfl) :
 YR P true ops K (⟨some e, .call { callee := .builtin .append, args := #[x, y], argTypes := #[T, T] }, ty, pos, af, gd⟩ :: rest) st := by
 refine .any V fun B w0 Q hQ g a w hr => ?_
 have h1 := hr.eval x
 rw [hx] at h1
 have h1 := DRep.val_eq h1
 obtain ⟨A2, c2, news, Ea, BN, CS, Y3, Bw⟩ := EW hr hy
 have FV : es.length = m := by rw [← hes, T7]
 obtain rfl := Jw hes FB BN Bw
 obtain ⟨ti, z, q1, q2, q3, q4, q5⟩ := hA.inf
 obtain ⟨v', w', r1, r2, r3, r4, r5, r6, r7⟩ := DO (P := P) w w.heap.size T ty E ti z k bytes hA.und q1 q2 q3 q4 q5 (.slice none 0 0) 0 [] (World.ownsRow_nil _ _ _ _) A2 es.length c2 news BN (fun h0 => by
  obtain ⟨b, off, rfl, M3⟩ := CS h0
  exact ⟨_, V, fun j u hj => by rw [Addr.add_lit]; exact M3 j u hj⟩) Y3 (by unfold maxLen; omega) (by rw [FV, E6]; omega) (D9 _)
 rw [E6, List.nil_append, FV] at r2
 obtain ⟨GO, (⟨-, q0⟩ | ⟨gb, cap, cur, rfl, t1, t2, t3, t4, t5, t6⟩)⟩ := r2
 · omega
 have Cb : e < st.n := H3 hd e rfl
 have JQ : ∀ (j : Nat) (u : Value), news[j]? = some u → cur[j]? = some u ∧ u.oneCell' = true := fun j u hj => by
  refine ⟨?_, Y3 u (C0 hj)⟩
  rw [← t6] at hj
  have Z5 : j < m * k := by have := (A5.1 hj).1; rw [E4] at this; omega
  rw [E0 Z5] at hj
  simpa using hj
 have LK : Below w.heap.size w w' := ⟨r3.os, r3.tape, r3.output, r3.size, fun k hk => r4 k hk (by simp [Value.ownBlock])⟩
 obtain ⟨ev, P0⟩ := hr.adopt e gb E hi Cb LK t1 cur t2 (news.map fun u => .d (.val u)) (by rw [A8, FB, t5]; exact Nat.mul_le_mul_right _ t3) (fun _ j c hj => by
  rw [C6, C7] at hj
  obtain ⟨u, hu, rfl⟩ := hj
  exact ⟨u, (JQ j u hu).1, DRep.val u (JQ j u hu).2⟩) (fun j u hj hu => by
  rw [A8] at hj
  have := JQ j _ (A4 hj)
  rw [this.1] at hu
  cases hu
  exact this.2)
 have L9 : (execOp a.eval ⟨some e, .call { callee := .builtin .append, args := #[x, y], argTypes := #[T, T] }, ty, pos, af, gd⟩).run P w = .ok (.value (.slice (some ⟨gb, 0, none⟩) m cap)) w' := by
  simp only [execOp, resolve, invoke, builtin, Sem.run_bind, Sem.run_pure, D2, List.map_toArray, List.map_cons, List.map_nil, h1, Ea, r1]
 unfold wpList
 rw [B9 (N4 hr hw)]
 refine .inl ?_
 unfold Oper.wp
 rw [L9]
 refine h.sound hQ (P0.put (x := .bs e m E k) ⟨gb, cap, by simp [Gh.addb], rfl, t3, t4, by simp [World.shape?, t2, t5]⟩ _ ?_)
 intro j hj
 exact H3 (st := st) hd j hj
theorem Ox (hr : Rep B w0 g st a w) {i n E k : Nat} (hlt : i < 500000) (hv : SRep g w v (.bs i n E k)) (hi : st.bget i = some (vs.map fun u => .d (.val u))) (hn : vs.length = n * k) :
 ∃ b c xs, g.bl i = some b ∧ v = .slice (some ⟨b, 0, none⟩) n c ∧ n ≤ c ∧ c ≤ maxLen ∧ w.heap[b]? = some (.cells xs E (0, 0)) ∧ xs.size = c * k ∧ w.ownsRow 0 E k v n vs ∧ ∀ u ∈ vs, u.oneCell' = true := by
 obtain ⟨b, c, q1, q2, q3, q4, q5⟩ := hv
 obtain ⟨b', xs, T, q6, q7, q8, q9, q10⟩ := hr.boxes i _ hi hlt
 rw [q1] at q6
 cases q6
 have QF : T = E ∧ xs.size = c * k := by
  simp only [World.shape?, q7, Option.some.injEq, Prod.mk.injEq] at q5
  exact q5
 obtain ⟨rfl, AL⟩ := QF
 rw [A8] at q8 q10
 have hxv : ∀ (j : Nat) u, vs[j]? = some u → xs[j]? = some u ∧ u.oneCell' = true := fun j u hj => by
  obtain ⟨u', t1, t2⟩ := q9 j (.d (.val u)) (by rw [C6, hj]; rfl)
  have t3 := DRep.val_eq t2
  subst t3
  exact ⟨t1, q10 j u' (A5.1 hj).1 t1⟩
 have Z4 : ∀ u ∈ vs, u.oneCell' = true := fun u hu => by
  obtain ⟨j, hj⟩ := List.mem_iff_getElem?.1 hu
  exact (hxv j u hj).2
 refine ⟨b, c, xs, q1, q2, q3, q4, q7, AL, ?_, Z4⟩
 rw [q2]
 refine ⟨hn, .inr ⟨b, c, xs, V, E8 _, q7, q3, q4, AL, ?_⟩⟩
 refine List.ext_getElem? fun j => ?_
 by_cases hj : j < n * k
 · rw [E0 hj]
   have hjv := A4 (l := vs) (i := j) (by omega)
   rw [hjv]
   simpa using (hxv j _ hjv).1
 · rw [H4 (by simp; omega), H4 (by omega)]
theorem NQ {T E k bytes n m i e : Nat} {x y : Operand} {us : List Value} [hA : AppOf P T E k bytes] (h0 : 0 < m) (hb : (n + m) * bytes ≤ 140737488351232) (hm : n + m ≤ 140737488351232) (hes : O8 k m (vs.map .val) = es) (FB : vs.length = m * k) (hul : us.length = n * k) (hx : st.ev x = .bs i n E k) (hi : st.bget i = some (us.map fun u => .d (.val u))) (hy : asSl (st.ev y) = some (k, es))
 (h : YR P true ops K rest (((st.kill i).bput i ((us ++ vs).map fun u => .d (.val u))).put (some e) (.bs i (n + m) E k))) (hd : H8 ⟨some e, .call { callee := .builtin .append, args := #[x, y], argTypes := #[T, T] }, ty, pos, af, gd⟩ st = true := by kernel_rfl) (hw : st.want ops ⟨some e, .call { callee := .builtin .append, args := #[x, y], argTypes := #[T, T] }, ty, pos, af, gd⟩ = some true := by rfl) (hlt : Nat.blt i 500000 = true := by rfl) (FC : Nat.blt (i % 500000) 10000 = true := by rfl) :
 YR P true ops K (⟨some e, .call { callee := .builtin .append, args := #[x, y], argTypes := #[T, T] }, ty, pos, af, gd⟩ :: rest) st := by
 have HK : i < 500000 := B7 hlt
 have hsm5 : Qw i := B7 FC
 clear hlt FC
 refine .any V fun B w0 Q hQ g a w hr => ?_
 have h1 := hr.eval x
 rw [hx] at h1
 obtain ⟨b, c, xs, p1, p2, p3, p4, p5, p6, p7, p8⟩ := Ox hr HK h1 hi hul
 obtain ⟨A2, c2, news, Ea, BN, CS, Y3, Bw⟩ := EW hr hy
 have FV : es.length = m := by rw [← hes, T7]
 obtain rfl := Jw hes FB BN Bw
 obtain ⟨ti, z, q1, q2, q3, q4, q5⟩ := hA.inf
 obtain ⟨v', w', r1, r2, r3, r4, r5, r6, r7⟩ := DO (P := P) w 0 T ty E ti z k bytes hA.und q1 q2 q3 q4 q5 (a.eval x) n us p7 A2 es.length c2 news BN (fun h0 => by
  obtain ⟨b, off, rfl, M3⟩ := CS h0
  exact ⟨_, V, fun j u hj => by rw [Addr.add_lit]; exact M3 j u hj⟩) Y3 (by unfold maxLen; omega) (by rw [FV]; omega) (E8 _)
 rw [FV] at r2
 obtain ⟨GO, (⟨-, q0⟩ | ⟨gb, cap, cur, rfl, t1, t2, t3, t4, t5, t6⟩)⟩ := r2
 · omega
 have hob : (a.eval x).ownBlock = some b := by rw [p2]; rfl
 have Ci : gb = b ∨ w.heap.size ≤ gb := by
  rcases r6 with r6 | r6
  · rw [hob] at r6; exact .inl (by simpa [Value.ownBlock] using r6)
  · exact .inr (by have : gb = w.heap.size := by simpa [Value.ownBlock] using r6
                   omega)
 have JQ : ∀ (j : Nat) (u : Value), (us ++ news)[j]? = some u → cur[j]? = some u ∧ u.oneCell' = true := fun j u hj => by
  refine ⟨?_, ?_⟩
  · rw [← t6] at hj
    have Z5 : j < (n + m) * k := by have := (A5.1 hj).1; rw [E4] at this; omega
    rw [E0 Z5] at hj
    simpa using hj
  · rcases List.mem_append.1 (C0 hj) with q | q
    · exact p8 u q
    · exact Y3 u q
 have P0 := hr.rebox HK hsm5 p1 r3 (fun k hk O4 => r4 k hk (by rw [hob]; exact fun e => O4 (I7 e).symm)) Ci cur t2 (us ++ news) (by rw [GO, t5]; exact Nat.mul_le_mul_right _ t3) JQ
 have L9 : (execOp a.eval ⟨some e, .call { callee := .builtin .append, args := #[x, y], argTypes := #[T, T] }, ty, pos, af, gd⟩).run P w = .ok (.value (.slice (some ⟨gb, 0, none⟩) (n + m) cap)) w' := by
  simp only [execOp, resolve, invoke, builtin, Sem.run_bind, Sem.run_pure, D2, List.map_toArray, List.map_cons, List.map_nil, Ea, r1]
 unfold wpList
 rw [B9 (N4 hr hw)]
 refine .inl ?_
 unfold Oper.wp
 rw [L9]
 refine h.sound hQ (P0.put (x := .bs i (n + m) E k) ⟨gb, cap, by simp [Gh.addb], rfl, t3, t4, by simp [World.shape?, t2, t5]⟩ _ ?_)
 intro j hj
 exact H3 (st := st) hd j hj
end
def Rcl (k : Nat) (es : List (List DV)) (F : Nat → Nat → Prop) (w : World) (v : Value) : Prop := DRep F w v (.sl k es) ∧ ∃ A, v = .slice A es.length es.length
theorem Rcl.mono {k : Nat} (F F' : Nat → Nat → Prop) (w w' : World) (v : Value) (h : Rcl k es F w v) (hk : Kp F w F' w') : Rcl k es F' w' v := ⟨h.1.mono hk, h.2⟩
theorem DRep.cap {A A' : Option Addr} {n c c' k : Nat} (h : DRep F w (.slice A n c) (.sl k es)) (hc : n ≤ c') (hA : 0 < n → A' = A) : DRep F w (.slice A' n c') (.sl k es) := by
 obtain ⟨A0, c0, news, hv, h1, h2, h3, h4, h5, h6, h7⟩ := DRep.row h
 obtain ⟨e1, e2, e3⟩ := Value.slice.inj hv
 subst e1 e2 e3
 exact DRep.of_row (xs := news) hc h2 h3 (fun h0 => by rw [hA h0]; exact h5 h0) h6 h7
theorem add_zero (k : Nat) (A : Option Addr) : A.map (·.add (0 * k)) = A := by
 cases A with
 | none => rfl
 | some a => simp [Addr.add]
section
variable {P : Program} {sq : Bool} {ops : Array Oper} {K : PS → Prop} {rest : List Oper} {st : PS} {d : Option Nat} {op : Op} {ty : TypeId} {pos : String} {af : Array Edge} {gd : Option (Nat × Bool)} {q : Nat × Bool}
end
section
variable {P : Program} {ops : Array Oper} {K : PS → Prop} {rest : List Oper} {st : PS} {ty : TypeId} {pos : String} {af : Array Edge} {gd : Option (Nat × Bool)}
variable {Q : Exit → PS → Prop} {c : Code}
end
section
variable {P : Program} {sq : Bool} {ops : Array Oper} {K : PS → Prop} {rest : List Oper} {st : PS} {d : Option Nat} {ty : TypeId} {pos : String} {af : Array Edge} {gd : Option (Nat × Bool)}
end
section
variable {P : Program} {sq : Bool} {ops : Array Oper} {K : PS → Prop} {rest : List Oper} {st : PS} {d : Option Nat} {op : Op} {ty : TypeId} {pos : String} {af : Array Edge} {gd : Option (Nat × Bool)} {q : Nat × Bool}
theorem DRep.fresh {w' : World} (h : Rep B w0 g st a w) (hb : Below w.heap.size w w') {E k n : Nat} {xs : List Value} (J9 : w'.ownsRow w.heap.size E k v n xs) (hn : es.length = n) (h0 : 0 < n) (hm : n ≤ 9223372036854775807) (hk : ∀ e ∈ es, e.length = k) (h1 : ∀ u ∈ xs, u.oneCell' = true)
 (P6 : ∀ (i j : Nat) e x, es[i]? = some e → e[j]? = some x → ∃ u, xs[i * k + j]? = some u ∧ DRep (Fx g) w u x) : DRep (Fx g) w' v (.sl k es) := by
 subst hn
 have e0 := (Ext.grow h hb).fx
 obtain ⟨A, c, h2, h3, h4⟩ := V2 J9
 rcases J9.2 with ⟨e6, e7⟩ | ⟨gb, cap, cur, e6, e7, e8, -⟩
 · rw [e6] at h2
   have := (Value.slice.inj h2).2.1
   omega
 · have e9 : A = some ⟨gb, 0, none⟩ := (Value.slice.inj (h2.symm.trans e6)).1
   rw [h2]
   refine DRep.of_row (xs := xs) h3 hm hk (fun _ => ⟨gb, 0, e9, fun j u hj => ⟨?_, ?_⟩⟩) h1 fun i j e x he hx => ?_
   · rw [E6]; exact AJ J9 (by rw [e6]; rfl) j u hj
   · refine ⟨h.f0 _ _ (F3 h.base e7), fun i' EM => ?_, fun t T n' c' hT hv => ?_⟩
     · have := (h.blk i' _ EM).2; omega
     · obtain ⟨⟨n'', ys, h8⟩, -⟩ := h.toks t T hT
       have := (h8.lt gb (by rw [hv]; rfl)).2
       omega
   · obtain ⟨u, h8, h9⟩ := P6 i j e x he hx
     exact ⟨u, h8, h9.mono e0⟩
end
end Go.Proofs.YtddfimjiihggmaaGreatDoor.Px
namespace Go.Proofs.YtddfimjiihggmaaGreatDoor
open Go.RowKit Px
variable {kd : IntKind}
section
variable {P : Program} {sq : Bool} {ops : Array Oper} {K : PS → Prop} {rest : List Oper} {st : PS} {d : Option Nat} {ty : TypeId} {pos : String} {af : Array Edge} {gd : Option (Nat × Bool)}
theorem Kw (T : TypeId) (x y : Operand) {E k : Nat} [hS : SliceOf P T E k] (hx : st.ev x = .d (.val (.slice none 0 0))) (hy : st.ev y = .d (.val (.int kd 0))) (hd : H8 ⟨d, .slice T x none (some y) none, ty, pos, af, gd⟩ st = true) :
 M6 P ⟨d, .slice T x none (some y) none, ty, pos, af, gd⟩ st (.d (.val (.slice none 0 0))) .no := fun st2 ha =>
 OpS.value (ha.dst hd) fun _ _ g a w h => by
  have h1 := h.eval x
  rw [ha.ev x (by simp [Op.operands]), hx] at h1
  have h2 := h.eval y
  rw [ha.ev y (by simp [Op.operands]), hy] at h2
  refine ⟨.slice none 0 0, w, ?_, Below.refl _ _, DRep.val _ V⟩
  simp [execOp, Instr.sliceAt, Instr.slice, Instr.sliceBounds, Instr.sliceBound, DRep.val_eq h1, DRep.val_eq h2, asIntOf, hS.und, hS.size]
theorem OK (T : TypeId) (x : Operand) {E k : Nat} [hS : SliceOf P T E k] (hx : st.ev x = .d (.val (.slice none 0 0))) (hd : H8 ⟨d, .call { callee := .builtin .len, args := #[x], argTypes := #[T] }, ty, pos, af, gd⟩ st = true) :
 M6 P ⟨d, .call { callee := .builtin .len, args := #[x], argTypes := #[T] }, ty, pos, af, gd⟩ st (.d (.val (.int .i64 0))) .no := fun st2 ha =>
 OpS.value (ha.dst hd) fun _ _ g a w h => by
  have h1 := h.eval x
  rw [ha.ev x (by simp [Op.operands, Call.operands]), hx] at h1
  refine ⟨.int .i64 0, w, ?_, Below.refl _ _, DRep.val _ V⟩
  simp [execOp, resolve, invoke, builtin, Builtin.len_, DRep.val_eq h1, hS.und, goInt]
theorem ySz {T E k : Nat} {x y : Operand} [SliceOf P T E k] (hx : st.ev x = .d (.val (.slice none 0 0))) (hy : st.ev y = .d (.val (.int kd 0))) (h : YR P sq ops K rest (st.put d (.d (.val (.slice none 0 0))))) (zz : zk ops st ⟨d, .slice T x none (some y) none, ty, pos, af, gd⟩ .no = true := by kernel_rfl) :
 YR P sq ops K (⟨d, .slice T x none (some y) none, ty, pos, af, gd⟩ :: rest) st := M4 (Kw T x y hx hy (zd zz)) (zo zz) (zw zz) h
theorem yNl {T E k : Nat} {x : Operand} [SliceOf P T E k] (hx : st.ev x = .d (.val (.slice none 0 0))) (h : YR P sq ops K rest (st.put d (.d (.val (.int .i64 0))))) (zz : zk ops st ⟨d, .call { callee := .builtin .len, args := #[x], argTypes := #[T] }, ty, pos, af, gd⟩ .no = true := by kernel_rfl) :
 YR P sq ops K (⟨d, .call { callee := .builtin .len, args := #[x], argTypes := #[T] }, ty, pos, af, gd⟩ :: rest) st := M4 (OK T x hx (zd zz)) (zo zz) (zw zz) h
end
section
variable {P : Program} {ops : Array Oper} {K : PS → Prop} {rest : List Oper} {st : PS} {ty : TypeId} {pos : String} {af : Array Edge} {gd : Option (Nat × Bool)}
variable {B : Nat} {w0 : Cx} {Q : Exit → PS → Prop} {c : Code}
end
end Go.Proofs.YtddfimjiihggmaaGreatDoor
namespace Go.Proofs.YtddfimjiihggmaaGreatDoor.Px
open Go.RowKit Go.ChangeShapes
variable {t : TypeId}
inductive CK where
 | i (k : IntKind)
 | s
 | b
def CK.is : CK → Value → Bool
 | .i k, .int k' _ => decide (k' = k)
 | .s, .string _ => true
 | .b, .bool _ => true
 | _, _ => false
def CK.ty (P : Program) (c : CK) (t : TypeId) : Bool := match c, P.underlying t with
 | .i k, some (.int k') => decide (k = k')
 | .s, some .string => true
 | .b, some .bool => true
 | _, _ => false
def veq : Value → Value → Bool
 | .int _ a, .int _ b => a == b
 | .string a, .string b => a.toList == b.toList
 | .bool a, .bool b => a == b
 | _, _ => false
def Lr : List Value → List Value → Bool
 | [], [] => true
 | x :: xs, y :: ys => veq x y && Lr xs ys
 | _, _ => false
def Mt : List CK → List Value → Bool
 | [], [] => true
 | c :: cs, x :: xs => c.is x && Mt cs xs
 | _, _ => false
section
variable {P : Program} (w : World)
theorem CK.plain {c : CK} (h : c.ty P t = true) : P.plainKey t = true := by
 unfold CK.ty at h
 unfold Program.plainKey
 cases e : P.underlying t with
 | none => rw [e] at h; cases c <;> simp at h
 | some d => rw [e] at h; cases c <;> cases d <;> simp at h ⊢
theorem run_veq {c : CK} (h : c.ty P t = true) {x y : Value} (hx : c.is x = true) (hy : c.is y = true) (d : Nat) : (Op.equalIn (d + 1) t x y).run P w = .ok (veq x y) w := by
 unfold CK.ty at h
 cases e : P.underlying t with
 | none => rw [e] at h; cases c <;> simp at h
 | some u =>
  rw [e] at h
  cases c with
  | i k =>
   cases u <;> simp at h
   subst h
   cases x <;> simp [CK.is] at hx
   cases y <;> simp [CK.is] at hy
   subst hx hy
   exact run_equalIn_int w d t _ _ _ _ e
  | s =>
   cases u <;> simp at h
   cases x <;> simp [CK.is] at hx
   cases y <;> simp [CK.is] at hy
   exact run_equalIn_string w d t _ _ e
  | b =>
   cases u <;> simp at h
   cases x <;> simp [CK.is] at hx
   cases y <;> simp [CK.is] at hy
   exact run_equalIn_bool' w d t _ _ e
def Hl (P : Program) : Nat → List CK → List Field → Bool
 | _, [], [] => true
 | off, c :: cs, f :: fs => c.ty P f.type && Nat.beq f.offset off && !(f.name == "_") && Hl P (off + 1) cs fs
 | _, _, _ => false
theorem Dk (d : Nat) (xs ys : Array Value) : ∀ (cs : List CK) (fs : List Field) (off : Nat), Hl P off cs fs = true → ∀ la lb : List Value, Mt cs la = true → Mt cs lb = true → (∀ (j : Nat) v, la[j]? = some v → xs[off + j]? = some v) → (∀ (j : Nat) v, lb[j]? = some v → ys[off + j]? = some v) →
 (Op.eqFields (d + 1) xs ys fs).run P w = .ok (Lr la lb) w
 | [], [], off, _, la, lb, ha, hb, _, _ => by
  cases la with
  | nil => cases lb with
   | nil => simp [Op.eqFields, Lr]
   | cons => cases hb
  | cons => cases ha
 | [], _ :: _, _, h, _, _, _, _, _, _ => by cases h
 | _ :: _, [], _, h, _, _, _, _, _, _ => by cases h
 | c :: cs, f :: fs, off, h, la, lb, ha, hb, hxs, hys => by
  cases la with
  | nil => cases ha
  | cons a la =>
   cases lb with
   | nil => cases hb
   | cons b lb =>
    simp only [Hl, Mt, C9] at h ha hb
    obtain ⟨⟨⟨h1, h2⟩, h3⟩, h4⟩ := h
    have h2 := G0 h2
    have hn : f.name ≠ "_" := by simpa using h3
    have p1 := run_part_plain w (CK.plain h1) (xs := xs) (off := f.offset) (v := a) (by rw [h2]; exact hxs 0 a V)
    have p2 := run_part_plain w (CK.plain h1) (xs := ys) (off := f.offset) (v := b) (by rw [h2]; exact hys 0 b V)
    have p3 := run_veq w h1 ha.1 hb.1 d
    have ih := Dk d xs ys cs fs (off + 1) h4 la lb ha.2 hb.2 (fun j v hj => by rw [show off + 1 + j = off + (j + 1) by omega]; exact hxs (j + 1) v hj) fun j v hj => by rw [show off + 1 + j = off + (j + 1) by omega]; exact hys (j + 1) v hj
    simp only [Op.eqFields, hn, ne_eq, not_false_eq_true, if_true, Sem.run_bind, p1, p2, p3, D2, Lr]
    cases veq a b
    · simp
    · simpa using ih
end
class EqOf (P : Program) (T : TypeId) (cs : outParam (List CK)) : Prop where
 run : ∀ (w : World) (la lb : List Value), Mt cs la = true → Mt cs lb = true → (Op.equalIn 10000 T (.agg la.toArray) (.agg lb.toArray)).run P w = .ok (Lr la lb) w
 guard : P.eqGuardType P.depth T = false
theorem GR {P : Program} {T : TypeId} {cs : List CK} (h : (match P.underlying T with | some (.struct fs) => Hl P 0 cs fs.toList | _ => false) = true) (hp : P.stoodInHeld T = false) (hg : P.eqGuardType P.depth T = false) : EqOf P T cs := by
 refine ⟨fun w la lb ha hb => ?_, hg⟩
 cases hu : P.underlying T with
 | none => rw [hu] at h; cases h
 | some u =>
  rw [hu] at h
  cases u with
  | struct fs =>
   have hf : P.fieldsOf T = fs := by simp [Program.fieldsOf, hu]
   rw [show (10000 : Nat) = 9999 + 1 from rfl, run_equalIn_agg w 9999 T _ _ (by rw [hf]; exact hu) hp, hf]
   exact Dk w 9998 _ _ cs fs.toList 0 h la lb ha hb (fun j v hj => by simpa using hj) fun j v hj => by simpa using hj
  | _ => cases h
section
variable {P : Program} {sq : Bool} {ops : Array Oper} {K : PS → Prop} {rest : List Oper} {st : PS} {d : Option Nat} {ty : TypeId} {pos : String} {af : Array Edge} {gd : Option (Nat × Bool)}
theorem yBx {t t' : Nat} {x y : Operand} {cs ds : List DV} {vs us : List Value} {ks : List CK} [hE : EqOf P t ks] (hv : Mt ks vs = true) (hu : Mt ks us = true) (hx : st.ev x = .d (.agg cs)) (hcx : Dy cs = some vs) (hy : st.ev y = .d (.agg ds)) (hcy : Dy ds = some us)
 (h : YR P sq ops K rest (st.put d (.d (.val (.bool (!Lr vs us)))))) (zz : zk ops st ⟨d, .binOp .neq t x y t', ty, pos, af, gd⟩ .no = true := by kernel_rfl) : YR P sq ops K (⟨d, .binOp .neq t x y t', ty, pos, af, gd⟩ :: rest) st :=
 yBA (fun w => by rw [Sem.run_bind, run_eqGuard_agg w _ _ _ _ _ _ hE.guard, D2, run_neq_struct, hE.run w vs us hv hu]; rfl) rfl hx hcx hy hcy h zz
end
theorem KW (a b : List UInt8) : veq (vS a) (vS b) = (a == b) := by
 show ((ByteArray.mk a.toArray).toList == (ByteArray.mk b.toArray).toList) = (a == b)
 rw [V1, V1]
theorem veq_int (k k' : IntKind) (a b : Int) : veq (.int k a) (.int k' b) = (a == b) := rfl
end Go.Proofs.YtddfimjiihggmaaGreatDoor.Px
namespace Go.Proofs.YtddfimjiihggmaaGreatDoor
open Go.Lib
variable {c : UInt8}
def T9 (c : UInt8) : F6 → Option (F6 × F6)
 | [] => none
 | b :: l => if b = c then some ([], l) else (T9 c l).map fun p => (b :: p.1, p.2)
theorem Ak {s : F6} {p : F6 × F6} (h : T9 c s = some p) : s = p.1 ++ c :: p.2 := by
 induction s generalizing p with
 | nil => cases h
 | cons b l ih =>
  rw [T9] at h
  split at h
  · rename_i e; cases h; rw [e]; rfl
  · rw [C7] at h
    obtain ⟨q, h1, rfl⟩ := h
    rw [ih h1]; rfl
theorem EU (c : UInt8) (s : F6) : indexByte s c = match T9 c s with | none => -1 | some p => (p.1.length : Int) := by
 induction s with
 | nil => rfl
 | cons b l ih =>
  rw [T9, indexByte]
  by_cases h : b = c
  · rw [B9 (by simpa using h), B9 h]; rfl
  · rw [B5 (by simpa using h), B5 h, ih]
    cases T9 c l with
    | none => rfl
    | some p =>
     show (if ((p.1.length : Int) == -1) = true then (-1 : Int) else (p.1.length : Int) + 1) = ((b :: p.1).length : Int)
     rw [B5 (by simp)]
     rfl
def S7 (c : UInt8) (s : F6) : F6 := match T9 c s with | none => s | some p => p.1
def Q6 (c : UInt8) (s : F6) : F6 := match T9 c s with | none => [] | some p => p.2
def Bi (c : UInt8) (s : F6) : Bool := (T9 c s).isSome
theorem Y5 (c : UInt8) (s : F6) : (S7 c s).length ≤ s.length ∧ (Q6 c s).length ≤ s.length ∧ (Bi c s = true → (Q6 c s).length < s.length) := by
 unfold S7 Q6 Bi
 cases h : T9 c s with
 | none => simp
 | some p =>
  have := G6 List.length (Ak h)
  simp at this
  simp
  omega
def S5 (c : UInt8) : F6 → List F6
 | [] => [[]]
 | b :: l => if b = c then [] :: S5 c l else match S5 c l with
  | [] => [[b]]
  | h :: t => (b :: h) :: t
theorem Kb (c : UInt8) (s : F6) : S5 c s ≠ [] := by
 cases s with
 | nil => simp [S5]
 | cons b l =>
  rw [S5]
  split
  · simp
  · split <;> simp
theorem BS (c : UInt8) (s : F6) : S5 c s = match T9 c s with | none => [s] | some p => p.1 :: S5 c p.2 := by
 induction s with
 | nil => rfl
 | cons b l ih =>
  rw [S5, T9]
  by_cases h : b = c
  · rw [B9 h, B9 h]
  · rw [B5 h, B5 h]
    cases e : T9 c l with
    | none => rw [e] at ih; rw [ih]; rfl
    | some p => rw [e] at ih; rw [ih]; rfl
theorem Vp {a b : F6} (h : c ∉ a) : T9 c (a ++ c :: b) = some (a, b) := by
 induction a with
 | nil => simp [T9]
 | cons x a ih =>
  simp only [List.mem_cons, not_or] at h
  rw [List.cons_append, T9, B5 (Ne.symm h.1), ih h.2]
  rfl
theorem Fw {a : F6} : T9 c a = none ↔ c ∉ a := by
 induction a with
 | nil => simp [T9]
 | cons x a ih =>
  rw [T9]
  by_cases h : x = c
  · rw [B9 h]; simp [h]
  · rw [B5 h, Option.map_eq_none_iff, ih]; simp [Ne.symm h]
theorem Ov {s : F6} {p : F6 × F6} (h : T9 c s = some p) : c ∉ p.1 := by
 induction s generalizing p with
 | nil => cases h
 | cons b l ih =>
  rw [T9] at h
  split at h
  · cases h; simp
  · rename_i hb
    rw [C7] at h
    obtain ⟨q, h1, rfl⟩ := h
    simp [ih h1, Ne.symm hb]
theorem spl_app {a b : F6} (h : c ∉ a) : S5 c (a ++ c :: b) = a :: S5 c b := by
 rw [BS, Vp h]
theorem PV {a : F6} (h : c ∉ a) : S5 c a = [a] := by
 rw [BS, Fw.2 h]
theorem Av (c : UInt8) (s : F6) : (S5 c s).length ≤ s.length + 1 := by
 induction s with
 | nil => simp [S5]
 | cons b l ih =>
  rw [S5]
  split
  · simpa using ih
  · split
    · simp
    · rename_i e; rw [e] at ih; simp at ih ⊢; omega
theorem Ej (c : UInt8) (s : F6) : ∀ t ∈ S5 c s, t.length ≤ s.length := by
 induction s with
 | nil => intro t ht; simp [S5] at ht; subst ht; simp
 | cons b l ih =>
  intro t ht
  rw [S5] at ht
  split at ht
  · rcases List.mem_cons.1 ht with rfl | ht
    · simp
    · have := ih t ht; simp; omega
  · split at ht
    · rename_i e; exact G5 e (Kb c l)
    · rename_i h t' e
      rcases List.mem_cons.1 ht with rfl | ht
      · have := ih h (by rw [e]; simp); simp; omega
      · have := ih t (by rw [e]; simp [ht]); simp; omega
theorem Hw (c : UInt8) : ∀ (k : Nat) (s : F6), s.count c = k → splitK [c] 0 k s = S5 c s
 | 0, s, h => by
  have hn : c ∉ s := by rwa [List.count_eq_zero] at h
  rw [splitK, PV hn]
 | k + 1, s, h => by
  rw [splitK, index_one, EU, BS]
  cases e : T9 c s with
  | none =>
   have := Fw.1 e
   rw [← List.count_eq_zero] at this
   omega
  | some p =>
   have he := Ak e
   have hn := Ov e
   have h2 : p.2.count c = k := by
    rw [he, List.count_append, List.count_cons_self, List.count_eq_zero.2 hn] at h
    omega
   simp only
   rw [B5 (by simp), H0]
   have h3 : s.take (p.1.length + 0) = p.1 := by conv => lhs; rw [he]; simp
   have h4 : s.drop (p.1.length + [c].length) = p.2 := by conv => lhs; rw [he]; simp
   rw [h3, h4, Hw c k p.2 h2]
abbrev ST := Int × F6 × List F6 × F6
def kndL : List ST := [(1, [100, 101, 112, 111, 115, 105, 116], [[97, 109, 111, 117, 110, 116]], []),
 (2, [119, 105, 116, 104, 100, 114, 97, 119], [[97, 109, 111, 117, 110, 116]], []),
 (3, [98, 117, 121], [[97, 109, 111, 117, 110, 116], [102, 101, 101]], [42]),
 (4, [115, 101, 108, 108], [[112, 114, 111, 99, 101, 101, 100, 115], [99, 111, 115, 116], [108, 111, 110, 103, 112, 114, 111, 99, 101, 101, 100, 115], [108, 111, 110, 103, 99, 111, 115, 116]], [42]),
 (5, [100, 101, 102, 101, 114], [[97, 109, 111, 117, 110, 116]], [42]),
 (6, [105, 110, 99, 111, 109, 101], [[97, 109, 111, 117, 110, 116]], [42]),
 (7, [101, 120, 112, 101, 110, 115, 101], [[97, 109, 111, 117, 110, 116]], []),
 (8, [112, 97, 105, 100], [[97, 109, 111, 117, 110, 116]], []),
 (9, [103, 111, 116], [[97, 109, 111, 117, 110, 116]], []),
 (10, [115, 112, 108, 105, 116], [[99, 97, 115, 104], [99, 111, 115, 116]], [42]),
 (11, [115, 112, 105, 110, 111, 102, 102], [[99, 97, 115, 104], [99, 111, 115, 116], [109, 111, 118, 101, 100]], [42, 43]),
 (12, [101, 120, 99, 104, 97, 110, 103, 101], [[99, 97, 115, 104], [99, 111, 115, 116], [98, 97, 115, 105, 115]], [42, 43]),
 (13, [101, 120, 101, 114, 99, 105, 115, 101], [[112, 97, 105, 100], [109, 111, 118, 101, 100]], [42, 43]),
 (14, [99, 97, 112, 105, 116, 97, 108], [[99, 97, 115, 104], [99, 111, 115, 116]], [42]),
 (15, [105, 115, 115, 117, 101], [[97, 109, 111, 117, 110, 116]], []),
 (16, [99, 97, 110, 99, 101, 108], [[97, 109, 111, 117, 110, 116]], []),
 (17, [97, 99, 99, 114, 117, 101], [[97, 109, 111, 117, 110, 116]], [42]),
 (18, [97, 109, 111, 114, 116, 105, 122, 101], [[97, 109, 111, 117, 110, 116]], [42]),
 (19, [114, 101, 118, 97, 108, 117, 101], [[97, 109, 111, 117, 110, 116]], [42])]
def Y8 (n : Int) : Option ST := kndL.find? fun k => k.1 == n
def EE (w : F6) : Option ST := kndL.find? fun k => k.2.1 == w
theorem Fk {w : F6} {k : ST} (h : EE w = some k) : k ∈ kndL ∧ k.2.1 = w := by
 refine ⟨List.mem_of_find?_eq_some h, ?_⟩
 have := List.find?_some h
 simpa using this
theorem Ul {k : ST} (hk : k ∈ kndL) : EE k.2.1 = some k := by
 have : (kndL.all fun k => EE k.2.1 == some k) = true := by decide
 simpa using D7.1 this k hk
theorem Ey {k : ST} (hk : k ∈ kndL) : Y8 k.1 = some k := by
 have : (kndL.all fun k => Y8 k.1 == some k) = true := by decide
 simpa using D7.1 this k hk
theorem Bu {n : Int} {k : ST} (h : Y8 n = some k) : k ∈ kndL ∧ k.1 = n := by
 refine ⟨List.mem_of_find?_eq_some h, ?_⟩
 have := List.find?_some h
 simpa using this
theorem KA {k : ST} (hk : k ∈ kndL) : 32 ∉ k.2.1 ∧ 10 ∉ k.2.1 ∧ k.2.1 ≠ [] := by
 have : ∀ k ∈ kndL, 32 ∉ k.2.1 ∧ 10 ∉ k.2.1 ∧ k.2.1 ≠ [] := by decide
 exact this k hk
def Jp : F6 := [111, 110]
def S0 : F6 := [100, 101, 98, 105, 116]
def N8 : F6 := [99, 114, 101, 100, 105, 116]
section
variable {X : Type}
abbrev RLn (X : Type) := F6 × Bool × X
abbrev Jb (X : Type) := Int × List (RLn X)
variable (tp : F6 → Bool) (pe : F6 → Option X)
def LX (l : RLn X) : List (Jb X) → List (Jb X)
 | [] => []
 | [r] => [(r.1, r.2 ++ [l])]
 | r :: s :: t => r :: LX l (s :: t)
theorem CG (l : RLn X) (o : List (Jb X)) (r : Jb X) : LX l (o ++ [r]) = o ++ [(r.1, r.2 ++ [l])] := by
 induction o with
 | nil => rfl
 | cons a o ih =>
  cases o with
  | nil => rfl
  | cons b o => simp only [List.cons_append] at ih ⊢; rw [LX, ih]
def Dn (out : List (Jb X)) (s : F6) : Option (List (Jb X)) :=
 if S7 32 s = Jp then (EE (Q6 32 s)).map fun k => out ++ [(k.1, [])]
 else if S7 32 s = S0 ∨ S7 32 s = N8 then
  if Bi 32 (Q6 32 s) && tp (S7 32 (Q6 32 s)) && !out.isEmpty then (pe (Q6 32 (Q6 32 s))).map fun e => LX (S7 32 (Q6 32 s), decide (S7 32 s = N8), e) out else none
 else none
def Tp (s : F6) : Option (RLn X) :=
 match S5 32 s with
 | w :: t :: _ :: _ => if (w = S0 ∨ w = N8) ∧ tp t = true then (pe (s.drop (w.length + t.length + 2))).map fun e => (t, decide (w = N8), e) else none
 | _ => none
def IX (out : List (Jb X)) (s : F6) : Option (List (Jb X)) :=
 match S5 32 s with
 | [w, k] => match EE k with
  | some n => if w = Jp then some (out ++ [(n.1, [])]) else none
  | none => none
 | _ => match Tp tp pe s with
  | some l => if out.isEmpty then none else some (LX l out)
  | none => none
theorem line_eq (out : List (Jb X)) (s : F6) : IX tp pe out s = Dn tp pe out s := by
 unfold IX Dn
 have h1 := BS 32 s
 cases e : T9 32 s with
 | none =>
  rw [e] at h1
  have e1 : S7 32 s = s := by rw [S7, e]
  have e2 : Q6 32 s = [] := by rw [Q6, e]
  have e3 : Bi 32 ([] : F6) = false := rfl
  rw [e1, e2, h1, e3]
  have hk : EE [] = none := by decide
  simp only [Tp, h1, hk, Option.map_none, Bool.false_and, Bool.false_eq_true, if_false]
  split <;> (try split) <;> rfl
 | some p =>
  obtain ⟨w, r⟩ := p
  rw [e] at h1
  have e1 : S7 32 s = w := by rw [S7, e]
  have e2 : Q6 32 s = r := by rw [Q6, e]
  have hs := Ak e
  rw [e1, e2]
  simp only at h1 hs
  have h2 := BS 32 r
  cases e' : T9 32 r with
  | none =>
   rw [e'] at h2
   have e3 : Bi 32 r = false := by rw [Bi, e']; rfl
   rw [h1, h2, e3]
   simp only [Bool.false_and, Bool.false_eq_true, if_false]
   cases EE r with
   | none =>
    by_cases hw : w = Jp
    · rw [B9 hw]; rfl
    · rw [B5 hw]; simp
   | some k =>
    by_cases hw : w = Jp
    · rw [B9 hw]; simp [hw]
    · rw [B5 hw]; simp [hw]
  | some q =>
   obtain ⟨t, x⟩ := q
   rw [e'] at h2
   have hr := Ak e'
   have e3 : Bi 32 r = true := by rw [Bi, e']; rfl
   have e4 : S7 32 r = t := by rw [S7, e']
   have e5 : Q6 32 r = x := by rw [Q6, e']
   have hon : EE r = none := by
    cases hk : EE r with
    | none => rfl
    | some k =>
     obtain ⟨q1, q2⟩ := Fk hk
     have := (KA q1).1
     rw [q2, hr] at this
     simp at this
   have hd : s.drop (w.length + t.length + 2) = x := by
    rw [hs, hr]
    dsimp only
    rw [show w ++ 32 :: (t ++ 32 :: x) = (w ++ 32 :: t ++ [32]) ++ x by simp]
    exact List.drop_left' (by simp; omega)
   simp only at h2
   rw [h1, h2, e3, e4, e5, hon]
   obtain ⟨y, ys, hy⟩ : ∃ y ys, S5 32 x = y :: ys := by
    cases h : S5 32 x with
    | nil => exact G5 h (Kb _ _)
    | cons y ys => exact ⟨y, ys, V⟩
   have hrd : Tp tp pe s = if (w = S0 ∨ w = N8) ∧ tp t = true then (pe x).map fun e => (t, decide (w = N8), e) else none := by
    unfold Tp
    rw [h1, h2, hy]
    dsimp only
    rw [hd]
   rw [hy]
   simp only [hrd, Option.map_none, Bool.true_and]
   by_cases hw : w = Jp
   · have n1 : ¬ (w = S0 ∨ w = N8) := by rw [hw]; decide
     simp [hw]
     rw [B5 (by rw [← hw]; exact fun h => n1 h.1)]
   · rw [B5 hw]
     by_cases hc : w = S0 ∨ w = N8
     · rw [B9 hc]
       cases ht : tp t with
       | false => simp
       | true =>
        rw [B9 ⟨hc, rfl⟩]
        cases pe x with
        | none => cases out <;> simp
        | some e => cases out <;> simp
     · rw [B5 hc, B5 fun h => hc h.1]
def GY (f : List (Jb X) → F6 → Option (List (Jb X))) : Nat → List (Jb X) → List F6 → List (Jb X) × Option Nat
 | _, out, [] => (out, none)
 | i, out, [s] => if s = [] then (out, none) else ([], some (i + 1))
 | i, out, s :: s' :: l => match f out s with
  | none => ([], some (i + 1))
  | some o => GY f (i + 1) o (s' :: l)
def Ce (s : F6) : List (Jb X) × Int × Int :=
 if 65536 < s.length then ([], 0, 4)
 else match GY (Dn tp pe) 0 [] (S5 10 s) with
  | (_, some i) => ([], i, 3)
  | (out, none) => if 64 < out.length ∨ (out.any fun r => decide (64 < r.2.length)) = true then ([], 0, 4) else (out, 0, 0)
theorem RS (l : RLn X) (o : List (Jb X)) (r : Jb X) : ((LX l (o ++ [r])).any fun r => decide (64 < r.2.length)) = (((o ++ [r]).any fun r => decide (64 < r.2.length)) || decide (64 < r.2.length + 1)) := by
 rw [CG, List.any_append, List.any_append]
 simp only [List.any_cons, List.any_nil, Bool.or_false, D3, List.length_cons, List.length_nil]
 cases o.any fun r => decide (64 < r.2.length) with
 | true => simp
 | false =>
  by_cases h : 64 < r.2.length
  · have h2 : 64 < r.2.length + (0 + 1) := by omega
    simp [h, h2]
  · simp [h]
theorem UO (o : List (Jb X)) (n : Int) : ((o ++ [(n, ([] : List (RLn X)))]).any fun r => decide (64 < r.2.length)) = o.any fun r => decide (64 < r.2.length) := by
 simp
theorem Jq (f : List (Jb X) → F6 → Option (List (Jb X))) (i : Nat) (o : List (Jb X)) (s s' : F6) (l : List F6) : GY f i o (s :: s' :: l) = match f o s with | none => ([], some (i + 1)) | some o => GY f (i + 1) o (s' :: l) := rfl
end
section
variable {X : Type} (tp : F6 → Bool) (pe : F6 → Option X) (pr : X → F6) (nm : X → X)
def Fj (n : Int) : F6 := (Y8 n).elim [] fun k => k.2.1
variable {tp pe pr nm}
end
end Go.Proofs.YtddfimjiihggmaaGreatDoor
namespace Go.Proofs.YtddfimjiihggmaaGreatDoor.Px
open Go.RowKit
variable {l : List (List UInt8 × DV)} {listed : List Bool} {i fuel T : Nat} {w : World} {o : Oper} {a : Act}
theorem wp_q {P : Program} {K K' : Act → World → Prop} {Q Q' : Exit → Act → World → Prop} (h : ∀ a w, K a w → K' a w) (hq : ∀ e a w, e ≠ .normal → Q e a w → Q' e a w) (hh : o.wp P a w K Q) : o.wp P a w K' Q' := by
 have hl : LetsOut Q → LetsOut Q' := fun ⟨a, w, h⟩ => ⟨a, w, hq _ _ _ (by simp) h⟩
 unfold Oper.wp at *
 generalize (execOp a.eval o).run P w = r at *
 cases r with
 | ok n w' =>
  cases n <;> simp only [Oper.upon] at hh ⊢ <;>
   first
    | exact h _ _ hh
    | exact Calls.mono hh (fun e w'' he => by cases e <;> first | exact h _ _ he | exact hl he | exact hq _ _ _ (by simp) he)
    | exact Rows.mono hh (fun _ _ he => h _ _ he)
 | halt x w' => cases x <;> simp only [Oper.upon] at hh ⊢ <;> first | exact hq _ _ _ (by simp) hh | exact hh
def allR : List Nat → (Nat → Prop) → Prop
 | [], _ => True
 | i :: l, p => p i ∧ allR l p
theorem NK {l : List Nat} {p : Nat → Prop} (h : allR l p) (hi : i ∈ l) : p i := by
 induction l with
 | nil => cases hi
 | cons j l ih =>
  rcases List.mem_cons.1 hi with rfl | hi
  · exact h.1
  · exact ih h.2 hi
def gt (dflt : Bool) : List Bool → Nat → Bool
 | [], _ => dflt
 | b :: _, 0 => b
 | _ :: l, n + 1 => gt dflt l n
theorem QP (dflt : Bool) (l : List Bool) (n : Nat) : l.toArray.getD n dflt = gt dflt l n := by
 induction l generalizing n with
 | nil => simp [gt, Array.getD]
 | cons b l ih =>
  cases n with
  | zero => simp [gt, Array.getD]
  | succ n => simpa [gt, Array.getD] using ih n
def RE (listed : List Bool) : Nat → List Oper → List Nat
 | _, [] => []
 | k, o :: l => bif !(gt true listed k) && o.after.toList.all (fun e => !Region.binds .any e || gt false listed e.on) then k :: RE listed (k + 1) l else RE listed (k + 1) l
theorem mem_rdy {l : List Oper} {k j : Nat} : j ∈ RE listed k l ↔ k ≤ j ∧ gt true listed j = false ∧ ∃ o, l[j - k]? = some o ∧ ∀ e ∈ o.after, Region.binds .any e = true → gt false listed e.on = true := by
 induction l generalizing k with
 | nil => simp [RE]
 | cons o l ih =>
  have hc : (!(gt true listed k) && o.after.toList.all (fun e => !Region.binds .any e || gt false listed e.on)) = true ↔ gt true listed k = false ∧ ∀ e ∈ o.after, Region.binds .any e = true → gt false listed e.on = true := by
   rw [C9, Bool.not_eq_true', D7]
   refine and_congr Iff.rfl ⟨fun h e he hb => ?_, fun h e he => ?_⟩
   · have := h e (Array.mem_toList_iff.2 he)
     rw [hb] at this
     simpa using this
   · have := h e (Array.mem_toList_iff.1 he)
     cases hb : Region.binds .any e with
     | false => rfl
     | true => rw [this hb]; rfl
  unfold RE
  have tail : (j ∈ RE listed (k + 1) l) ↔ k + 1 ≤ j ∧ gt true listed j = false ∧ ∃ o', (o :: l)[j - k]? = some o' ∧ ∀ e ∈ o'.after, Region.binds .any e = true → gt false listed e.on = true := by
   rw [ih]
   refine and_congr_right fun h => ?_
   rw [show j - k = (j - (k + 1)) + 1 by omega, List.getElem?_cons_succ]
  cases hb : (!(gt true listed k) && o.after.toList.all (fun e => !Region.binds .any e || gt false listed e.on)) with
  | true =>
   rw [cond_true, List.mem_cons, tail]
   obtain ⟨h1, h2⟩ := hc.1 hb
   constructor
   · rintro (rfl | ⟨h3, h4⟩)
     · exact ⟨D9 _, h1, o, by simp, h2⟩
     · exact ⟨by omega, h4⟩
   · rintro ⟨h3, h4⟩
     by_cases e : j = k
     · exact .inl e
     · exact .inr ⟨by omega, h4⟩
  | false =>
   rw [cond_false, tail]
   constructor
   · rintro ⟨h3, h4⟩; exact ⟨by omega, h4⟩
   · rintro ⟨h3, h4, o', h5, h6⟩
     by_cases e : j = k
     · subst e
       simp only [Nat.sub_self, List.getElem?_cons_zero, Option.some.injEq] at h5
       subst h5
       rw [hc.2 ⟨h4, h6⟩] at hb
       cases hb
     · exact ⟨by omega, h4, o', h5, h6⟩
theorem X1 {l : List Oper} {j : Nat} : j ∈ Region.ready .any l.toArray listed.toArray ↔ j ∈ RE listed 0 l := by
 rw [mem_ready, mem_rdy, QP]
 simp only [E8, true_and, Nat.sub_zero, List.getElem?_toArray, QP]
section
variable {P : Program} {B : Nat} {w0 : Cx} {l : List Oper} {J st : PS}
def PA (P : Program) (B : Nat) (w0 : Cx) (l : List Oper) (J : PS) (fuel : Nat) (listed : List Bool) (st : PS) : Prop :=
 ∀ (Q : Exit → PS → Prop), (∀ s, Le s J → Q .normal s) → (∀ c s, ¬ Q (.panic c) s) → ∀ g a w, Rep B w0 g st a w → wpAny P .any l.toArray (EY B w0 Q) fuel listed.toArray a w
theorem AV (FE : RE listed 0 l = []) (hl : Le st J) : PA P B w0 l J fuel listed st := fun Q hQ hp0 g a w h => by
 have hp : EY B w0 Q .normal a w := ⟨g, st, h, hQ st hl⟩
 have hr : Region.ready .any l.toArray listed.toArray = [] := by
  rw [List.eq_nil_iff_forall_not_mem]
  intro j hj
  rw [X1, FE] at hj
  cases hj
 cases fuel with
 | zero => exact ⟨hr, hp⟩
 | succ n => exact ⟨fun _ => hp, fun i hi => by rw [hr] at hi; cases hi⟩
theorem I5 (rs : List Nat) (hr : RE listed 0 l = rs) (O4 : rs.isEmpty = false) (h : allR rs fun i => ∃ o, l[i]? = some o ∧ YR P true l.toArray (PA P B w0 l J fuel (listed.set i true)) [o] st) : PA P B w0 l J (fuel + 1) listed st := fun Q hQ hp0 g a w P6 => by
 refine ⟨fun he => ?_, fun i hi => ?_⟩
 · exfalso
   cases rs with
   | nil => cases O4
   | cons j rs =>
    have hj : j ∈ Region.ready .any l.toArray listed.toArray := X1.2 (by rw [hr]; simp)
    rw [he] at hj
    cases hj
 · rw [X1, hr] at hi
   obtain ⟨o, ho, hy⟩ := NK h hi
   have hs := hy.sound (B := B) (w0 := w0) (Q := U5 (fun s => PA P B w0 l J fuel (listed.set i true) s) Q) (fun s hk => hk) P6
   have Dd : (listed.toArray.setIfInBounds i true) = (listed.set i true).toArray := by simp
   have hk : ∀ a w, EY B w0 (U5 (fun s => PA P B w0 l J fuel (listed.set i true) s) Q) .normal a w → wpAny P .any l.toArray (EY B w0 Q) fuel (listed.toArray.setIfInBounds i true) a w := by
    rintro a w ⟨g, s, h1, h2⟩
    rw [Dd]
    exact h2 Q hQ hp0 g a w h1
   have hq : ∀ e a w, e ≠ .normal → EY B w0 (U5 (fun s => PA P B w0 l J fuel (listed.set i true) s) Q) e a w → EY B w0 Q e a w := by
    rintro e a w he ⟨g, s, h1, h2⟩
    refine ⟨g, s, h1, ?_⟩
    cases e <;> first | exact G5 rfl he | exact h2
   unfold wpOp
   rw [show l.toArray[i]? = some o by simpa using ho]
   simp only
   unfold wpList at hs
   split
   · rename_i hw
     rw [B9 hw] at hs
     rcases hs with hs | ⟨hs, a', w', hl⟩
     · exact .inl (wp_q hk hq hs)
     · exact .inr ⟨hs, a', w', hq _ _ _ (by simp) hl⟩
   · rename_i hw
     rw [B5 hw] at hs
     exact hk _ _ hs
def Pure (P : Program) (o : Oper) (st : PS) (x : SV) : Prop :=
 H8 o st = true ∧ o.guard = none ∧ ∀ B w0 g a w, Rep B w0 g st a w → ∃ v, (∀ w', (execOp a.eval o).run P w' = .ok (.value v) w') ∧ SRep g w v x
theorem P2 {d : Option Nat} {ty : TypeId} {pos : String} {af : Array Edge} {y : Operand} (hd : H8 ⟨d, .move y, ty, pos, af, none⟩ st = true := by kernel_rfl) : Pure P ⟨d, .move y, ty, pos, af, none⟩ st (st.ev y) :=
 ⟨hd, rfl, fun _ _ _ a _ h => ⟨a.eval y, fun w' => by simp [execOp], h.eval y⟩⟩
def noSel (l : List Oper) : Bool := l.all fun o => match o.op with | .select .. => false | _ => true
def WB (l : List Oper) (listed : List Bool) (i : Nat) (oi : Oper) : Bool := BK (fun j oj => Nat.beq j i || gt true listed j || oj.after.toList.any (fun e => Region.binds .any e && Nat.beq e.on i) || oi.apart l.toArray oj) 0 l
theorem T4 (i : Nat) {x : SV} (hi : l[i]? = some o) (hr : (RE listed 0 l).any (Nat.beq i) = true) (hs : noSel l = true) (hap : WB l listed i o = true) (hp : Pure P o st x) (h : PA P B w0 l J fuel (listed.set i true) (st.put o.dst x)) : PA P B w0 l J (fuel + 1) listed st := fun Q hQ hp0 g a w P6 => by
 obtain ⟨h1, h2, h3⟩ := hp
 obtain ⟨v, h4, h5⟩ := h3 B w0 g a w P6
 have Dd : (listed.toArray.setIfInBounds i true) = (listed.set i true).toArray := by simp
 refine wpAny_first (v := v) (by simpa using hi) (fun j o' cs b hj e => ?_) (fun c a w ⟨_, s, _, h6⟩ => G5 h6 (hp0 c s)) fuel listed.toArray a w (fun j oj hj Ch hun AZ => ?_) ?_ (.inl ⟨by unfold Region.wanted; rw [h2], h4⟩) ?_
 · have Z5 : o' ∈ l := by
    have : l[j]? = some o' := by simpa using hj
    exact C0 this
   have := D7.1 hs o' Z5
   rw [e] at this
   cases this
 · have Z5 : l[j]? = some oj := by simpa using hj
   have h6 := R6 hap j oj Z5
   rw [E6, QP] at *
   simp only [Bool.or_eq_true] at h6
   rcases h6 with ((h6 | h6) | h6) | h6
   · exact G5 (G0 h6) Ch
   · rw [hun] at h6; cases h6
   · rw [List.any_eq_true] at h6
     obtain ⟨e, he, hb⟩ := h6
     rw [C9] at hb
     exact G5 (G0 hb.2) (AZ e (Array.mem_toList_iff.1 he) hb.1)
   · exact h6
 · rw [X1]
   obtain ⟨j, hj, e⟩ := List.any_eq_true.1 hr
   rw [G0 e]
   exact hj
 · rw [Dd]
   exact h Q hQ hp0 g _ w (P6.put h5 _ (H3 h1))
end
section
variable {P : Program} {sq : Bool} {ops : Array Oper} {K : PS → Prop} {rest : List Oper} {st : PS} {d : Option Nat} {op : Op} {ty : TypeId} {pos : String} {af : Array Edge} {gd : Option (Nat × Bool)} {q : Nat × Bool}
end
def Q8 (l : List (List UInt8 × DV)) : List (Value × DV) := l.map fun p => (vS p.1, p.2)
def Ev (z : DV) (k : List UInt8) : List (List UInt8 × DV) → DV
 | [] => z
 | (k', v) :: l => if k' = k then v else Ev z k l
def BF (k : List UInt8) (v : DV) : List (List UInt8 × DV) → List (List UInt8 × DV)
 | [] => [(k, v)]
 | (k', v') :: l => if k' = k then (k, v) :: l else (k', v') :: BF k v l
theorem DU (k : List UInt8) : ∀ (l : List (List UInt8 × DV)) (es : List MapEntry) (n : Nat), es.length = l.length → (∀ (i : Nat) e p, es[i]? = some e → l[i]? = some p → e.key = vS p.1) →
 (∃ j e d, Instr.findNow .string (vS k) es n = some (some (n + j, e.val)) ∧ es[j]? = some e ∧ l[j]? = some (k, d) ∧ (∀ z, Ev z k l = d) ∧ ∀ v, BF k v l = l.set j (k, v)) ∨
 (Instr.findNow .string (vS k) es n = some none ∧ (∀ z, Ev z k l = z) ∧ (∀ v, BF k v l = l ++ [(k, v)]) ∧ ∀ p ∈ l, p.1 ≠ k)
 | [], [], n, _, _ => .inr ⟨rfl, fun _ => rfl, fun _ => rfl, fun p hp => by simp at hp⟩
 | [], e :: es, n, hl, _ => by simp at hl
 | p :: l, [], n, hl, _ => by simp at hl
 | (k', d) :: l, e :: es, n, hl, hk => by
  have h0 : e.key = vS k' := hk 0 e (k', d) rfl rfl
  have hs : Instr.sameNow .string (vS k) e.key = some ((⟨k.toArray⟩ : ByteArray) == ⟨k'.toArray⟩) := by rw [h0]; rfl
  by_cases GP : k' = k
  · subst GP
    refine .inl ⟨0, e, d, ?_, V, V, fun z => by rw [Ev, B9 rfl], fun v => by rw [BF, B9 rfl]; rfl⟩
    rw [Instr.findNow, hs, (MapKept.bytes_beq _ _).2 rfl]
    rfl
  · have hb : ((⟨k.toArray⟩ : ByteArray) == ⟨k'.toArray⟩) = false := by
     rw [← Bool.not_eq_true, MapKept.bytes_beq]
     intro e
     apply GP
     have := G6 (fun x : ByteArray => x.data.toList) e
     simpa using this.symm
    have hf : Instr.findNow .string (vS k) (e :: es) n = Instr.findNow .string (vS k) es (n + 1) := by rw [Instr.findNow, hs, hb]
    rcases DU k l es (n + 1) (by simpa using hl) (fun i e' p' he hp => hk (i + 1) e' p' (by simpa using he) (by simpa using hp)) with ⟨j, e', d', h1, h2, h3, h4, h5⟩ | ⟨h1, h2, h3, h4⟩
    · refine .inl ⟨j + 1, e', d', ?_, h2, h3, fun z => by rw [Ev, B5 GP, h4], fun v => by rw [BF, B5 GP, h5]; rfl⟩
      rw [hf, h1, show n + 1 + j = n + (j + 1) by omega]
    · exact .inr ⟨by rw [hf, h1], fun z => by rw [Ev, B5 GP, h2], fun v => by rw [BF, B5 GP, h3]; rfl, fun p hp => by
       rcases List.mem_cons.1 hp with rfl | hp
       · exact GP
       · exact h4 p hp⟩
class MapOf (P : Program) (T : Nat) (z : outParam DV) : Prop where
 und : ∃ kt et, P.underlying T = some (.map kt et) ∧ P.underlying kt = some .string ∧ ∀ w, ∃ v, (zeroValue et).run P w = .ok v w ∧ ∀ F w', DRep F w' v z
section
variable {P : Program} {sq : Bool} {ops : Array Oper} {K : PS → Prop} {rest : List Oper} {st : PS} {d : Option Nat} {ty : TypeId} {pos : String} {af : Array Edge} {gd : Option (Nat × Bool)}
theorem ls_mkm (T : TypeId) {e : Nat} (hi : st.bget (500000 + e) = none) (hd : H8 ⟨some e, .makeMap T none, ty, pos, af, gd⟩ st = true) :
 M6 P ⟨some e, .makeMap T none, ty, pos, af, gd⟩ st (.mb (500000 + e)) (.box (500000 + e) [.mc (Q8 [])]) := fun st2 ha => by
 intro B w0 g a w K Q hr hK
 have Cb : e < st2.n := H3 (ha.dst hd) e rfl
 have Y4 : st2.n ≤ 10000 := hr.lim
 have Ec : st2.bget (500000 + e) = none := ha.fresh rfl e rfl (500000 + e) (RJ (by omega)) hi
 have P6 := hr.newm e 0 Ec Cb #[] (Q8 []) ⟨rfl, MapKept.stamped_empty 0, fun i e p he => by simp at he⟩
 have L9 : (execOp a.eval ⟨some e, .makeMap T none, ty, pos, af, gd⟩).run P w = .ok (.value (.map (some w.heap.size))) (w.alloc (.map #[] 0)) := by
  simp [execOp, run_makeMap]
 unfold Oper.wp
 rw [L9]
 exact hK _ _ _ (P6.put (x := .mb (500000 + e)) ⟨w.heap.size, by simp [Gh.addb], rfl⟩ _ (H3 (st := st2.bput (500000 + e) _) (ha.dst hd)))
theorem yKm {e : Nat} (hi : st.bget (500000 + e) = none)
 (h : YR P sq ops K rest ((st.bput (500000 + e) [.mc (Q8 [])]).put (some e) (.mb (500000 + e)))) (zz : zk ops st ⟨some e, .makeMap T none, ty, pos, af, gd⟩ (.box (500000 + e) [.mc (Q8 [])]) = true := by kernel_rfl) :
 YR P sq ops K (⟨some e, .makeMap T none, ty, pos, af, gd⟩ :: rest) st := Ee (ls_mkm T hi (zd zz)) (zo zz) (zw zz) h
theorem OJ {B : Nat} {w0 : Cx} {g : Gh} (hr : Rep B w0 g st a w) (Q9 : 500000 ≤ i) (hi : st.bget i = some [.mc (Q8 l)]) :
 ∃ b es c, g.bl i = some b ∧ w.heap[b]? = some (.map es c) ∧ es.toList.length = l.length ∧ MapKept.Stamped es c ∧ (∀ (i : Nat) e p, es.toList[i]? = some e → l[i]? = some p → e.key = vS p.1) ∧ ∀ (i : Nat) e p, es.toList[i]? = some e → l[i]? = some p → DRep (Fx g) w e.val p.2 := by
 obtain ⟨b, es, c, h1, h2, h3, h5, h4⟩ := hr.maps i _ hi Q9
 have hp : ∀ (i : Nat) p, l[i]? = some p → (Q8 l)[i]? = some (vS p.1, p.2) := fun i p hp => by rw [Q8, C6, hp]; rfl
 exact ⟨b, es, c, h1, h2, by simpa [Q8] using h3, h5, fun i e p he hl => (h4 i e _ (by simpa using he) (hp i p hl)).1, fun i e p he hl => (h4 i e _ (by simpa using he) (hp i p hl)).2⟩
theorem ls_mlk (T : TypeId) (x y : Operand) {k : List UInt8} {z : DV} [hM : MapOf P T z] (Q9 : 500000 ≤ i) (hx : st.ev x = .mb i) (hi : st.bget i = some [.mc (Q8 l)]) (hy : st.ev y = .d (dS k)) (hd : H8 ⟨d, .lookup T x y false, ty, pos, af, gd⟩ st = true) :
 M6 P ⟨d, .lookup T x y false, ty, pos, af, gd⟩ st (.d (Ev z k l)) .no := fun st2 ha =>
 OpS.value (ha.dst hd) fun _ _ g a w h => by
  have h1 := h.eval x
  rw [ha.ev x (by simp [Op.operands]), hx] at h1
  have h2 := h.eval y
  rw [ha.ev y (by simp [Op.operands]), hy] at h2
  have Ec : st2.bget i = some [.mc (Q8 l)] := (ha.ids rfl x (by simp [Op.operands]) i (by rw [hx]; simp [SV.ids])).trans hi
  obtain ⟨b, q1, q2⟩ := h1
  obtain ⟨b', es, c, r1, r2, r3, -, r4, r5⟩ := OJ h Q9 Ec
  rw [q1] at r1
  cases r1
  obtain ⟨kt, et, m1, m2, m3⟩ := hM.und
  obtain ⟨v, m4, m5⟩ := m3 w
  have hc : ∀ e, (Instr.checkKey e 10000 kt (vS k)).run P w = .ok () w := fun e => MapKept.run_checkKey (k := vS k) m2 (by simp [MapKept.IsKey]) e 9999
  rcases DU k l es.toList 0 r3 r4 with ⟨j, e, d', f1, f2, f3, f4, -⟩ | ⟨f1, f2, -, -⟩
  · refine ⟨e.val, w, ?_, Below.refl _ _, ?_⟩
    · simp [execOp, Instr.lookup, run_underlying m1, q2, DRep.val_eq h2, MapKept.run_getObj_map r2, hc, MapKept.run_findKey m2 f1, Result.andThen]
    · rw [f4]; exact r5 j e _ f2 f3
  · refine ⟨v, w, ?_, Below.refl _ _, ?_⟩
    · simp [execOp, Instr.lookup, run_underlying m1, q2, DRep.val_eq h2, MapKept.run_getObj_map r2, hc, MapKept.run_findKey m2 f1, m4, Result.andThen]
    · rw [f2]; exact m5 _ _
theorem yKl {x y : Operand} {k : List UInt8} {z v : DV} [hM : MapOf P T z] (hx : st.ev x = .mb i) (hi : st.bget i = some [.mc (Q8 l)]) (hy : st.ev y = .d (dS k)) (hv : Ev z k l = v)
 (h : YR P sq ops K rest (st.put d (.d v))) (Q9 : Nat.ble 500000 i = true := by rfl) (zz : zk ops st ⟨d, .lookup T x y false, ty, pos, af, gd⟩ .no = true := by kernel_rfl) :
 YR P sq ops K (⟨d, .lookup T x y false, ty, pos, af, gd⟩ :: rest) st := M4 (hv ▸ ls_mlk T x y (B7 Q9) hx hi hy (zd zz)) (zo zz) (zw zz) h
theorem Kj (k : List UInt8) (w : World) : (Instr.keyThatStays (vS k) (vS k)).run P w = .ok (vS k) w := by
 have : Instr.sameBits 10000 (vS k) (vS k) = true := by
  show ((⟨k.toArray⟩ : ByteArray) == ⟨k.toArray⟩) = true
  exact (MapKept.bytes_beq _ _).2 V
 simp [Instr.keyThatStays, this]
theorem UP (T : TypeId) (x y u : Operand) {k : List UInt8} {z v : DV} [hM : MapOf P T z] (Q9 : 500000 ≤ i) (hx : st.ev x = .mb i) (hi : st.bget i = some [.mc (Q8 l)]) (hy : st.ev y = .d (dS k)) (hu : st.ev u = .d v) (hd : H8 ⟨d, .mapUpdate T x y u, ty, pos, af, gd⟩ st = true) :
 M6 P ⟨d, .mapUpdate T x y u, ty, pos, af, gd⟩ st .any (.box i [.mc (Q8 (BF k v l))]) := fun st2 ha => by
 intro B w0 g a w K Q h hK
 have h1 := h.eval x
 rw [ha.ev x (by simp [Op.operands]), hx] at h1
 have h2 := h.eval y
 rw [ha.ev y (by simp [Op.operands]), hy] at h2
 have h3 := h.eval u
 rw [ha.ev u (by simp [Op.operands]), hu] at h3
 have Ec : st2.bget i = some [.mc (Q8 l)] := (ha.ids rfl x (by simp [Op.operands]) i (by rw [hx]; simp [SV.ids])).trans hi
 obtain ⟨b, q1, q2⟩ := h1
 obtain ⟨b', es, c, r1, r2, r3, rs, r4, r5⟩ := OJ h Q9 Ec
 rw [q1] at r1
 cases r1
 obtain ⟨kt, et, m1, m2, -⟩ := hM.und
 have hc : ∀ e, (Instr.checkKey e 10000 kt (vS k)).run P w = .ok () w := fun e => MapKept.run_checkKey (k := vS k) m2 (by simp [MapKept.IsKey]) e 9999
 have hblt : b < w.heap.size := (D1.1 r2).1
 suffices L9 : ∃ es' c', (execOp a.eval ⟨d, .mapUpdate T x y u, ty, pos, af, gd⟩).run P w = .ok .skip { w with heap := w.heap.setIfInBounds b (.map es' c') } ∧ es'.toList.length = (BF k v l).length ∧ MapKept.Stamped es' c' ∧ ∀ (q : Nat) e p, es'.toList[q]? = some e → (BF k v l)[q]? = some p → e.key = vS p.1 ∧ DRep (Fx g) w e.val p.2 by
  obtain ⟨es', c', e1, e2, e4, e3⟩ := L9
  have hs := MapKept.heap_set (o' := .map es' c') r2
  have P6 := h.seto i b [.mc (Q8 (BF k v l))] (w' := { w with heap := w.heap.setIfInBounds b (.map es' c') }) q1 ⟨rfl, rfl, rfl, by simp, fun q hq => by omega⟩ (fun q _ O4 => hs.2 q O4) (by unfold World.shape?; simp only [hs.1, r2]) (fun _ hlt => by omega) (fun e _ ms hms => by
   obtain rfl : Q8 (BF k v l) = ms := by simpa using hms
   refine ⟨es', c', hs.1, by simpa [Q8] using e2, e4, fun q en p he hp => ?_⟩
   rw [Q8, C6, C7] at hp
   obtain ⟨p', hp1, rfl⟩ := hp
   have := e3 q en p' (by simpa using he) hp1
   exact ⟨this.1, this.2.mono e.fx⟩)
  unfold Oper.wp
  rw [e1]
  exact hK g _ _ (P6.put (x := .any) trivial _ (H3 (st := st2.bput i _) (ha.dst hd)))
 rcases DU k l es.toList 0 r3 r4 with ⟨j, e, d', f1, f2, f3, -, f5⟩ | ⟨f1, -, f3, f6⟩
 · have hek : e.key = vS k := r4 j e _ f2 f3
   have hj : es[j]? = some e := by simpa using f2
   refine ⟨es.modify j fun e => { e with key := vS k, val := a.eval u }, c, ?_, ?_, ?_, ?_⟩
   · simp [execOp, Instr.mapUpdate, run_underlying m1, q2, DRep.val_eq h2, MapKept.run_getObj_map r2, hc, MapKept.run_findKey m2 f1, hj, hek, Kj, MapKept.run_setObj_map _ r2, Result.andThen]
   · rw [f5]; simpa using r3
   · exact MapKept.stamped_modify rs j _ (fun _ _ => V) fun e' _ VP => by
      rw [hj] at VP
      cases VP
      exact hek.symm
   · intro q en p he hp
     rw [f5] at hp
     rw [Array.toList_modify, List.getElem?_modify] at he
     by_cases hq : j = q
     · subst hq
       rw [f2] at he
       rw [List.getElem?_set_self (by rw [← r3]; exact (A5.1 f2).1)] at hp
       cases hp
       simp at he
       subst he
       exact ⟨rfl, h3⟩
     · rw [List.getElem?_set_ne hq] at hp
       simp [hq] at he
       exact ⟨r4 q en p (by simpa using he) hp, r5 q en p (by simpa using he) hp⟩
 · refine ⟨es.push { key := vS k, val := a.eval u, born := c }, c + 1, ?_, ?_, ?_, ?_⟩
   · simp [execOp, Instr.mapUpdate, run_underlying m1, q2, DRep.val_eq h2, MapKept.run_getObj_map r2, hc, MapKept.run_findKey m2 f1, MapKept.run_setObj_map _ r2, Result.andThen]
   · rw [f3]; simpa using r3
   · exact MapKept.stamped_push rs fun x hx e => by
      obtain ⟨q, hq⟩ := List.mem_iff_getElem?.1 hx
      obtain ⟨p, hp⟩ : ∃ p, l[q]? = some p := ⟨_, A4 (by rw [← r3]; exact (A5.1 hq).1)⟩
      have h5 := r4 q x p hq hp
      rw [e] at h5
      refine f6 p (C0 hp) ?_
      have := G6 (fun v : Value => match v with | .string s => s.data.toList | _ => []) h5
      simpa using this.symm
   · intro q en p he hp
     rw [f3] at hp
     rw [Array.toList_push] at he
     rcases D6 q l.length with hq | hq
     · rw [E9 hq] at hp
       rw [E9 (by omega)] at he
       exact ⟨r4 q en p he hp, r5 q en p he hp⟩
     · rw [E3 hq] at hp
       rw [E3 (by omega), r3] at he
       obtain ⟨hq0, -⟩ := A5.1 hp
       have hq1 : q - l.length = 0 := by simpa using hq0
       rw [hq1] at he hp
       cases he
       cases hp
       exact ⟨rfl, h3⟩
theorem yKu {x y u : Operand} {l' : List (List UInt8 × DV)} {k : List UInt8} {z v : DV} [hM : MapOf P T z] (hx : st.ev x = .mb i) (hi : st.bget i = some [.mc (Q8 l)]) (hy : st.ev y = .d (dS k)) (hu : st.ev u = .d v) (hl : BF k v l = l')
 (h : YR P sq ops K rest ((st.bput i [.mc (Q8 l')]).put d .any)) (Q9 : Nat.ble 500000 i = true := by rfl) (zz : zk ops st ⟨d, .mapUpdate T x y u, ty, pos, af, gd⟩ (.box i [.mc (Q8 l')]) = true := by kernel_rfl) :
 YR P sq ops K (⟨d, .mapUpdate T x y u, ty, pos, af, gd⟩ :: rest) st := Ee (hl ▸ UP T x y u (B7 Q9) hx hi hy hu (zd zz)) (zo zz) (zw zz) h
end
open Go.RowKit Go.Maps Go.Sort Go.WideMaps
variable {l : List (List UInt8 × DV)} {ts : Array TypeId} {x : Operand}
def KeysC (P : Program) (fK it T : Nat) : Prop := ∀ mb W, Calls P fK #[.map mb] W fun e w' => e = .returned (.func (.func it) #[] #[.pointer (some ⟨W.heap.size, 0, none⟩)]) ∧ w' = W.alloc (.cells #[.map mb] T)
def Qg (P : Program) (fS it k : Nat) : Prop := ∀ (a b nn : Nat) (D0 : DataW Unit) (R : Value → Option (DataW Unit × List MemPlace)) (W : World), a < W.heap.size → W.cell? ⟨a, 0, none⟩ = some (.map (some b)) → W.ownsMap P k R b nn D0 →
 Maps.size D0 ≤ maxLen → Maps.size D0 * 16 ≤ 140737488355328 → Calls P fS #[.func (.func it) #[] #[.pointer (some ⟨a, 0, none⟩)]] W fun e w' => ∃ (v : Value) (ss : List (List UInt8)), e = .returned v ∧ ss.Perm (strKeys D0) ∧
  w'.ownsRow W.heap.size k 1 v ss.length ((ss.mergeSort (fun x y => decide (x ≤ y))).map encStr) ∧ (v = .slice none 0 0 ↔ ss = []) ∧ Below W.heap.size W w'
def CZ (l : List (List UInt8 × DV)) : List (List UInt8) := (l.map (·.1)).mergeSort leB
def WC (_ : Value) : Option (DataW Unit × List MemPlace) := some (.nil, [])
theorem Ny {P : Program} {k : Nat} {w : World} {b c : Nat} {es : Array MapEntry} (hk : P.underlying k = some .string) (h2 : w.heap[b]? = some (.map es c)) (h3 : es.toList.length = l.length) (hs : MapKept.Stamped es c)
 (h4 : ∀ (i : Nat) e p, es.toList[i]? = some e → l[i]? = some p → e.key = vS p.1) (hl : l.length ≤ 1000000) (hkl : ∀ p ∈ l, p.1.length ≤ 1000000) :
 ∃ D0 : DataW Unit, w.ownsMap P k WC b l.length D0 ∧ Maps.size D0 = l.length ∧ (strKeys D0).Perm (l.map (·.1)) := by
 have hrd : ∀ (i : Nat) e p, es.toList[i]? = some e → l[i]? = some p → WideElems.rd P k WC e = some (.string p.1, .nil) := fun i e p he hp => by
  have h5 := h4 i e p he hp
  have h6 : keyOf P k e.key = some (.string p.1) := by
   rw [h5]
   have := keyOf_string_mk hk (s := ⟨p.1.toArray⟩) (by
    have := hkl p (C0 hp)
    show p.1.toArray.size ≤ maxLen
    simp only [List.size_toArray, maxLen]; omega)
   simpa [vS] using this
  simp [WideElems.rd, h6, WC]
 have VJ : es.toList.map (WideElems.rg P k WC) = l.map fun p => (Lit.string p.1, DataW.nil) := by
  refine List.ext_getElem? fun i => ?_
  rw [C6, C6]
  cases he : es.toList[i]? with
  | none =>
   have : l[i]? = none := by rw [List.getElem?_eq_none_iff] at he ⊢; omega
   rw [this]; rfl
  | some e =>
   cases hp : l[i]? with
   | none => rw [List.getElem?_eq_none_iff] at hp; have := (A5.1 he).1; omega
   | some p => simp [WideElems.rg_of (hrd i e p he hp)]
 refine ⟨_, ⟨es, c, h2, ⟨by simp only [maxLen]; simp at h3; omega, hs, fun x hx => ?_⟩, by simp at h3; omega, rfl⟩, ?_, ?_⟩
 · obtain ⟨i, hi, rfl⟩ := List.mem_iff_getElem.1 hx
   exact ⟨_, hrd i _ _ (A4 hi) (A4 (by omega))⟩
 · rw [VJ]
   show ((l.map fun p => (Lit.string p.1, (DataW.nil : DataW Unit))).foldr DataW.insert []).length = _
   rw [(WideShapes.sorted_perm _).length_eq, A8]
 · rw [VJ]
   show (((l.map fun p => (Lit.string p.1, (DataW.nil : DataW Unit))).foldr DataW.insert []).map fun p => strOf p.1).Perm _
   refine ((WideShapes.sorted_perm _).map _).trans ?_
   rw [List.map_map]
   exact .refl _
section
variable {P : Program} {ops : Array Oper} {K : PS → Prop} {rest : List Oper} {st : PS} {d : Option Nat} {ty : TypeId} {pos : String} {af : Array Edge} {gd : Option (Nat × Bool)}
theorem yKk {fK it T e i : Nat} [HasBody P fK] (hK : KeysC P fK it T) (hx : st.ev x = .mb i) (hi : st.bget e = none)
 (h : YR P true ops K rest ((st.bput e [.mb i]).put (some e) (.fn it [e]))) (Cb : Nat.blt e st.n = true := by rfl)
 (hw : st.want ops ⟨some e, .call { callee := .value (.func fK), args := #[x], argTypes := ts }, ty, pos, af, gd⟩ = some true := by rfl) :
 YR P true ops K (⟨some e, .call { callee := .value (.func fK), args := #[x], argTypes := ts }, ty, pos, af, gd⟩ :: rest) st := by
 refine .any V fun B w0 Q hQ g a w hr => ?_
 have hlt : e < st.n := B7 Cb
 have h1 := hr.eval x
 rw [hx] at h1
 obtain ⟨b, q1, q2⟩ := h1
 unfold wpList
 rw [B9 (N4 hr hw)]
 refine .inl ?_
 unfold Oper.wp
 have L9 := Co (P := P) (f := fK) (d := some e) (l := [x]) (ts := ts) (ty := ty) (pos := pos) (af := af) (gd := gd) (a := a) (w := w)
 rw [L9]
 show Calls P fK _ w _
 have hc := hK (some b) w
 simp only [List.map_cons, List.map_nil, q2]
 refine hc.mono ?_
 rintro e' w' ⟨rfl, rfl⟩
 have P6 := hr.newb e T hi hlt #[.map (some b)] [.mb i] (by simp) (fun j c hj => by
  cases j with
  | zero => cases hj; exact ⟨_, V, b, q1, V⟩
  | succ j => simp at hj) (fun u hu => by simp at hu; subst hu; rfl)
 refine h.sound hQ (P6.put (x := .fn it [e]) ⟨[w.heap.size], rfl, rfl, fun j b' c hb hc' => ?_⟩ _ fun j hj => by cases hj; exact hlt)
 cases j with
 | zero => cases hb; cases hc'; simp [Gh.addb]
 | succ j => simp at hb
theorem yKs {fS it k j i : Nat} {ks : List (List UInt8)} [HasBody P fS] (hS : Qg P fS it k) (hk : P.underlying k = some .string) (hx : st.ev x = .fn it [j]) (hj : st.bget j = some [.mb i]) (hi : st.bget i = some [.mc (Q8 l)])
 (hl : l.length ≤ 1000000) (hkl : ∀ p ∈ l, p.1.length ≤ 1000000) (hks : CZ l = ks)
 (h : YR P true ops K rest (st.put d (.d (.sl 1 (ks.map fun s => [dS s]))))) (QI : Nat.blt j 500000 = true := by rfl) (Q9 : Nat.ble 500000 i = true := by rfl) (hd : H8 ⟨d, .call { callee := .value (.func fS), args := #[x], argTypes := ts }, ty, pos, af, gd⟩ st = true := by kernel_rfl)
 (hw : st.want ops ⟨d, .call { callee := .value (.func fS), args := #[x], argTypes := ts }, ty, pos, af, gd⟩ = some true := by rfl) :
 YR P true ops K (⟨d, .call { callee := .value (.func fS), args := #[x], argTypes := ts }, ty, pos, af, gd⟩ :: rest) st := by
 subst hks
 refine .any V fun B w0 Q hQ g a w hr => ?_
 have h1 := hr.eval x
 rw [hx] at h1
 obtain ⟨bs, q1, q2, q3⟩ := h1
 obtain ⟨a0, rfl⟩ : ∃ a0, bs = [a0] := by
  match bs, q2 with
  | [a0], _ => exact ⟨a0, V⟩
 have q4 := q3 0 a0 j rfl rfl
 obtain ⟨b', xs, T, r1, r2, r3, r4, -⟩ := hr.boxes j _ hj (B7 QI)
 rw [q4] at r1
 cases r1
 obtain ⟨u, r5, b, r6, rfl⟩ := r4 0 _ rfl
 obtain ⟨b2, es, c, s1, s2, s3, s4, s5, -⟩ := OJ hr (B7 Q9) hi
 rw [r6] at s1
 cases s1
 obtain ⟨D0, d1, d2, d3⟩ := Ny hk s2 s3 s4 s5 hl hkl
 have M3 : w.cell? ⟨a0, 0, none⟩ = some (.map (some b)) := AG.2 (by rw [Bm r2, r5]; rfl)
 unfold wpList
 rw [B9 (N4 hr hw)]
 refine .inl ?_
 unfold Oper.wp
 have L9 := Co (P := P) (f := fS) (d := d) (l := [x]) (ts := ts) (ty := ty) (pos := pos) (af := af) (gd := gd) (a := a) (w := w)
 rw [L9]
 show Calls P fS _ w _
 have hc := hS a0 b l.length D0 WC w (hr.blk j a0 q4).2 M3 d1 (by rw [d2]; simp only [maxLen]; omega) (by rw [d2]; omega)
 simp only [List.map_cons, List.map_nil, q1]
 refine hc.mono ?_
 rintro e' w' ⟨v, ss, rfl, hp, EK, -, hb⟩
 have hsort : ss.mergeSort (fun x y => decide (x ≤ y)) = CZ l := mergeSort_of_perm (hp.trans d3)
 rw [hsort] at EK
 have hlen : ss.length = (CZ l).length := by rw [← hsort, List.length_mergeSort]
 have hlen2 : (CZ l).length = l.length := by rw [CZ, List.length_mergeSort, A8]
 refine h.sound hQ ((hr.grow hb).put (x := .d (.sl 1 ((CZ l).map fun s => [dS s]))) ?_ _ (H3 (st := st) hd))
 show DRep (Fx g) w' v _
 rcases EK.2 with ⟨rfl, h0⟩ | ⟨gb, cap, cur, rfl, Mm, hg, VR, Mk, -, ht⟩
 · have : CZ l = [] := List.eq_nil_of_length_eq_zero (by omega)
   rw [this]
   exact .nil
 · refine .sl (fun i _ => encStr ((CZ l).getD i [])) (by simp [hlen]) VR (by omega) (fun e he => ?_) (fun h0 => ⟨gb, 0, rfl, fun i j EM Z5 => ⟨?_, ?_⟩⟩) (fun i j _ _ => rfl) (fun i j e x he OS => ?_)
   · obtain ⟨s, -, rfl⟩ := G7.1 he; rfl
   · have Ec : i < (CZ l).length := by omega
     obtain rfl : j = 0 := by omega
     refine AG.2 ?_
     rw [Bm hg]
     have h5 : cur.toList[i]? = ((CZ l).map encStr)[i]? := by
      rw [← ht, E0 (by omega)]
     rw [show 0 + i * 1 + 0 = i by omega, ← Array.getElem?_toList, h5, C6, A4 Ec]
     simp [List.getD, A4 Ec]
   · refine ⟨hr.f0 _ _ (F3 hr.base Mm), fun i' hi3 => ?_, fun t T' n c' hT hv => ?_⟩
     · have := (hr.blk i' gb hi3).2; omega
     · obtain ⟨⟨n', xs', h6⟩, -⟩ := hr.toks t T' hT
       have := (h6.lt gb (by rw [hv]; rfl)).2
       omega
   · rw [C6, C7] at he
     obtain ⟨s, KE, rfl⟩ := he
     cases j with
     | zero =>
      cases OS
      simp only [List.getD, KE, Option.getD_some]
      exact DRep.val _ V
     | succ j => simp at OS
end
end Go.Proofs.YtddfimjiihggmaaGreatDoor.Px
namespace Go.Proofs.YtddfimjiihggmaaGreatDoor
open Go.RowKit
variable {l : List Nat} {n x : Nat}
theorem Bh (h : n ≠ 0) : Lib.decDigits n = Ba n := by
 induction n using Nat.strongRecOn with
 | _ n ih =>
  rw [Lib.decDigits, Aj h]
  by_cases h2 : n < 10
  · rw [dif_pos h2, show n / 10 = 0 by omega, O3, show n % 10 = n by omega]
    rfl
  · rw [dif_neg h2, ih (n / 10) (by omega) (by omega)]
    rfl
theorem Cd (n k : Nat) (h : n < 10 ^ k) (hk : 0 < k) : (Lib.decDigits n).length ≤ k := by
 induction k generalizing n with
 | zero => omega
 | succ k ih =>
  rw [Lib.decDigits]
  by_cases h2 : n < 10
  · rw [dif_pos h2]; simp
  · rw [dif_neg h2]
    have h3 : 0 < k := by
     by_cases e : k = 0
     · subst e; simp at h; omega
     · omega
    have := ih (n / 10) (by rw [Nat.pow_succ] at h; omega) h3
    simp; omega
theorem SI (h : n ≤ 9223372036854775808) : (Ba n).length ≤ 20 := by
 by_cases e : n = 0
 · subst e; rw [O3]; simp
 · rw [← Bh e]
   exact Cd n 20 (by omega) (by omega)
def sg (b : Bool) (m : Nat) : Int := if b then -(m : Int) else m
theorem sg_quo (b : Bool) (m : Nat) : Int.tdiv (sg b m) 10 = sg b (m / 10) := by
 unfold sg
 cases b
 · simp
 · simp [Int.neg_tdiv]
theorem sg_rem (b : Bool) (m : Nat) : Int.tmod (sg b m) 10 = sg b (m % 10) := by
 unfold sg
 cases b
 · simp [Int.tmod_eq_emod_of_nonneg]
 · simp [Int.neg_tmod, Int.tmod_eq_emod_of_nonneg]
theorem sg_zero (b : Bool) (m : Nat) : sg b m = 0 ↔ m = 0 := by
 unfold sg
 cases b <;> simp
theorem sg_of (n : Int) : n = sg (decide (n < 0)) n.natAbs := by
 unfold sg
 by_cases h : n < 0
 · simp [h]; omega
 · simp [h]; omega
def N6 (n : Nat) : List Nat := if h : n = 0 then [] else (n % 1000000000) :: N6 (n / 1000000000)
termination_by n
decreasing_by exact Nat.div_lt_self (by omega) (by omega)
def K4 : List Nat → Nat
 | [] => 0
 | x :: l => x + 1000000000 * K4 l
def gok (l : List Nat) : Prop := ∀ x ∈ l, x < 1000000000
theorem V3 : N6 0 = [] := by rw [N6]; simp
theorem DS (h : n ≠ 0) : N6 n = (n % 1000000000) :: N6 (n / 1000000000) := by rw [N6]; simp [h]
theorem N3 (n : Nat) : K4 (N6 n) = n := by
 induction n using Nat.strongRecOn with
 | _ n ih =>
  by_cases h : n = 0
  · subst h; rw [V3]; rfl
  · rw [DS h, K4, ih (n / 1000000000) (Nat.div_lt_self (by omega) (by omega))]
    omega
theorem N9 (n : Nat) : gok (N6 n) := by
 induction n using Nat.strongRecOn with
 | _ n ih =>
  by_cases h : n = 0
  · subst h; rw [V3]; intro x hx; simp at hx
  · rw [DS h]
    intro x hx
    rcases List.mem_cons.1 hx with e | e
    · omega
    · exact ih (n / 1000000000) (Nat.div_lt_self (by omega) (by omega)) x e
theorem grp_nil : N6 n = [] ↔ n = 0 := by
 constructor
 · intro h; have := N3 n; rw [h] at this; exact this.symm
 · rintro rfl; exact V3
theorem CA : gok (x :: l) ↔ x < 1000000000 ∧ gok l := by simp [gok]
theorem Io {r : List Nat} : gok (l ++ r) ↔ gok l ∧ gok r := by
 simp only [gok, List.mem_append]
 exact ⟨fun h => ⟨fun x hx => h x (.inl hx), fun x hx => h x (.inr hx)⟩, fun h x hx => hx.elim (h.1 x) (h.2 x)⟩
theorem DD (l r : List Nat) : K4 (l ++ r) = K4 l + 1000000000 ^ l.length * K4 r := by
 induction l with
 | nil => simp [K4]
 | cons x l ih =>
  rw [List.cons_append, K4, ih, K4, List.length_cons, Nat.pow_succ, Nat.mul_add, ← Nat.mul_assoc, Nat.mul_comm (1000000000 ^ l.length) 1000000000]
  omega
theorem LL (h : gok l) : K4 l < 1000000000 ^ l.length := by
 induction l with
 | nil => simp [K4]
 | cons x l ih =>
  obtain ⟨h1, h2⟩ := CA.1 h
  have := ih h2
  rw [K4, List.length_cons, Nat.pow_succ]
  omega
theorem Mp (h : gok l) (hl : l.getLast? ≠ some 0) : N6 (K4 l) = l := by
 induction l with
 | nil => exact V3
 | cons x l ih =>
  obtain ⟨h1, h2⟩ := CA.1 h
  by_cases he : l = []
  · subst he
    have hx : x ≠ 0 := by simpa using hl
    have e1 : K4 [x] = x := by simp [K4]
    rw [e1, DS hx, Nat.mod_eq_of_lt h1, Nat.div_eq_of_lt h1, V3]
  · have hl' : l.getLast? ≠ some 0 := by
     match l, he with
     | y :: l, _ => simpa using hl
    have ih' := ih h2 hl'
    have O4 : K4 l ≠ 0 := fun e => by rw [e, V3] at ih'; exact he ih'.symm
    rw [K4, DS (by omega)]
    have e1 : (x + 1000000000 * K4 l) % 1000000000 = x := by omega
    have e2 : (x + 1000000000 * K4 l) / 1000000000 = K4 l := by omega
    rw [e1, e2, ih']
def T6 : List Nat → List Nat
 | [] => []
 | x :: l => if T6 l = [] ∧ x = 0 then [] else x :: T6 l
theorem DZ (l : List Nat) : K4 (T6 l) = K4 l := by
 induction l with
 | nil => rfl
 | cons x l ih =>
  rw [T6]
  split
  · rename_i h
    rw [h.1] at ih
    rw [K4, K4, ← ih, h.2]
    simp [K4]
  · rw [K4, K4, ih]
theorem Iw (h : gok l) : gok (T6 l) := by
 induction l with
 | nil => exact h
 | cons x l ih =>
  obtain ⟨h1, h2⟩ := CA.1 h
  rw [T6]
  split
  · intro x hx; simp at hx
  · exact CA.2 ⟨h1, ih h2⟩
theorem KL (l : List Nat) : (T6 l).getLast? ≠ some 0 := by
 induction l with
 | nil => simp [T6]
 | cons x l ih =>
  rw [T6]
  split
  · simp
  · rename_i h
    by_cases he : T6 l = []
    · rw [he]
      simp
      intro e
      exact h ⟨he, e⟩
    · match hd : T6 l, he, ih with
      | y :: r, _, ih => simpa using ih
theorem NC (h : gok l) : T6 l = N6 (K4 l) := by
 have := Mp (Iw h) (KL l)
 rw [DZ] at this
 exact this.symm
theorem KK (l : List Nat) (x : Nat) : T6 (l ++ [x]) = if x = 0 then T6 l else l ++ [x] := by
 induction l with
 | nil => simp [T6]
 | cons y l ih =>
  rw [List.cons_append, T6, ih]
  by_cases h : x = 0
  · simp only [h, if_true]
    rw [T6]
  · simp only [h, if_false]
    rw [B5 (by simp)]
def Fc (t : F6) : List Nat := if h : t = [] then [] else natOf (t.drop (t.length - 9)) :: Fc (t.take (t.length - 9))
termination_by t.length
decreasing_by
 rw [E4]
 have : 0 < t.length := List.length_pos_iff.2 h
 omega
theorem Ha : Fc [] = [] := by rw [Fc]; simp
theorem Ek {t : F6} (h : t ≠ []) : Fc t = natOf (t.drop (t.length - 9)) :: Fc (t.take (t.length - 9)) := by rw [Fc]; simp [h]
theorem BE {t : F6} (h : t.all U6 = true) : natOf t < 10 ^ t.length := by
 induction t using Hx with
 | h0 => simp [natOf]
 | h1 l b ih =>
  rw [List.all_append, C9] at h
  have hb := Vk (b := b) (by simpa using h.2)
  have := ih h.1
  rw [T5, D3, List.length_singleton, Nat.pow_succ]
  omega
theorem RM {t : F6} (h : t.all U6 = true) (h0 : t.head? ≠ some 48) (hn : t ≠ []) : natOf t ≠ 0 := fun e => by
 have := DY h h0
 rw [e, O3] at this
 exact hn this.symm
theorem rdG_grp {t : F6} (h : t.all U6 = true) (h0 : t.head? ≠ some 48) : Fc t = N6 (natOf t) := by
 obtain ⟨n, hn⟩ := I0 (t.length)
 induction n using Nat.strongRecOn generalizing t with
 | _ n ih =>
  by_cases he : t = []
  · subst he; rw [Ha]; exact V3.symm
  · have Ic : 0 < t.length := List.length_pos_iff.2 he
    have O4 := RM h h0 he
    have BP : (t.take (t.length - 9)).all U6 = true ∧ (t.drop (t.length - 9)).all U6 = true := by
     rw [← C9, ← List.all_append, List.take_append_drop]; exact h
    have hhead : (t.take (t.length - 9)).head? ≠ some 48 := by
     match t, h0 with
     | x :: l, h0 =>
      cases hk : (x :: l).length - 9 with
      | zero => simp
      | succ k => simpa using h0
    have Bg := Eu (t.take (t.length - 9)) (t.drop (t.length - 9))
    rw [List.take_append_drop] at Bg
    have Oa : (t.drop (t.length - 9)).length = min 9 t.length := by rw [M7]; omega
    have hlt := BE BP.2
    rw [Oa] at Bg hlt
    rw [Ek he, ih (t.take (t.length - 9)).length (by rw [E4]; omega) BP.1 hhead rfl, DS O4]
    by_cases h9 : 9 ≤ t.length
    · rw [Nat.min_eq_left h9] at Bg hlt
      have e1 : natOf t % 1000000000 = natOf (t.drop (t.length - 9)) := by omega
      have e2 : natOf t / 1000000000 = natOf (t.take (t.length - 9)) := by omega
      rw [e1, e2]
    · rw [Nat.min_eq_right (by omega)] at Bg hlt
      have e0 : t.length - 9 = 0 := by omega
      have hle : 10 ^ t.length ≤ 10 ^ 9 := Nat.pow_le_pow_right (by omega) (by omega)
      simp only [e0, List.take_zero, List.drop_zero] at Bg hlt ⊢
      have e3 : natOf ([] : F6) = 0 := rfl
      have e1 : natOf t % 1000000000 = natOf t := Nat.mod_eq_of_lt (by omega)
      have e2 : natOf t / 1000000000 = 0 := Nat.div_eq_of_lt (by omega)
      rw [e1, e2, e3]
def Bq : Nat → Nat → F6
 | 0, _ => []
 | k + 1, b => Bq k (b / 10) ++ [dig (b % 10)]
theorem BW (k b : Nat) : (Bq k b).length = k := by
 induction k generalizing b with
 | zero => rfl
 | succ k ih => rw [Bq, D3, ih]; rfl
theorem UE (k b : Nat) : (Bq k b).all U6 = true := by
 induction k generalizing b with
 | zero => rfl
 | succ k ih => rw [Bq, List.all_append, ih]; simp [QB (Nat.mod_lt b (by omega : 0 < 10))]
theorem OG {k b : Nat} (h : b < 10 ^ k) : natOf (Bq k b) = b := by
 induction k generalizing b with
 | zero => simp at h; subst h; rfl
 | succ k ih =>
  rw [Nat.pow_succ] at h
  rw [Bq, T5, ih (by omega), Vl (Nat.mod_lt _ (by omega))]
  omega
theorem SH {a : Nat} (ha : a ≠ 0) (k b : Nat) (hb : b < 10 ^ k) : Ba (a * 10 ^ k + b) = Ba a ++ Bq k b := by
 induction k generalizing b with
 | zero => simp at hb; subst hb; simp [Bq]
 | succ k ih =>
  rw [Nat.pow_succ] at hb
  have hp : 0 < 10 ^ k := Nat.pow_pos (by omega)
  have hap : 0 < a * 10 ^ k := Nat.mul_pos (by omega) hp
  have e0 : a * 10 ^ (k + 1) = 10 * (a * 10 ^ k) := by rw [Nat.pow_succ, ← Nat.mul_assoc]; omega
  have e1 : (10 * (a * 10 ^ k) + b) / 10 = a * 10 ^ k + b / 10 := by omega
  have e2 : (10 * (a * 10 ^ k) + b) % 10 = b % 10 := by omega
  rw [e0, Aj (by omega), e1, e2, ih (b / 10) (by omega), Bq, G9]
def fmt (n : Nat) : F6 := if n = 0 then [48] else Ba n
theorem LN {k : Nat} (h : n < 10 ^ k) (hk : 0 < k) : List.replicate (k - (fmt n).length) 48 ++ fmt n = Bq k n := by
 have key : ∀ (k n : Nat), n < 10 ^ k → (Ba n).length ≤ k ∧ List.replicate (k - (Ba n).length) 48 ++ Ba n = Bq k n := by
  intro k
  induction k with
  | zero => intro n h; simp at h; subst h; simp [O3, Bq]
  | succ k ih =>
   intro n h
   rw [Nat.pow_succ] at h
   obtain ⟨h1, h2⟩ := ih (n / 10) (by omega)
   by_cases hn : n = 0
   · subst hn
     rw [O3] at h2 ⊢
     simp only [List.length_nil, Nat.sub_zero, List.append_nil] at h2 ⊢
     refine ⟨by omega, ?_⟩
     rw [Bq, ← h2, show (0 : Nat) % 10 = 0 from rfl, List.replicate_succ']
     rfl
   · rw [Aj hn, Bq, D3, List.length_singleton]
     refine ⟨by omega, ?_⟩
     rw [← h2, show k + 1 - ((Ba (n / 10)).length + 1) = k - (Ba (n / 10)).length by omega, G9]
 by_cases hn : n = 0
 · subst hn
   have := (key k 0 h).2
   rw [O3] at this
   simp only [List.length_nil, Nat.sub_zero, List.append_nil] at this
   rw [fmt, B9 rfl, ← this]
   obtain ⟨j, rfl⟩ : ∃ j, k = j + 1 := ⟨k - 1, by omega⟩
   rw [List.replicate_succ']
   simp
 · rw [fmt, B5 hn]; exact (key k n h).2
theorem LO {k : Nat} (h : n < 10 ^ k) (hk : 0 < k) : (fmt n).length ≤ k := by
 have := G6 List.length (LN h hk)
 rw [D3, List.length_replicate, BW] at this
 omega
def pads : List Nat → F6
 | [] => []
 | x :: l => pads l ++ Bq 9 x
theorem UD (l : List Nat) : (pads l).all U6 = true := by
 induction l with
 | nil => rfl
 | cons x l ih => rw [pads, List.all_append, ih, UE]; rfl
theorem BV (l : List Nat) : (pads l).length = 9 * l.length := by
 induction l with
 | nil => rfl
 | cons x l ih => rw [pads, D3, ih, BW, List.length_cons]; omega
theorem OE (h : gok l) : natOf (pads l) = K4 l := by
 induction l with
 | nil => rfl
 | cons x l ih =>
  obtain ⟨h1, h2⟩ := CA.1 h
  rw [pads, Eu, ih h2, BW, OG h1, K4]
  omega
theorem Ot (h : gok l) (hx : x ≠ 0) : Ba (K4 (l ++ [x])) = Ba x ++ pads l := by
 induction l with
 | nil => simp [K4, pads]
 | cons y l ih =>
  obtain ⟨h1, h2⟩ := CA.1 h
  have O4 : K4 (l ++ [x]) ≠ 0 := by
   rw [DD]
   have : 0 < 1000000000 ^ l.length := Nat.pow_pos (by omega)
   simp only [K4, Nat.mul_zero, Nat.add_zero]
   have : 0 < 1000000000 ^ l.length * x := Nat.mul_pos this (by omega)
   omega
  rw [List.cons_append, K4, Nat.add_comm, Nat.mul_comm, show (1000000000 : Nat) = 10 ^ 9 from rfl, SH O4 9 y h1, ih h2, pads, G9]
open Go.RowKit Px
def P9 (k : F6) : List (F6 × F6) → F6
 | [] => []
 | (k', v) :: l => if k' = k then v else P9 k l
def Aw (k v : F6) : List (F6 × F6) → List (F6 × F6)
 | [] => [(k, v)]
 | (k', v') :: l => if k' = k then (k, v) :: l else (k', v') :: Aw k v l
def Y7 (l : List (F6 × F6)) : List (F6 × DV) := l.map fun p => (p.1, dS p.2)
theorem Kv (k : F6) (l : List (F6 × F6)) : Ev (dS []) k (Y7 l) = dS (P9 k l) := by
 induction l with
 | nil => rfl
 | cons p l ih =>
  show (if p.1 = k then dS p.2 else Ev (dS []) k (Y7 l)) = dS (if p.1 = k then p.2 else P9 k l)
  split
  · rfl
  · exact ih
theorem OI (k v : F6) (l : List (F6 × F6)) : BF k (dS v) (Y7 l) = Y7 (Aw k v l) := by
 induction l with
 | nil => rfl
 | cons p l ih =>
  show (if p.1 = k then (k, dS v) :: Y7 l else (p.1, dS p.2) :: BF k (dS v) (Y7 l)) = Y7 (if p.1 = k then (k, v) :: l else (p.1, p.2) :: Aw k v l)
  split
  · rfl
  · rw [ih]; rfl
theorem Mr (k v j : F6) (l : List (F6 × F6)) : P9 j (Aw k v l) = if j = k then v else P9 j l := by
 induction l with
 | nil =>
  show (if k = j then v else []) = if j = k then v else []
  by_cases h : j = k
  · rw [B9 h, B9 h.symm]
  · rw [B5 h, B5 (fun e => h e.symm)]
 | cons p l ih =>
  show P9 j (if p.1 = k then (k, v) :: l else (p.1, p.2) :: Aw k v l) = if j = k then v else (if p.1 = j then p.2 else P9 j l)
  by_cases hp : p.1 = k
  · rw [B9 hp]
    show (if k = j then v else P9 j l) = _
    by_cases h : j = k
    · rw [B9 h, B9 h.symm]
    · rw [B5 h, B5 (fun e => h e.symm), B5 (fun e => h (e.symm.trans hp))]
  · rw [B5 hp]
    show (if p.1 = j then p.2 else P9 j (Aw k v l)) = _
    by_cases hj : p.1 = j
    · rw [B9 hj, B9 hj, B5 (fun e => hp (hj.trans e))]
    · rw [B5 hj, B5 hj, ih]
abbrev DK (a b : F6) : F6 := J7 (val a + val b)
theorem dec_le {n k : Nat} (h : n < 10 ^ k) : (Ba n).length ≤ k := by
 by_cases h0 : n = 0
 · rw [h0, O3]; simp
 · rw [← Bh h0]
   refine Cd n k h ?_
   rcases H1 k with rfl | hk
   · simp at h; omega
   · exact hk
theorem Ix {z : Int} {k : Nat} (h : z.natAbs < 10 ^ k) : (J7 z).length ≤ k + 1 := by
 have := dec_le h
 unfold J7
 split <;> simp <;> omega
theorem KY {a : F6} {k : Nat} (h : a.length ≤ k) : (val a).natAbs < 10 ^ k := by
 rw [← Fe]
 have h1 := BE (V8 a)
 have hb : (Bj a).length ≤ a.length := by unfold Bj; split <;> simp
 have h2 : (M5 a).1.length ≤ a.length := by
  unfold M5
  split
  · exact F3 (List.dropWhile_suffix _).length_le hb
  · simp
 exact I8 h1 (Nat.pow_le_pow_right (by decide) (F3 h2 h))
theorem NN {a b : F6} {k : Nat} (ha : a.length ≤ k) (hb : b.length ≤ k) : (DK a b).length ≤ k + 2 := by
 have h1 := KY ha
 have h2 := KY hb
 refine Ix (k := k + 1) ?_
 rw [Nat.pow_succ]
 omega
theorem JV {k v : F6} {l : List (F6 × F6)} {n : Nat} (hv : v.length ≤ n) (hl : ∀ j, (P9 j l).length ≤ n) (j : F6) : (P9 j (Aw k v l)).length ≤ n := by
 rw [Mr]
 split
 · exact hv
 · exact hl j
open Go.RowKit Px Go.Sort Go.Lib
theorem ltS_dec (a b : F6) : ltS a b = decide (a < b) := bytesLess_eq a b
theorem Hd (a b : F6) : decide (a ≤ b) = !ltS b a := by
 rw [ltS_dec, Bool.eq_iff_iff]
 simp
abbrev Jy (ss : List F6) : List F6 := ss.mergeSort fun x y => decide (x ≤ y)
theorem MQ (ss : List F6) : (Jy ss).Pairwise fun x y => ltS y x = false := by
 have h := List.pairwise_mergeSort (le := fun x y : F6 => decide (x ≤ y)) (fun a b c h1 h2 => by
  rw [Hd, Bool.not_eq_true'] at h1 h2 ⊢
  rcases X2 a b with e | e | e
  · rcases X2 b c with e2 | e2 | e2
    · exact Z3 (Bs e e2)
    · subst e2; exact Z3 e
    · rw [h2] at e2; cases e2
  · subst e; exact h2
  · rw [h1] at e; cases e) (fun a b => by
  rw [Hd, Hd]
  rcases X2 a b with e | e | e
  · rw [Z3 e]; rfl
  · subst e; rw [U3]; rfl
  · rw [Z3 e]; simp) ss
 refine h.imp fun h => ?_
 rw [Hd] at h
 simpa using h
abbrev Cf := F6 × F6
def Fv (A : F6 → Int) : List Cf → Int
 | [] => 0
 | c :: e => val c.2 * A c.1 + Fv A e
theorem It (A : F6 → Int) (a b : List Cf) : Fv A (a ++ b) = Fv A a + Fv A b := by
 induction a with
 | nil => simp [Fv]
 | cons c a ih => simp only [List.cons_append, Fv, ih]; omega
def one (k j : F6) : Int := if j = k then 1 else 0
abbrev cf (k : F6) (e : List Cf) : Int := Fv (one k) e
def P8 (e : List Cf) : Nat → List (F6 × F6)
 | 0 => []
 | i + 1 => match e[i]? with
  | none => P8 e i
  | some c => Aw c.1 (DK (P9 c.1 (P8 e i)) c.2) (P8 e i)
theorem KX : val [] = 0 := by rw [← U4, X0]
theorem Vj (A : F6 → Int) (k v : F6) (M : List (F6 × F6)) : Fv A (Aw k v M) = Fv A M - val (P9 k M) * A k + val v * A k := by
 induction M with
 | nil => simp [Aw, Fv, P9, KX]
 | cons p M ih =>
  show Fv A (if p.1 = k then (k, v) :: M else (p.1, p.2) :: Aw k v M) = Fv A (p :: M) - val (if p.1 = k then p.2 else P9 k M) * A k + val v * A k
  by_cases h : p.1 = k
  · rw [B9 h, B9 h]
    simp only [Fv]
    rw [h]
    omega
  · rw [B5 h, B5 h]
    simp only [Fv, ih]
    omega
theorem Mw (A : F6 → Int) (e : List Cf) (i : Nat) : Fv A (P8 e i) = Fv A (e.take i) := by
 induction i with
 | zero => rfl
 | succ i ih =>
  rw [P8]
  cases h : e[i]? with
  | none =>
   rw [List.getElem?_eq_none_iff] at h
   simp only [ih, D8 h, D8 (Nat.le_succ_of_le h)]
  | some c =>
   simp only
   rw [Vj, X0, ih, G8, h, Option.toList, It, Int.add_mul]
   simp only [Fv]
   omega
theorem Fl (k v : F6) (M : List (F6 × F6)) : (Aw k v M).map (·.1) = if k ∈ M.map (·.1) then M.map (·.1) else M.map (·.1) ++ [k] := by
 induction M with
 | nil => simp [Aw]
 | cons p M ih =>
  show (if p.1 = k then (k, v) :: M else (p.1, p.2) :: Aw k v M).map (·.1) = _
  by_cases h : p.1 = k
  · rw [B9 h, B9 (by simp [h])]
    simp [h]
  · rw [B5 h, List.map_cons, ih]
    by_cases h2 : k ∈ M.map (·.1)
    · rw [B9 h2, B9 (by simp only [List.map_cons, List.mem_cons]; exact .inr h2)]
      rfl
    · rw [B5 h2, B5 (by simp only [List.map_cons, List.mem_cons, not_or]; exact ⟨fun e => h e.symm, h2⟩)]
      rfl
theorem EG (e : List Cf) (i : Nat) : ((P8 e i).map (·.1)).Nodup := by
 induction i with
 | zero => exact List.nodup_nil
 | succ i ih =>
  rw [P8]
  cases h : e[i]? with
  | none => exact ih
  | some c =>
   simp only
   rw [Fl]
   split
   · exact ih
   · rename_i h2
     rw [List.nodup_append]
     exact ⟨ih, by simp, fun a ha b hb => by
      rw [List.mem_singleton.1 hb]
      rintro rfl
      exact h2 ha⟩
theorem MZ (e : List Cf) (i : Nat) : (P8 e i).length ≤ i := by
 induction i with
 | zero => exact D9 _
 | succ i ih =>
  rw [P8]
  cases h : e[i]? with
  | none => exact Nat.le_succ_of_le ih
  | some c =>
   simp only
   have := G6 List.length (Fl c.1 (DK (P9 c.1 (P8 e i)) c.2) (P8 e i))
   rw [A8] at this
   split at this
   · rw [A8] at this; omega
   · rw [D3, A8] at this; simp at this; omega
theorem Uo (e : List Cf) (i : Nat) (k : F6) (hk : k ∈ (P8 e i).map (·.1)) : ∃ c ∈ e, c.1 = k := by
 induction i with
 | zero => cases hk
 | succ i ih =>
  rw [P8] at hk
  cases h : e[i]? with
  | none => rw [h] at hk; exact ih hk
  | some c =>
   rw [h] at hk
   simp only at hk
   rw [Fl] at hk
   split at hk
   · exact ih hk
   · rcases List.mem_append.1 hk with hk | hk
     · exact ih hk
     · exact ⟨c, C0 h, (List.mem_singleton.1 hk).symm⟩
theorem FP {k : F6} {M : List (F6 × F6)} (h : k ∉ M.map (·.1)) : cf k M = 0 := by
 induction M with
 | nil => rfl
 | cons p M ih =>
  simp only [List.map_cons, List.mem_cons, not_or] at h
  show val p.2 * (if p.1 = k then 1 else 0) + cf k M = 0
  rw [B5 (fun e => h.1 e.symm), ih h.2]
  omega
theorem Vu {k : F6} {M : List (F6 × F6)} (h : (M.map (·.1)).Nodup) : cf k M = val (P9 k M) := by
 induction M with
 | nil => rw [P9, KX]; rfl
 | cons p M ih =>
  rw [List.map_cons, List.nodup_cons] at h
  show val p.2 * (if p.1 = k then 1 else 0) + cf k M = val (if p.1 = k then p.2 else P9 k M)
  by_cases e : p.1 = k
  · rw [B9 e, B9 e, FP (e ▸ h.1)]
    omega
  · rw [B5 e, B5 e, ih h.2]
    omega
theorem LM {M : List (F6 × F6)} (h : (M.map (·.1)).Nodup) {p : F6 × F6} (hp : p ∈ M) : P9 p.1 M = p.2 := by
 induction M with
 | nil => cases hp
 | cons q M ih =>
  rw [List.map_cons, List.nodup_cons] at h
  show (if q.1 = p.1 then q.2 else P9 p.1 M) = p.2
  rcases List.mem_cons.1 hp with rfl | hp
  · rw [B9 rfl]
  · have Cb : p.1 ∈ M.map (·.1) := List.mem_map_of_mem hp
    rw [B5 fun e => h.1 (by rw [e]; exact Cb), ih h.2 hp]
theorem SC {k : F6} {M : List (F6 × F6)} (h : k ∉ M.map (·.1)) : P9 k M = [] := by
 induction M with
 | nil => rfl
 | cons p M ih =>
  simp only [List.map_cons, List.mem_cons, not_or] at h
  show (if p.1 = k then p.2 else P9 k M) = []
  rw [B5 (fun e => h.1 e.symm), ih h.2]
theorem Ta (e : List Cf) (i : Nat) (k : F6) : ∃ z, P9 k (P8 e i) = J7 z := by
 induction i with
 | zero => exact ⟨0, by rw [U4]; rfl⟩
 | succ i ih =>
  rw [P8]
  cases h : e[i]? with
  | none => exact ih
  | some c =>
   simp only
   rw [Mr]
   split
   · exact ⟨_, V⟩
   · exact ih
theorem Cm (e : List Cf) (k : F6) : P9 k (P8 e e.length) = J7 (cf k e) := by
 obtain ⟨z, hz⟩ := Ta e e.length k
 have h1 := Vu (k := k) (EG e e.length)
 rw [hz, X0] at h1
 rw [hz, ← h1, cf, Mw, I6]
def keep (M : List (F6 × F6)) (k : F6) : Option Cf := if P9 k M = [] then none else some (k, P9 k M)
def nf (e : List Cf) : List Cf := (Jy ((P8 e e.length).map (·.1))).filterMap (keep (P8 e e.length))
theorem nf_mem (e : List Cf) (p : Cf) : p ∈ nf e ↔ cf p.1 e ≠ 0 ∧ p.2 = J7 (cf p.1 e) := by
 rw [nf, List.mem_filterMap]
 constructor
 · rintro ⟨k, -, h⟩
   unfold keep at h
   split at h
   · cases h
   · rename_i hk
     cases h
     rw [Cm] at hk ⊢
     exact ⟨fun e => hk (GA.2 e), V⟩
 · rintro ⟨h1, h2⟩
   refine ⟨p.1, ?_, ?_⟩
   · rw [List.mem_mergeSort]
     refine Decidable.byContradiction fun h => h1 ?_
     have := FP h
     rwa [cf, Mw, I6] at this
   · rw [keep, Cm, B5 fun e => h1 (GA.1 e), ← h2]
abbrev NI (l : List Cf) : Prop := l.Pairwise fun a b => ltS a.1 b.1 = true
theorem nf_asc (e : List Cf) : NI (nf e) := by
 unfold NI
 rw [nf, List.pairwise_filterMap]
 have h1 := MQ ((P8 e e.length).map (·.1))
 have h2 : (Jy ((P8 e e.length).map (·.1))).Nodup := (List.mergeSort_perm _ _).nodup_iff.2 (EG e _)
 refine (h1.and h2).imp fun {a b} h p hp q hq => ?_
 have e1 : p.1 = a := by
  unfold keep at hp
  split at hp
  · cases hp
  · cases hp; rfl
 have e2 : q.1 = b := by
  unfold keep at hq
  split at hq
  · cases hq
  · cases hq; rfl
 rw [e1, e2]
 rcases X2 a b with h3 | h3 | h3
 · exact h3
 · exact G5 h3 h.2
 · rw [h.1] at h3; cases h3
theorem asc_ext {a b : List Cf} (ha : NI a) (hb : NI b) (h : ∀ p, p ∈ a ↔ p ∈ b) : a = b := by
 have n1 : a.Nodup := ha.imp fun {x y} h e => by rw [e, U3] at h; cases h
 have n2 : b.Nodup := hb.imp fun {x y} h e => by rw [e, U3] at h; cases h
 exact List.Perm.eq_of_pairwise (le := fun a b : Cf => ltS a.1 b.1 = true) (fun x y _ _ h1 h2 => by rw [Z3 h1] at h2; cases h2) ha hb ((List.perm_ext_iff_of_nodup n1 n2).2 h)
theorem nf_len (e : List Cf) : (nf e).length ≤ e.length := by
 refine F3 (List.length_filterMap_le _ _) ?_
 rw [List.length_mergeSort, A8]
 exact MZ e _
theorem cf_mem {k : F6} {e : List Cf} (h : cf k e ≠ 0) : ∃ c ∈ e, c.1 = k := by
 refine Decidable.byContradiction fun h1 => h ?_
 refine FP fun h2 => h1 ?_
 obtain ⟨c, hc, e⟩ := G7.1 h2
 exact ⟨c, hc, e⟩
abbrev Ln := RLn (List Cf)
def ngC (c : Cf) : Cf := (c.1, J7 (- val c.2))
def lnC (l : Ln) : List Cf := if l.2.1 then l.2.2.map ngC else l.2.2
def W7 (ls : List Ln) : List Cf := ls.flatMap lnC
abbrev rS (A : F6 → Int) (ls : List Ln) : Int := Fv A (W7 ls)
def rNm (ls : List Ln) : List F6 := ls.flatMap fun l => l.2.2.map (·.1)
theorem Rf (l : Ln) : (lnC l).map (·.1) = l.2.2.map (·.1) := by
 unfold lnC
 split
 · rw [List.map_map]; rfl
 · rfl
theorem rNm_eq (ls : List Ln) : (W7 ls).map (·.1) = rNm ls := by
 unfold W7 rNm
 induction ls with
 | nil => rfl
 | cons l ls ih => simp only [List.flatMap_cons, List.map_append, ih, Rf]
theorem Tq {k : F6} {ls : List Ln} (h : k ∉ rNm ls) : rS (one k) ls = 0 := by
 rcases Decidable.em (rS (one k) ls = 0) with h1 | h1
 · exact h1
 · obtain ⟨c, h2, h3⟩ := cf_mem (e := W7 ls) h1
   exact G5 (by rw [← rNm_eq]; exact G7.2 ⟨c, h2, h3⟩) h
def HN (ls : List Ln) : Bool := (rNm ls).all fun k => decide (rS (one k) ls = 0)
theorem Vx {ls : List Ln} : HN ls = true ↔ ∀ k, rS (one k) ls = 0 := by
 rw [HN, D7]
 refine ⟨fun h k => ?_, fun h k _ => B1 (h k)⟩
 rcases Decidable.em (k ∈ rNm ls) with h1 | h1
 · exact of_decide_eq_true (h k h1)
 · exact Tq h1
theorem Vw (ls : List Ln) : ((P8 (W7 ls) (W7 ls).length).all fun p => p.2 == []) = HN ls := by
 rw [Bool.eq_iff_iff, Vx, D7]
 have hnd := EG (W7 ls) (W7 ls).length
 have hz : ∀ z : Int, J7 z = [] ↔ z = 0 := fun z => ⟨fun h => by have := G6 val h; rwa [X0, KX] at this, fun h => by rw [h]; exact U4⟩
 constructor
 · intro h k
   rcases Decidable.em (k ∈ (P8 (W7 ls) (W7 ls).length).map (·.1)) with h1 | h1
   · obtain ⟨p, hp, rfl⟩ := G7.1 h1
     have h2 := h p hp
     have h3 := LM hnd hp
     rw [Cm] at h3
     exact (hz _).1 (h3.trans (by simpa using h2))
   · have h3 := SC h1
     rw [Cm] at h3
     exact (hz _).1 h3
 · intro h p hp
   have h3 := LM hnd hp
   rw [Cm] at h3
   rw [← h3, (hz _).2 (h p.1)]
   rfl
def Iq (p : F6 → Bool) (s : F6) : Bool := decide ((S5 46 s).length ≤ 6) && (S5 46 s).all p
def Ke (s : F6) : Bool := s == [42] || s == [43]
def P1 (nb : F6 → Bool) (s : F6) : Bool := Iq (fun x => Ke x || nb x) s
abbrev Ac := F6 × Int
def JI (code parent : F6) : Bool := parent.isPrefixOf code && (match code.drop parent.length with | [] => true | b :: _ => b == 46)
def stA (code : F6) (b : Ac × Bool) (a : Ac) : Ac × Bool := if JI code a.1 && (!b.2 || decide (b.1.1.length < a.1.length)) then (a, true) else b
def SD (code : F6) (l : List Ac) : Ac × Bool := l.foldl (stA code) (([], 0), false)
section
variable (tp : F6 → Bool) (ce : List Cf → Int) (nm : List Cf → List Cf)
abbrev Ru := Jb (List Cf)
def LA : List Ln → Int
 | [] => 0
 | l :: ls => if tp l.1 then (if ce l.2.2 = 0 then LA ls else ce l.2.2) else 3
def rE (r : Ru) : Int := match Y8 r.1 with
 | none => 7
 | some _ => if 64 < r.2.length then 4 else LA tp ce r.2
theorem Rc {ls : List Ln} : LA tp ce ls = 0 ↔ ∀ l ∈ ls, tp l.1 = true ∧ ce l.2.2 = 0 := by
 induction ls with
 | nil => simp [LA]
 | cons l ls ih =>
  rw [LA]
  cases h : tp l.1 with
  | false => simp [h]
  | true =>
   rw [B9 rfl]
   by_cases h2 : ce l.2.2 = 0
   · rw [B9 h2, ih]; simp [h, h2]
   · rw [B5 h2]; simp [h2]
theorem Pb {r : Ru} : rE tp ce r = 0 ↔ (∃ k, Y8 r.1 = some k) ∧ r.2.length ≤ 64 ∧ ∀ l ∈ r.2, tp l.1 = true ∧ ce l.2.2 = 0 := by
 unfold rE
 cases h : Y8 r.1 with
 | none => simp
 | some k =>
  simp only
  by_cases h2 : 64 < r.2.length
  · rw [B9 h2]
    refine ⟨fun h => by simp at h, fun h => ?_⟩
    omega
  · rw [B5 h2, Rc]
    exact ⟨fun h => ⟨⟨k, V⟩, by omega, h⟩, fun h => h.2.2⟩
def luE (k : ST) (ch : List Ac) (x : Ln) : Int :=
 if ((S5 46 x.1).any fun s => (s == [42] && !k.2.2.2.contains 42) || (s == [43] && !k.2.2.2.contains 43)) = true then 9
 else if ((nm x.2.2).any fun c => !k.2.2.1.contains c.1) = true then 6
 else if (SD x.1 ch).2 then 0 else 6
def IV (k : ST) (ch : List Ac) : List Ln → Int
 | [] => 0
 | x :: l => if luE nm k ch x = 0 then IV k ch l else luE nm k ch x
def Qp (ch : List Ac) : Nat → List Ru → List Ru → Int × Int
 | _, _, [] => (0, 0)
 | i, pre, r :: l =>
  if rE tp ce r ≠ 0 then (i, rE tp ce r)
  else if (pre.any fun x => x.1 == r.1) = true then (i, 5)
  else match Y8 r.1 with
   | none => (0, 0)
   | some k => if IV nm k ch r.2 ≠ 0 then (i, IV nm k ch r.2) else if HN r.2 then Qp ch (i + 1) (pre ++ [r]) l else (i, 14)
def EQ (l : List Ru) (n : Int) : Option Ru := l.find? fun r => r.1 == n
end
section
variable (tp : F6 → Bool) (ce : List Cf → Int) (nm : List Cf → List Cf) (pe : F6 → Option (List Cf)) (pr : List Cf → F6)
variable {tp ce nm pe pr}
end
theorem MY : kndL.map (·.1) = (List.range 19).map fun n : Nat => ((n + 1 : Nat) : Int) := by decide
theorem Py (n : Int) : (Y8 n).isSome = (decide (1 ≤ n) && decide (n ≤ 19)) := by
 rw [Bool.eq_iff_iff, C9, decide_eq_true_iff, decide_eq_true_iff]
 constructor
 · intro h
   obtain ⟨k, hk⟩ := Option.isSome_iff_exists.1 h
   obtain ⟨h1, rfl⟩ := Bu hk
   have : k.1 ∈ kndL.map (·.1) := G7.2 ⟨k, h1, rfl⟩
   rw [MY, G7] at this
   obtain ⟨m, h2, h3⟩ := this
   have := List.mem_range.1 h2
   omega
 · rintro ⟨h1, h2⟩
   have : n ∈ kndL.map (·.1) := by
    rw [MY, G7]
    exact ⟨(n - 1).toNat, List.mem_range.2 (by omega), by omega⟩
   obtain ⟨k, h3, rfl⟩ := G7.1 this
   rw [Ey h3]; rfl
theorem MJ (p s : F6) : p.isPrefixOf s = (decide (p.length ≤ s.length) && (s.take p.length == p)) := by
 rw [Bool.eq_iff_iff, List.isPrefixOf_iff_prefix, List.prefix_iff_eq_take]
 constructor
 · intro h
   have h1 : p.length ≤ s.length := by have := G6 List.length h; rw [E4] at this; omega
   rw [C9]
   exact ⟨B1 h1, beq_iff_eq.2 h.symm⟩
 · intro h
   rw [C9] at h
   exact (beq_iff_eq.1 h.2).symm
theorem wHasPre (s p : F6) : PCalls Tryz.prog 211 [dS s, dS p] (.d (dB (p.isPrefixOf s))) := by
 rw [MJ]
 by_cases h : p.length ≤ s.length
 · have t1 : decide ((s.length : Int) ≥ (p.length : Int)) = true := B1 (by omega)
   have h1 : s.take ((p.length : Int)).toNat = s.take p.length := by rw [H0]
   have h2 : (p.length : Int) ≤ s.length := by omega
   rw [B1 h, Bool.true_and]
   obtain ⟨t, ht⟩ := I0 (s.take p.length)
   rw [← ht] at h1 ⊢
   clear ht
   refine M0 Tryz.func211 V Tryz.ntmps211 Tryz.results211 fun B w0 => ?_
   refine E5 (A9 V (H9 V (O2 V (B4 V (O2 V (F9 V (B4 V ?_))))))); rw [t1]; refine B4 V (B4 V (O2 V (W0 (by omega) h2 h1 V V (B4 V (N7 V V (L2 V V (A9 V (C4 ?_))))))))
   exact M8 V V
 · have t1 : decide ((s.length : Int) ≥ (p.length : Int)) = false := A7 (by omega)
   rw [A7 h, Bool.false_and]
   refine M0 Tryz.func211 V Tryz.ntmps211 Tryz.results211 fun B w0 => ?_
   refine E5 (A9 V (H9 V (O2 V (B4 V (O2 V (F9 V (B4 V ?_))))))); rw [t1]; refine L4 V V (L4 V V (L4 V V (L3 V V (A9 V (C4 ?_)))))
   exact M8 V V
theorem pre_len {p s : F6} (h : p.isPrefixOf s = true) : p.length ≤ s.length := by
 rw [MJ, C9] at h
 exact of_decide_eq_true h.1
theorem TE (s p : F6) : PCalls Tryz.prog 164 [dS s, dS p] (.tup [dS (if p.isPrefixOf s then s.drop p.length else s), dB (p.isPrefixOf s)]) := by
 have c1 := wHasPre s p
 cases h : p.isPrefixOf s with
 | true =>
  rw [h] at c1
  have h2 : (p.length : Int) ≤ s.length := by have := pre_len h; omega
  have h1 : s.drop ((p.length : Int)).toNat = s.drop p.length := by rw [H0]
  rw [B9 rfl]
  obtain ⟨t, ht⟩ := I0 (s.drop p.length)
  rw [← ht] at h1 ⊢
  clear ht
  refine M0 Tryz.func164 V Tryz.ntmps164 Tryz.results164 fun B w0 => ?_
  refine E5 (H5 V (A9 V (H2 V (B4 V (yC (c1) V V (yU V V V (yQ (F4 V (B2 (H9 V (B4 V (O2 V (U9 (by omega) h2 h1 V V (H5 V (A9 V (C4 ?_))))))))))))))))
  exact Az V V V
 | false =>
  rw [h] at c1
  rw [B5 (by simp)]
  refine M0 Tryz.func164 V Tryz.ntmps164 Tryz.results164 fun B w0 => ?_
  refine E5 (H5 V (A9 V (H2 V (B4 V (yC (c1) V V (yU V V V (yQ (G4 V (H9 V (H5 V (A9 V (C4 (A6 ?_)))))))))))))
  exact Az V V V
theorem wCutPre (s p : F6) : PCalls Tryz.prog 121 [dS s, dS p] (.tup [dS (if p.isPrefixOf s then s.drop p.length else s), dB (p.isPrefixOf s)]) := by
 have c1 := TE s p
 obtain ⟨t, ht⟩ := I0 ((if p.isPrefixOf s then s.drop p.length else s))
 obtain ⟨b, hb⟩ := I0 (p.isPrefixOf s)
 rw [← ht, ← hb] at c1 ⊢
 clear ht hb
 refine M0 Tryz.func121 V Tryz.ntmps121 Tryz.results121 fun B w0 => ?_
 refine E5 (H5 V (A9 V (H9 V (B4 V (yC (c1) V V (yX V V (yX V V (H5 V (A9 V (C4 ?_))))))))))
 exact Az V V V
theorem u8_int (x : UInt8) (n : Nat) (hn : n < 256) : ((x.toNat : Int) == (n : Int)) = (x == UInt8.ofNat n) := by
 rw [Bool.eq_iff_iff, beq_iff_eq, beq_iff_eq]
 constructor
 · intro h
   have h1 : x.toNat = n := by omega
   rw [← h1]; simp
 · rintro rfl
   simp; omega
theorem Sk (code parent : F6) : PCalls Tryz.prog 71 [dS code, dS parent] (.d (dB (JI code parent))) := by
 have c1 := wCutPre code parent
 unfold JI
 cases h : parent.isPrefixOf code with
 | false =>
  rw [h, B5 (by simp)] at c1
  rw [Bool.false_and]
  refine M0 Tryz.func71 V Tryz.ntmps71 Tryz.results71 fun B w0 => ?_
  refine E5 (A9 V (H9 V (B4 V (yC (c1) V V (O6 V (yX V V (yX V V (H5 V (A9 V (H9 V (B4 V (L4 V V (L4 V V (L4 V V (yO V (L3 V V (A9 V (C4 ?_))))))))))))))))))
  exact M8 V V
 | true =>
  rw [h, B9 rfl] at c1
  rw [Bool.true_and]
  cases hd : code.drop parent.length with
  | nil =>
   rw [hd] at c1
   refine M0 Tryz.func71 V Tryz.ntmps71 Tryz.results71 fun B w0 => ?_
   refine E5 (A9 V (H9 V (B4 V (yC (c1) V V (O6 V (yX V V (yX V V (H5 V (A9 V (H9 V (B4 V (B4 V (N7 V V (B4 V (L4 V V (yO V (L2 V V (L2 V V (A9 V (C4 ?_))))))))))))))))))))
   exact M8 V V
  | cons b l =>
   rw [hd] at c1
   have t1 : ((b.toNat : Int) == 46) = (b == 46) := u8_int b 46 (by omega)
   have hx : (b :: l : F6)[(0 : Int).toNat]? = some b := rfl
   have t0 : ((b :: l : F6) == []) = false := rfl
   obtain ⟨r, hr⟩ := I0 ((b == 46))
   rw [← hr] at t1
   obtain ⟨z, hz⟩ := I0 ((b :: l : F6))
   rw [← hz] at c1 hx t0
   show PCalls Tryz.prog 71 [dS code, dS parent] (.d (dB (b == 46)))
   rw [← hr]
   clear hd hz hr
   refine M0 Tryz.func71 V Tryz.ntmps71 Tryz.results71 fun B w0 => ?_
   refine E5 (A9 V (H9 V (B4 V (yC (c1) V V (O6 V (yX V V (yX V V (H5 V (A9 V (H9 V (B4 V (B4 V (N7 V V (B4 V ?_)))))))))))))); rw [t0]
   refine B4 V (U1 hx (by omega) V V (F9 V (L3 V V (L2 V V (A9 V (C4 ?_)))))); rw [t1]
   exact M8 V V
theorem Nt {P : Program} {f : FuncId} {k : Nat} {es : List (List DV)} {rest : List DV} {r : SV} (h : es.length ≤ 9223372036854775807 → PCalls P f (.sl k es :: rest) r) : PCalls P f (.sl k es :: rest) r := fun F w vals hl hr hg => by
 refine h ?_ F w vals hl hr hg
 cases vals with
 | nil => simp at hl
 | cons v vals =>
  have h1 := hr 0 v _ rfl rfl
  obtain ⟨A, c, news, -, -, hm, -⟩ := DRep.row h1
  exact hm
abbrev Z9 (a : Ac) : List DV := [dS a.1, dI a.2]
theorem wFindA (l : List Ac) (code : F6) : PCalls Tryz.prog 47 [.sl 2 (l.map Z9), dS code] (.tup [.agg (Z9 (SD code l).1), dB (SD code l).2]) := by
 unfold SD
 obtain ⟨r, hr⟩ := I0 (l.foldl (stA code) (([], 0), false))
 rw [← hr]
 refine Nt fun hl => ?_
 rw [A8] at hl
 refine M0 Tryz.func47 V Tryz.ntmps47 Tryz.results47 fun B w0 => ?_
 refine E5 (yZ (cs := [_, _]) V V (A9 V (E5 (yZ (cs := [_, _]) V V (yQ (E5 (A9 V (H2 V (yN V (B4 V (yQ (B8 ?_)))))))))))); refine I1 (fun p : Nat × (Ac × Bool) => ⟨37, [(1, .d (dS code)), (4, .bx 4 0), (6, .bx 6 0), (7, .d (dB p.2.2)), (10, .d (.sl 2 (l.map Z9))), (11, .d (dI l.length)), (12, .d (dI p.1))], [(4, [.d (dS []), .d (dI 0)]), (6, [.d (dS p.2.1.1), .d (dI p.2.1.2)])], []⟩) (fun p => p.1 ≤ l.length ∧ p.2 = (l.take p.1).foldl (stA code) (([], 0), false)) (fun p => l.length - p.1) (0, (([], 0), false)) ⟨E8 _, V⟩
  ⟨rfl, ⟨.refl _, .refl _, .refl _, .refl _, .refl _, Ht (by simp), .refl _, D5⟩, ⟨⟨_, rfl, H6 _⟩, ⟨_, rfl, H6 _⟩, D5⟩, D5, rfl⟩ ?_
 rintro ⟨k, ⟨⟨c0, n0⟩, f⟩⟩ ⟨hk, hI⟩
 simp only at hk hI ⊢
 rcases D6 k l.length with h | h
 rotate_left
 · have u1 : decide ((k : Int) < (l.length : Int)) = false := A7 (by omega)
   rw [D8 h, ← hr] at hI
   subst hI
   clear hr
   refine E5 (I3 V (B0 (O1 u1 V (F8 (E5 (Ab (ys := [_, _]) V V V V (B4 V (yS (cs' := [_, _]) V V V V V (A9 V (C4 ?_))))))))))
   exact I9 _ (.agg D4 V V V V (.tmp V .nil)) V
 have u1 : decide ((k : Int) < (l.length : Int)) = true := B1 (by omega)
 obtain ⟨⟨a0, a1⟩, ha⟩ : ∃ a, l[k]? = some a := ⟨_, A4 h⟩
 have ex := ix Z9 l k k (a0, a1) rfl ha
 have hw := J0 ((k : Int) + 1) (by omega)
 have c1 := Sk code a0
 have K9 : (l.take (k + 1)).foldl (stA code) (([], 0), false) = stA code ((c0, n0), f) (a0, a1) := by
  rw [G8, ha, List.foldl_append, ← hI]; rfl
 have arith : l.length - (k + 1) < l.length - k := by omega
 clear hr hI
 rw [stA] at K9
 cases hu : JI code a0 with
 | false =>
  rw [hu] at c1 K9
  rw [Bool.false_and, B5 (by simp)] at K9
  refine E5 (I3 V (B0 (L8 u1 V (B2 (B0 (B8 (E5 (L6 ex V (V0 (ys := [_, _]) V V V (yZ (cs := [_, _]) V V (yS (cs' := [_, _]) V V V V V (yQ (H9 V (L1 V (yC (c1) V V (B4 V (L4 V V (L4 V V (L4 V V (L4 V V (L4 V V (yO V (L3 V V (yQ (F4 V (B2 (B6 (F9 V (B4 V (yQ (B3 ?_)))))))))))))))))))))))))))))))
  exact ⟨(k + 1, ((c0, n0), f)), ⟨h, K9.symm⟩, arith, V, ⟨.refl _, .refl _, .refl _, .refl _, .refl _, .refl _, Q7 hw, D5⟩, ⟨⟨_, V, H6 _⟩, ⟨_, V, H6 _⟩, D5⟩, D5, V⟩
 | true =>
  rw [hu] at c1 K9
  cases f with
  | false =>
   have VG : (l.take (k + 1)).foldl (stA code) (([], 0), false) = ((a0, a1), true) := by rw [K9]; rfl
   refine E5 (I3 V (B0 (L8 u1 V (B2 (B0 (B8 (E5 (L6 ex V (V0 (ys := [_, _]) V V V (yZ (cs := [_, _]) V V (yS (cs' := [_, _]) V V V V V (yQ (H9 V (L1 V (yC (c1) V V (B4 V (B4 V (yU V V V (B4 V (L4 V V (L4 V V (L4 V V (yO V (L2 V V (L2 V V (yQ (G4 V (B6 (Ab (ys := [_, _]) V V V V (yS (cs' := [_, _]) V V V V V (A9 V (B6 (F9 V (B4 V (yQ (B3 ?_))))))))))))))))))))))))))))))))))))
   exact ⟨(k + 1, ((a0, a1), true)), ⟨h, VG.symm⟩, arith, V, ⟨.refl _, .refl _, .refl _, .refl _, .refl _, .refl _, Q7 hw, D5⟩, ⟨⟨_, V, H6 _⟩, ⟨_, V, H6 _⟩, D5⟩, D5, V⟩
  | true =>
   by_cases hc : c0.length < a0.length
   · have t1 : decide ((a0.length : Int) > (c0.length : Int)) = true := B1 (by omega)
     have VG : (l.take (k + 1)).foldl (stA code) (([], 0), false) = ((a0, a1), true) := by rw [K9, B1 hc]; rfl
     refine E5 (I3 V (B0 (L8 u1 V (B2 (B0 (B8 (E5 (L6 ex V (V0 (ys := [_, _]) V V V (yZ (cs := [_, _]) V V (yS (cs' := [_, _]) V V V V V (yQ (H9 V (L1 V (yC (c1) V V (B4 V (B4 V (yU V V V (B4 V (L1 V (O2 V (L1 V (O2 V (F9 V (L3 V V (L2 V V (yQ (B3 (L8 t1 V (B6 (Ab (ys := [_, _]) V V V V (yS (cs' := [_, _]) V V V V V (A9 V (B6 (F9 V (B4 V (yQ (B3 ?_))))))))))))))))))))))))))))))))))))))
     exact ⟨(k + 1, ((a0, a1), true)), ⟨h, VG.symm⟩, arith, V, ⟨.refl _, .refl _, .refl _, .refl _, .refl _, .refl _, Q7 hw, D5⟩, ⟨⟨_, V, H6 _⟩, ⟨_, V, H6 _⟩, D5⟩, D5, V⟩
   · have t1 : decide ((a0.length : Int) > (c0.length : Int)) = false := A7 (by omega)
     have VG : (l.take (k + 1)).foldl (stA code) (([], 0), false) = ((c0, n0), true) := by rw [K9, A7 hc]; rfl
     refine E5 (I3 V (B0 (L8 u1 V (B2 (B0 (B8 (E5 (L6 ex V (V0 (ys := [_, _]) V V V (yZ (cs := [_, _]) V V (yS (cs' := [_, _]) V V V V V (yQ (H9 V (L1 V (yC (c1) V V (B4 V (B4 V (yU V V V (B4 V (L1 V (O2 V (L1 V (O2 V (F9 V (L3 V V (L2 V V (yQ (B3 (O1 t1 V (B2 (B6 (F9 V (B4 V (yQ (B3 ?_)))))))))))))))))))))))))))))))))))
     exact ⟨(k + 1, ((c0, n0), true)), ⟨h, VG.symm⟩, arith, V, ⟨.refl _, .refl _, .refl _, .refl _, .refl _, .refl _, Q7 hw, D5⟩, ⟨⟨_, V, H6 _⟩, ⟨_, V, H6 _⟩, D5⟩, D5, V⟩
end Go.Proofs.YtddfimjiihggmaaGreatDoor