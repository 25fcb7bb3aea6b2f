/- Plain mathematics of strings as lists of bytes: their order, ascending lists. -/
import Derived.Test.YtddfimjiihggmaaGreatDoorB3
import Derived.Test.YtddfimjiihggmaaGreatDoorRows
import Derived.LaidMore
import Derived.Lay
import Derived.Stop.Joined
import Derived.Lib.SmallJoins
import Derived.Lib.SplitLaws
import Derived.Sort.KeysCollected
import Derived.Lib.ItoaNum
import Derived.Sort.Walk0
set_option maxHeartbeats 16000000
set_option maxRecDepth 20000
namespace Go.Proofs.YtddfimjiihggmaaGreatDoor
abbrev ltS (a b : G0) : Bool := Go.Op.bytesLess a b
theorem DE (a b : UInt8) (x y : G0) : ltS (a :: x) (b :: y) = (decide (a < b) || (a == b && ltS x y)) := rfl
theorem R9 (a : G0) : ltS a a = false := by
 induction a with
 | nil => rfl
 | cons x a ih =>
  rw [DE, ih, Bool.and_false, Bool.or_false]
  exact A9 (UInt8.lt_irrefl x)
theorem Aq {a b c : G0} (h : ltS a b = true) (k : ltS b c = true) : ltS a c = true := by
 induction a generalizing b c with
 | nil =>
  cases b with
  | nil => cases h
  | cons y b => cases c with
   | nil => cases k
   | cons z c => rfl
 | cons x a ih =>
  cases b with
  | nil => cases h
  | cons y b =>
   cases c with
   | nil => cases k
   | cons z c =>
    rw [DE] at h k ⊢
    simp only [Bool.or_eq_true, decide_eq_true_eq, D3, beq_iff_eq] at h k ⊢
    rcases h with h | ⟨rfl, h⟩
    · rcases k with k | ⟨rfl, k⟩
      · exact .inl (UInt8.lt_trans h k)
      · exact .inl h
    · rcases k with k | ⟨rfl, k⟩
      · exact .inl k
      · exact .inr ⟨rfl, ih h k⟩
theorem T8 (a b : G0) : ltS a b = true ∨ a = b ∨ ltS b a = true := by
 induction a generalizing b with
 | nil => cases b with
  | nil => exact .inr (.inl V)
  | cons y b => exact .inl V
 | cons x a ih =>
  cases b with
  | nil => exact .inr (.inr V)
  | cons y b =>
   rw [DE, DE]
   simp only [Bool.or_eq_true, decide_eq_true_eq, D3, beq_iff_eq]
   rcases Decidable.em (x < y) with h | h
   · exact .inl (.inl h)
   · rcases Decidable.em (y < x) with k | k
     · exact .inr (.inr (.inl k))
     · have e : x = y := by
        apply UInt8.toNat_inj.1
        rw [UInt8.lt_iff_toNat_lt] at h k
        omega
       subst e
       rcases ih b with i | rfl | i
       · exact .inl (.inr ⟨rfl, i⟩)
       · exact .inr (.inl V)
       · exact .inr (.inr (.inr ⟨rfl, i⟩))
theorem W9 {a b : G0} (h : ltS a b = true) : ltS b a = false := by
 cases k : ltS b a with
 | false => rfl
 | true => have := Aq h k; rw [R9] at this; cases this
theorem ltS_ne {a b : G0} (h : ltS a b = true) : a ≠ b := fun e => by rw [e, R9] at h; cases h
open Go.RowKit Px
variable {us : List Value} {args : List DV} {P : Program} {f : FuncId}
abbrev dI (n : Int) : DV := .val (.int .i64 n)
abbrev dU (n : Nat) : DV := .val (.int .u64 n)
abbrev dB (b : Bool) : DV := .val (.bool b)
abbrev dC (l : G0) : List DV := [dS l]
theorem ix {α : Type} (f : α → List DV) (l : List α) (n : Int) (i : Nat) (x : α) (h : n = i) (hx : l[i]? = some x) : (l.map f)[n.toNat]? = some (f x) := by
 subst h
 rw [H5, C6, hx]; rfl
theorem I5 (n : Int) (h : -9223372036854775808 ≤ n ∧ n ≤ 9223372036854775807) : IntKind.i64.wrap n = n := IntWalk.i64_in n h
theorem PCalls.of_any {v : Value} (hv : v = (match us with | [u] => u | us => .tuple us.toArray)) (hu : ∀ u ∈ us, u.oneCell' = true)
 (h : ∀ (F : Nat → Nat → Prop) (w : World) (vals : List Value), vals.length = args.length → (∀ (i : Nat) v x, vals[i]? = some v → args[i]? = some x → DRep F w v x) → GlobOk F w → Calls P f vals.toArray w fun e w' => e = .returned v ∧ Below w.heap.size w w') : PCalls P f args (AD (us.map .val)) := by
 intro F w vals hl hr hg
 refine (h F w vals hl hr hg).mono ?_
 rintro e w' ⟨rfl, hb⟩
 refine ⟨_, V, ?_, hb⟩
 subst hv
 match us, hu with
 | [], _ => exact ⟨[], V, V, fun i y x hy => by simp at hy⟩
 | [u], hu => exact DRep.val u (hu u (by simp))
 | u :: u' :: us, hu =>
  refine ⟨u :: u' :: us, V, by simp, fun i y x hy hx => ?_⟩
  simp only [← List.map_cons, C6] at hx
  rw [hy] at hx
  cases hx
  exact DRep.val y (hu y (B7 hy))
theorem FK {F : Nat → Nat → Prop} {w : World} {vals : List Value} (hl : vals.length = (us.map DV.val).length) (hr : ∀ (i : Nat) v x, vals[i]? = some v → (us.map DV.val)[i]? = some x → DRep F w v x) : vals = us := by
 apply List.ext_getElem (by simpa using hl)
 intro i h1 h2
 have := hr i _ _ (A5 h1) (A5 (by simpa using h2))
 simp only [List.getElem_map] at this
 exact DRep.val_eq this
theorem GZ (hp : PCalls P f args (.d (dB true))) (w : World) (vals : List Value) (hl : vals.length = args.length) (hr : ∀ (i : Nat) v x, vals[i]? = some v → args[i]? = some x → DRep (fun _ _ => True) w v x) (hg : GlobOk (fun _ _ => True) w) :
 Calls P f vals.toArray w fun e w' => e = .returned (.bool true) ∧ Below w.heap.size w w' :=
 (hp (fun _ _ => True) w vals hl hr hg).mono fun e w' ⟨v, h1, h2, h3⟩ => by
  have : v = .bool true := DRep.val_eq h2
  subst this
  exact ⟨h1, h3⟩
open Go.ChangeShapes Go.WideShapes Go.ChangeAt Go.RowKit Go.Joins Px
theorem own : ownKnob Tryz.prog.godebug = none := by kernel_rfl
def pow10 : List Int := [1, 10, 100, 1000, 10000, 100000, 1000000, 10000000, 100000000, 1000000000, 10000000000, 100000000000, 1000000000000, 10000000000000, 100000000000000, 1000000000000000, 10000000000000000, 100000000000000000, 1000000000000000000, 10000000000000000000]
theorem gs_eq : gs = [(5, pow10.map fun n => DV.val (.int .u64 n))] := rfl
section
variable {H : Type} {enc : TypeId × Value → H}
theorem Jr {W : World} {cs : Array Value} {fuel : Nat} {x : DataW Unit × List MemPlace} {sp : Nat → Bool} {hd : Bool} (hv : W.var? Tryz.prog "internal/strconv.uint64pow10" = some cs) (hx : x.1 = .agg (pow10.map fun n => .lit (.int .u64 n)))
 (h : DataW.trod (fun _ => ()) Tryz.prog W 0 sp hd fuel 293 cs.toList = some x) : GlobOk (fun _ _ => True) W := by
 obtain ⟨xs, m, -, rfl, hl, hn, hel⟩ := DataW.trod_array Tryz.underlying293 h
 have hc : Tryz.prog.cellsOf 198 = 1 := by kernel_rfl
 have hc2 : Tryz.prog.cellsOf 293 = 20 := by kernel_rfl
 rw [hc2] at hl
 have hx : xs.map (·.1) = pow10.map fun n => (.lit (.int .u64 n) : DataW Unit) := DataW.agg.inj hx
 have hp : pow10.length = 20 := rfl
 have hcs : cs.toList = pow10.map fun n => Value.int .u64 n := by
  apply List.ext_getElem?
  intro r
  by_cases hr : r < 20
  · have hE := hel r hr
    rw [hc, Nat.mul_one, A5 (by omega)] at hE
    obtain ⟨z, e1, e2, -⟩ := DataW.trod_int Tryz.underlying198 hE
    have e4 : (xs.map (·.1))[r]? = (pow10.map fun n => (.lit (.int .u64 n) : DataW Unit))[r]? := by rw [hx]
    rw [C6, C6, A5 (by omega : r < xs.length), A5 (by omega : r < pow10.length), e2] at e4
    simp only [Option.map_some, Option.some.injEq, DataW.lit.injEq, Lit.int.injEq, true_and] at e4
    have h0 : ((cs.toList.drop r).take 1)[0]? = some (.int .u64 z) := by rw [e1]; rfl
    have h1 : cs.toList[r]? = some (.int .u64 z) := by simpa using h0
    rw [h1, C6, A5 (by omega : r < pow10.length), e4]
    rfl
  · rw [H9 (by omega), H9 (by simp [hp]; omega)]
 have hg : Tryz.prog.globalNamed "internal/strconv.uint64pow10" = some 5 := by kernel_rfl
 have hcell := World.var?_cell hg hv
 obtain ⟨T, z, hheap⟩ : ∃ T z, W.heap[5]? = some (.cells cs T z) := by
  simp only [World.var?, hg, Option.bind_some] at hv
  split at hv
  · rename_i a b c hh; cases hv; exact ⟨_, _, hh⟩
  · cases hv
 intro q ds hq
 rw [gs_eq] at hq
 simp only [G6] at hq
 cases hb : Nat.beq 5 q with
 | false => rw [hb] at hq; cases hq
 | true =>
  have e := G2 hb
  subst e
  rw [hb] at hq
  cases hq
  refine ⟨.ref (fun j => (pow10.map fun n => Value.int .u64 n)[j]?.getD default) (fun j hj => ?_) (fun j x hj => ?_), pow10.map fun n => Value.int .u64 n, by rw [List.map_map]; rfl, T, z, ?_⟩
  · rw [A7] at hj
    have e1 : (pow10.map fun n => Value.int .u64 n)[j]? = some (Value.int .u64 pow10[j]) := by rw [C6, A5 hj]; rfl
    refine ⟨?_, D4, ?_⟩
    · rw [F3, hcell j, ← Array.getElem?_toList, hcs, e1]; rfl
    · rw [e1]; rfl
  · rw [C6, C8] at hj
    obtain ⟨n, hn, rfl⟩ := hj
    have e1 : (pow10.map fun n => Value.int .u64 n)[j]? = some (Value.int .u64 n) := by rw [C6, hn]; rfl
    rw [e1]
    exact .val _ V
  · rw [hheap, ← hcs]
theorem laidOut : laidOutB Tryz.prog = true := by kernel_rfl
theorem CP {W W' : World} (hb : Below W.heap.size W W') : ∀ (ts : List TypeId) (vs : List Value) (ds : List (DataW H)) (ps : List MemPlace), (∀ t ∈ ts, Tryz.prog.readableRec t = true ∧ t < Tryz.prog.types.size) → (∀ x ∈ ps, x.block < W.heap.size) →
 DataW.TrodAll enc Tryz.prog W 0 (fun _ => true) true ts vs ds ps → DataW.TrodAll enc Tryz.prog W' 0 (fun b => decide (b < W.heap.size)) true ts vs ds ps
 | [], vs, ds, ps, _, _, h => by
  obtain ⟨rfl, rfl, rfl⟩ := trodAll_nil h
  exact trodAll_mk0
 | t :: ts, vs, ds, ps, ht, hlt, h => by
  obtain ⟨v, vs', d, ds', p, q, rfl, rfl, rfl, h1, h2⟩ := trodAll_cons h
  exact trodAll_cons_mk (Below.trod laidOut (ht t (by simp)).1 (ht t (by simp)).2 h1 hb fun x hx => hlt x (by simp [hx]))
   (CP hb ts vs' ds' q (fun t' ht' => ht t' (by simp [ht'])) (fun x hx => hlt x (by simp [hx])) h2)
theorem QG {f : Func} {s : ChangeSpec} {W W' : World} {args : Array Value} {ds : List (DataW H)} {before : List MemPlace} (hW : DataW.Whole enc Tryz.prog f.params.toList s.vars false W args.toList ds [] before) (hv : s.vars = [])
 (hres : f.resultTypes = #[4]) (hfn : s.fn H (ds ++ []) = { results := [.lit (.bool true)], args := ds }) (hread : ∀ t ∈ f.params.toList, Tryz.prog.readableRec t = true ∧ t < Tryz.prog.types.size) (hb : Below W.heap.size W W') :
 s.post enc Tryz.prog f false true false false W args (.bool true) W' := by
 have hW' := hW
 obtain ⟨p, q, hA, hV, rfl, hfz, hnd⟩ := hW
 rw [hv] at hV
 obtain ⟨-, rfl⟩ := trodVars_none hV
 have hlt : ∀ x ∈ p, x.block < W.heap.size := fun x hx => hW'.lt x (by simp [hx])
 refine ⟨ds, [], p ++ [], [], p, [], hW', ?_, ?_, ?_, hb.frame _, fun h => by cases h⟩
 · rw [hfn, hres]
   exact trodAll_mk1 (shut_bool Tryz.underlying4 _)
 · rw [hfn]
   exact CP hb _ _ _ _ hread hlt hA
 · rw [hfn, hv]
   rfl
end
end Go.Proofs.YtddfimjiihggmaaGreatDoor
namespace Go.Proofs.YtddfimjiihggmaaGreatDoor.Px
open Go.RowKit
variable {es : List (List DV)} {F : Nat → Nat → Prop} {vs : List Value} {w : World} {B : Nat} {w0 : Cx} {a : Act} {g : Gh} {v : Value}
theorem Rep.rebox {st : PS} {w' : World} (h : Rep B w0 g st a w) {i b b' T : Nat} (hlt : i < 500000) (hsm : ND i) (hbl : g.bl i = some b) (hb0 : Below 0 w w') (hne : ∀ k, k < w.heap.size → k ≠ b → w'.heap[k]? = w.heap[k]?) (hbb : b' = b ∨ w.heap.size ≤ b')
 (xs : Array Value) (hheap : w'.heap[b']? = some (.cells xs T (0, 0))) (vs : List Value) (hl : vs.length ≤ xs.size) (hx : ∀ (j : Nat) u, vs[j]? = some u → xs[j]? = some u ∧ u.oneCell' = true) :
 Rep B w0 (g.addb i b') ((st.kill i).bput i (vs.map fun u => .d (.val u))) a w' := by
 have hbs : b' < w'.heap.size := (D1.1 hheap).1
 have hothers : ∀ j c, j ≠ i → g.bl j = some c → c ≠ b' ∧ w'.heap[c]? = w.heap[c]? := fun j c hj hc => by
  have h1 : c ≠ b := fun e => hj (h.inj j i b (by rw [hc, e]) hbl)
  have h2 := (h.blk j c hc).2
  refine ⟨fun e => ?_, hne c h2 h1⟩
  rcases hbb with e2 | e2
  · exact h1 (e.trans e2)
  · omega
 have ev : Evo g w (g.addb i b') w' := by
  refine ⟨hb0, V, fun c o hf hs => ?_, fun c hc => ?_, fun j c hj => ?_, fun _ T h => .inl ⟨T, h, .inl V⟩, fun t T _ h h' => .inr (.inr ⟨t, T, h, h'⟩), fun j c hj hc hc' => ?_⟩
  · have hcl := U6 hs
    have hcb : c ≠ b := fun e => hf.2.1 i (by rw [hbl, e])
    refine ⟨⟨hf.1, fun j hj => ?_, hf.2.2⟩, K6 (hne c hcl hcb) o⟩
    simp only [Gh.addb] at hj
    split at hj
    · cases hj
      rcases hbb with e2 | e2
      · exact hcb e2
      · omega
    · exact hf.2.1 j hj
  · rcases D2 c w.heap.size with h1 | h1
    · exact hne c h1 fun e => hc (.inr (.inl ⟨i, e ▸ hbl⟩))
    · exact G7 (.inl h1) hc
  · simp only [Gh.addb] at hj
    split at hj
    · rename_i e
      cases hj
      refine .inr ⟨e ▸ hsm, ?_⟩
      rcases hbb with e2 | e2
      · exact .inr (.inl ⟨i, e2 ▸ hbl⟩)
      · exact .inl e2
    · exact .inl hj
  · have hji : j ≠ i := fun e => hj (e ▸ hsm)
    exact J3 (hothers j c hji hc).2
 have srep : ∀ v x, SRep g w v x → SRep (g.addb i b') w' v (x.kill i) := fun v x hx =>
  (hx.le (FV i x)).extp ev.fx (fun j hj c hc => by
   simp only [Gh.addb]
   rw [B9 (Bh hj).2]
   exact hc) (fun t' k' es e T' hT' => ⟨T', hT', .inl V⟩) fun j hj c hc => J3 (hothers j c (Bh hj).2 hc).2
 obtain ⟨-, hk⟩ := h.kill i
 have hxs : ∀ (j : Nat) c, (vs.map fun u => SV.d (.val u))[j]? = some c → ∃ x, xs[j]? = some x ∧ SRep (g.addb i b') w' x c := fun j c hj => by
  rw [C6, C8] at hj
  obtain ⟨u, hu, rfl⟩ := hj
  obtain ⟨h1, h2⟩ := hx j u hu
  exact ⟨u, h1, DRep.val u h2⟩
 refine { hk with evo := h.evo.trans ev, defers := h.defers.evo ev, base := E8 h.base hb0.size, f0 := h.f0, lim := hk.lim, size := hk.size, glob := fun q cs hq => srep _ (.rd cs) (h.glob q cs hq), slots := fun j => ?_, boxes := fun j cs' hj hj5 => ?_, maps := fun j ms hj hge => ?_, blk := fun j c hj => ?_, dom := fun j c hj => ?_, inj := fun j k c hj hk => ?_, toks := fun t' T' hT' => ?_, tf0 := h.tf0, telt := h.telt, tdis := h.tdis, tdom := h.tdom, tlen := h.tlen }
 · show SRep _ w' _ ((st.kill i).get j)
   rw [DH]
   exact srep _ _ (h.slots j)
 · rw [K1] at hj
   by_cases e : j = i
   · rw [C5 e] at hj
     cases hj
     refine ⟨b', xs, T, by simp [Gh.addb, e], hheap, by simpa using hl, hxs, fun q u hq hu => ?_⟩
     rw [A7] at hq
     have h1 := hx q _ (A5 hq)
     rw [h1.1] at hu
     cases hu
     exact h1.2
   · rw [B9 e] at hj
     rw [Q3, B9 e, C8] at hj
     obtain ⟨cs0, q1, rfl⟩ := hj
     obtain ⟨c, ys, T', q2, q3, q4, q5, q6⟩ := h.boxes j cs0 q1 hj5
     refine ⟨c, ys, T', by simp [Gh.addb, e, q2], (hothers j c e q2).2.trans q3, by simpa using q4, fun q c0 hq => ?_, fun q u hq hu => q6 q u (by simpa using hq) hu⟩
     rw [C6, C8] at hq
     obtain ⟨c1, q7, rfl⟩ := hq
     obtain ⟨x, q8, q9⟩ := q5 q c1 q7
     exact ⟨x, q8, srep _ _ q9⟩
 · have e : j ≠ i := by omega
   rw [K1, B9 e, Q3, B9 e, C8] at hj
   obtain ⟨cs0, q1, q2⟩ := hj
   have q3 := FU q2
   subst q3
   obtain ⟨c, es, c', q4, q5, q6⟩ := h.maps j ms q1 hge
   exact ⟨c, es, c', by simp [Gh.addb, e, q4], (hothers j c e q4).2.trans q5, q6.mono ev.fx⟩
 · simp only [Gh.addb] at hj
   split at hj
   · cases hj
     refine ⟨fun o => ?_, hbs⟩
     rcases hbb with e2 | e2
     · rw [e2]; exact (h.blk i b hbl).1 o
     · exact h.f0 _ o (E8 h.base e2)
   · exact ⟨(h.blk j c hj).1, I9 (h.blk j c hj).2 hb0.size⟩
 · rw [K1]
   simp only [Gh.addb] at hj
   split at hj
   · rename_i e; simp [e]
   · rename_i e
     rw [B9 e, Q3, B9 e]
     have := h.dom j c hj
     cases q : st.bget j with
     | none => exact G7 q this
     | some x => simp
 · simp only [Gh.addb] at hj hk
   split at hj <;> split at hk
   · omega
   · rename_i e1 e2; cases hj; exact G7 V (hothers k _ e2 hk).1
   · rename_i e1 e2; cases hk; exact G7 V (hothers j _ e1 hj).1
   · exact h.inj j k c hj hk
 · obtain ⟨⟨n, ys, h1⟩, h2⟩ := h.toks t' T' hT'
   have h3 : ∀ c, T'.v.ownBlock = some c → c ≠ b ∧ c < w.heap.size := fun c hc => ⟨fun e => h2 i b (e ▸ hc) hbl, (h1.lt c hc).2⟩
   refine ⟨⟨n, ys, L6 h1 fun c hc => hne c (h3 c hc).2 (h3 c hc).1⟩, fun j c hc hj => ?_⟩
   simp only [Gh.addb] at hj
   split at hj
   · cases hj
     have := h3 _ hc
     rcases hbb with e2 | e2
     · exact this.1 e2
     · omega
   · exact h2 j c hc hj
section
variable {P : Program} {ops : Array Oper} {K : PS → Prop} {rest : List Oper} {st : PS} {ty : TypeId} {pos : String} {af : Array Edge} {gd : Option (Nat × Bool)}
theorem Gr {k m : Nat} {news : List Value} (hes : N5 k m (vs.map .val) = es) (hvl : vs.length = m * k) (hnl : news.length = es.length * k)
 (h : ∀ (i j : Nat) e z, es[i]? = some e → e[j]? = some z → ∃ u, news[i * k + j]? = some u ∧ DRep F w u z) : news = vs := by
 have hm : es.length = m := by rw [← hes, R4]
 refine List.ext_getElem? fun j => ?_
 by_cases hj : j < m * k
 · have hk0 : 0 < k := by
    rcases G9 k with h0 | h0
    · rw [h0, Nat.mul_zero] at hj; omega
    · exact h0
   have hq : j / k < es.length := by rw [hm]; exact Nat.div_lt_of_lt_mul (by rw [Nat.mul_comm]; exact hj)
   have hr : j % k < k := Nat.mod_lt _ hk0
   have he := A5 hq
   have hlen : es[j / k].length = k := by
    have := CF k m (vs.map .val) (by simpa using hvl)
    exact this _ (by rw [hes]; exact List.getElem_mem hq)
   have hx := A5 (l := es[j / k]) (i := j % k) (by omega)
   obtain ⟨u, t1, t2⟩ := h _ _ _ _ he hx
   have t3 := (Aw k m (vs.map .val) (j / k) (j % k) es[j / k] _ (by rw [hes]; exact he) hx (by simpa using hvl)).1
   have e : j / k * k + j % k = j := by rw [Nat.mul_comm]; exact Nat.div_add_mod j k
   rw [e] at t1 t3
   rw [C6, C8] at t3
   obtain ⟨u', t4, t5⟩ := t3
   rw [← t5] at t2
   rw [t1, t4, DRep.val_eq t2]
 · rw [H9 (by rw [hnl, hm]; omega), H9 (by omega)]
theorem yTn {T E k bytes m e : Nat} {x y : Operand} [hA : AppOf P T E k bytes] (h0 : 0 < m) (_ : 0 < k) (hb : m * bytes ≤ 140737488351232) (hm : m ≤ 140737488351232) (hes : N5 k m (vs.map .val) = es) (hvl : vs.length = m * k) (hx : st.ev x = .d (.val (.slice none 0 0))) (hy : asSl (st.ev y) = some (k, es)) (hi : st.bget e = none)
 (h : YR P true ops K rest ((st.bput e (vs.map fun u => .d (.val u))).put (some e) (.bs e m E k))) (hd : I2 ⟨some e, .call { callee := .builtin .append, args := #[x, y], argTypes := #[T, T] }, ty, pos, af, gd⟩ st = true := by kernel_rfl) (hw : st.want ops ⟨some e, .call { callee := .builtin .append, args := #[x, y], argTypes := #[T, T] }, ty, pos, af, gd⟩ = some true := by rfl) :
 YR P true ops K (⟨some e, .call { callee := .builtin .append, args := #[x, y], argTypes := #[T, T] }, ty, pos, af, gd⟩ :: rest) st := by
 refine .any V fun B w0 Q hQ g a w hr => ?_
 have h1 := hr.eval x
 rw [hx] at h1
 have h1 := DRep.val_eq h1
 obtain ⟨A2, c2, news, hv2, hl2, hcell2, hone2, hrep2⟩ := Cj hr hy
 have hel : es.length = m := by rw [← hes, R4]
 obtain rfl := Gr hes hvl hl2 hrep2
 obtain ⟨ti, z, q1, q2, q3, q4, q5⟩ := hA.inf
 obtain ⟨v', w', r1, r2, r3, r4, r5, r6, r7⟩ := Bt (P := P) w w.heap.size T ty E ti z k bytes hA.und q1 q2 q3 q4 q5 (.slice none 0 0) 0 [] (World.ownsRow_nil _ _ _ _) A2 es.length c2 news hl2 (fun h0 => by
  obtain ⟨b, off, rfl, hcell⟩ := hcell2 h0
  exact ⟨_, V, fun j u hj => by rw [Addr.add_lit]; exact hcell j u hj⟩) hone2 (by unfold maxLen; omega) (by rw [hel, F3]; omega) (E3 _)
 rw [F3, List.nil_append, hel] at r2
 obtain ⟨hxl, (⟨-, q0⟩ | ⟨gb, cap, cur, rfl, t1, t2, t3, t4, t5, t6⟩)⟩ := r2
 · omega
 have hin : e < st.n := H6 hd e rfl
 have hcur : ∀ (j : Nat) (u : Value), news[j]? = some u → cur[j]? = some u ∧ u.oneCell' = true := fun j u hj => by
  refine ⟨?_, hone2 u (B7 hj)⟩
  rw [← t6] at hj
  have hj' : j < m * k := by have := (A6.1 hj).1; rw [E4] at this; omega
  rw [E7 hj'] at hj
  simpa using hj
 have hbel : Below w.heap.size w w' := ⟨r3.os, r3.tape, r3.output, r3.size, fun k hk => r4 k hk (by simp [Value.ownBlock])⟩
 obtain ⟨ev, hr'⟩ := hr.adopt e gb E hi hin hbel t1 cur t2 (news.map fun u => .d (.val u)) (by rw [A7, hvl, t5]; exact Nat.mul_le_mul_right _ t3) (fun _ j c hj => by
  rw [C6, C8] at hj
  obtain ⟨u, hu, rfl⟩ := hj
  exact ⟨u, (hcur j u hu).1, DRep.val u (hcur j u hu).2⟩) (fun j u hj hu => by
  rw [A7] at hj
  have := hcur j _ (A5 hj)
  rw [this.1] at hu
  cases hu
  exact this.2)
 have hrun : (execOp a.eval ⟨some e, .call { callee := .builtin .append, args := #[x, y], argTypes := #[T, T] }, ty, pos, af, gd⟩).run P w = .ok (.value (.slice (some ⟨gb, 0, none⟩) m cap)) w' := by
  simp only [execOp, resolve, invoke, builtin, Sem.run_bind, Sem.run_pure, D6, List.map_toArray, List.map_cons, List.map_nil, h1, hv2, r1]
 unfold wpList
 rw [C5 (M1 hr hw)]
 refine .inl ?_
 unfold Oper.wp
 rw [hrun]
 refine h.sound hQ (hr'.put (x := .bs e m E k) ⟨gb, cap, by simp [Gh.addb], rfl, t3, t4, by simp [World.shape?, t2, t5]⟩ _ ?_)
 intro j hj
 exact H6 (st := st) hd j hj
theorem Lc (hr : Rep B w0 g st a w) {i n E k : Nat} (hlt : i < 500000) (hv : SRep g w v (.bs i n E k)) (hi : st.bget i = some (vs.map fun u => .d (.val u))) (hn : vs.length = n * k) :
 ∃ b c xs, g.bl i = some b ∧ v = .slice (some ⟨b, 0, none⟩) n c ∧ n ≤ c ∧ c ≤ maxLen ∧ w.heap[b]? = some (.cells xs E (0, 0)) ∧ xs.size = c * k ∧ w.ownsRow 0 E k v n vs ∧ ∀ u ∈ vs, u.oneCell' = true := by
 obtain ⟨b, c, q1, q2, q3, q4, q5⟩ := hv
 obtain ⟨b', xs, T, q6, q7, q8, q9, q10⟩ := hr.boxes i _ hi hlt
 rw [q1] at q6
 cases q6
 have hsh : T = E ∧ xs.size = c * k := by
  simp only [World.shape?, q7, Option.some.injEq, Prod.mk.injEq] at q5
  exact q5
 obtain ⟨rfl, hsz⟩ := hsh
 rw [A7] at q8 q10
 have hxv : ∀ (j : Nat) u, vs[j]? = some u → xs[j]? = some u ∧ u.oneCell' = true := fun j u hj => by
  obtain ⟨u', t1, t2⟩ := q9 j (.d (.val u)) (by rw [C6, hj]; rfl)
  have t3 := DRep.val_eq t2
  subst t3
  exact ⟨t1, q10 j u' (A6.1 hj).1 t1⟩
 have hone : ∀ u ∈ vs, u.oneCell' = true := fun u hu => by
  obtain ⟨j, hj⟩ := List.mem_iff_getElem?.1 hu
  exact (hxv j u hj).2
 refine ⟨b, c, xs, q1, q2, q3, q4, q7, hsz, ?_, hone⟩
 rw [q2]
 refine ⟨hn, .inr ⟨b, c, xs, V, D9 _, q7, q3, q4, hsz, ?_⟩⟩
 refine List.ext_getElem? fun j => ?_
 by_cases hj : j < n * k
 · rw [E7 hj]
   have hjv := A5 (l := vs) (i := j) (by omega)
   rw [hjv]
   simpa using (hxv j _ hjv).1
 · rw [H9 (by simp; omega), H9 (by omega)]
theorem KR {T E k bytes n m i e : Nat} {x y : Operand} {us : List Value} [hA : AppOf P T E k bytes] (h0 : 0 < m) (hb : (n + m) * bytes ≤ 140737488351232) (hm : n + m ≤ 140737488351232) (hes : N5 k m (vs.map .val) = es) (hvl : vs.length = m * k) (hul : us.length = n * k) (hx : st.ev x = .bs i n E k) (hi : st.bget i = some (us.map fun u => .d (.val u))) (hy : asSl (st.ev y) = some (k, es))
 (h : YR P true ops K rest (((st.kill i).bput i ((us ++ vs).map fun u => .d (.val u))).put (some e) (.bs i (n + m) E k))) (hd : I2 ⟨some e, .call { callee := .builtin .append, args := #[x, y], argTypes := #[T, T] }, ty, pos, af, gd⟩ st = true := by kernel_rfl) (hw : st.want ops ⟨some e, .call { callee := .builtin .append, args := #[x, y], argTypes := #[T, T] }, ty, pos, af, gd⟩ = some true := by rfl) (hlt : Nat.blt i 500000 = true := by rfl) (hsm : Nat.blt (i % 500000) 10000 = true := by rfl) :
 YR P true ops K (⟨some e, .call { callee := .builtin .append, args := #[x, y], argTypes := #[T, T] }, ty, pos, af, gd⟩ :: rest) st := by
 have hlt5 : i < 500000 := C0 hlt
 have hsm5 : ND i := C0 hsm
 clear hlt hsm
 refine .any V fun B w0 Q hQ g a w hr => ?_
 have h1 := hr.eval x
 rw [hx] at h1
 obtain ⟨b, c, xs, p1, p2, p3, p4, p5, p6, p7, p8⟩ := Lc hr hlt5 h1 hi hul
 obtain ⟨A2, c2, news, hv2, hl2, hcell2, hone2, hrep2⟩ := Cj hr hy
 have hel : es.length = m := by rw [← hes, R4]
 obtain rfl := Gr hes hvl hl2 hrep2
 obtain ⟨ti, z, q1, q2, q3, q4, q5⟩ := hA.inf
 obtain ⟨v', w', r1, r2, r3, r4, r5, r6, r7⟩ := Bt (P := P) w 0 T ty E ti z k bytes hA.und q1 q2 q3 q4 q5 (a.eval x) n us p7 A2 es.length c2 news hl2 (fun h0 => by
  obtain ⟨b, off, rfl, hcell⟩ := hcell2 h0
  exact ⟨_, V, fun j u hj => by rw [Addr.add_lit]; exact hcell j u hj⟩) hone2 (by unfold maxLen; omega) (by rw [hel]; omega) (D9 _)
 rw [hel] at r2
 obtain ⟨hxl, (⟨-, q0⟩ | ⟨gb, cap, cur, rfl, t1, t2, t3, t4, t5, t6⟩)⟩ := r2
 · omega
 have hob : (a.eval x).ownBlock = some b := by rw [p2]; rfl
 have hbb : gb = b ∨ w.heap.size ≤ gb := by
  rcases r6 with r6 | r6
  · rw [hob] at r6; exact .inl (by simpa [Value.ownBlock] using r6)
  · exact .inr (by have : gb = w.heap.size := by simpa [Value.ownBlock] using r6
                   omega)
 have hcur : ∀ (j : Nat) (u : Value), (us ++ news)[j]? = some u → cur[j]? = some u ∧ u.oneCell' = true := fun j u hj => by
  refine ⟨?_, ?_⟩
  · rw [← t6] at hj
    have hj' : j < (n + m) * k := by have := (A6.1 hj).1; rw [E4] at this; omega
    rw [E7 hj'] at hj
    simpa using hj
  · rcases List.mem_append.1 (B7 hj) with q | q
    · exact p8 u q
    · exact hone2 u q
 have hr' := hr.rebox hlt5 hsm5 p1 r3 (fun k hk hne => r4 k hk (by rw [hob]; exact fun e => hne (J2 e).symm)) hbb cur t2 (us ++ news) (by rw [hxl, t5]; exact Nat.mul_le_mul_right _ t3) hcur
 have hrun : (execOp a.eval ⟨some e, .call { callee := .builtin .append, args := #[x, y], argTypes := #[T, T] }, ty, pos, af, gd⟩).run P w = .ok (.value (.slice (some ⟨gb, 0, none⟩) (n + m) cap)) w' := by
  simp only [execOp, resolve, invoke, builtin, Sem.run_bind, Sem.run_pure, D6, List.map_toArray, List.map_cons, List.map_nil, hv2, r1]
 unfold wpList
 rw [C5 (M1 hr hw)]
 refine .inl ?_
 unfold Oper.wp
 rw [hrun]
 refine h.sound hQ (hr'.put (x := .bs i (n + m) E k) ⟨gb, cap, by simp [Gh.addb], rfl, t3, t4, by simp [World.shape?, t2, t5]⟩ _ ?_)
 intro j hj
 exact H6 (st := st) hd j hj
end
def Rcl (k : Nat) (es : List (List DV)) (F : Nat → Nat → Prop) (w : World) (v : Value) : Prop := DRep F w v (.sl k es) ∧ ∃ A, v = .slice A es.length es.length
theorem Rcl.mono {k : Nat} (F F' : Nat → Nat → Prop) (w w' : World) (v : Value) (h : Rcl k es F w v) (hk : Kp F w F' w') : Rcl k es F' w' v := ⟨h.1.mono hk, h.2⟩
theorem DRep.cap {A A' : Option Addr} {n c c' k : Nat} (h : DRep F w (.slice A n c) (.sl k es)) (hc : n ≤ c') (hA : 0 < n → A' = A) : DRep F w (.slice A' n c') (.sl k es) := by
 obtain ⟨A0, c0, news, hv, h1, h2, h3, h4, h5, h6, h7⟩ := DRep.row h
 obtain ⟨e1, e2, e3⟩ := Value.slice.inj hv
 subst e1 e2 e3
 exact DRep.of_row (xs := news) hc h2 h3 (fun h0 => by rw [hA h0]; exact h5 h0) h6 h7
theorem add_zero (k : Nat) (A : Option Addr) : A.map (·.add (0 * k)) = A := by
 cases A with
 | none => rfl
 | some a => simp [Addr.add]
section
variable {P : Program} {sq : Bool} {ops : Array Oper} {K : PS → Prop} {rest : List Oper} {st : PS} {d : Option Nat} {op : Op} {ty : TypeId} {pos : String} {af : Array Edge} {gd : Option (Nat × Bool)} {q : Nat × Bool}
end
section
variable {P : Program} {ops : Array Oper} {K : PS → Prop} {rest : List Oper} {st : PS} {ty : TypeId} {pos : String} {af : Array Edge} {gd : Option (Nat × Bool)}
variable {Q : Exit → PS → Prop} {c : Code}
end
section
variable {P : Program} {sq : Bool} {ops : Array Oper} {K : PS → Prop} {rest : List Oper} {st : PS} {d : Option Nat} {ty : TypeId} {pos : String} {af : Array Edge} {gd : Option (Nat × Bool)}
end
section
variable {P : Program} {sq : Bool} {ops : Array Oper} {K : PS → Prop} {rest : List Oper} {st : PS} {d : Option Nat} {op : Op} {ty : TypeId} {pos : String} {af : Array Edge} {gd : Option (Nat × Bool)} {q : Nat × Bool}
theorem DRep.fresh {w' : World} (h : Rep B w0 g st a w) (hb : Below w.heap.size w w') {E k n : Nat} {xs : List Value} (hown : w'.ownsRow w.heap.size E k v n xs) (hn : es.length = n) (h0 : 0 < n) (hm : n ≤ 9223372036854775807) (hk : ∀ e ∈ es, e.length = k) (h1 : ∀ u ∈ xs, u.oneCell' = true)
 (hrep : ∀ (i j : Nat) e x, es[i]? = some e → e[j]? = some x → ∃ u, xs[i * k + j]? = some u ∧ DRep (Fx g) w u x) : DRep (Fx g) w' v (.sl k es) := by
 subst hn
 have e0 := (Ext.grow h hb).fx
 obtain ⟨A, c, h2, h3, h4⟩ := S5 hown
 rcases hown.2 with ⟨e6, e7⟩ | ⟨gb, cap, cur, e6, e7, e8, -⟩
 · rw [e6] at h2
   have := (Value.slice.inj h2).2.1
   omega
 · have e9 : A = some ⟨gb, 0, none⟩ := (Value.slice.inj (h2.symm.trans e6)).1
   rw [h2]
   refine DRep.of_row (xs := xs) h3 hm hk (fun _ => ⟨gb, 0, e9, fun j u hj => ⟨?_, ?_⟩⟩) h1 fun i j e x he hx => ?_
   · rw [F3]; exact Y0 hown (by rw [e6]; rfl) j u hj
   · refine ⟨h.f0 _ _ (E8 h.base e7), fun i' hi' => ?_, fun t T n' c' hT hv => ?_⟩
     · have := (h.blk i' _ hi').2; omega
     · obtain ⟨⟨n'', ys, h8⟩, -⟩ := h.toks t T hT
       have := (h8.lt gb (by rw [hv]; rfl)).2
       omega
   · obtain ⟨u, h8, h9⟩ := hrep i j e x he hx
     exact ⟨u, h8, h9.mono e0⟩
end
end Go.Proofs.YtddfimjiihggmaaGreatDoor.Px
namespace Go.Proofs.YtddfimjiihggmaaGreatDoor
open Go.RowKit Px
variable {kd : IntKind}
section
variable {P : Program} {sq : Bool} {ops : Array Oper} {K : PS → Prop} {rest : List Oper} {st : PS} {d : Option Nat} {ty : TypeId} {pos : String} {af : Array Edge} {gd : Option (Nat × Bool)}
theorem IJ (T : TypeId) (x y : Operand) {E k : Nat} [hS : SliceOf P T E k] (hx : st.ev x = .d (.val (.slice none 0 0))) (hy : st.ev y = .d (.val (.int kd 0))) (hd : I2 ⟨d, .slice T x none (some y) none, ty, pos, af, gd⟩ st = true) :
 L4 P ⟨d, .slice T x none (some y) none, ty, pos, af, gd⟩ st (.d (.val (.slice none 0 0))) .no := fun st2 ha =>
 OpS.value (ha.dst hd) fun _ _ g a w h => by
  have h1 := h.eval x
  rw [ha.ev x (by simp [Op.operands]), hx] at h1
  have h2 := h.eval y
  rw [ha.ev y (by simp [Op.operands]), hy] at h2
  refine ⟨.slice none 0 0, w, ?_, Below.refl _ _, DRep.val _ V⟩
  simp [execOp, Instr.sliceAt, Instr.slice, Instr.sliceBounds, Instr.sliceBound, DRep.val_eq h1, DRep.val_eq h2, asIntOf, hS.und, hS.size]
theorem LD (T : TypeId) (x : Operand) {E k : Nat} [hS : SliceOf P T E k] (hx : st.ev x = .d (.val (.slice none 0 0))) (hd : I2 ⟨d, .call { callee := .builtin .len, args := #[x], argTypes := #[T] }, ty, pos, af, gd⟩ st = true) :
 L4 P ⟨d, .call { callee := .builtin .len, args := #[x], argTypes := #[T] }, ty, pos, af, gd⟩ st (.d (.val (.int .i64 0))) .no := fun st2 ha =>
 OpS.value (ha.dst hd) fun _ _ g a w h => by
  have h1 := h.eval x
  rw [ha.ev x (by simp [Op.operands, Call.operands]), hx] at h1
  refine ⟨.int .i64 0, w, ?_, Below.refl _ _, DRep.val _ V⟩
  simp [execOp, resolve, invoke, builtin, Builtin.len_, DRep.val_eq h1, hS.und, goInt]
theorem ySz {T E k : Nat} {x y : Operand} [SliceOf P T E k] (hx : st.ev x = .d (.val (.slice none 0 0))) (hy : st.ev y = .d (.val (.int kd 0))) (h : YR P sq ops K rest (st.put d (.d (.val (.slice none 0 0))))) (zz : zk ops st ⟨d, .slice T x none (some y) none, ty, pos, af, gd⟩ .no = true := by kernel_rfl) :
 YR P sq ops K (⟨d, .slice T x none (some y) none, ty, pos, af, gd⟩ :: rest) st := L0 (IJ T x y hx hy (zd zz)) (zo zz) (zw zz) h
theorem yNl {T E k : Nat} {x : Operand} [SliceOf P T E k] (hx : st.ev x = .d (.val (.slice none 0 0))) (h : YR P sq ops K rest (st.put d (.d (.val (.int .i64 0))))) (zz : zk ops st ⟨d, .call { callee := .builtin .len, args := #[x], argTypes := #[T] }, ty, pos, af, gd⟩ .no = true := by kernel_rfl) :
 YR P sq ops K (⟨d, .call { callee := .builtin .len, args := #[x], argTypes := #[T] }, ty, pos, af, gd⟩ :: rest) st := L0 (LD T x hx (zd zz)) (zo zz) (zw zz) h
end
section
variable {P : Program} {ops : Array Oper} {K : PS → Prop} {rest : List Oper} {st : PS} {ty : TypeId} {pos : String} {af : Array Edge} {gd : Option (Nat × Bool)}
variable {B : Nat} {w0 : Cx} {Q : Exit → PS → Prop} {c : Code}
end
end Go.Proofs.YtddfimjiihggmaaGreatDoor
namespace Go.Proofs.YtddfimjiihggmaaGreatDoor.Px
open Go.RowKit Go.ChangeShapes
inductive CK where
 | i (k : IntKind)
 | s
 | b
def CK.is : CK → Value → Bool
 | .i k, .int k' _ => decide (k' = k)
 | .s, .string _ => true
 | .b, .bool _ => true
 | _, _ => false
def CK.ty (P : Program) (c : CK) (t : TypeId) : Bool := match c, P.underlying t with
 | .i k, some (.int k') => decide (k = k')
 | .s, some .string => true
 | .b, some .bool => true
 | _, _ => false
def fits : List CK → List Value → Bool
 | [], [] => true
 | c :: cs, x :: xs => c.is x && fits cs xs
 | _, _ => false
section
variable {P : Program} (w : World)
theorem CK.plain {c : CK} {t : TypeId} (h : c.ty P t = true) : P.plainKey t = true := by
 unfold CK.ty at h
 unfold Program.plainKey
 cases e : P.underlying t with
 | none => rw [e] at h; cases c <;> simp at h
 | some d => rw [e] at h; cases c <;> cases d <;> simp at h ⊢
end
section
variable {P : Program} {sq : Bool} {ops : Array Oper} {K : PS → Prop} {rest : List Oper} {st : PS} {d : Option Nat} {ty : TypeId} {pos : String} {af : Array Edge} {gd : Option (Nat × Bool)}
end
end Go.Proofs.YtddfimjiihggmaaGreatDoor.Px
namespace Go.Proofs.YtddfimjiihggmaaGreatDoor
open Go.Lib
variable {c : UInt8}
def X2 (c : UInt8) : G0 → Option (G0 × G0)
 | [] => none
 | b :: l => if b = c then some ([], l) else (X2 c l).map fun p => (b :: p.1, p.2)
theorem DS {s : G0} {p : G0 × G0} (h : X2 c s = some p) : s = p.1 ++ c :: p.2 := by
 induction s generalizing p with
 | nil => cases h
 | cons b l ih =>
  rw [X2] at h
  split at h
  · rename_i e; cases h; rw [e]; rfl
  · rw [C8] at h
    obtain ⟨q, h1, rfl⟩ := h
    rw [ih h1]; rfl
theorem BM (c : UInt8) (s : G0) : indexByte s c = match X2 c s with | none => -1 | some p => (p.1.length : Int) := by
 induction s with
 | nil => rfl
 | cons b l ih =>
  rw [X2, indexByte]
  by_cases h : b = c
  · rw [C5 (by simpa using h), C5 h]; rfl
  · rw [B9 (by simpa using h), B9 h, ih]
    cases X2 c l with
    | none => rfl
    | some p =>
     show (if ((p.1.length : Int) == -1) = true then (-1 : Int) else (p.1.length : Int) + 1) = ((b :: p.1).length : Int)
     rw [B9 (by simp)]
     rfl
def V5 (c : UInt8) (s : G0) : G0 := match X2 c s with | none => s | some p => p.1
def Q7 (c : UInt8) (s : G0) : G0 := match X2 c s with | none => [] | some p => p.2
def CE (c : UInt8) (s : G0) : Bool := (X2 c s).isSome
theorem S3 (c : UInt8) (s : G0) : (V5 c s).length ≤ s.length ∧ (Q7 c s).length ≤ s.length ∧ (CE c s = true → (Q7 c s).length < s.length) := by
 unfold V5 Q7 CE
 cases h : X2 c s with
 | none => simp
 | some p =>
  have := C7 List.length (DS h)
  simp at this
  simp
  omega
def Q5 (c : UInt8) : G0 → List G0
 | [] => [[]]
 | b :: l => if b = c then [] :: Q5 c l else match Q5 c l with
  | [] => [[b]]
  | h :: t => (b :: h) :: t
theorem PD (c : UInt8) (s : G0) : Q5 c s ≠ [] := by
 cases s with
 | nil => simp [Q5]
 | cons b l =>
  rw [Q5]
  split
  · simp
  · split <;> simp
theorem Cq (c : UInt8) (s : G0) : Q5 c s = match X2 c s with | none => [s] | some p => p.1 :: Q5 c p.2 := by
 induction s with
 | nil => rfl
 | cons b l ih =>
  rw [Q5, X2]
  by_cases h : b = c
  · rw [C5 h, C5 h]
  · rw [B9 h, B9 h]
    cases e : X2 c l with
    | none => rw [e] at ih; rw [ih]; rfl
    | some p => rw [e] at ih; rw [ih]; rfl
theorem Qh {a b : G0} (h : c ∉ a) : X2 c (a ++ c :: b) = some (a, b) := by
 induction a with
 | nil => simp [X2]
 | cons x a ih =>
  simp only [List.mem_cons, not_or] at h
  rw [List.cons_append, X2, B9 (Ne.symm h.1), ih h.2]
  rfl
theorem EV {a : G0} : X2 c a = none ↔ c ∉ a := by
 induction a with
 | nil => simp [X2]
 | cons x a ih =>
  rw [X2]
  by_cases h : x = c
  · rw [C5 h]; simp [h]
  · rw [B9 h, Option.map_eq_none_iff, ih]; simp [Ne.symm h]
theorem LY {s : G0} {p : G0 × G0} (h : X2 c s = some p) : c ∉ p.1 := by
 induction s generalizing p with
 | nil => cases h
 | cons b l ih =>
  rw [X2] at h
  split at h
  · cases h; simp
  · rename_i hb
    rw [C8] at h
    obtain ⟨q, h1, rfl⟩ := h
    simp [ih h1, Ne.symm hb]
theorem spl_app {a b : G0} (h : c ∉ a) : Q5 c (a ++ c :: b) = a :: Q5 c b := by
 rw [Cq, Qh h]
theorem Lz {a : G0} (h : c ∉ a) : Q5 c a = [a] := by
 rw [Cq, EV.2 h]
theorem W7 (c : UInt8) (s : G0) : (Q5 c s).length ≤ s.length + 1 := by
 induction s with
 | nil => simp [Q5]
 | cons b l ih =>
  rw [Q5]
  split
  · simpa using ih
  · split
    · simp
    · rename_i e; rw [e] at ih; simp at ih ⊢; omega
theorem FM (c : UInt8) (s : G0) : ∀ t ∈ Q5 c s, t.length ≤ s.length := by
 induction s with
 | nil => intro t ht; simp [Q5] at ht; subst ht; simp
 | cons b l ih =>
  intro t ht
  rw [Q5] at ht
  split at ht
  · rcases List.mem_cons.1 ht with rfl | ht
    · simp
    · have := ih t ht; simp; omega
  · split at ht
    · rename_i e; exact G7 e (PD c l)
    · rename_i h t' e
      rcases List.mem_cons.1 ht with rfl | ht
      · have := ih h (by rw [e]; simp); simp; omega
      · have := ih t (by rw [e]; simp [ht]); simp; omega
theorem Fi (c : UInt8) : ∀ (k : Nat) (s : G0), s.count c = k → splitK [c] 0 k s = Q5 c s
 | 0, s, h => by
  have hn : c ∉ s := by rwa [List.count_eq_zero] at h
  rw [splitK, Lz hn]
 | k + 1, s, h => by
  rw [splitK, index_one, BM, Cq]
  cases e : X2 c s with
  | none =>
   have := EV.1 e
   rw [← List.count_eq_zero] at this
   omega
  | some p =>
   have he := DS e
   have hn := LY e
   have h2 : p.2.count c = k := by
    rw [he, List.count_append, List.count_cons_self, List.count_eq_zero.2 hn] at h
    omega
   simp only
   rw [B9 (by simp), H5]
   have h3 : s.take (p.1.length + 0) = p.1 := by conv => lhs; rw [he]; simp
   have h4 : s.drop (p.1.length + [c].length) = p.2 := by conv => lhs; rw [he]; simp
   rw [h3, h4, Fi c k p.2 h2]
abbrev OM := Int × G0 × List G0 × G0
def kndL : List OM := [(1, [100, 101, 112, 111, 115, 105, 116], [[97, 109, 111, 117, 110, 116]], []),
 (2, [119, 105, 116, 104, 100, 114, 97, 119], [[97, 109, 111, 117, 110, 116]], []),
 (3, [98, 117, 121], [[97, 109, 111, 117, 110, 116], [102, 101, 101]], [42]),
 (4, [115, 101, 108, 108], [[112, 114, 111, 99, 101, 101, 100, 115], [99, 111, 115, 116], [108, 111, 110, 103, 112, 114, 111, 99, 101, 101, 100, 115], [108, 111, 110, 103, 99, 111, 115, 116]], [42]),
 (5, [100, 101, 102, 101, 114], [[97, 109, 111, 117, 110, 116]], [42]),
 (6, [105, 110, 99, 111, 109, 101], [[97, 109, 111, 117, 110, 116]], [42]),
 (7, [101, 120, 112, 101, 110, 115, 101], [[97, 109, 111, 117, 110, 116]], []),
 (8, [112, 97, 105, 100], [[97, 109, 111, 117, 110, 116]], []),
 (9, [103, 111, 116], [[97, 109, 111, 117, 110, 116]], []),
 (10, [115, 112, 108, 105, 116], [[99, 97, 115, 104], [99, 111, 115, 116]], [42]),
 (11, [115, 112, 105, 110, 111, 102, 102], [[99, 97, 115, 104], [99, 111, 115, 116], [109, 111, 118, 101, 100]], [42, 43]),
 (12, [101, 120, 99, 104, 97, 110, 103, 101], [[99, 97, 115, 104], [99, 111, 115, 116], [98, 97, 115, 105, 115]], [42, 43]),
 (13, [101, 120, 101, 114, 99, 105, 115, 101], [[112, 97, 105, 100], [109, 111, 118, 101, 100]], [42, 43]),
 (14, [99, 97, 112, 105, 116, 97, 108], [[99, 97, 115, 104], [99, 111, 115, 116]], [42]),
 (15, [105, 115, 115, 117, 101], [[97, 109, 111, 117, 110, 116]], []),
 (16, [99, 97, 110, 99, 101, 108], [[97, 109, 111, 117, 110, 116]], []),
 (17, [97, 99, 99, 114, 117, 101], [[97, 109, 111, 117, 110, 116]], [42]),
 (18, [97, 109, 111, 114, 116, 105, 122, 101], [[97, 109, 111, 117, 110, 116]], [42]),
 (19, [114, 101, 118, 97, 108, 117, 101], [[97, 109, 111, 117, 110, 116]], [42])]
def W0 (n : Int) : Option OM := kndL.find? fun k => k.1 == n
def LI (w : G0) : Option OM := kndL.find? fun k => k.2.1 == w
theorem Nn {w : G0} {k : OM} (h : LI w = some k) : k ∈ kndL ∧ k.2.1 = w := by
 refine ⟨List.mem_of_find?_eq_some h, ?_⟩
 have := List.find?_some h
 simpa using this
theorem QI {k : OM} (hk : k ∈ kndL) : LI k.2.1 = some k := by
 have : (kndL.all fun k => LI k.2.1 == some k) = true := by decide
 simpa using E5.1 this k hk
theorem DG {k : OM} (hk : k ∈ kndL) : W0 k.1 = some k := by
 have : (kndL.all fun k => W0 k.1 == some k) = true := by decide
 simpa using E5.1 this k hk
theorem T9 {n : Int} {k : OM} (h : W0 n = some k) : k ∈ kndL ∧ k.1 = n := by
 refine ⟨List.mem_of_find?_eq_some h, ?_⟩
 have := List.find?_some h
 simpa using this
theorem Nm {k : OM} (hk : k ∈ kndL) : 32 ∉ k.2.1 ∧ 10 ∉ k.2.1 ∧ k.2.1 ≠ [] := by
 have : ∀ k ∈ kndL, 32 ∉ k.2.1 ∧ 10 ∉ k.2.1 ∧ k.2.1 ≠ [] := by decide
 exact this k hk
def PF : G0 := [111, 110]
def AC : G0 := [100, 101, 98, 105, 116]
def U7 : G0 := [99, 114, 101, 100, 105, 116]
section
variable {X : Type}
abbrev RLn (X : Type) := G0 × Bool × X
abbrev Lj (X : Type) := Int × List (RLn X)
variable (tp : G0 → Bool) (pe : G0 → Option X)
def Qy (l : RLn X) : List (Lj X) → List (Lj X)
 | [] => []
 | [r] => [(r.1, r.2 ++ [l])]
 | r :: s :: t => r :: Qy l (s :: t)
theorem Hg (l : RLn X) (o : List (Lj X)) (r : Lj X) : Qy l (o ++ [r]) = o ++ [(r.1, r.2 ++ [l])] := by
 induction o with
 | nil => rfl
 | cons a o ih =>
  cases o with
  | nil => rfl
  | cons b o => simp only [List.cons_append] at ih ⊢; rw [Qy, ih]
def Gv (out : List (Lj X)) (s : G0) : Option (List (Lj X)) :=
 if V5 32 s = PF then (LI (Q7 32 s)).map fun k => out ++ [(k.1, [])]
 else if V5 32 s = AC ∨ V5 32 s = U7 then
  if CE 32 (Q7 32 s) && tp (V5 32 (Q7 32 s)) && !out.isEmpty then (pe (Q7 32 (Q7 32 s))).map fun e => Qy (V5 32 (Q7 32 s), decide (V5 32 s = U7), e) out else none
 else none
def JQ (f : List (Lj X) → G0 → Option (List (Lj X))) : Nat → List (Lj X) → List G0 → List (Lj X) × Option Nat
 | _, out, [] => (out, none)
 | i, out, [s] => if s = [] then (out, none) else ([], some (i + 1))
 | i, out, s :: s' :: l => match f out s with
  | none => ([], some (i + 1))
  | some o => JQ f (i + 1) o (s' :: l)
def EJ (s : G0) : List (Lj X) × Int × Int :=
 if 65536 < s.length then ([], 0, 4)
 else match JQ (Gv tp pe) 0 [] (Q5 10 s) with
  | (_, some i) => ([], i, 3)
  | (out, none) => if 64 < out.length ∨ (out.any fun r => decide (64 < r.2.length)) = true then ([], 0, 4) else (out, 0, 0)
theorem NH (f : List (Lj X) → G0 → Option (List (Lj X))) (i : Nat) (o : List (Lj X)) (s s' : G0) (l : List G0) : JQ f i o (s :: s' :: l) = match f o s with | none => ([], some (i + 1)) | some o => JQ f (i + 1) o (s' :: l) := rfl
end
section
variable {X : Type} (tp : G0 → Bool) (pe : G0 → Option X) (pr : X → G0) (nm : X → X)
def Ek (n : Int) : G0 := (W0 n).elim [] fun k => k.2.1
variable {tp pe pr nm}
end
end Go.Proofs.YtddfimjiihggmaaGreatDoor
namespace Go.Proofs.YtddfimjiihggmaaGreatDoor.Px
open Go.RowKit
variable {l : List (List UInt8 × DV)} {listed : List Bool} {i fuel T : Nat} {w : World} {o : Oper} {a : Act}
theorem wp_q {P : Program} {K K' : Act → World → Prop} {Q Q' : Exit → Act → World → Prop} (h : ∀ a w, K a w → K' a w) (hq : ∀ e a w, e ≠ .normal → Q e a w → Q' e a w) (hh : o.wp P a w K Q) : o.wp P a w K' Q' := by
 have hl : LetsOut Q → LetsOut Q' := fun ⟨a, w, h⟩ => ⟨a, w, hq _ _ _ (by simp) h⟩
 unfold Oper.wp at *
 generalize (execOp a.eval o).run P w = r at *
 cases r with
 | ok n w' =>
  cases n <;> simp only [Oper.upon] at hh ⊢ <;>
   first
    | exact h _ _ hh
    | exact Calls.mono hh (fun e w'' he => by cases e <;> first | exact h _ _ he | exact hl he | exact hq _ _ _ (by simp) he)
    | exact Rows.mono hh (fun _ _ he => h _ _ he)
 | halt x w' => cases x <;> simp only [Oper.upon] at hh ⊢ <;> first | exact hq _ _ _ (by simp) hh | exact hh
def allR : List Nat → (Nat → Prop) → Prop
 | [], _ => True
 | i :: l, p => p i ∧ allR l p
theorem KL {l : List Nat} {p : Nat → Prop} (h : allR l p) (hi : i ∈ l) : p i := by
 induction l with
 | nil => cases hi
 | cons j l ih =>
  rcases List.mem_cons.1 hi with rfl | hi
  · exact h.1
  · exact ih h.2 hi
def gt (dflt : Bool) : List Bool → Nat → Bool
 | [], _ => dflt
 | b :: _, 0 => b
 | _ :: l, n + 1 => gt dflt l n
theorem MX (dflt : Bool) (l : List Bool) (n : Nat) : l.toArray.getD n dflt = gt dflt l n := by
 induction l generalizing n with
 | nil => simp [gt, Array.getD]
 | cons b l ih =>
  cases n with
  | zero => simp [gt, Array.getD]
  | succ n => simpa [gt, Array.getD] using ih n
def NK (listed : List Bool) : Nat → List Oper → List Nat
 | _, [] => []
 | k, o :: l => bif !(gt true listed k) && o.after.toList.all (fun e => !Region.binds .any e || gt false listed e.on) then k :: NK listed (k + 1) l else NK listed (k + 1) l
theorem mem_rdy {l : List Oper} {k j : Nat} : j ∈ NK listed k l ↔ k ≤ j ∧ gt true listed j = false ∧ ∃ o, l[j - k]? = some o ∧ ∀ e ∈ o.after, Region.binds .any e = true → gt false listed e.on = true := by
 induction l generalizing k with
 | nil => simp [NK]
 | cons o l ih =>
  have hc : (!(gt true listed k) && o.after.toList.all (fun e => !Region.binds .any e || gt false listed e.on)) = true ↔ gt true listed k = false ∧ ∀ e ∈ o.after, Region.binds .any e = true → gt false listed e.on = true := by
   rw [D3, Bool.not_eq_true', E5]
   refine and_congr Iff.rfl ⟨fun h e he hb => ?_, fun h e he => ?_⟩
   · have := h e (Array.mem_toList_iff.2 he)
     rw [hb] at this
     simpa using this
   · have := h e (Array.mem_toList_iff.1 he)
     cases hb : Region.binds .any e with
     | false => rfl
     | true => rw [this hb]; rfl
  unfold NK
  have tail : (j ∈ NK listed (k + 1) l) ↔ k + 1 ≤ j ∧ gt true listed j = false ∧ ∃ o', (o :: l)[j - k]? = some o' ∧ ∀ e ∈ o'.after, Region.binds .any e = true → gt false listed e.on = true := by
   rw [ih]
   refine and_congr_right fun h => ?_
   rw [show j - k = (j - (k + 1)) + 1 by omega, List.getElem?_cons_succ]
  cases hb : (!(gt true listed k) && o.after.toList.all (fun e => !Region.binds .any e || gt false listed e.on)) with
  | true =>
   rw [cond_true, List.mem_cons, tail]
   obtain ⟨h1, h2⟩ := hc.1 hb
   constructor
   · rintro (rfl | ⟨h3, h4⟩)
     · exact ⟨E3 _, h1, o, by simp, h2⟩
     · exact ⟨by omega, h4⟩
   · rintro ⟨h3, h4⟩
     by_cases e : j = k
     · exact .inl e
     · exact .inr ⟨by omega, h4⟩
  | false =>
   rw [cond_false, tail]
   constructor
   · rintro ⟨h3, h4⟩; exact ⟨by omega, h4⟩
   · rintro ⟨h3, h4, o', h5, h6⟩
     by_cases e : j = k
     · subst e
       simp only [Nat.sub_self, List.getElem?_cons_zero, Option.some.injEq] at h5
       subst h5
       rw [hc.2 ⟨h4, h6⟩] at hb
       cases hb
     · exact ⟨by omega, h4, o', h5, h6⟩
theorem T7 {l : List Oper} {j : Nat} : j ∈ Region.ready .any l.toArray listed.toArray ↔ j ∈ NK listed 0 l := by
 rw [mem_ready, mem_rdy, MX]
 simp only [D9, true_and, Nat.sub_zero, List.getElem?_toArray, MX]
section
variable {P : Program} {B : Nat} {w0 : Cx} {l : List Oper} {J st : PS}
def PA (P : Program) (B : Nat) (w0 : Cx) (l : List Oper) (J : PS) (fuel : Nat) (listed : List Bool) (st : PS) : Prop :=
 ∀ (Q : Exit → PS → Prop), (∀ s, Le s J → Q .normal s) → (∀ c s, ¬ Q (.panic c) s) → ∀ g a w, Rep B w0 g st a w → wpAny P .any l.toArray (Cl B w0 Q) fuel listed.toArray a w
theorem Y6 (hr0 : NK listed 0 l = []) (hl : Le st J) : PA P B w0 l J fuel listed st := fun Q hQ hp0 g a w h => by
 have hp : Cl B w0 Q .normal a w := ⟨g, st, h, hQ st hl⟩
 have hr : Region.ready .any l.toArray listed.toArray = [] := by
  rw [List.eq_nil_iff_forall_not_mem]
  intro j hj
  rw [T7, hr0] at hj
  cases hj
 cases fuel with
 | zero => exact ⟨hr, hp⟩
 | succ n => exact ⟨fun _ => hp, fun i hi => by rw [hr] at hi; cases hi⟩
theorem I4 (rs : List Nat) (hr : NK listed 0 l = rs) (hne : rs.isEmpty = false) (h : allR rs fun i => ∃ o, l[i]? = some o ∧ YR P true l.toArray (PA P B w0 l J fuel (listed.set i true)) [o] st) : PA P B w0 l J (fuel + 1) listed st := fun Q hQ hp0 g a w hrep => by
 refine ⟨fun he => ?_, fun i hi => ?_⟩
 · exfalso
   cases rs with
   | nil => cases hne
   | cons j rs =>
    have hj : j ∈ Region.ready .any l.toArray listed.toArray := T7.2 (by rw [hr]; simp)
    rw [he] at hj
    cases hj
 · rw [T7, hr] at hi
   obtain ⟨o, ho, hy⟩ := KL h hi
   have hs := hy.sound (B := B) (w0 := w0) (Q := S0 (fun s => PA P B w0 l J fuel (listed.set i true) s) Q) (fun s hk => hk) hrep
   have hset : (listed.toArray.setIfInBounds i true) = (listed.set i true).toArray := by simp
   have hk : ∀ a w, Cl B w0 (S0 (fun s => PA P B w0 l J fuel (listed.set i true) s) Q) .normal a w → wpAny P .any l.toArray (Cl B w0 Q) fuel (listed.toArray.setIfInBounds i true) a w := by
    rintro a w ⟨g, s, h1, h2⟩
    rw [hset]
    exact h2 Q hQ hp0 g a w h1
   have hq : ∀ e a w, e ≠ .normal → Cl B w0 (S0 (fun s => PA P B w0 l J fuel (listed.set i true) s) Q) e a w → Cl B w0 Q e a w := by
    rintro e a w he ⟨g, s, h1, h2⟩
    refine ⟨g, s, h1, ?_⟩
    cases e <;> first | exact G7 rfl he | exact h2
   unfold wpOp
   rw [show l.toArray[i]? = some o by simpa using ho]
   simp only
   unfold wpList at hs
   split
   · rename_i hw
     rw [C5 hw] at hs
     rcases hs with hs | ⟨hs, a', w', hl⟩
     · exact .inl (wp_q hk hq hs)
     · exact .inr ⟨hs, a', w', hq _ _ _ (by simp) hl⟩
   · rename_i hw
     rw [B9 hw] at hs
     exact hk _ _ hs
def Pure (P : Program) (o : Oper) (st : PS) (x : SV) : Prop :=
 I2 o st = true ∧ o.guard = none ∧ ∀ B w0 g a w, Rep B w0 g st a w → ∃ v, (∀ w', (execOp a.eval o).run P w' = .ok (.value v) w') ∧ SRep g w v x
theorem N4 {d : Option Nat} {ty : TypeId} {pos : String} {af : Array Edge} {y : Operand} (hd : I2 ⟨d, .move y, ty, pos, af, none⟩ st = true := by kernel_rfl) : Pure P ⟨d, .move y, ty, pos, af, none⟩ st (st.ev y) :=
 ⟨hd, rfl, fun _ _ _ a _ h => ⟨a.eval y, fun w' => by simp [execOp], h.eval y⟩⟩
def noSel (l : List Oper) : Bool := l.all fun o => match o.op with | .select .. => false | _ => true
def Qu (l : List Oper) (listed : List Bool) (i : Nat) (oi : Oper) : Bool := AP (fun j oj => Nat.beq j i || gt true listed j || oj.after.toList.any (fun e => Region.binds .any e && Nat.beq e.on i) || oi.apart l.toArray oj) 0 l
theorem Q8 (i : Nat) {x : SV} (hi : l[i]? = some o) (hr : (NK listed 0 l).any (Nat.beq i) = true) (hs : noSel l = true) (hap : Qu l listed i o = true) (hp : Pure P o st x) (h : PA P B w0 l J fuel (listed.set i true) (st.put o.dst x)) : PA P B w0 l J (fuel + 1) listed st := fun Q hQ hp0 g a w hrep => by
 obtain ⟨h1, h2, h3⟩ := hp
 obtain ⟨v, h4, h5⟩ := h3 B w0 g a w hrep
 have hset : (listed.toArray.setIfInBounds i true) = (listed.set i true).toArray := by simp
 refine wpAny_first (v := v) (by simpa using hi) (fun j o' cs b hj e => ?_) (fun c a w ⟨_, s, _, h6⟩ => G7 h6 (hp0 c s)) fuel listed.toArray a w (fun j oj hj hji hun hno => ?_) ?_ (.inl ⟨by unfold Region.wanted; rw [h2], h4⟩) ?_
 · have hj' : o' ∈ l := by
    have : l[j]? = some o' := by simpa using hj
    exact B7 this
   have := E5.1 hs o' hj'
   rw [e] at this
   cases this
 · have hj' : l[j]? = some oj := by simpa using hj
   have h6 := P2 hap j oj hj'
   rw [F3, MX] at *
   simp only [Bool.or_eq_true] at h6
   rcases h6 with ((h6 | h6) | h6) | h6
   · exact G7 (G2 h6) hji
   · rw [hun] at h6; cases h6
   · rw [List.any_eq_true] at h6
     obtain ⟨e, he, hb⟩ := h6
     rw [D3] at hb
     exact G7 (G2 hb.2) (hno e (Array.mem_toList_iff.1 he) hb.1)
   · exact h6
 · rw [T7]
   obtain ⟨j, hj, e⟩ := List.any_eq_true.1 hr
   rw [G2 e]
   exact hj
 · rw [hset]
   exact h Q hQ hp0 g _ w (hrep.put h5 _ (H6 h1))
end
section
variable {P : Program} {sq : Bool} {ops : Array Oper} {K : PS → Prop} {rest : List Oper} {st : PS} {d : Option Nat} {op : Op} {ty : TypeId} {pos : String} {af : Array Edge} {gd : Option (Nat × Bool)} {q : Nat × Bool}
end
def P0 (l : List (List UInt8 × DV)) : List (Value × DV) := l.map fun p => (vS p.1, p.2)
def DD (z : DV) (k : List UInt8) : List (List UInt8 × DV) → DV
 | [] => z
 | (k', v) :: l => if k' = k then v else DD z k l
def AM (k : List UInt8) (v : DV) : List (List UInt8 × DV) → List (List UInt8 × DV)
 | [] => [(k, v)]
 | (k', v') :: l => if k' = k then (k, v) :: l else (k', v') :: AM k v l
theorem CA (k : List UInt8) : ∀ (l : List (List UInt8 × DV)) (es : List MapEntry) (n : Nat), es.length = l.length → (∀ (i : Nat) e p, es[i]? = some e → l[i]? = some p → e.key = vS p.1) →
 (∃ j e d, Instr.findNow .string (vS k) es n = some (some (n + j, e.val)) ∧ es[j]? = some e ∧ l[j]? = some (k, d) ∧ (∀ z, DD z k l = d) ∧ ∀ v, AM k v l = l.set j (k, v)) ∨
 (Instr.findNow .string (vS k) es n = some none ∧ (∀ z, DD z k l = z) ∧ (∀ v, AM k v l = l ++ [(k, v)]) ∧ ∀ p ∈ l, p.1 ≠ k)
 | [], [], n, _, _ => .inr ⟨rfl, fun _ => rfl, fun _ => rfl, fun p hp => by simp at hp⟩
 | [], e :: es, n, hl, _ => by simp at hl
 | p :: l, [], n, hl, _ => by simp at hl
 | (k', d) :: l, e :: es, n, hl, hk => by
  have h0 : e.key = vS k' := hk 0 e (k', d) rfl rfl
  have hs : Instr.sameNow .string (vS k) e.key = some ((⟨k.toArray⟩ : ByteArray) == ⟨k'.toArray⟩) := by rw [h0]; rfl
  by_cases hkk : k' = k
  · subst hkk
    refine .inl ⟨0, e, d, ?_, V, V, fun z => by rw [DD, C5 rfl], fun v => by rw [AM, C5 rfl]; rfl⟩
    rw [Instr.findNow, hs, (MapKept.bytes_beq _ _).2 rfl]
    rfl
  · have hb : ((⟨k.toArray⟩ : ByteArray) == ⟨k'.toArray⟩) = false := by
     rw [← Bool.not_eq_true, MapKept.bytes_beq]
     intro e
     apply hkk
     have := C7 (fun x : ByteArray => x.data.toList) e
     simpa using this.symm
    have hf : Instr.findNow .string (vS k) (e :: es) n = Instr.findNow .string (vS k) es (n + 1) := by rw [Instr.findNow, hs, hb]
    rcases CA k l es (n + 1) (by simpa using hl) (fun i e' p' he hp => hk (i + 1) e' p' (by simpa using he) (by simpa using hp)) with ⟨j, e', d', h1, h2, h3, h4, h5⟩ | ⟨h1, h2, h3, h4⟩
    · refine .inl ⟨j + 1, e', d', ?_, h2, h3, fun z => by rw [DD, B9 hkk, h4], fun v => by rw [AM, B9 hkk, h5]; rfl⟩
      rw [hf, h1, show n + 1 + j = n + (j + 1) by omega]
    · exact .inr ⟨by rw [hf, h1], fun z => by rw [DD, B9 hkk, h2], fun v => by rw [AM, B9 hkk, h3]; rfl, fun p hp => by
       rcases List.mem_cons.1 hp with rfl | hp
       · exact hkk
       · exact h4 p hp⟩
class MapOf (P : Program) (T : Nat) (z : outParam DV) : Prop where
 und : ∃ kt et, P.underlying T = some (.map kt et) ∧ P.underlying kt = some .string ∧ ∀ w, ∃ v, (zeroValue et).run P w = .ok v w ∧ ∀ F w', DRep F w' v z
section
variable {P : Program} {sq : Bool} {ops : Array Oper} {K : PS → Prop} {rest : List Oper} {st : PS} {d : Option Nat} {ty : TypeId} {pos : String} {af : Array Edge} {gd : Option (Nat × Bool)}
theorem ls_mkm (T : TypeId) {e : Nat} (hi : st.bget (500000 + e) = none) (hd : I2 ⟨some e, .makeMap T none, ty, pos, af, gd⟩ st = true) :
 L4 P ⟨some e, .makeMap T none, ty, pos, af, gd⟩ st (.mb (500000 + e)) (.box (500000 + e) [.mc (P0 [])]) := fun st2 ha => by
 intro B w0 g a w K Q hr hK
 have hin : e < st2.n := H6 (ha.dst hd) e rfl
 have hlim : st2.n ≤ 10000 := hr.lim
 have hi2 : st2.bget (500000 + e) = none := ha.fresh rfl e rfl (500000 + e) (NQ (by omega)) hi
 have hrep := hr.newm e 0 hi2 hin #[] (P0 []) ⟨rfl, MapKept.stamped_empty 0, fun i e p he => by simp at he⟩
 have hrun : (execOp a.eval ⟨some e, .makeMap T none, ty, pos, af, gd⟩).run P w = .ok (.value (.map (some w.heap.size))) (w.alloc (.map #[] 0)) := by
  simp [execOp, run_makeMap]
 unfold Oper.wp
 rw [hrun]
 exact hK _ _ _ (hrep.put (x := .mb (500000 + e)) ⟨w.heap.size, by simp [Gh.addb], rfl⟩ _ (H6 (st := st2.bput (500000 + e) _) (ha.dst hd)))
theorem yKm {e : Nat} (hi : st.bget (500000 + e) = none)
 (h : YR P sq ops K rest ((st.bput (500000 + e) [.mc (P0 [])]).put (some e) (.mb (500000 + e)))) (zz : zk ops st ⟨some e, .makeMap T none, ty, pos, af, gd⟩ (.box (500000 + e) [.mc (P0 [])]) = true := by kernel_rfl) :
 YR P sq ops K (⟨some e, .makeMap T none, ty, pos, af, gd⟩ :: rest) st := Cn (ls_mkm T hi (zd zz)) (zo zz) (zw zz) h
theorem LC {B : Nat} {w0 : Cx} {g : Gh} (hr : Rep B w0 g st a w) (hge : 500000 ≤ i) (hi : st.bget i = some [.mc (P0 l)]) :
 ∃ b es c, g.bl i = some b ∧ w.heap[b]? = some (.map es c) ∧ es.toList.length = l.length ∧ MapKept.Stamped es c ∧ (∀ (i : Nat) e p, es.toList[i]? = some e → l[i]? = some p → e.key = vS p.1) ∧ ∀ (i : Nat) e p, es.toList[i]? = some e → l[i]? = some p → DRep (Fx g) w e.val p.2 := by
 obtain ⟨b, es, c, h1, h2, h3, h5, h4⟩ := hr.maps i _ hi hge
 have hp : ∀ (i : Nat) p, l[i]? = some p → (P0 l)[i]? = some (vS p.1, p.2) := fun i p hp => by rw [P0, C6, hp]; rfl
 exact ⟨b, es, c, h1, h2, by simpa [P0] using h3, h5, fun i e p he hl => (h4 i e _ (by simpa using he) (hp i p hl)).1, fun i e p he hl => (h4 i e _ (by simpa using he) (hp i p hl)).2⟩
theorem ls_mlk (T : TypeId) (x y : Operand) {k : List UInt8} {z : DV} [hM : MapOf P T z] (hge : 500000 ≤ i) (hx : st.ev x = .mb i) (hi : st.bget i = some [.mc (P0 l)]) (hy : st.ev y = .d (dS k)) (hd : I2 ⟨d, .lookup T x y false, ty, pos, af, gd⟩ st = true) :
 L4 P ⟨d, .lookup T x y false, ty, pos, af, gd⟩ st (.d (DD z k l)) .no := fun st2 ha =>
 OpS.value (ha.dst hd) fun _ _ g a w h => by
  have h1 := h.eval x
  rw [ha.ev x (by simp [Op.operands]), hx] at h1
  have h2 := h.eval y
  rw [ha.ev y (by simp [Op.operands]), hy] at h2
  have hi2 : st2.bget i = some [.mc (P0 l)] := (ha.ids rfl x (by simp [Op.operands]) i (by rw [hx]; simp [SV.ids])).trans hi
  obtain ⟨b, q1, q2⟩ := h1
  obtain ⟨b', es, c, r1, r2, r3, -, r4, r5⟩ := LC h hge hi2
  rw [q1] at r1
  cases r1
  obtain ⟨kt, et, m1, m2, m3⟩ := hM.und
  obtain ⟨v, m4, m5⟩ := m3 w
  have hc : ∀ e, (Instr.checkKey e 10000 kt (vS k)).run P w = .ok () w := fun e => MapKept.run_checkKey (k := vS k) m2 (by simp [MapKept.IsKey]) e 9999
  rcases CA k l es.toList 0 r3 r4 with ⟨j, e, d', f1, f2, f3, f4, -⟩ | ⟨f1, f2, -, -⟩
  · refine ⟨e.val, w, ?_, Below.refl _ _, ?_⟩
    · simp [execOp, Instr.lookup, run_underlying m1, q2, DRep.val_eq h2, MapKept.run_getObj_map r2, hc, MapKept.run_findKey m2 f1, Result.andThen]
    · rw [f4]; exact r5 j e _ f2 f3
  · refine ⟨v, w, ?_, Below.refl _ _, ?_⟩
    · simp [execOp, Instr.lookup, run_underlying m1, q2, DRep.val_eq h2, MapKept.run_getObj_map r2, hc, MapKept.run_findKey m2 f1, m4, Result.andThen]
    · rw [f2]; exact m5 _ _
theorem yKl {x y : Operand} {k : List UInt8} {z v : DV} [hM : MapOf P T z] (hx : st.ev x = .mb i) (hi : st.bget i = some [.mc (P0 l)]) (hy : st.ev y = .d (dS k)) (hv : DD z k l = v)
 (h : YR P sq ops K rest (st.put d (.d v))) (hge : Nat.ble 500000 i = true := by rfl) (zz : zk ops st ⟨d, .lookup T x y false, ty, pos, af, gd⟩ .no = true := by kernel_rfl) :
 YR P sq ops K (⟨d, .lookup T x y false, ty, pos, af, gd⟩ :: rest) st := L0 (hv ▸ ls_mlk T x y (C0 hge) hx hi hy (zd zz)) (zo zz) (zw zz) h
theorem Hw (k : List UInt8) (w : World) : (Instr.keyThatStays (vS k) (vS k)).run P w = .ok (vS k) w := by
 have : Instr.sameBits 10000 (vS k) (vS k) = true := by
  show ((⟨k.toArray⟩ : ByteArray) == ⟨k.toArray⟩) = true
  exact (MapKept.bytes_beq _ _).2 V
 simp [Instr.keyThatStays, this]
theorem Pk (T : TypeId) (x y u : Operand) {k : List UInt8} {z v : DV} [hM : MapOf P T z] (hge : 500000 ≤ i) (hx : st.ev x = .mb i) (hi : st.bget i = some [.mc (P0 l)]) (hy : st.ev y = .d (dS k)) (hu : st.ev u = .d v) (hd : I2 ⟨d, .mapUpdate T x y u, ty, pos, af, gd⟩ st = true) :
 L4 P ⟨d, .mapUpdate T x y u, ty, pos, af, gd⟩ st .any (.box i [.mc (P0 (AM k v l))]) := fun st2 ha => by
 intro B w0 g a w K Q h hK
 have h1 := h.eval x
 rw [ha.ev x (by simp [Op.operands]), hx] at h1
 have h2 := h.eval y
 rw [ha.ev y (by simp [Op.operands]), hy] at h2
 have h3 := h.eval u
 rw [ha.ev u (by simp [Op.operands]), hu] at h3
 have hi2 : st2.bget i = some [.mc (P0 l)] := (ha.ids rfl x (by simp [Op.operands]) i (by rw [hx]; simp [SV.ids])).trans hi
 obtain ⟨b, q1, q2⟩ := h1
 obtain ⟨b', es, c, r1, r2, r3, rs, r4, r5⟩ := LC h hge hi2
 rw [q1] at r1
 cases r1
 obtain ⟨kt, et, m1, m2, -⟩ := hM.und
 have hc : ∀ e, (Instr.checkKey e 10000 kt (vS k)).run P w = .ok () w := fun e => MapKept.run_checkKey (k := vS k) m2 (by simp [MapKept.IsKey]) e 9999
 have hblt : b < w.heap.size := (D1.1 r2).1
 suffices hrun : ∃ es' c', (execOp a.eval ⟨d, .mapUpdate T x y u, ty, pos, af, gd⟩).run P w = .ok .skip { w with heap := w.heap.setIfInBounds b (.map es' c') } ∧ es'.toList.length = (AM k v l).length ∧ MapKept.Stamped es' c' ∧ ∀ (q : Nat) e p, es'.toList[q]? = some e → (AM k v l)[q]? = some p → e.key = vS p.1 ∧ DRep (Fx g) w e.val p.2 by
  obtain ⟨es', c', e1, e2, e4, e3⟩ := hrun
  have hs := MapKept.heap_set (o' := .map es' c') r2
  have hrep := h.seto i b [.mc (P0 (AM k v l))] (w' := { w with heap := w.heap.setIfInBounds b (.map es' c') }) q1 ⟨rfl, rfl, rfl, by simp, fun q hq => by omega⟩ (fun q _ hne => hs.2 q hne) (by unfold World.shape?; simp only [hs.1, r2]) (fun _ hlt => by omega) (fun e _ ms hms => by
   obtain rfl : P0 (AM k v l) = ms := by simpa using hms
   refine ⟨es', c', hs.1, by simpa [P0] using e2, e4, fun q en p he hp => ?_⟩
   rw [P0, C6, C8] at hp
   obtain ⟨p', hp1, rfl⟩ := hp
   have := e3 q en p' (by simpa using he) hp1
   exact ⟨this.1, this.2.mono e.fx⟩)
  unfold Oper.wp
  rw [e1]
  exact hK g _ _ (hrep.put (x := .any) trivial _ (H6 (st := st2.bput i _) (ha.dst hd)))
 rcases CA k l es.toList 0 r3 r4 with ⟨j, e, d', f1, f2, f3, -, f5⟩ | ⟨f1, -, f3, f6⟩
 · have hek : e.key = vS k := r4 j e _ f2 f3
   have hj : es[j]? = some e := by simpa using f2
   refine ⟨es.modify j fun e => { e with key := vS k, val := a.eval u }, c, ?_, ?_, ?_, ?_⟩
   · simp [execOp, Instr.mapUpdate, run_underlying m1, q2, DRep.val_eq h2, MapKept.run_getObj_map r2, hc, MapKept.run_findKey m2 f1, hj, hek, Hw, MapKept.run_setObj_map _ r2, Result.andThen]
   · rw [f5]; simpa using r3
   · exact MapKept.stamped_modify rs j _ (fun _ _ => V) fun e' _ he' => by
      rw [hj] at he'
      cases he'
      exact hek.symm
   · intro q en p he hp
     rw [f5] at hp
     rw [Array.toList_modify, List.getElem?_modify] at he
     by_cases hq : j = q
     · subst hq
       rw [f2] at he
       rw [List.getElem?_set_self (by rw [← r3]; exact (A6.1 f2).1)] at hp
       cases hp
       simp at he
       subst he
       exact ⟨rfl, h3⟩
     · rw [List.getElem?_set_ne hq] at hp
       simp [hq] at he
       exact ⟨r4 q en p (by simpa using he) hp, r5 q en p (by simpa using he) hp⟩
 · refine ⟨es.push { key := vS k, val := a.eval u, born := c }, c + 1, ?_, ?_, ?_, ?_⟩
   · simp [execOp, Instr.mapUpdate, run_underlying m1, q2, DRep.val_eq h2, MapKept.run_getObj_map r2, hc, MapKept.run_findKey m2 f1, MapKept.run_setObj_map _ r2, Result.andThen]
   · rw [f3]; simpa using r3
   · exact MapKept.stamped_push rs fun x hx e => by
      obtain ⟨q, hq⟩ := List.mem_iff_getElem?.1 hx
      obtain ⟨p, hp⟩ : ∃ p, l[q]? = some p := ⟨_, A5 (by rw [← r3]; exact (A6.1 hq).1)⟩
      have h5 := r4 q x p hq hp
      rw [e] at h5
      refine f6 p (B7 hp) ?_
      have := C7 (fun v : Value => match v with | .string s => s.data.toList | _ => []) h5
      simpa using this.symm
   · intro q en p he hp
     rw [f3] at hp
     rw [Array.toList_push] at he
     rcases D2 q l.length with hq | hq
     · rw [F5 hq] at hp
       rw [F5 (by omega)] at he
       exact ⟨r4 q en p he hp, r5 q en p he hp⟩
     · rw [F4 hq] at hp
       rw [F4 (by omega), r3] at he
       obtain ⟨hq0, -⟩ := A6.1 hp
       have hq1 : q - l.length = 0 := by simpa using hq0
       rw [hq1] at he hp
       cases he
       cases hp
       exact ⟨rfl, h3⟩
theorem yKu {x y u : Operand} {l' : List (List UInt8 × DV)} {k : List UInt8} {z v : DV} [hM : MapOf P T z] (hx : st.ev x = .mb i) (hi : st.bget i = some [.mc (P0 l)]) (hy : st.ev y = .d (dS k)) (hu : st.ev u = .d v) (hl : AM k v l = l')
 (h : YR P sq ops K rest ((st.bput i [.mc (P0 l')]).put d .any)) (hge : Nat.ble 500000 i = true := by rfl) (zz : zk ops st ⟨d, .mapUpdate T x y u, ty, pos, af, gd⟩ (.box i [.mc (P0 l')]) = true := by kernel_rfl) :
 YR P sq ops K (⟨d, .mapUpdate T x y u, ty, pos, af, gd⟩ :: rest) st := Cn (hl ▸ Pk T x y u (C0 hge) hx hi hy hu (zd zz)) (zo zz) (zw zz) h
end
open Go.RowKit Go.Maps Go.Sort Go.WideMaps
variable {l : List (List UInt8 × DV)} {ts : Array TypeId} {x : Operand}
def KeysC (P : Program) (fK it T : Nat) : Prop := ∀ mb W, Calls P fK #[.map mb] W fun e w' => e = .returned (.func (.func it) #[] #[.pointer (some ⟨W.heap.size, 0, none⟩)]) ∧ w' = W.alloc (.cells #[.map mb] T)
def Ml (P : Program) (fS it k : Nat) : Prop := ∀ (a b nn : Nat) (D0 : DataW Unit) (R : Value → Option (DataW Unit × List MemPlace)) (W : World), a < W.heap.size → W.cell? ⟨a, 0, none⟩ = some (.map (some b)) → W.ownsMap P k R b nn D0 →
 Maps.size D0 ≤ maxLen → Maps.size D0 * 16 ≤ 140737488355328 → Calls P fS #[.func (.func it) #[] #[.pointer (some ⟨a, 0, none⟩)]] W fun e w' => ∃ (v : Value) (ss : List (List UInt8)), e = .returned v ∧ ss.Perm (strKeys D0) ∧
  w'.ownsRow W.heap.size k 1 v ss.length ((ss.mergeSort (fun x y => decide (x ≤ y))).map encStr) ∧ (v = .slice none 0 0 ↔ ss = []) ∧ Below W.heap.size W w'
def BR (l : List (List UInt8 × DV)) : List (List UInt8) := (l.map (·.1)).mergeSort leB
def Qw (_ : Value) : Option (DataW Unit × List MemPlace) := some (.nil, [])
theorem Kt {P : Program} {k : Nat} {w : World} {b c : Nat} {es : Array MapEntry} (hk : P.underlying k = some .string) (h2 : w.heap[b]? = some (.map es c)) (h3 : es.toList.length = l.length) (hs : MapKept.Stamped es c)
 (h4 : ∀ (i : Nat) e p, es.toList[i]? = some e → l[i]? = some p → e.key = vS p.1) (hl : l.length ≤ 1000000) (hkl : ∀ p ∈ l, p.1.length ≤ 1000000) :
 ∃ D0 : DataW Unit, w.ownsMap P k Qw b l.length D0 ∧ Maps.size D0 = l.length ∧ (strKeys D0).Perm (l.map (·.1)) := by
 have hrd : ∀ (i : Nat) e p, es.toList[i]? = some e → l[i]? = some p → WideElems.rd P k Qw e = some (.string p.1, .nil) := fun i e p he hp => by
  have h5 := h4 i e p he hp
  have h6 : keyOf P k e.key = some (.string p.1) := by
   rw [h5]
   have := keyOf_string_mk hk (s := ⟨p.1.toArray⟩) (by
    have := hkl p (B7 hp)
    show p.1.toArray.size ≤ maxLen
    simp only [List.size_toArray, maxLen]; omega)
   simpa [vS] using this
  simp [WideElems.rd, h6, Qw]
 have hmap : es.toList.map (WideElems.rg P k Qw) = l.map fun p => (Lit.string p.1, DataW.nil) := by
  refine List.ext_getElem? fun i => ?_
  rw [C6, C6]
  cases he : es.toList[i]? with
  | none =>
   have : l[i]? = none := by rw [List.getElem?_eq_none_iff] at he ⊢; omega
   rw [this]; rfl
  | some e =>
   cases hp : l[i]? with
   | none => rw [List.getElem?_eq_none_iff] at hp; have := (A6.1 he).1; omega
   | some p => simp [WideElems.rg_of (hrd i e p he hp)]
 refine ⟨_, ⟨es, c, h2, ⟨by simp only [maxLen]; simp at h3; omega, hs, fun x hx => ?_⟩, by simp at h3; omega, rfl⟩, ?_, ?_⟩
 · obtain ⟨i, hi, rfl⟩ := List.mem_iff_getElem.1 hx
   exact ⟨_, hrd i _ _ (A5 hi) (A5 (by omega))⟩
 · rw [hmap]
   show ((l.map fun p => (Lit.string p.1, (DataW.nil : DataW Unit))).foldr DataW.insert []).length = _
   rw [(WideShapes.sorted_perm _).length_eq, A7]
 · rw [hmap]
   show (((l.map fun p => (Lit.string p.1, (DataW.nil : DataW Unit))).foldr DataW.insert []).map fun p => strOf p.1).Perm _
   refine ((WideShapes.sorted_perm _).map _).trans ?_
   rw [List.map_map]
   exact .refl _
section
variable {P : Program} {ops : Array Oper} {K : PS → Prop} {rest : List Oper} {st : PS} {d : Option Nat} {ty : TypeId} {pos : String} {af : Array Edge} {gd : Option (Nat × Bool)}
theorem yKk {fK it T e i : Nat} [HasBody P fK] (hK : KeysC P fK it T) (hx : st.ev x = .mb i) (hi : st.bget e = none)
 (h : YR P true ops K rest ((st.bput e [.mb i]).put (some e) (.fn it [e]))) (hin : Nat.blt e st.n = true := by rfl)
 (hw : st.want ops ⟨some e, .call { callee := .value (.func fK), args := #[x], argTypes := ts }, ty, pos, af, gd⟩ = some true := by rfl) :
 YR P true ops K (⟨some e, .call { callee := .value (.func fK), args := #[x], argTypes := ts }, ty, pos, af, gd⟩ :: rest) st := by
 refine .any V fun B w0 Q hQ g a w hr => ?_
 have hlt : e < st.n := C0 hin
 have h1 := hr.eval x
 rw [hx] at h1
 obtain ⟨b, q1, q2⟩ := h1
 unfold wpList
 rw [C5 (M1 hr hw)]
 refine .inl ?_
 unfold Oper.wp
 have hrun := Bc (P := P) (f := fK) (d := some e) (l := [x]) (ts := ts) (ty := ty) (pos := pos) (af := af) (gd := gd) (a := a) (w := w)
 rw [hrun]
 show Calls P fK _ w _
 have hc := hK (some b) w
 simp only [List.map_cons, List.map_nil, q2]
 refine hc.mono ?_
 rintro e' w' ⟨rfl, rfl⟩
 have hrep := hr.newb e T hi hlt #[.map (some b)] [.mb i] (by simp) (fun j c hj => by
  cases j with
  | zero => cases hj; exact ⟨_, V, b, q1, V⟩
  | succ j => simp at hj) (fun u hu => by simp at hu; subst hu; rfl)
 refine h.sound hQ (hrep.put (x := .fn it [e]) ⟨[w.heap.size], rfl, rfl, fun j b' c hb hc' => ?_⟩ _ fun j hj => by cases hj; exact hlt)
 cases j with
 | zero => cases hb; cases hc'; simp [Gh.addb]
 | succ j => simp at hb
theorem yKs {fS it k j i : Nat} {ks : List (List UInt8)} [HasBody P fS] (hS : Ml P fS it k) (hk : P.underlying k = some .string) (hx : st.ev x = .fn it [j]) (hj : st.bget j = some [.mb i]) (hi : st.bget i = some [.mc (P0 l)])
 (hl : l.length ≤ 1000000) (hkl : ∀ p ∈ l, p.1.length ≤ 1000000) (hks : BR l = ks)
 (h : YR P true ops K rest (st.put d (.d (.sl 1 (ks.map fun s => [dS s]))))) (hjl : Nat.blt j 500000 = true := by rfl) (hge : Nat.ble 500000 i = true := by rfl) (hd : I2 ⟨d, .call { callee := .value (.func fS), args := #[x], argTypes := ts }, ty, pos, af, gd⟩ st = true := by kernel_rfl)
 (hw : st.want ops ⟨d, .call { callee := .value (.func fS), args := #[x], argTypes := ts }, ty, pos, af, gd⟩ = some true := by rfl) :
 YR P true ops K (⟨d, .call { callee := .value (.func fS), args := #[x], argTypes := ts }, ty, pos, af, gd⟩ :: rest) st := by
 subst hks
 refine .any V fun B w0 Q hQ g a w hr => ?_
 have h1 := hr.eval x
 rw [hx] at h1
 obtain ⟨bs, q1, q2, q3⟩ := h1
 obtain ⟨a0, rfl⟩ : ∃ a0, bs = [a0] := by
  match bs, q2 with
  | [a0], _ => exact ⟨a0, V⟩
 have q4 := q3 0 a0 j rfl rfl
 obtain ⟨b', xs, T, r1, r2, r3, r4, -⟩ := hr.boxes j _ hj (C0 hjl)
 rw [q4] at r1
 cases r1
 obtain ⟨u, r5, b, r6, rfl⟩ := r4 0 _ rfl
 obtain ⟨b2, es, c, s1, s2, s3, s4, s5, -⟩ := LC hr (C0 hge) hi
 rw [r6] at s1
 cases s1
 obtain ⟨D0, d1, d2, d3⟩ := Kt hk s2 s3 s4 s5 hl hkl
 have hcell : w.cell? ⟨a0, 0, none⟩ = some (.map (some b)) := X9.2 (by rw [Ai r2, r5]; rfl)
 unfold wpList
 rw [C5 (M1 hr hw)]
 refine .inl ?_
 unfold Oper.wp
 have hrun := Bc (P := P) (f := fS) (d := d) (l := [x]) (ts := ts) (ty := ty) (pos := pos) (af := af) (gd := gd) (a := a) (w := w)
 rw [hrun]
 show Calls P fS _ w _
 have hc := hS a0 b l.length D0 Qw w (hr.blk j a0 q4).2 hcell d1 (by rw [d2]; simp only [maxLen]; omega) (by rw [d2]; omega)
 simp only [List.map_cons, List.map_nil, q1]
 refine hc.mono ?_
 rintro e' w' ⟨v, ss, rfl, hp, hrow, -, hb⟩
 have hsort : ss.mergeSort (fun x y => decide (x ≤ y)) = BR l := mergeSort_of_perm (hp.trans d3)
 rw [hsort] at hrow
 have hlen : ss.length = (BR l).length := by rw [← hsort, List.length_mergeSort]
 have hlen2 : (BR l).length = l.length := by rw [BR, List.length_mergeSort, A7]
 refine h.sound hQ ((hr.grow hb).put (x := .d (.sl 1 ((BR l).map fun s => [dS s]))) ?_ _ (H6 (st := st) hd))
 show DRep (Fx g) w' v _
 rcases hrow.2 with ⟨rfl, h0⟩ | ⟨gb, cap, cur, rfl, hbase, hg, hc1, hc2, -, ht⟩
 · have : BR l = [] := List.eq_nil_of_length_eq_zero (by omega)
   rw [this]
   exact .nil
 · refine .sl (fun i _ => encStr ((BR l).getD i [])) (by simp [hlen]) hc1 (by omega) (fun e he => ?_) (fun h0 => ⟨gb, 0, rfl, fun i j hi' hj' => ⟨?_, ?_⟩⟩) (fun i j _ _ => rfl) (fun i j e x he hx' => ?_)
   · obtain ⟨s, -, rfl⟩ := H0.1 he; rfl
   · have hi2 : i < (BR l).length := by omega
     obtain rfl : j = 0 := by omega
     refine X9.2 ?_
     rw [Ai hg]
     have h5 : cur.toList[i]? = ((BR l).map encStr)[i]? := by
      rw [← ht, E7 (by omega)]
     rw [show 0 + i * 1 + 0 = i by omega, ← Array.getElem?_toList, h5, C6, A5 hi2]
     simp [List.getD, A5 hi2]
   · refine ⟨hr.f0 _ _ (E8 hr.base hbase), fun i' hi3 => ?_, fun t T' n c' hT hv => ?_⟩
     · have := (hr.blk i' gb hi3).2; omega
     · obtain ⟨⟨n', xs', h6⟩, -⟩ := hr.toks t T' hT
       have := (h6.lt gb (by rw [hv]; rfl)).2
       omega
   · rw [C6, C8] at he
     obtain ⟨s, hs1, rfl⟩ := he
     cases j with
     | zero =>
      cases hx'
      simp only [List.getD, hs1, Option.getD_some]
      exact DRep.val _ V
     | succ j => simp at hx'
end
end Go.Proofs.YtddfimjiihggmaaGreatDoor.Px
namespace Go.Proofs.YtddfimjiihggmaaGreatDoor
open Go.RowKit
variable {l : List Nat} {n x : Nat}
theorem Af (h : n ≠ 0) : Lib.decDigits n = AY n := by
 induction n using Nat.strongRecOn with
 | _ n ih =>
  rw [Lib.decDigits, Z1 h]
  by_cases h2 : n < 10
  · rw [dif_pos h2, show n / 10 = 0 by omega, M9, show n % 10 = n by omega]
    rfl
  · rw [dif_neg h2, ih (n / 10) (by omega) (by omega)]
    rfl
theorem BS (n k : Nat) (h : n < 10 ^ k) (hk : 0 < k) : (Lib.decDigits n).length ≤ k := by
 induction k generalizing n with
 | zero => omega
 | succ k ih =>
  rw [Lib.decDigits]
  by_cases h2 : n < 10
  · rw [dif_pos h2]; simp
  · rw [dif_neg h2]
    have h3 : 0 < k := by
     by_cases e : k = 0
     · subst e; simp at h; omega
     · omega
    have := ih (n / 10) (by rw [Nat.pow_succ] at h; omega) h3
    simp; omega
theorem OA (h : n ≤ 9223372036854775808) : (AY n).length ≤ 20 := by
 by_cases e : n = 0
 · subst e; rw [M9]; simp
 · rw [← Af e]
   exact BS n 20 (by omega) (by omega)
def sg (b : Bool) (m : Nat) : Int := if b then -(m : Int) else m
theorem sg_quo (b : Bool) (m : Nat) : Int.tdiv (sg b m) 10 = sg b (m / 10) := by
 unfold sg
 cases b
 · simp
 · simp [Int.neg_tdiv]
theorem sg_rem (b : Bool) (m : Nat) : Int.tmod (sg b m) 10 = sg b (m % 10) := by
 unfold sg
 cases b
 · simp [Int.tmod_eq_emod_of_nonneg]
 · simp [Int.neg_tmod, Int.tmod_eq_emod_of_nonneg]
theorem sg_zero (b : Bool) (m : Nat) : sg b m = 0 ↔ m = 0 := by
 unfold sg
 cases b <;> simp
theorem sg_of (n : Int) : n = sg (decide (n < 0)) n.natAbs := by
 unfold sg
 by_cases h : n < 0
 · simp [h]; omega
 · simp [h]; omega
def M4 (n : Nat) : List Nat := if h : n = 0 then [] else (n % 1000000000) :: M4 (n / 1000000000)
termination_by n
decreasing_by exact Nat.div_lt_self (by omega) (by omega)
def K0 : List Nat → Nat
 | [] => 0
 | x :: l => x + 1000000000 * K0 l
def gok (l : List Nat) : Prop := ∀ x ∈ l, x < 1000000000
theorem S6 : M4 0 = [] := by rw [M4]; simp
theorem Bx (h : n ≠ 0) : M4 n = (n % 1000000000) :: M4 (n / 1000000000) := by rw [M4]; simp [h]
theorem M0 (n : Nat) : K0 (M4 n) = n := by
 induction n using Nat.strongRecOn with
 | _ n ih =>
  by_cases h : n = 0
  · subst h; rw [S6]; rfl
  · rw [Bx h, K0, ih (n / 1000000000) (Nat.div_lt_self (by omega) (by omega))]
    omega
theorem M7 (n : Nat) : gok (M4 n) := by
 induction n using Nat.strongRecOn with
 | _ n ih =>
  by_cases h : n = 0
  · subst h; rw [S6]; intro x hx; simp at hx
  · rw [Bx h]
    intro x hx
    rcases List.mem_cons.1 hx with e | e
    · omega
    · exact ih (n / 1000000000) (Nat.div_lt_self (by omega) (by omega)) x e
theorem grp_nil : M4 n = [] ↔ n = 0 := by
 constructor
 · intro h; have := M0 n; rw [h] at this; exact this.symm
 · rintro rfl; exact S6
theorem At : gok (x :: l) ↔ x < 1000000000 ∧ gok l := by simp [gok]
theorem GB {r : List Nat} : gok (l ++ r) ↔ gok l ∧ gok r := by
 simp only [gok, List.mem_append]
 exact ⟨fun h => ⟨fun x hx => h x (.inl hx), fun x hx => h x (.inr hx)⟩, fun h x hx => hx.elim (h.1 x) (h.2 x)⟩
theorem Bj (l r : List Nat) : K0 (l ++ r) = K0 l + 1000000000 ^ l.length * K0 r := by
 induction l with
 | nil => simp [K0]
 | cons x l ih =>
  rw [List.cons_append, K0, ih, K0, List.length_cons, Nat.pow_succ, Nat.mul_add, ← Nat.mul_assoc, Nat.mul_comm (1000000000 ^ l.length) 1000000000]
  omega
theorem IW (h : gok l) : K0 l < 1000000000 ^ l.length := by
 induction l with
 | nil => simp [K0]
 | cons x l ih =>
  obtain ⟨h1, h2⟩ := At.1 h
  have := ih h2
  rw [K0, List.length_cons, Nat.pow_succ]
  omega
theorem Jq (h : gok l) (hl : l.getLast? ≠ some 0) : M4 (K0 l) = l := by
 induction l with
 | nil => exact S6
 | cons x l ih =>
  obtain ⟨h1, h2⟩ := At.1 h
  by_cases he : l = []
  · subst he
    have hx : x ≠ 0 := by simpa using hl
    have e1 : K0 [x] = x := by simp [K0]
    rw [e1, Bx hx, Nat.mod_eq_of_lt h1, Nat.div_eq_of_lt h1, S6]
  · have hl' : l.getLast? ≠ some 0 := by
     match l, he with
     | y :: l, _ => simpa using hl
    have ih' := ih h2 hl'
    have hne : K0 l ≠ 0 := fun e => by rw [e, S6] at ih'; exact he ih'.symm
    rw [K0, Bx (by omega)]
    have e1 : (x + 1000000000 * K0 l) % 1000000000 = x := by omega
    have e2 : (x + 1000000000 * K0 l) / 1000000000 = K0 l := by omega
    rw [e1, e2, ih']
def R0 : List Nat → List Nat
 | [] => []
 | x :: l => if R0 l = [] ∧ x = 0 then [] else x :: R0 l
theorem CD (l : List Nat) : K0 (R0 l) = K0 l := by
 induction l with
 | nil => rfl
 | cons x l ih =>
  rw [R0]
  split
  · rename_i h
    rw [h.1] at ih
    rw [K0, K0, ← ih, h.2]
    simp [K0]
  · rw [K0, K0, ih]
theorem GI (h : gok l) : gok (R0 l) := by
 induction l with
 | nil => exact h
 | cons x l ih =>
  obtain ⟨h1, h2⟩ := At.1 h
  rw [R0]
  split
  · intro x hx; simp at hx
  · exact At.2 ⟨h1, ih h2⟩
theorem HV (l : List Nat) : (R0 l).getLast? ≠ some 0 := by
 induction l with
 | nil => simp [R0]
 | cons x l ih =>
  rw [R0]
  split
  · simp
  · rename_i h
    by_cases he : R0 l = []
    · rw [he]
      simp
      intro e
      exact h ⟨he, e⟩
    · match hd : R0 l, he, ih with
      | y :: r, _, ih => simpa using ih
theorem KE (h : gok l) : R0 l = M4 (K0 l) := by
 have := Jq (GI h) (HV l)
 rw [CD] at this
 exact this.symm
theorem HU (l : List Nat) (x : Nat) : R0 (l ++ [x]) = if x = 0 then R0 l else l ++ [x] := by
 induction l with
 | nil => simp [R0]
 | cons y l ih =>
  rw [List.cons_append, R0, ih]
  by_cases h : x = 0
  · simp only [h, if_true]
    rw [R0]
  · simp only [h, if_false]
    rw [B9 (by simp)]
def EH (t : G0) : List Nat := if h : t = [] then [] else natOf (t.drop (t.length - 9)) :: EH (t.take (t.length - 9))
termination_by t.length
decreasing_by
 rw [E4]
 have : 0 < t.length := List.length_pos_iff.2 h
 omega
theorem FN : EH [] = [] := by rw [EH]; simp
theorem Cs {t : G0} (h : t ≠ []) : EH t = natOf (t.drop (t.length - 9)) :: EH (t.take (t.length - 9)) := by rw [EH]; simp [h]
theorem AL {t : G0} (h : t.all V1 = true) : natOf t < 10 ^ t.length := by
 induction t using Fj with
 | h0 => simp [natOf]
 | h1 l b ih =>
  rw [List.all_append, D3] at h
  have hb := Qc (b := b) (by simpa using h.2)
  have := ih h.1
  rw [Q9, D7, List.length_singleton, Nat.pow_succ]
  omega
theorem NT {t : G0} (h : t.all V1 = true) (h0 : t.head? ≠ some 48) (hn : t ≠ []) : natOf t ≠ 0 := fun e => by
 have := CC h h0
 rw [e, M9] at this
 exact hn this.symm
theorem rdG_grp {t : G0} (h : t.all V1 = true) (h0 : t.head? ≠ some 48) : EH t = M4 (natOf t) := by
 obtain ⟨n, hn⟩ := H7 (t.length)
 induction n using Nat.strongRecOn generalizing t with
 | _ n ih =>
  by_cases he : t = []
  · subst he; rw [FN]; exact S6.symm
  · have hpos : 0 < t.length := List.length_pos_iff.2 he
    have hne := NT h h0 he
    have hall : (t.take (t.length - 9)).all V1 = true ∧ (t.drop (t.length - 9)).all V1 = true := by
     rw [← D3, ← List.all_append, List.take_append_drop]; exact h
    have hhead : (t.take (t.length - 9)).head? ≠ some 48 := by
     match t, h0 with
     | x :: l, h0 =>
      cases hk : (x :: l).length - 9 with
      | zero => simp
      | succ k => simpa using h0
    have hsplit := DC (t.take (t.length - 9)) (t.drop (t.length - 9))
    rw [List.take_append_drop] at hsplit
    have hdl : (t.drop (t.length - 9)).length = min 9 t.length := by rw [N2]; omega
    have hlt := AL hall.2
    rw [hdl] at hsplit hlt
    rw [Cs he, ih (t.take (t.length - 9)).length (by rw [E4]; omega) hall.1 hhead rfl, Bx hne]
    by_cases h9 : 9 ≤ t.length
    · rw [Nat.min_eq_left h9] at hsplit hlt
      have e1 : natOf t % 1000000000 = natOf (t.drop (t.length - 9)) := by omega
      have e2 : natOf t / 1000000000 = natOf (t.take (t.length - 9)) := by omega
      rw [e1, e2]
    · rw [Nat.min_eq_right (by omega)] at hsplit hlt
      have e0 : t.length - 9 = 0 := by omega
      have hle : 10 ^ t.length ≤ 10 ^ 9 := Nat.pow_le_pow_right (by omega) (by omega)
      simp only [e0, List.take_zero, List.drop_zero] at hsplit hlt ⊢
      have e3 : natOf ([] : G0) = 0 := rfl
      have e1 : natOf t % 1000000000 = natOf t := Nat.mod_eq_of_lt (by omega)
      have e2 : natOf t / 1000000000 = 0 := Nat.div_eq_of_lt (by omega)
      rw [e1, e2, e3]
def Ao : Nat → Nat → G0
 | 0, _ => []
 | k + 1, b => Ao k (b / 10) ++ [dig (b % 10)]
theorem AW (k b : Nat) : (Ao k b).length = k := by
 induction k generalizing b with
 | zero => rfl
 | succ k ih => rw [Ao, D7, ih]; rfl
theorem Pd (k b : Nat) : (Ao k b).all V1 = true := by
 induction k generalizing b with
 | zero => rfl
 | succ k ih => rw [Ao, List.all_append, ih]; simp [MV (Nat.mod_lt b (by omega : 0 < 10))]
theorem Kz {k b : Nat} (h : b < 10 ^ k) : natOf (Ao k b) = b := by
 induction k generalizing b with
 | zero => simp at h; subst h; rfl
 | succ k ih =>
  rw [Nat.pow_succ] at h
  rw [Ao, Q9, ih (by omega), Qd (Nat.mod_lt _ (by omega))]
  omega
theorem Nz {a : Nat} (ha : a ≠ 0) (k b : Nat) (hb : b < 10 ^ k) : AY (a * 10 ^ k + b) = AY a ++ Ao k b := by
 induction k generalizing b with
 | zero => simp at hb; subst hb; simp [Ao]
 | succ k ih =>
  rw [Nat.pow_succ] at hb
  have hp : 0 < 10 ^ k := Nat.pow_pos (by omega)
  have hap : 0 < a * 10 ^ k := Nat.mul_pos (by omega) hp
  have e0 : a * 10 ^ (k + 1) = 10 * (a * 10 ^ k) := by rw [Nat.pow_succ, ← Nat.mul_assoc]; omega
  have e1 : (10 * (a * 10 ^ k) + b) / 10 = a * 10 ^ k + b / 10 := by omega
  have e2 : (10 * (a * 10 ^ k) + b) % 10 = b % 10 := by omega
  rw [e0, Z1 (by omega), e1, e2, ih (b / 10) (by omega), Ao, H1]
def fmt (n : Nat) : G0 := if n = 0 then [48] else AY n
theorem IZ {k : Nat} (h : n < 10 ^ k) (hk : 0 < k) : List.replicate (k - (fmt n).length) 48 ++ fmt n = Ao k n := by
 have key : ∀ (k n : Nat), n < 10 ^ k → (AY n).length ≤ k ∧ List.replicate (k - (AY n).length) 48 ++ AY n = Ao k n := by
  intro k
  induction k with
  | zero => intro n h; simp at h; subst h; simp [M9, Ao]
  | succ k ih =>
   intro n h
   rw [Nat.pow_succ] at h
   obtain ⟨h1, h2⟩ := ih (n / 10) (by omega)
   by_cases hn : n = 0
   · subst hn
     rw [M9] at h2 ⊢
     simp only [List.length_nil, Nat.sub_zero, List.append_nil] at h2 ⊢
     refine ⟨by omega, ?_⟩
     rw [Ao, ← h2, show (0 : Nat) % 10 = 0 from rfl, List.replicate_succ']
     rfl
   · rw [Z1 hn, Ao, D7, List.length_singleton]
     refine ⟨by omega, ?_⟩
     rw [← h2, show k + 1 - ((AY (n / 10)).length + 1) = k - (AY (n / 10)).length by omega, H1]
 by_cases hn : n = 0
 · subst hn
   have := (key k 0 h).2
   rw [M9] at this
   simp only [List.length_nil, Nat.sub_zero, List.append_nil] at this
   rw [fmt, C5 rfl, ← this]
   obtain ⟨j, rfl⟩ : ∃ j, k = j + 1 := ⟨k - 1, by omega⟩
   rw [List.replicate_succ']
   simp
 · rw [fmt, B9 hn]; exact (key k n h).2
theorem Ia {k : Nat} (h : n < 10 ^ k) (hk : 0 < k) : (fmt n).length ≤ k := by
 have := C7 List.length (IZ h hk)
 rw [D7, List.length_replicate, AW] at this
 omega
def pads : List Nat → G0
 | [] => []
 | x :: l => pads l ++ Ao 9 x
theorem Pc (l : List Nat) : (pads l).all V1 = true := by
 induction l with
 | nil => rfl
 | cons x l ih => rw [pads, List.all_append, ih, Pd]; rfl
theorem AV (l : List Nat) : (pads l).length = 9 * l.length := by
 induction l with
 | nil => rfl
 | cons x l ih => rw [pads, D7, ih, AW, List.length_cons]; omega
theorem Ky (h : gok l) : natOf (pads l) = K0 l := by
 induction l with
 | nil => rfl
 | cons x l ih =>
  obtain ⟨h1, h2⟩ := At.1 h
  rw [pads, DC, ih h2, AW, Kz h1, K0]
  omega
theorem LW (h : gok l) (hx : x ≠ 0) : AY (K0 (l ++ [x])) = AY x ++ pads l := by
 induction l with
 | nil => simp [K0, pads]
 | cons y l ih =>
  obtain ⟨h1, h2⟩ := At.1 h
  have hne : K0 (l ++ [x]) ≠ 0 := by
   rw [Bj]
   have : 0 < 1000000000 ^ l.length := Nat.pow_pos (by omega)
   simp only [K0, Nat.mul_zero, Nat.add_zero]
   have : 0 < 1000000000 ^ l.length * x := Nat.mul_pos this (by omega)
   omega
  rw [List.cons_append, K0, Nat.add_comm, Nat.mul_comm, show (1000000000 : Nat) = 10 ^ 9 from rfl, Nz hne 9 y h1, ih h2, pads, H1]
open Go.RowKit Px
def O0 (k : G0) : List (G0 × G0) → G0
 | [] => []
 | (k', v) :: l => if k' = k then v else O0 k l
def AB (k v : G0) : List (G0 × G0) → List (G0 × G0)
 | [] => [(k, v)]
 | (k', v') :: l => if k' = k then (k, v) :: l else (k', v') :: AB k v l
def V9 (l : List (G0 × G0)) : List (G0 × DV) := l.map fun p => (p.1, dS p.2)
theorem II (k : G0) (l : List (G0 × G0)) : DD (dS []) k (V9 l) = dS (O0 k l) := by
 induction l with
 | nil => rfl
 | cons p l ih =>
  show (if p.1 = k then dS p.2 else DD (dS []) k (V9 l)) = dS (if p.1 = k then p.2 else O0 k l)
  split
  · rfl
  · exact ih
theorem LB (k v : G0) (l : List (G0 × G0)) : AM k (dS v) (V9 l) = V9 (AB k v l) := by
 induction l with
 | nil => rfl
 | cons p l ih =>
  show (if p.1 = k then (k, dS v) :: V9 l else (p.1, dS p.2) :: AM k (dS v) (V9 l)) = V9 (if p.1 = k then (k, v) :: l else (p.1, p.2) :: AB k v l)
  split
  · rfl
  · rw [ih]; rfl
theorem Js (k v j : G0) (l : List (G0 × G0)) : O0 j (AB k v l) = if j = k then v else O0 j l := by
 induction l with
 | nil =>
  show (if k = j then v else []) = if j = k then v else []
  by_cases h : j = k
  · rw [C5 h, C5 h.symm]
  · rw [B9 h, B9 (fun e => h e.symm)]
 | cons p l ih =>
  show O0 j (if p.1 = k then (k, v) :: l else (p.1, p.2) :: AB k v l) = if j = k then v else (if p.1 = j then p.2 else O0 j l)
  by_cases hp : p.1 = k
  · rw [C5 hp]
    show (if k = j then v else O0 j l) = _
    by_cases h : j = k
    · rw [C5 h, C5 h.symm]
    · rw [B9 h, B9 (fun e => h e.symm), B9 (fun e => h (e.symm.trans hp))]
  · rw [B9 hp]
    show (if p.1 = j then p.2 else O0 j (AB k v l)) = _
    by_cases hj : p.1 = j
    · rw [C5 hj, C5 hj, B9 (fun e => hp (hj.trans e))]
    · rw [B9 hj, B9 hj, ih]
abbrev BO (a b : G0) : G0 := I6 (val a + val b)
theorem dec_le {n k : Nat} (h : n < 10 ^ k) : (AY n).length ≤ k := by
 by_cases h0 : n = 0
 · rw [h0, M9]; simp
 · rw [← Af h0]
   refine BS n k h ?_
   rcases G9 k with rfl | hk
   · simp at h; omega
   · exact hk
theorem DU {z : Int} {k : Nat} (h : z.natAbs < 10 ^ k) : (I6 z).length ≤ k + 1 := by
 have := dec_le h
 unfold I6
 split <;> simp <;> omega
theorem Ff {a : G0} {k : Nat} (h : a.length ≤ k) : (val a).natAbs < 10 ^ k := by
 rw [← EL]
 have h1 := AL (V2 a)
 have hb : (Ax a).length ≤ a.length := by unfold Ax; split <;> simp
 have h2 : (L3 a).1.length ≤ a.length := by
  unfold L3
  split
  · exact E8 (List.dropWhile_suffix _).length_le hb
  · simp
 exact I9 h1 (Nat.pow_le_pow_right (by decide) (E8 h2 h))
theorem Da {a b : G0} {k : Nat} (ha : a.length ≤ k) (hb : b.length ≤ k) : (BO a b).length ≤ k + 2 := by
 have h1 := Ff ha
 have h2 := Ff hb
 refine DU (k := k + 1) ?_
 rw [Nat.pow_succ]
 omega
theorem GV {k v : G0} {l : List (G0 × G0)} {n : Nat} (hv : v.length ≤ n) (hl : ∀ j, (O0 j l).length ≤ n) (j : G0) : (O0 j (AB k v l)).length ≤ n := by
 rw [Js]
 split
 · exact hv
 · exact hl j
open Go.RowKit Px Go.Sort Go.Lib
theorem ltS_dec (a b : G0) : ltS a b = decide (a < b) := bytesLess_eq a b
theorem FR (a b : G0) : decide (a ≤ b) = !ltS b a := by
 rw [ltS_dec, Bool.eq_iff_iff]
 simp
abbrev Gs (ss : List G0) : List G0 := ss.mergeSort fun x y => decide (x ≤ y)
theorem Jd (ss : List G0) : (Gs ss).Pairwise fun x y => ltS y x = false := by
 have h := List.pairwise_mergeSort (le := fun x y : G0 => decide (x ≤ y)) (fun a b c h1 h2 => by
  rw [FR, Bool.not_eq_true'] at h1 h2 ⊢
  rcases T8 a b with e | e | e
  · rcases T8 b c with e2 | e2 | e2
    · exact W9 (Aq e e2)
    · subst e2; exact W9 e
    · rw [h2] at e2; cases e2
  · subst e; exact h2
  · rw [h1] at e; cases e) (fun a b => by
  rw [FR, FR]
  rcases T8 a b with e | e | e
  · rw [W9 e]; rfl
  · subst e; rw [R9]; rfl
  · rw [W9 e]; simp) ss
 refine h.imp fun h => ?_
 rw [FR] at h
 simpa using h
abbrev Cf := G0 × G0
def Bm (A : G0 → Int) : List Cf → Int
 | [] => 0
 | c :: e => val c.2 * A c.1 + Bm A e
theorem AO (A : G0 → Int) (a b : List Cf) : Bm A (a ++ b) = Bm A a + Bm A b := by
 induction a with
 | nil => simp [Bm]
 | cons c a ih => simp only [List.cons_append, Bm, ih]; omega
def one (k j : G0) : Int := if j = k then 1 else 0
abbrev cf (k : G0) (e : List Cf) : Int := Bm (one k) e
def N9 (e : List Cf) : Nat → List (G0 × G0)
 | 0 => []
 | i + 1 => match e[i]? with
  | none => N9 e i
  | some c => AB c.1 (BO (O0 c.1 (N9 e i)) c.2) (N9 e i)
theorem Hn : val [] = 0 := by rw [← O2, N3]
theorem Qb (A : G0 → Int) (k v : G0) (M : List (G0 × G0)) : Bm A (AB k v M) = Bm A M - val (O0 k M) * A k + val v * A k := by
 induction M with
 | nil => simp [AB, Bm, O0, Hn]
 | cons p M ih =>
  show Bm A (if p.1 = k then (k, v) :: M else (p.1, p.2) :: AB k v M) = Bm A (p :: M) - val (if p.1 = k then p.2 else O0 k M) * A k + val v * A k
  by_cases h : p.1 = k
  · rw [C5 h, C5 h]
    simp only [Bm]
    rw [h]
    omega
  · rw [B9 h, B9 h]
    simp only [Bm, ih]
    omega
theorem Jw (A : G0 → Int) (e : List Cf) (i : Nat) : Bm A (N9 e i) = Bm A (e.take i) := by
 induction i with
 | zero => rfl
 | succ i ih =>
  rw [N9]
  cases h : e[i]? with
  | none =>
   rw [List.getElem?_eq_none_iff] at h
   simp only [ih, E9 h, E9 (Nat.le_succ_of_le h)]
  | some c =>
   simp only
   rw [Qb, N3, ih, G8, h, Option.toList, AO, Int.add_mul]
   simp only [Bm]
   omega
theorem ER (k v : G0) (M : List (G0 × G0)) : (AB k v M).map (·.1) = if k ∈ M.map (·.1) then M.map (·.1) else M.map (·.1) ++ [k] := by
 induction M with
 | nil => simp [AB]
 | cons p M ih =>
  show (if p.1 = k then (k, v) :: M else (p.1, p.2) :: AB k v M).map (·.1) = _
  by_cases h : p.1 = k
  · rw [C5 h, C5 (by simp [h])]
    simp [h]
  · rw [B9 h, List.map_cons, ih]
    by_cases h2 : k ∈ M.map (·.1)
    · rw [C5 h2, C5 (by simp only [List.map_cons, List.mem_cons]; exact .inr h2)]
      rfl
    · rw [B9 h2, B9 (by simp only [List.map_cons, List.mem_cons, not_or]; exact ⟨fun e => h e.symm, h2⟩)]
      rfl
theorem Cb (e : List Cf) (i : Nat) : ((N9 e i).map (·.1)).Nodup := by
 induction i with
 | zero => exact List.nodup_nil
 | succ i ih =>
  rw [N9]
  cases h : e[i]? with
  | none => exact ih
  | some c =>
   simp only
   rw [ER]
   split
   · exact ih
   · rename_i h2
     rw [List.nodup_append]
     exact ⟨ih, by simp, fun a ha b hb => by
      rw [List.mem_singleton.1 hb]
      rintro rfl
      exact h2 ha⟩
theorem Jn (e : List Cf) (i : Nat) : (N9 e i).length ≤ i := by
 induction i with
 | zero => exact E3 _
 | succ i ih =>
  rw [N9]
  cases h : e[i]? with
  | none => exact Nat.le_succ_of_le ih
  | some c =>
   simp only
   have := C7 List.length (ER c.1 (BO (O0 c.1 (N9 e i)) c.2) (N9 e i))
   rw [A7] at this
   split at this
   · rw [A7] at this; omega
   · rw [D7, A7] at this; simp at this; omega
theorem QK (e : List Cf) (i : Nat) (k : G0) (hk : k ∈ (N9 e i).map (·.1)) : ∃ c ∈ e, c.1 = k := by
 induction i with
 | zero => cases hk
 | succ i ih =>
  rw [N9] at hk
  cases h : e[i]? with
  | none => rw [h] at hk; exact ih hk
  | some c =>
   rw [h] at hk
   simp only at hk
   rw [ER] at hk
   split at hk
   · exact ih hk
   · rcases List.mem_append.1 hk with hk | hk
     · exact ih hk
     · exact ⟨c, B7 h, (List.mem_singleton.1 hk).symm⟩
theorem DT {k : G0} {M : List (G0 × G0)} (h : k ∉ M.map (·.1)) : cf k M = 0 := by
 induction M with
 | nil => rfl
 | cons p M ih =>
  simp only [List.map_cons, List.mem_cons, not_or] at h
  show val p.2 * (if p.1 = k then 1 else 0) + cf k M = 0
  rw [B9 (fun e => h.1 e.symm), ih h.2]
  omega
theorem Qk {k : G0} {M : List (G0 × G0)} (h : (M.map (·.1)).Nodup) : cf k M = val (O0 k M) := by
 induction M with
 | nil => rw [O0, Hn]; rfl
 | cons p M ih =>
  rw [List.map_cons, List.nodup_cons] at h
  show val p.2 * (if p.1 = k then 1 else 0) + cf k M = val (if p.1 = k then p.2 else O0 k M)
  by_cases e : p.1 = k
  · rw [C5 e, C5 e, DT (e ▸ h.1)]
    omega
  · rw [B9 e, B9 e, ih h.2]
    omega
theorem IY {M : List (G0 × G0)} (h : (M.map (·.1)).Nodup) {p : G0 × G0} (hp : p ∈ M) : O0 p.1 M = p.2 := by
 induction M with
 | nil => cases hp
 | cons q M ih =>
  rw [List.map_cons, List.nodup_cons] at h
  show (if q.1 = p.1 then q.2 else O0 p.1 M) = p.2
  rcases List.mem_cons.1 hp with rfl | hp
  · rw [C5 rfl]
  · have hin : p.1 ∈ M.map (·.1) := List.mem_map_of_mem hp
    rw [B9 fun e => h.1 (by rw [e]; exact hin), ih h.2 hp]
theorem Nv {k : G0} {M : List (G0 × G0)} (h : k ∉ M.map (·.1)) : O0 k M = [] := by
 induction M with
 | nil => rfl
 | cons p M ih =>
  simp only [List.map_cons, List.mem_cons, not_or] at h
  show (if p.1 = k then p.2 else O0 k M) = []
  rw [B9 (fun e => h.1 e.symm), ih h.2]
theorem Oz (e : List Cf) (i : Nat) (k : G0) : ∃ z, O0 k (N9 e i) = I6 z := by
 induction i with
 | zero => exact ⟨0, by rw [O2]; rfl⟩
 | succ i ih =>
  rw [N9]
  cases h : e[i]? with
  | none => exact ih
  | some c =>
   simp only
   rw [Js]
   split
   · exact ⟨_, V⟩
   · exact ih
theorem BZ (e : List Cf) (k : G0) : O0 k (N9 e e.length) = I6 (cf k e) := by
 obtain ⟨z, hz⟩ := Oz e e.length k
 have h1 := Qk (k := k) (Cb e e.length)
 rw [hz, N3] at h1
 rw [hz, ← h1, cf, Jw, I3]
def keep (M : List (G0 × G0)) (k : G0) : Option Cf := if O0 k M = [] then none else some (k, O0 k M)
def nf (e : List Cf) : List Cf := (Gs ((N9 e e.length).map (·.1))).filterMap (keep (N9 e e.length))
theorem nf_mem (e : List Cf) (p : Cf) : p ∈ nf e ↔ cf p.1 e ≠ 0 ∧ p.2 = I6 (cf p.1 e) := by
 rw [nf, List.mem_filterMap]
 constructor
 · rintro ⟨k, -, h⟩
   unfold keep at h
   split at h
   · cases h
   · rename_i hk
     cases h
     rw [BZ] at hk ⊢
     exact ⟨fun e => hk (CG.2 e), V⟩
 · rintro ⟨h1, h2⟩
   refine ⟨p.1, ?_, ?_⟩
   · rw [List.mem_mergeSort]
     refine Decidable.byContradiction fun h => h1 ?_
     have := DT h
     rwa [cf, Jw, I3] at this
   · rw [keep, BZ, B9 fun e => h1 (CG.1 e), ← h2]
abbrev KK (l : List Cf) : Prop := l.Pairwise fun a b => ltS a.1 b.1 = true
theorem nf_asc (e : List Cf) : KK (nf e) := by
 unfold KK
 rw [nf, List.pairwise_filterMap]
 have h1 := Jd ((N9 e e.length).map (·.1))
 have h2 : (Gs ((N9 e e.length).map (·.1))).Nodup := (List.mergeSort_perm _ _).nodup_iff.2 (Cb e _)
 refine (h1.and h2).imp fun {a b} h p hp q hq => ?_
 have e1 : p.1 = a := by
  unfold keep at hp
  split at hp
  · cases hp
  · cases hp; rfl
 have e2 : q.1 = b := by
  unfold keep at hq
  split at hq
  · cases hq
  · cases hq; rfl
 rw [e1, e2]
 rcases T8 a b with h3 | h3 | h3
 · exact h3
 · exact G7 h3 h.2
 · rw [h.1] at h3; cases h3
theorem asc_ext {a b : List Cf} (ha : KK a) (hb : KK b) (h : ∀ p, p ∈ a ↔ p ∈ b) : a = b := by
 have n1 : a.Nodup := ha.imp fun {x y} h e => by rw [e, R9] at h; cases h
 have n2 : b.Nodup := hb.imp fun {x y} h e => by rw [e, R9] at h; cases h
 exact List.Perm.eq_of_pairwise (le := fun a b : Cf => ltS a.1 b.1 = true) (fun x y _ _ h1 h2 => by rw [W9 h1] at h2; cases h2) ha hb ((List.perm_ext_iff_of_nodup n1 n2).2 h)
theorem Kw (e : List Cf) : (nf e).length ≤ e.length := by
 refine E8 (List.length_filterMap_le _ _) ?_
 rw [List.length_mergeSort, A7]
 exact Jn e _
theorem cf_mem {k : G0} {e : List Cf} (h : cf k e ≠ 0) : ∃ c ∈ e, c.1 = k := by
 refine Decidable.byContradiction fun h1 => h ?_
 refine DT fun h2 => h1 ?_
 obtain ⟨c, hc, e⟩ := H0.1 h2
 exact ⟨c, hc, e⟩
abbrev Ln := RLn (List Cf)
def ngC (c : Cf) : Cf := (c.1, I6 (- val c.2))
def QB (l : Ln) : List Cf := if l.2.1 then l.2.2.map ngC else l.2.2
def S1 (ls : List Ln) : List Cf := ls.flatMap QB
abbrev rS (A : G0 → Int) (ls : List Ln) : Int := Bm A (S1 ls)
theorem evA_ng (A : G0 → Int) (e : List Cf) : Bm A (e.map ngC) = - Bm A e := by
 induction e with
 | nil => rfl
 | cons c e ih =>
  simp only [List.map_cons, Bm, ih, ngC, N3, Int.neg_mul]
  omega
theorem evA_ln (A : G0 → Int) (l : Ln) : Bm A (QB l) = if l.2.1 then - Bm A l.2.2 else Bm A l.2.2 := by
 unfold QB
 split
 · exact evA_ng A _
 · rfl
theorem rS_nil (A : G0 → Int) : rS A [] = 0 := rfl
theorem rS_cons (A : G0 → Int) (l : Ln) (ls : List Ln) : rS A (l :: ls) = Bm A (QB l) + rS A ls := by
 simp [rS, S1, AO]
theorem rS_app (A : G0 → Int) (a b : List Ln) : rS A (a ++ b) = rS A a + rS A b := by
 simp [rS, S1, AO]
def rNm (ls : List Ln) : List G0 := ls.flatMap fun l => l.2.2.map (·.1)
theorem Nj (l : Ln) : (QB l).map (·.1) = l.2.2.map (·.1) := by
 unfold QB
 split
 · rw [List.map_map]; rfl
 · rfl
theorem rNm_eq (ls : List Ln) : (S1 ls).map (·.1) = rNm ls := by
 unfold S1 rNm
 induction ls with
 | nil => rfl
 | cons l ls ih => simp only [List.flatMap_cons, List.map_append, ih, Nj]
theorem PO {k : G0} {ls : List Ln} (h : k ∉ rNm ls) : rS (one k) ls = 0 := by
 rcases Decidable.em (rS (one k) ls = 0) with h1 | h1
 · exact h1
 · obtain ⟨c, h2, h3⟩ := cf_mem (e := S1 ls) h1
   exact G7 (by rw [← rNm_eq]; exact H0.2 ⟨c, h2, h3⟩) h
def Ag (ls : List Ln) : Bool := (rNm ls).all fun k => decide (rS (one k) ls = 0)
theorem Qq {ls : List Ln} : Ag ls = true ↔ ∀ k, rS (one k) ls = 0 := by
 rw [Ag, E5]
 refine ⟨fun h k => ?_, fun h k _ => B0 (h k)⟩
 rcases Decidable.em (k ∈ rNm ls) with h1 | h1
 · exact of_decide_eq_true (h k h1)
 · exact PO h1
theorem Qp (ls : List Ln) : ((N9 (S1 ls) (S1 ls).length).all fun p => p.2 == []) = Ag ls := by
 rw [Bool.eq_iff_iff, Qq, E5]
 have hnd := Cb (S1 ls) (S1 ls).length
 have hz : ∀ z : Int, I6 z = [] ↔ z = 0 := fun z => ⟨fun h => by have := C7 val h; rwa [N3, Hn] at this, fun h => by rw [h]; exact O2⟩
 constructor
 · intro h k
   rcases Decidable.em (k ∈ (N9 (S1 ls) (S1 ls).length).map (·.1)) with h1 | h1
   · obtain ⟨p, hp, rfl⟩ := H0.1 h1
     have h2 := h p hp
     have h3 := IY hnd hp
     rw [BZ] at h3
     exact (hz _).1 (h3.trans (by simpa using h2))
   · have h3 := Nv h1
     rw [BZ] at h3
     exact (hz _).1 h3
 · intro h p hp
   have h3 := IY hnd hp
   rw [BZ] at h3
   rw [← h3, (hz _).2 (h p.1)]
   rfl
def CM (p : G0 → Bool) (s : G0) : Bool := decide ((Q5 46 s).length ≤ 6) && (Q5 46 s).all p
def Hr (s : G0) : Bool := s == [42] || s == [43]
def P1 (nb : G0 → Bool) (s : G0) : Bool := CM (fun x => Hr x || nb x) s
abbrev Ac := G0 × Int
def V7 (code parent : G0) : Bool := parent.isPrefixOf code && (match code.drop parent.length with | [] => true | b :: _ => b == 46)
def JJ (code : G0) (b : Ac × Bool) (a : Ac) : Ac × Bool := if V7 code a.1 && (!b.2 || decide (b.1.1.length < a.1.length)) then (a, true) else b
def GW (code : G0) (l : List Ac) : Ac × Bool := l.foldl (JJ code) (([], 0), false)
section
variable (tp : G0 → Bool) (ce : List Cf → Int) (nm : List Cf → List Cf)
abbrev Ru := Lj (List Cf)
def GU : List Ln → Int
 | [] => 0
 | l :: ls => if tp l.1 then (if ce l.2.2 = 0 then GU ls else ce l.2.2) else 3
def rE (r : Ru) : Int := match W0 r.1 with
 | none => 7
 | some _ => if 64 < r.2.length then 4 else GU tp ce r.2
theorem Nh {ls : List Ln} : GU tp ce ls = 0 ↔ ∀ l ∈ ls, tp l.1 = true ∧ ce l.2.2 = 0 := by
 induction ls with
 | nil => simp [GU]
 | cons l ls ih =>
  rw [GU]
  cases h : tp l.1 with
  | false => simp [h]
  | true =>
   rw [C5 rfl]
   by_cases h2 : ce l.2.2 = 0
   · rw [C5 h2, ih]; simp [h, h2]
   · rw [B9 h2]; simp [h2]
theorem Ct {r : Ru} : rE tp ce r = 0 ↔ (∃ k, W0 r.1 = some k) ∧ r.2.length ≤ 64 ∧ ∀ l ∈ r.2, tp l.1 = true ∧ ce l.2.2 = 0 := by
 unfold rE
 cases h : W0 r.1 with
 | none => simp
 | some k =>
  simp only
  by_cases h2 : 64 < r.2.length
  · rw [C5 h2]
    refine ⟨fun h => by simp at h, fun h => ?_⟩
    omega
  · rw [B9 h2, Nh]
    exact ⟨fun h => ⟨⟨k, V⟩, by omega, h⟩, fun h => h.2.2⟩
def ON (k : OM) (ch : List Ac) (x : Ln) : Int :=
 if ((Q5 46 x.1).any fun s => (s == [42] && !k.2.2.2.contains 42) || (s == [43] && !k.2.2.2.contains 43)) = true then 9
 else if ((nm x.2.2).any fun c => !k.2.2.1.contains c.1) = true then 6
 else if (GW x.1 ch).2 then 0 else 6
def Bg (k : OM) (ch : List Ac) : List Ln → Int
 | [] => 0
 | x :: l => if ON nm k ch x = 0 then Bg k ch l else ON nm k ch x
def Iw (ch : List Ac) : Nat → List Ru → List Ru → Int × Int
 | _, _, [] => (0, 0)
 | i, pre, r :: l =>
  if rE tp ce r ≠ 0 then (i, rE tp ce r)
  else if (pre.any fun x => x.1 == r.1) = true then (i, 5)
  else match W0 r.1 with
   | none => (0, 0)
   | some k => if Bg nm k ch r.2 ≠ 0 then (i, Bg nm k ch r.2) else if Ag r.2 then Iw ch (i + 1) (pre ++ [r]) l else (i, 14)
def LP (l : List Ru) (n : Int) : Option Ru := l.find? fun r => r.1 == n
end
section
variable (tp : G0 → Bool) (ce : List Cf → Int) (nm : List Cf → List Cf) (pe : G0 → Option (List Cf)) (pr : List Cf → G0)
variable {tp ce nm pe pr}
end
theorem Qv (l : List G0) (a b : Bool) : (l.contains [42] && !a || l.contains [43] && !b) = l.any fun s => (s == [42] && !a) || (s == [43] && !b) := by
 induction l with
 | nil => rfl
 | cons x l ih =>
  rw [List.any_cons, ← ih, List.contains_cons, List.contains_cons]
  have h1 : (([42] : G0) == x) = (x == [42]) := by rw [Bool.eq_iff_iff, beq_iff_eq, beq_iff_eq, eq_comm]
  have h2 : (([43] : G0) == x) = (x == [43]) := by rw [Bool.eq_iff_iff, beq_iff_eq, beq_iff_eq, eq_comm]
  rw [h1, h2]
  cases x == [42] <;> cases x == [43] <;> cases l.contains [42] <;> cases l.contains [43] <;> cases a <;> cases b <;> rfl
theorem JU (k : G0) (l : Ln) (ls : List Ln) : rS (one k) (l :: ls) = (if l.2.1 then - cf k l.2.2 else cf k l.2.2) + rS (one k) ls := by
 rw [rS_cons, evA_ln]
theorem cf_snoc (k : G0) (e : List Cf) (c : Cf) : cf k (e ++ [c]) = cf k e + if c.1 = k then val c.2 else 0 := by
 rw [cf, AO]
 simp only [Bm, one]
 split <;> simp
theorem bal_ref (ls : List Ln) : (ls.all fun l => l.2.2.all fun c => decide (rS (one c.1) ls = 0)) = Ag ls := by
 rw [Ag, rNm, List.all_flatMap]
 simp only [List.all_map]
 rfl
theorem Jm : kndL.map (·.1) = (List.range 19).map fun n : Nat => ((n + 1 : Nat) : Int) := by decide
theorem IP (n : Int) : (W0 n).isSome = (decide (1 ≤ n) && decide (n ≤ 19)) := by
 rw [Bool.eq_iff_iff, D3, decide_eq_true_iff, decide_eq_true_iff]
 constructor
 · intro h
   obtain ⟨k, hk⟩ := Option.isSome_iff_exists.1 h
   obtain ⟨h1, rfl⟩ := T9 hk
   have : k.1 ∈ kndL.map (·.1) := H0.2 ⟨k, h1, rfl⟩
   rw [Jm, H0] at this
   obtain ⟨m, h2, h3⟩ := this
   have := List.mem_range.1 h2
   omega
 · rintro ⟨h1, h2⟩
   have : n ∈ kndL.map (·.1) := by
    rw [Jm, H0]
    exact ⟨(n - 1).toNat, List.mem_range.2 (by omega), by omega⟩
   obtain ⟨k, h3, rfl⟩ := H0.1 this
   rw [DG h3]; rfl
theorem JV (p s : G0) : p.isPrefixOf s = (decide (p.length ≤ s.length) && (s.take p.length == p)) := by
 rw [Bool.eq_iff_iff, List.isPrefixOf_iff_prefix, List.prefix_iff_eq_take]
 constructor
 · intro h
   have h1 : p.length ≤ s.length := by have := C7 List.length h; rw [E4] at this; omega
   rw [D3]
   exact ⟨B0 h1, beq_iff_eq.2 h.symm⟩
 · intro h
   rw [D3] at h
   exact (beq_iff_eq.1 h.2).symm
theorem wHasPre (s p : G0) : PCalls Tryz.prog 211 [dS s, dS p] (.d (dB (p.isPrefixOf s))) := by
 rw [JV]
 by_cases h : p.length ≤ s.length
 · have t1 : decide ((s.length : Int) ≥ (p.length : Int)) = true := B0 (by omega)
   have h1 : s.take ((p.length : Int)).toNat = s.take p.length := by rw [H5]
   have h2 : (p.length : Int) ≤ s.length := by omega
   rw [B0 h, Bool.true_and]
   obtain ⟨t, ht⟩ := H7 (s.take p.length)
   rw [← ht] at h1 ⊢
   clear ht
   refine B3 Tryz.func211 V Tryz.ntmps211 Tryz.results211 (by simp) fun B w0 => ?_
   refine D8 (B5 V (H8 V (O4 V (C3 V (O4 V (G3 V (C3 V ?_))))))); rw [t1]; refine C3 V (C3 V (O4 V (KS (by omega) h2 h1 rfl rfl (C3 rfl (O9 rfl rfl (K8 rfl rfl (B5 rfl (C4 ?_))))))))
   exact C9 _ (.tmp V .nil) V
 · have t1 : decide ((s.length : Int) ≥ (p.length : Int)) = false := A9 (by omega)
   rw [A9 h, Bool.false_and]
   refine B3 Tryz.func211 V Tryz.ntmps211 Tryz.results211 (by simp) fun B w0 => ?_
   refine D8 (B5 V (H8 V (O4 V (C3 V (O4 V (G3 V (C3 V ?_))))))); rw [t1]; refine yO V (yO V (yO V (yO V (yO V (yO V (K7 V V (B5 V (C4 ?_))))))))
   exact C9 _ (.tmp V .nil) V
theorem pre_len {p s : G0} (h : p.isPrefixOf s = true) : p.length ≤ s.length := by
 rw [JV, D3] at h
 exact of_decide_eq_true h.1
theorem Ok (s p : G0) : PCalls Tryz.prog 164 [dS s, dS p] (.tup [dS (if p.isPrefixOf s then s.drop p.length else s), dB (p.isPrefixOf s)]) := by
 have c1 := wHasPre s p
 cases h : p.isPrefixOf s with
 | true =>
  rw [h] at c1
  have h2 : (p.length : Int) ≤ s.length := by have := pre_len h; omega
  have h1 : s.drop ((p.length : Int)).toNat = s.drop p.length := by rw [H5]
  rw [C5 rfl]
  obtain ⟨t, ht⟩ := H7 (s.drop p.length)
  rw [← ht] at h1 ⊢
  clear ht
  refine B3 Tryz.func164 V Tryz.ntmps164 Tryz.results164 (by simp) fun B w0 => ?_
  refine D8 (H4 V (B5 V (I0 V (C3 V (yC (c1) V V (yU V V V (yQ (F6 V (B2 (H8 V (C3 V (O4 V (GP (by omega) h2 h1 rfl rfl (H4 rfl (B5 rfl (C4 ?_))))))))))))))))
  exact C9 _ (.tmp V (.tmp V .nil)) V
 | false =>
  rw [h] at c1
  rw [B9 (by simp)]
  refine B3 Tryz.func164 V Tryz.ntmps164 Tryz.results164 (by simp) fun B w0 => ?_
  refine D8 (H4 V (B5 V (I0 V (C3 V (yC (c1) V V (yU V V V (yQ (G5 V (H8 V (H4 V (B5 V (C4 (A4 ?_)))))))))))))
  exact C9 _ (.tmp V (.tmp V .nil)) V
theorem wCutPre (s p : G0) : PCalls Tryz.prog 121 [dS s, dS p] (.tup [dS (if p.isPrefixOf s then s.drop p.length else s), dB (p.isPrefixOf s)]) := by
 have c1 := Ok s p
 obtain ⟨t, ht⟩ := H7 ((if p.isPrefixOf s then s.drop p.length else s))
 obtain ⟨b, hb⟩ := H7 (p.isPrefixOf s)
 rw [← ht, ← hb] at c1 ⊢
 clear ht hb
 refine B3 Tryz.func121 V Tryz.ntmps121 Tryz.results121 (by simp) fun B w0 => ?_
 refine D8 (H4 V (B5 V (H8 V (C3 V (yC (c1) V V (yX V V (yX V V (H4 V (B5 V (C4 ?_))))))))))
 exact C9 _ (.tmp V (.tmp V .nil)) V
theorem u8_int (x : UInt8) (n : Nat) (hn : n < 256) : ((x.toNat : Int) == (n : Int)) = (x == UInt8.ofNat n) := by
 rw [Bool.eq_iff_iff, beq_iff_eq, beq_iff_eq]
 constructor
 · intro h
   have h1 : x.toNat = n := by omega
   rw [← h1]; simp
 · rintro rfl
   simp; omega
theorem KU (code parent : G0) : PCalls Tryz.prog 71 [dS code, dS parent] (.d (dB (V7 code parent))) := by
 have c1 := wCutPre code parent
 unfold V7
 cases h : parent.isPrefixOf code with
 | false =>
  rw [h, B9 (by simp)] at c1
  rw [Bool.false_and]
  refine B3 Tryz.func71 V Tryz.ntmps71 Tryz.results71 (by simp) fun B w0 => ?_
  refine D8 (B5 V (H8 V (C3 V (yC (c1) V V (O5 V (yX V V (yX V V (H4 V (B5 V (H8 V (C3 V (yO V (yO V (yO V (yO V (yO V (yO V (yO V (K7 V V (B5 V (C4 ?_)))))))))))))))))))))
  exact C9 _ (.tmp V .nil) V
 | true =>
  rw [h, C5 rfl] at c1
  rw [Bool.true_and]
  cases hd : code.drop parent.length with
  | nil =>
   rw [hd] at c1
   refine B3 Tryz.func71 V Tryz.ntmps71 Tryz.results71 (by simp) fun B w0 => ?_
   refine D8 (B5 V (H8 V (C3 V (yC (c1) V V (O5 V (yX V V (yX V V (H4 V (B5 V (H8 V (C3 V (C3 V (O9 V V (C3 V (yO V (yO V (yO V (K8 V V (K8 V V (B5 V (C4 ?_)))))))))))))))))))))
   exact C9 _ (.tmp V .nil) V
  | cons b l =>
   rw [hd] at c1
   have t1 : ((b.toNat : Int) == 46) = (b == 46) := u8_int b 46 (by omega)
   have hx : (b :: l : G0)[(0 : Int).toNat]? = some b := rfl
   have t0 : ((b :: l : G0) == []) = false := rfl
   obtain ⟨r, hr⟩ := H7 ((b == 46))
   rw [← hr] at t1
   obtain ⟨z, hz⟩ := H7 ((b :: l : G0))
   rw [← hz] at c1 hx t0
   show PCalls Tryz.prog 71 [dS code, dS parent] (.d (dB (b == 46)))
   rw [← hr]
   clear hd hz hr
   refine B3 Tryz.func71 V Tryz.ntmps71 Tryz.results71 (by simp) fun B w0 => ?_
   refine D8 (B5 V (H8 V (C3 V (yC (c1) V V (O5 V (yX V V (yX V V (H4 V (B5 V (H8 V (C3 V (C3 V (O9 V V (C3 V ?_)))))))))))))); rw [t0]
   refine C3 V (Ah hx (by omega) rfl rfl (G3 rfl (K7 rfl rfl (K8 rfl rfl (B5 rfl (C4 ?_)))))); rw [t1]
   exact C9 _ (.tmp V .nil) V
theorem Kr {P : Program} {f : FuncId} {k : Nat} {es : List (List DV)} {rest : List DV} {r : SV} (h : es.length ≤ 9223372036854775807 → PCalls P f (.sl k es :: rest) r) : PCalls P f (.sl k es :: rest) r := fun F w vals hl hr hg => by
 refine h ?_ F w vals hl hr hg
 cases vals with
 | nil => simp at hl
 | cons v vals =>
  have h1 := hr 0 v _ rfl rfl
  obtain ⟨A, c, news, -, -, hm, -⟩ := DRep.row h1
  exact hm
abbrev O8 (a : Ac) : List DV := [dS a.1, dI a.2]
theorem wFindA (l : List Ac) (code : G0) : PCalls Tryz.prog 47 [.sl 2 (l.map O8), dS code] (.tup [.agg (O8 (GW code l).1), dB (GW code l).2]) := by
 unfold GW
 obtain ⟨r, hr⟩ := H7 (l.foldl (JJ code) (([], 0), false))
 rw [← hr]
 refine Kr fun hl => ?_
 rw [A7] at hl
 refine B3 Tryz.func47 V Tryz.ntmps47 Tryz.results47 (by simp) fun B w0 => ?_
 refine D8 (yZ (cs := [_, _]) V V (B5 V (D8 (yZ (cs := [_, _]) V V (yQ (D8 (B5 V (I0 V (yN V (C3 V (yQ (B6 ?_)))))))))))); refine H2 (fun p : Nat × (Ac × Bool) => ⟨37, [(1, .d (dS code)), (4, .bx 4 0), (6, .bx 6 0), (7, .d (dB p.2.2)), (10, .d (.sl 2 (l.map O8))), (11, .d (dI l.length)), (12, .d (dI p.1))], [(4, [.d (dS []), .d (dI 0)]), (6, [.d (dS p.2.1.1), .d (dI p.2.1.2)])], []⟩) (fun p => p.1 ≤ l.length ∧ p.2 = (l.take p.1).foldl (JJ code) (([], 0), false)) (fun p => l.length - p.1) (0, (([], 0), false)) ⟨D9 _, V⟩
  ⟨rfl, ⟨.refl _, .refl _, .refl _, .refl _, .refl _, .of_eq (C7 (fun n : Nat => SV.d (dI n)) (by simp)), .refl _, D4⟩, ⟨⟨_, rfl, F7 _⟩, ⟨_, rfl, F7 _⟩, D4⟩, D4, rfl⟩ ?_
 rintro ⟨k, ⟨⟨c0, n0⟩, f⟩⟩ ⟨hk, hI⟩
 simp only at hk hI ⊢
 rcases D2 k l.length with h | h
 rotate_left
 · have u1 : decide ((k : Int) < (l.length : Int)) = false := A9 (by omega)
   rw [E9 h, ← hr] at hI
   subst hI
   clear hr
   refine D8 (H3 V (A8 (L9 u1 V (G1 (D8 (BU (ys := [_, _]) V V V V (C3 V (yS (cs' := [_, _]) V V V V V (B5 V (C4 ?_))))))))))
   exact C9 _ (.agg E6 V V V V (.tmp V .nil)) V
 have u1 : decide ((k : Int) < (l.length : Int)) = true := B0 (by omega)
 obtain ⟨⟨a0, a1⟩, ha⟩ : ∃ a, l[k]? = some a := ⟨_, A5 h⟩
 have ex := ix O8 l k k (a0, a1) rfl ha
 have hw := I5 ((k : Int) + 1) (by omega)
 have c1 := KU code a0
 have hnx : (l.take (k + 1)).foldl (JJ code) (([], 0), false) = JJ code ((c0, n0), f) (a0, a1) := by
  rw [G8, ha, List.foldl_append, ← hI]; rfl
 have arith : l.length - (k + 1) < l.length - k := by omega
 clear hr hI
 rw [JJ] at hnx
 cases hu : V7 code a0 with
 | false =>
  rw [hu] at c1 hnx
  rw [Bool.false_and, B9 (by simp)] at hnx
  refine D8 (H3 V (A8 (J8 u1 V (B2 (A8 (B6 (D8 (yW ex (by omega) rfl rfl (R7 (ys := [_, _]) rfl rfl rfl (yZ (cs := [_, _]) rfl rfl (yS (cs' := [_, _]) rfl rfl rfl rfl rfl (yQ (H8 rfl (J6 rfl (yC (c1) rfl rfl (C3 rfl (yO rfl (yO rfl (yO rfl (yO rfl (yO rfl (yO rfl (yO rfl (yO rfl (yO rfl (yO rfl (yO rfl (K7 rfl rfl (yQ (F6 rfl (B2 (B4 (G3 rfl (C3 rfl (yQ (B1 ?_))))))))))))))))))))))))))))))))))))
  exact ⟨(k + 1, ((c0, n0), f)), ⟨h, hnx.symm⟩, arith, V, ⟨.refl _, .refl _, .refl _, .refl _, .refl _, .refl _, .of_eq (C7 (fun n => SV.d (dI n)) hw), D4⟩, ⟨⟨_, V, F7 _⟩, ⟨_, V, F7 _⟩, D4⟩, D4, V⟩
 | true =>
  rw [hu] at c1 hnx
  cases f with
  | false =>
   have hnx2 : (l.take (k + 1)).foldl (JJ code) (([], 0), false) = ((a0, a1), true) := by rw [hnx]; rfl
   refine D8 (H3 V (A8 (J8 u1 V (B2 (A8 (B6 (D8 (yW ex (by omega) rfl rfl (R7 (ys := [_, _]) rfl rfl rfl (yZ (cs := [_, _]) rfl rfl (yS (cs' := [_, _]) rfl rfl rfl rfl rfl (yQ (H8 rfl (J6 rfl (yC (c1) rfl rfl (C3 rfl (C3 rfl (yU rfl rfl rfl (C3 rfl (yO rfl (yO rfl (yO rfl (yO rfl (yO rfl (yO rfl (yO rfl (K8 rfl rfl (K8 rfl rfl (yQ (G5 rfl (B4 (BU (ys := [_, _]) rfl rfl rfl rfl (yS (cs' := [_, _]) rfl rfl rfl rfl rfl (B5 rfl (B4 (G3 rfl (C3 rfl (yQ (B1 ?_)))))))))))))))))))))))))))))))))))))))
   exact ⟨(k + 1, ((a0, a1), true)), ⟨h, hnx2.symm⟩, arith, V, ⟨.refl _, .refl _, .refl _, .refl _, .refl _, .refl _, .of_eq (C7 (fun n => SV.d (dI n)) hw), D4⟩, ⟨⟨_, V, F7 _⟩, ⟨_, V, F7 _⟩, D4⟩, D4, V⟩
  | true =>
   by_cases hc : c0.length < a0.length
   · have t1 : decide ((a0.length : Int) > (c0.length : Int)) = true := B0 (by omega)
     have hnx2 : (l.take (k + 1)).foldl (JJ code) (([], 0), false) = ((a0, a1), true) := by rw [hnx, B0 hc]; rfl
     refine D8 (H3 V (A8 (J8 u1 V (B2 (A8 (B6 (D8 (yW ex (by omega) rfl rfl (R7 (ys := [_, _]) rfl rfl rfl (yZ (cs := [_, _]) rfl rfl (yS (cs' := [_, _]) rfl rfl rfl rfl rfl (yQ (H8 rfl (J6 rfl (yC (c1) rfl rfl (C3 rfl (C3 rfl (yU rfl rfl rfl (C3 rfl (J6 rfl (O4 rfl (J6 rfl (O4 rfl (G3 rfl (K7 rfl rfl (K8 rfl rfl (yQ (B1 (J8 t1 rfl (B4 (BU (ys := [_, _]) rfl rfl rfl rfl (yS (cs' := [_, _]) rfl rfl rfl rfl rfl (B5 rfl (B4 (G3 rfl (C3 rfl (yQ (B1 ?_))))))))))))))))))))))))))))))))))))))
     exact ⟨(k + 1, ((a0, a1), true)), ⟨h, hnx2.symm⟩, arith, V, ⟨.refl _, .refl _, .refl _, .refl _, .refl _, .refl _, .of_eq (C7 (fun n => SV.d (dI n)) hw), D4⟩, ⟨⟨_, V, F7 _⟩, ⟨_, V, F7 _⟩, D4⟩, D4, V⟩
   · have t1 : decide ((a0.length : Int) > (c0.length : Int)) = false := A9 (by omega)
     have hnx2 : (l.take (k + 1)).foldl (JJ code) (([], 0), false) = ((c0, n0), true) := by rw [hnx, A9 hc]; rfl
     refine D8 (H3 V (A8 (J8 u1 V (B2 (A8 (B6 (D8 (yW ex (by omega) rfl rfl (R7 (ys := [_, _]) rfl rfl rfl (yZ (cs := [_, _]) rfl rfl (yS (cs' := [_, _]) rfl rfl rfl rfl rfl (yQ (H8 rfl (J6 rfl (yC (c1) rfl rfl (C3 rfl (C3 rfl (yU rfl rfl rfl (C3 rfl (J6 rfl (O4 rfl (J6 rfl (O4 rfl (G3 rfl (K7 rfl rfl (K8 rfl rfl (yQ (B1 (L9 t1 rfl (B2 (B4 (G3 rfl (C3 rfl (yQ (B1 ?_)))))))))))))))))))))))))))))))))))
     exact ⟨(k + 1, ((c0, n0), true)), ⟨h, hnx2.symm⟩, arith, V, ⟨.refl _, .refl _, .refl _, .refl _, .refl _, .refl _, .of_eq (C7 (fun n => SV.d (dI n)) hw), D4⟩, ⟨⟨_, V, F7 _⟩, ⟨_, V, F7 _⟩, D4⟩, D4, V⟩
end Go.Proofs.YtddfimjiihggmaaGreatDoor