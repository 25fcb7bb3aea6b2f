/- Plain mathematics of strings as lists of bytes: their order, ascending lists. -/
import Derived.Test.YtddfimjiihggmaaGreatDoorB3
import Derived.Test.YtddfimjiihggmaaGreatDoorRows
import Derived.LaidMore
import Derived.Lay
import Derived.Stop.Joined
import Derived.Lib.SmallJoins
import Derived.Lib.SplitLaws
import Derived.Sort.KeysCollected
import Derived.Lib.ItoaNum
import Derived.Sort.Walk0
set_option maxHeartbeats 16000000
set_option maxRecDepth 20000
namespace Go.Proofs.YtddfimjiihggmaaGreatDoor
abbrev ltS (a b : Str) : Bool := Go.Op.bytesLess a b
theorem ltS_cons (a b : UInt8) (x y : Str) : ltS (a :: x) (b :: y) = (decide (a < b) || (a == b && ltS x y)) := rfl
theorem ltS_irrefl (a : Str) : ltS a a = false := by
 induction a with
 | nil => rfl
 | cons x a ih =>
  rw [ltS_cons, ih, Bool.and_false, Bool.or_false]
  exact decide_eq_false (UInt8.lt_irrefl x)
theorem ltS_trans {a b c : Str} (h : ltS a b = true) (k : ltS b c = true) : ltS a c = true := by
 induction a generalizing b c with
 | nil =>
  cases b with
  | nil => cases h
  | cons y b => cases c with
   | nil => cases k
   | cons z c => rfl
 | cons x a ih =>
  cases b with
  | nil => cases h
  | cons y b =>
   cases c with
   | nil => cases k
   | cons z c =>
    rw [ltS_cons] at h k ⊢
    simp only [Bool.or_eq_true, decide_eq_true_eq, Bool.and_eq_true, beq_iff_eq] at h k ⊢
    rcases h with h | ⟨rfl, h⟩
    · rcases k with k | ⟨rfl, k⟩
      · exact .inl (UInt8.lt_trans h k)
      · exact .inl h
    · rcases k with k | ⟨rfl, k⟩
      · exact .inl k
      · exact .inr ⟨rfl, ih h k⟩
theorem ltS_total (a b : Str) : ltS a b = true ∨ a = b ∨ ltS b a = true := by
 induction a generalizing b with
 | nil => cases b with
  | nil => exact .inr (.inl rfl)
  | cons y b => exact .inl rfl
 | cons x a ih =>
  cases b with
  | nil => exact .inr (.inr rfl)
  | cons y b =>
   rw [ltS_cons, ltS_cons]
   simp only [Bool.or_eq_true, decide_eq_true_eq, Bool.and_eq_true, beq_iff_eq]
   rcases Decidable.em (x < y) with h | h
   · exact .inl (.inl h)
   · rcases Decidable.em (y < x) with k | k
     · exact .inr (.inr (.inl k))
     · have e : x = y := by
        apply UInt8.toNat_inj.1
        rw [UInt8.lt_iff_toNat_lt] at h k
        omega
       subst e
       rcases ih b with i | rfl | i
       · exact .inl (.inr ⟨rfl, i⟩)
       · exact .inr (.inl rfl)
       · exact .inr (.inr (.inr ⟨rfl, i⟩))
theorem ltS_asymm {a b : Str} (h : ltS a b = true) : ltS b a = false := by
 cases k : ltS b a with
 | false => rfl
 | true => have := ltS_trans h k; rw [ltS_irrefl] at this; cases this
theorem ltS_ne {a b : Str} (h : ltS a b = true) : a ≠ b := fun e => by rw [e, ltS_irrefl] at h; cases h
open Go.RowKit Px
abbrev dI (n : Int) : DV := .val (.int .i64 n)
abbrev dU (n : Nat) : DV := .val (.int .u64 n)
abbrev dB (b : Bool) : DV := .val (.bool b)
abbrev dC (l : Str) : List DV := [dS l]
theorem ix {α : Type} (f : α → List DV) (l : List α) (n : Int) (i : Nat) (x : α) (h : n = i) (hx : l[i]? = some x) : (l.map f)[n.toNat]? = some (f x) := by
 subst h
 rw [Int.toNat_natCast, List.getElem?_map, hx]; rfl
theorem wrapI (n : Int) (h : -9223372036854775808 ≤ n ∧ n ≤ 9223372036854775807) : IntKind.i64.wrap n = n := IntWalk.i64_in n h
theorem PCalls.of_any {P : Program} {f : FuncId} {args : List DV} {us : List Value} {v : Value} (hv : v = (match us with | [u] => u | us => .tuple us.toArray)) (hu : ∀ u ∈ us, u.oneCell' = true)
 (h : ∀ (F : Nat → Nat → Prop) (w : World) (vals : List Value), vals.length = args.length → (∀ (i : Nat) v x, vals[i]? = some v → args[i]? = some x → DRep F w v x) → GlobOk F w → Calls P f vals.toArray w fun e w' => e = .returned v ∧ Below w.heap.size w w') : PCalls P f args (resSV (us.map .val)) := by
 intro F w vals hl hr hg
 refine (h F w vals hl hr hg).mono ?_
 rintro e w' ⟨rfl, hb⟩
 refine ⟨_, rfl, ?_, hb⟩
 subst hv
 match us, hu with
 | [], _ => exact ⟨[], rfl, rfl, fun i y x hy => by simp at hy⟩
 | [u], hu => exact DRep.val u (hu u (by simp))
 | u :: u' :: us, hu =>
  refine ⟨u :: u' :: us, rfl, by simp, fun i y x hy hx => ?_⟩
  simp only [← List.map_cons, List.getElem?_map] at hx
  rw [hy] at hx
  cases hx
  exact DRep.val y (hu y (List.mem_of_getElem? hy))
theorem vals_of {F : Nat → Nat → Prop} {w : World} {vals : List Value} {us : List Value} (hl : vals.length = (us.map DV.val).length) (hr : ∀ (i : Nat) v x, vals[i]? = some v → (us.map DV.val)[i]? = some x → DRep F w v x) : vals = us := by
 apply List.ext_getElem (by simpa using hl)
 intro i h1 h2
 have := hr i _ _ (List.getElem?_eq_getElem h1) (List.getElem?_eq_getElem (by simpa using h2))
 simp only [List.getElem_map] at this
 exact DRep.val_eq this
theorem calls_of_true {P : Program} {f : FuncId} {args : List DV} (hp : PCalls P f args (.d (dB true))) (w : World) (vals : List Value) (hl : vals.length = args.length) (hr : ∀ (i : Nat) v x, vals[i]? = some v → args[i]? = some x → DRep (fun _ _ => True) w v x) (hg : GlobOk (fun _ _ => True) w) :
 Calls P f vals.toArray w fun e w' => e = .returned (.bool true) ∧ Below w.heap.size w w' :=
 (hp (fun _ _ => True) w vals hl hr hg).mono fun e w' ⟨v, h1, h2, h3⟩ => by
  have : v = .bool true := DRep.val_eq h2
  subst this
  exact ⟨h1, h3⟩
open Go.ChangeShapes Go.WideShapes Go.ChangeAt Go.RowKit Go.Joins Px
theorem own : ownKnob Tryz.prog.godebug = none := by kernel_rfl
def pow10 : List Int := [1, 10, 100, 1000, 10000, 100000, 1000000, 10000000, 100000000, 1000000000, 10000000000, 100000000000, 1000000000000, 10000000000000, 100000000000000, 1000000000000000, 10000000000000000, 100000000000000000, 1000000000000000000, 10000000000000000000]
theorem gs_eq : gs = [(5, pow10.map fun n => DV.val (.int .u64 n))] := rfl
section
variable {H : Type} {enc : TypeId × Value → H}
theorem glob_of_var {W : World} {cs : Array Value} {fuel : Nat} {x : DataW Unit × List MemPlace} {sp : Nat → Bool} {hd : Bool} (hv : W.var? Tryz.prog "internal/strconv.uint64pow10" = some cs) (hx : x.1 = .agg (pow10.map fun n => .lit (.int .u64 n)))
 (h : DataW.trod (fun _ => ()) Tryz.prog W 0 sp hd fuel 293 cs.toList = some x) : GlobOk (fun _ _ => True) W := by
 obtain ⟨xs, m, -, rfl, hl, hn, hel⟩ := DataW.trod_array Tryz.underlying293 h
 have hc : Tryz.prog.cellsOf 198 = 1 := by kernel_rfl
 have hc2 : Tryz.prog.cellsOf 293 = 20 := by kernel_rfl
 rw [hc2] at hl
 have hx : xs.map (·.1) = pow10.map fun n => (.lit (.int .u64 n) : DataW Unit) := DataW.agg.inj hx
 have hp : pow10.length = 20 := rfl
 have hcs : cs.toList = pow10.map fun n => Value.int .u64 n := by
  apply List.ext_getElem?
  intro r
  by_cases hr : r < 20
  · have hE := hel r hr
    rw [hc, Nat.mul_one, List.getElem?_eq_getElem (by omega)] at hE
    obtain ⟨z, e1, e2, -⟩ := DataW.trod_int Tryz.underlying198 hE
    have e4 : (xs.map (·.1))[r]? = (pow10.map fun n => (.lit (.int .u64 n) : DataW Unit))[r]? := by rw [hx]
    rw [List.getElem?_map, List.getElem?_map, List.getElem?_eq_getElem (by omega : r < xs.length), List.getElem?_eq_getElem (by omega : r < pow10.length), e2] at e4
    simp only [Option.map_some, Option.some.injEq, DataW.lit.injEq, Lit.int.injEq, true_and] at e4
    have h0 : ((cs.toList.drop r).take 1)[0]? = some (.int .u64 z) := by rw [e1]; rfl
    have h1 : cs.toList[r]? = some (.int .u64 z) := by simpa using h0
    rw [h1, List.getElem?_map, List.getElem?_eq_getElem (by omega : r < pow10.length), e4]
    rfl
  · rw [List.getElem?_eq_none (by omega), List.getElem?_eq_none (by simp [hp]; omega)]
 have hg : Tryz.prog.globalNamed "internal/strconv.uint64pow10" = some 5 := by kernel_rfl
 have hcell := World.var?_cell hg hv
 obtain ⟨T, z, hheap⟩ : ∃ T z, W.heap[5]? = some (.cells cs T z) := by
  simp only [World.var?, hg, Option.bind_some] at hv
  split at hv
  · rename_i a b c hh; cases hv; exact ⟨_, _, hh⟩
  · cases hv
 intro q ds hq
 rw [gs_eq] at hq
 simp only [aget] at hq
 cases hb : Nat.beq 5 q with
 | false => rw [hb] at hq; cases hq
 | true =>
  have e := Nat.eq_of_beq_eq_true hb
  subst e
  rw [hb] at hq
  cases hq
  refine ⟨.ref (fun j => (pow10.map fun n => Value.int .u64 n)[j]?.getD default) (fun j hj => ?_) (fun j x hj => ?_), pow10.map fun n => Value.int .u64 n, by rw [List.map_map]; rfl, T, z, ?_⟩
  · rw [List.length_map] at hj
    have e1 : (pow10.map fun n => Value.int .u64 n)[j]? = some (Value.int .u64 pow10[j]) := by rw [List.getElem?_map, List.getElem?_eq_getElem hj]; rfl
    refine ⟨?_, trivial, ?_⟩
    · rw [Nat.zero_add, hcell j, ← Array.getElem?_toList, hcs, e1]; rfl
    · rw [e1]; rfl
  · rw [List.getElem?_map, Option.map_eq_some_iff] at hj
    obtain ⟨n, hn, rfl⟩ := hj
    have e1 : (pow10.map fun n => Value.int .u64 n)[j]? = some (Value.int .u64 n) := by rw [List.getElem?_map, hn]; rfl
    rw [e1]
    exact .val _ rfl
  · rw [hheap, ← hcs]
theorem laidOut : laidOutB Tryz.prog = true := by kernel_rfl
theorem trodAll_later {W W' : World} (hb : Below W.heap.size W W') : ∀ (ts : List TypeId) (vs : List Value) (ds : List (DataW H)) (ps : List MemPlace), (∀ t ∈ ts, Tryz.prog.readableRec t = true ∧ t < Tryz.prog.types.size) → (∀ x ∈ ps, x.block < W.heap.size) →
 DataW.TrodAll enc Tryz.prog W 0 (fun _ => true) true ts vs ds ps → DataW.TrodAll enc Tryz.prog W' 0 (fun b => decide (b < W.heap.size)) true ts vs ds ps
 | [], vs, ds, ps, _, _, h => by
  obtain ⟨rfl, rfl, rfl⟩ := trodAll_nil h
  exact trodAll_mk0
 | t :: ts, vs, ds, ps, ht, hlt, h => by
  obtain ⟨v, vs', d, ds', p, q, rfl, rfl, rfl, h1, h2⟩ := trodAll_cons h
  exact trodAll_cons_mk (Below.trod laidOut (ht t (by simp)).1 (ht t (by simp)).2 h1 hb fun x hx => hlt x (by simp [hx]))
   (trodAll_later hb ts vs' ds' q (fun t' ht' => ht t' (by simp [ht'])) (fun x hx => hlt x (by simp [hx])) h2)
theorem law_post {f : Func} {s : ChangeSpec} {W W' : World} {args : Array Value} {ds : List (DataW H)} {before : List MemPlace} (hW : DataW.Whole enc Tryz.prog f.params.toList s.vars false W args.toList ds [] before) (hv : s.vars = [])
 (hres : f.resultTypes = #[4]) (hfn : s.fn H (ds ++ []) = { results := [.lit (.bool true)], args := ds }) (hread : ∀ t ∈ f.params.toList, Tryz.prog.readableRec t = true ∧ t < Tryz.prog.types.size) (hb : Below W.heap.size W W') :
 s.post enc Tryz.prog f false true false false W args (.bool true) W' := by
 have hW' := hW
 obtain ⟨p, q, hA, hV, rfl, hfz, hnd⟩ := hW
 rw [hv] at hV
 obtain ⟨-, rfl⟩ := trodVars_none hV
 have hlt : ∀ x ∈ p, x.block < W.heap.size := fun x hx => hW'.lt x (by simp [hx])
 refine ⟨ds, [], p ++ [], [], p, [], hW', ?_, ?_, ?_, hb.frame _, fun h => by cases h⟩
 · rw [hfn, hres]
   exact trodAll_mk1 (shut_bool Tryz.underlying4 _)
 · rw [hfn]
   exact trodAll_later hb _ _ _ _ hread hlt hA
 · rw [hfn, hv]
   rfl
end
end Go.Proofs.YtddfimjiihggmaaGreatDoor
namespace Go.Proofs.YtddfimjiihggmaaGreatDoor.Px
open Go.RowKit
theorem Rep.rebox {B : Nat} {w0 : Cx} {g : Gh} {st : PS} {a : Act} {w w' : World} (h : Rep B w0 g st a w) {i b b' T : Nat} (hlt : i < 500000) (hsm : smB i) (hbl : g.bl i = some b) (hb0 : Below 0 w w') (hne : ∀ k, k < w.heap.size → k ≠ b → w'.heap[k]? = w.heap[k]?) (hbb : b' = b ∨ w.heap.size ≤ b')
 (xs : Array Value) (hheap : w'.heap[b']? = some (.cells xs T (0, 0))) (vs : List Value) (hl : vs.length ≤ xs.size) (hx : ∀ (j : Nat) u, vs[j]? = some u → xs[j]? = some u ∧ u.oneCell' = true) :
 Rep B w0 (g.addb i b') ((st.kill i).bput i (vs.map fun u => .d (.val u))) a w' := by
 have hbs : b' < w'.heap.size := (Array.getElem?_eq_some_iff.1 hheap).1
 have hothers : ∀ j c, j ≠ i → g.bl j = some c → c ≠ b' ∧ w'.heap[c]? = w.heap[c]? := fun j c hj hc => by
  have h1 : c ≠ b := fun e => hj (h.inj j i b (by rw [hc, e]) hbl)
  have h2 := (h.blk j c hc).2
  refine ⟨fun e => ?_, hne c h2 h1⟩
  rcases hbb with e2 | e2
  · exact h1 (e.trans e2)
  · omega
 have ev : Evo g w (g.addb i b') w' := by
  refine ⟨hb0, rfl, fun c o hf hs => ?_, fun c hc => ?_, fun j c hj => ?_, fun _ T h => .inl ⟨T, h, .inl rfl⟩, fun t T _ h h' => .inr (.inr ⟨t, T, h, h'⟩), fun j c hj hc hc' => ?_⟩
  · have hcl := see_lt hs
    have hcb : c ≠ b := fun e => hf.2.1 i (by rw [hbl, e])
    refine ⟨⟨hf.1, fun j hj => ?_, hf.2.2⟩, see_of_block (hne c hcl hcb) o⟩
    simp only [Gh.addb] at hj
    split at hj
    · cases hj
      rcases hbb with e2 | e2
      · exact hcb e2
      · omega
    · exact hf.2.1 j hj
  · rcases Nat.lt_or_ge c w.heap.size with h1 | h1
    · exact hne c h1 fun e => hc (.inr (.inl ⟨i, e ▸ hbl⟩))
    · exact absurd (.inl h1) hc
  · simp only [Gh.addb] at hj
    split at hj
    · rename_i e
      cases hj
      refine .inr ⟨e ▸ hsm, ?_⟩
      rcases hbb with e2 | e2
      · exact .inr (.inl ⟨i, e2 ▸ hbl⟩)
      · exact .inl e2
    · exact .inl hj
  · have hji : j ≠ i := fun e => hj (e ▸ hsm)
    exact shape_of_block (hothers j c hji hc).2
 have srep : ∀ v x, SRep g w v x → SRep (g.addb i b') w' v (x.kill i) := fun v x hx =>
  (hx.le (kill_le i x)).extp ev.fx (fun j hj c hc => by
   simp only [Gh.addb]
   rw [if_neg (kill_ids hj).2]
   exact hc) (fun t' k' es e T' hT' => ⟨T', hT', .inl rfl⟩) fun j hj c hc => shape_of_block (hothers j c (kill_ids hj).2 hc).2
 obtain ⟨-, hk⟩ := h.kill i
 have hxs : ∀ (j : Nat) c, (vs.map fun u => SV.d (.val u))[j]? = some c → ∃ x, xs[j]? = some x ∧ SRep (g.addb i b') w' x c := fun j c hj => by
  rw [List.getElem?_map, Option.map_eq_some_iff] at hj
  obtain ⟨u, hu, rfl⟩ := hj
  obtain ⟨h1, h2⟩ := hx j u hu
  exact ⟨u, h1, DRep.val u h2⟩
 refine { hk with evo := h.evo.trans ev, defers := h.defers.evo ev, base := Nat.le_trans h.base hb0.size, f0 := h.f0, lim := hk.lim, size := hk.size, glob := fun q cs hq => srep _ (.rd cs) (h.glob q cs hq), slots := fun j => ?_, boxes := fun j cs' hj hj5 => ?_, maps := fun j ms hj hge => ?_, blk := fun j c hj => ?_, dom := fun j c hj => ?_, inj := fun j k c hj hk => ?_, toks := fun t' T' hT' => ?_, tf0 := h.tf0, telt := h.telt, tdis := h.tdis, tdom := h.tdom, tlen := h.tlen }
 · show SRep _ w' _ ((st.kill i).get j)
   rw [kill_get]
   exact srep _ _ (h.slots j)
 · rw [bget_bput] at hj
   by_cases e : j = i
   · rw [if_pos e] at hj
     cases hj
     refine ⟨b', xs, T, by simp [Gh.addb, e], hheap, by simpa using hl, hxs, fun q u hq hu => ?_⟩
     rw [List.length_map] at hq
     have h1 := hx q _ (List.getElem?_eq_getElem hq)
     rw [h1.1] at hu
     cases hu
     exact h1.2
   · rw [if_neg e] at hj
     rw [kill_bget, if_neg e, Option.map_eq_some_iff] at hj
     obtain ⟨cs0, q1, rfl⟩ := hj
     obtain ⟨c, ys, T', q2, q3, q4, q5, q6⟩ := h.boxes j cs0 q1 hj5
     refine ⟨c, ys, T', by simp [Gh.addb, e, q2], (hothers j c e q2).2.trans q3, by simpa using q4, fun q c0 hq => ?_, fun q u hq hu => q6 q u (by simpa using hq) hu⟩
     rw [List.getElem?_map, Option.map_eq_some_iff] at hq
     obtain ⟨c1, q7, rfl⟩ := hq
     obtain ⟨x, q8, q9⟩ := q5 q c1 q7
     exact ⟨x, q8, srep _ _ q9⟩
 · have e : j ≠ i := by omega
   rw [bget_bput, if_neg e, kill_bget, if_neg e, Option.map_eq_some_iff] at hj
   obtain ⟨cs0, q1, q2⟩ := hj
   have q3 := kill_mc q2
   subst q3
   obtain ⟨c, es, c', q4, q5, q6⟩ := h.maps j ms q1 hge
   exact ⟨c, es, c', by simp [Gh.addb, e, q4], (hothers j c e q4).2.trans q5, q6.mono ev.fx⟩
 · simp only [Gh.addb] at hj
   split at hj
   · cases hj
     refine ⟨fun o => ?_, hbs⟩
     rcases hbb with e2 | e2
     · rw [e2]; exact (h.blk i b hbl).1 o
     · exact h.f0 _ o (Nat.le_trans h.base e2)
   · exact ⟨(h.blk j c hj).1, Nat.lt_of_lt_of_le (h.blk j c hj).2 hb0.size⟩
 · rw [bget_bput]
   simp only [Gh.addb] at hj
   split at hj
   · rename_i e; simp [e]
   · rename_i e
     rw [if_neg e, kill_bget, if_neg e]
     have := h.dom j c hj
     cases q : st.bget j with
     | none => exact absurd q this
     | some x => simp
 · simp only [Gh.addb] at hj hk
   split at hj <;> split at hk
   · omega
   · rename_i e1 e2; cases hj; exact absurd rfl (hothers k _ e2 hk).1
   · rename_i e1 e2; cases hk; exact absurd rfl (hothers j _ e1 hj).1
   · exact h.inj j k c hj hk
 · obtain ⟨⟨n, ys, h1⟩, h2⟩ := h.toks t' T' hT'
   have h3 : ∀ c, T'.v.ownBlock = some c → c ≠ b ∧ c < w.heap.size := fun c hc => ⟨fun e => h2 i b (e ▸ hc) hbl, (h1.lt c hc).2⟩
   refine ⟨⟨n, ys, ownsRow_of_same h1 fun c hc => hne c (h3 c hc).2 (h3 c hc).1⟩, fun j c hc hj => ?_⟩
   simp only [Gh.addb] at hj
   split at hj
   · cases hj
     have := h3 _ hc
     rcases hbb with e2 | e2
     · exact this.1 e2
     · omega
   · exact h2 j c hc hj
section
variable {P : Program} {ops : Array Oper} {K : PS → Prop} {rest : List Oper} {st : PS} {ty : TypeId} {pos : String} {af : Array Edge} {gd : Option (Nat × Bool)}
theorem news_vals {F : Nat → Nat → Prop} {w : World} {k m : Nat} {vs news : List Value} {es : List (List DV)} (hes : chunk k m (vs.map .val) = es) (hvl : vs.length = m * k) (hnl : news.length = es.length * k)
 (h : ∀ (i j : Nat) e z, es[i]? = some e → e[j]? = some z → ∃ u, news[i * k + j]? = some u ∧ DRep F w u z) : news = vs := by
 have hm : es.length = m := by rw [← hes, chunk_length]
 refine List.ext_getElem? fun j => ?_
 by_cases hj : j < m * k
 · have hk0 : 0 < k := by
    rcases Nat.eq_zero_or_pos k with h0 | h0
    · rw [h0, Nat.mul_zero] at hj; omega
    · exact h0
   have hq : j / k < es.length := by rw [hm]; exact Nat.div_lt_of_lt_mul (by rw [Nat.mul_comm]; exact hj)
   have hr : j % k < k := Nat.mod_lt _ hk0
   have he := List.getElem?_eq_getElem hq
   have hlen : es[j / k].length = k := by
    have := chunk_mem k m (vs.map .val) (by simpa using hvl)
    exact this _ (by rw [hes]; exact List.getElem_mem hq)
   have hx := List.getElem?_eq_getElem (l := es[j / k]) (i := j % k) (by omega)
   obtain ⟨u, t1, t2⟩ := h _ _ _ _ he hx
   have t3 := (chunk_get k m (vs.map .val) (j / k) (j % k) es[j / k] _ (by rw [hes]; exact he) hx (by simpa using hvl)).1
   have e : j / k * k + j % k = j := by rw [Nat.mul_comm]; exact Nat.div_add_mod j k
   rw [e] at t1 t3
   rw [List.getElem?_map, Option.map_eq_some_iff] at t3
   obtain ⟨u', t4, t5⟩ := t3
   rw [← t5] at t2
   rw [t1, t4, DRep.val_eq t2]
 · rw [List.getElem?_eq_none (by rw [hnl, hm]; omega), List.getElem?_eq_none (by omega)]
theorem bs_own {B : Nat} {w0 : Cx} {g : Gh} {a : Act} {w : World} (hr : Rep B w0 g st a w) {i n E k : Nat} {v : Value} {vs : List Value} (hlt : i < 500000) (hv : SRep g w v (.bs i n E k)) (hi : st.bget i = some (vs.map fun u => .d (.val u))) (hn : vs.length = n * k) :
 ∃ b c xs, g.bl i = some b ∧ v = .slice (some ⟨b, 0, none⟩) n c ∧ n ≤ c ∧ c ≤ maxLen ∧ w.heap[b]? = some (.cells xs E (0, 0)) ∧ xs.size = c * k ∧ w.ownsRow 0 E k v n vs ∧ ∀ u ∈ vs, u.oneCell' = true := by
 obtain ⟨b, c, q1, q2, q3, q4, q5⟩ := hv
 obtain ⟨b', xs, T, q6, q7, q8, q9, q10⟩ := hr.boxes i _ hi hlt
 rw [q1] at q6
 cases q6
 have hsh : T = E ∧ xs.size = c * k := by
  simp only [World.shape?, q7, Option.some.injEq, Prod.mk.injEq] at q5
  exact q5
 obtain ⟨rfl, hsz⟩ := hsh
 rw [List.length_map] at q8 q10
 have hxv : ∀ (j : Nat) u, vs[j]? = some u → xs[j]? = some u ∧ u.oneCell' = true := fun j u hj => by
  obtain ⟨u', t1, t2⟩ := q9 j (.d (.val u)) (by rw [List.getElem?_map, hj]; rfl)
  have t3 := DRep.val_eq t2
  subst t3
  exact ⟨t1, q10 j u' (List.getElem?_eq_some_iff.1 hj).1 t1⟩
 have hone : ∀ u ∈ vs, u.oneCell' = true := fun u hu => by
  obtain ⟨j, hj⟩ := List.mem_iff_getElem?.1 hu
  exact (hxv j u hj).2
 refine ⟨b, c, xs, q1, q2, q3, q4, q7, hsz, ?_, hone⟩
 rw [q2]
 refine ⟨hn, .inr ⟨b, c, xs, rfl, Nat.zero_le _, q7, q3, q4, hsz, ?_⟩⟩
 refine List.ext_getElem? fun j => ?_
 by_cases hj : j < n * k
 · rw [List.getElem?_take_of_lt hj]
   have hjv := List.getElem?_eq_getElem (l := vs) (i := j) (by omega)
   rw [hjv]
   simpa using (hxv j _ hjv).1
 · rw [List.getElem?_eq_none (by simp; omega), List.getElem?_eq_none (by omega)]
theorem yTw {T E k bytes n m i e : Nat} {x y : Operand} {us vs : List Value} {es : List (List DV)} [hA : AppOf P T E k bytes] (h0 : 0 < m) (hb : (n + m) * bytes ≤ 140737488351232) (hm : n + m ≤ 140737488351232) (hes : chunk k m (vs.map .val) = es) (hvl : vs.length = m * k) (hul : us.length = n * k) (hx : st.ev x = .bs i n E k) (hi : st.bget i = some (us.map fun u => .d (.val u))) (hy : asSl (st.ev y) = some (k, es))
 (h : YR P true ops K rest (((st.kill i).bput i ((us ++ vs).map fun u => .d (.val u))).put (some e) (.bs i (n + m) E k))) (hd : dstOk ⟨some e, .call { callee := .builtin .append, args := #[x, y], argTypes := #[T, T] }, ty, pos, af, gd⟩ st = true := by kernel_rfl) (hw : st.want ops ⟨some e, .call { callee := .builtin .append, args := #[x, y], argTypes := #[T, T] }, ty, pos, af, gd⟩ = some true := by rfl) (hlt : Nat.blt i 500000 = true := by rfl) (hsm : Nat.blt (i % 500000) 10000 = true := by rfl) :
 YR P true ops K (⟨some e, .call { callee := .builtin .append, args := #[x, y], argTypes := #[T, T] }, ty, pos, af, gd⟩ :: rest) st := by
 have hlt5 : i < 500000 := Nat.le_of_ble_eq_true hlt
 have hsm5 : smB i := Nat.le_of_ble_eq_true hsm
 clear hlt hsm
 refine .any rfl fun B w0 Q hQ g a w hr => ?_
 have h1 := hr.eval x
 rw [hx] at h1
 obtain ⟨b, c, xs, p1, p2, p3, p4, p5, p6, p7, p8⟩ := bs_own hr hlt5 h1 hi hul
 obtain ⟨A2, c2, news, hv2, hl2, hcell2, hone2, hrep2⟩ := asSl_cells hr hy
 have hel : es.length = m := by rw [← hes, chunk_length]
 obtain rfl := news_vals hes hvl hl2 hrep2
 obtain ⟨ti, z, q1, q2, q3, q4, q5⟩ := hA.inf
 obtain ⟨v', w', r1, r2, r3, r4, r5, r6, r7⟩ := run_app (P := P) w 0 T ty E ti z k bytes hA.und q1 q2 q3 q4 q5 (a.eval x) n us p7 A2 es.length c2 news hl2 (fun h0 => by
  obtain ⟨b, off, rfl, hcell⟩ := hcell2 h0
  exact ⟨_, rfl, fun j u hj => by rw [Addr.add_lit]; exact hcell j u hj⟩) hone2 (by unfold maxLen; omega) (by rw [hel]; omega) (Nat.zero_le _)
 rw [hel] at r2
 obtain ⟨hxl, (⟨-, q0⟩ | ⟨gb, cap, cur, rfl, t1, t2, t3, t4, t5, t6⟩)⟩ := r2
 · omega
 have hob : (a.eval x).ownBlock = some b := by rw [p2]; rfl
 have hbb : gb = b ∨ w.heap.size ≤ gb := by
  rcases r6 with r6 | r6
  · rw [hob] at r6; exact .inl (by simpa [Value.ownBlock] using r6)
  · exact .inr (by have : gb = w.heap.size := by simpa [Value.ownBlock] using r6
                   omega)
 have hcur : ∀ (j : Nat) (u : Value), (us ++ news)[j]? = some u → cur[j]? = some u ∧ u.oneCell' = true := fun j u hj => by
  refine ⟨?_, ?_⟩
  · rw [← t6] at hj
    have hj' : j < (n + m) * k := by have := (List.getElem?_eq_some_iff.1 hj).1; rw [List.length_take] at this; omega
    rw [List.getElem?_take_of_lt hj'] at hj
    simpa using hj
  · rcases List.mem_append.1 (List.mem_of_getElem? hj) with q | q
    · exact p8 u q
    · exact hone2 u q
 have hr' := hr.rebox hlt5 hsm5 p1 r3 (fun k hk hne => r4 k hk (by rw [hob]; exact fun e => hne (Option.some.inj e).symm)) hbb cur t2 (us ++ news) (by rw [hxl, t5]; exact Nat.mul_le_mul_right _ t3) hcur
 have hrun : (execOp a.eval ⟨some e, .call { callee := .builtin .append, args := #[x, y], argTypes := #[T, T] }, ty, pos, af, gd⟩).run P w = .ok (.value (.slice (some ⟨gb, 0, none⟩) (n + m) cap)) w' := by
  simp only [execOp, resolve, invoke, builtin, Sem.run_bind, Sem.run_pure, Result.andThen_ok, List.map_toArray, List.map_cons, List.map_nil, hv2, r1]
 unfold wpList
 rw [if_pos (want_spec hr hw)]
 refine .inl ?_
 unfold Oper.wp
 rw [hrun]
 refine h.sound hQ (hr'.put (x := .bs i (n + m) E k) ⟨gb, cap, by simp [Gh.addb], rfl, t3, t4, by simp [World.shape?, t2, t5]⟩ _ ?_)
 intro j hj
 exact dstOk_spec (st := st) hd j hj
end
def Rcl (k : Nat) (es : List (List DV)) (F : Nat → Nat → Prop) (w : World) (v : Value) : Prop := DRep F w v (.sl k es) ∧ ∃ A, v = .slice A es.length es.length
theorem Rcl.mono {k : Nat} {es : List (List DV)} (F F' : Nat → Nat → Prop) (w w' : World) (v : Value) (h : Rcl k es F w v) (hk : Kp F w F' w') : Rcl k es F' w' v := ⟨h.1.mono hk, h.2⟩
theorem DRep.cap {F : Nat → Nat → Prop} {w : World} {A A' : Option Addr} {n c c' k : Nat} {es : List (List DV)} (h : DRep F w (.slice A n c) (.sl k es)) (hc : n ≤ c') (hA : 0 < n → A' = A) : DRep F w (.slice A' n c') (.sl k es) := by
 obtain ⟨A0, c0, news, hv, h1, h2, h3, h4, h5, h6, h7⟩ := DRep.row h
 obtain ⟨e1, e2, e3⟩ := Value.slice.inj hv
 subst e1 e2 e3
 exact DRep.of_row (xs := news) hc h2 h3 (fun h0 => by rw [hA h0]; exact h5 h0) h6 h7
theorem add_zero (k : Nat) (A : Option Addr) : A.map (·.add (0 * k)) = A := by
 cases A with
 | none => rfl
 | some a => simp [Addr.add]
section
variable {P : Program} {sq : Bool} {ops : Array Oper} {K : PS → Prop} {rest : List Oper} {st : PS} {d : Option Nat} {op : Op} {ty : TypeId} {pos : String} {af : Array Edge} {gd : Option (Nat × Bool)} {q : Nat × Bool}
end
section
variable {P : Program} {ops : Array Oper} {K : PS → Prop} {rest : List Oper} {st : PS} {ty : TypeId} {pos : String} {af : Array Edge} {gd : Option (Nat × Bool)}
variable {B : Nat} {w0 : Cx} {Q : Exit → PS → Prop} {c : Code}
end
section
variable {P : Program} {sq : Bool} {ops : Array Oper} {K : PS → Prop} {rest : List Oper} {st : PS} {d : Option Nat} {ty : TypeId} {pos : String} {af : Array Edge} {gd : Option (Nat × Bool)}
end
section
variable {P : Program} {sq : Bool} {ops : Array Oper} {K : PS → Prop} {rest : List Oper} {st : PS} {d : Option Nat} {op : Op} {ty : TypeId} {pos : String} {af : Array Edge} {gd : Option (Nat × Bool)} {q : Nat × Bool}
theorem DRep.fresh {B : Nat} {w0 : Cx} {g : Gh} {a : Act} {w w' : World} (h : Rep B w0 g st a w) (hb : Below w.heap.size w w') {E k n : Nat} {v : Value} {xs : List Value} {es : List (List DV)} (hown : w'.ownsRow w.heap.size E k v n xs) (hn : es.length = n) (h0 : 0 < n) (hm : n ≤ 9223372036854775807) (hk : ∀ e ∈ es, e.length = k) (h1 : ∀ u ∈ xs, u.oneCell' = true)
 (hrep : ∀ (i j : Nat) e x, es[i]? = some e → e[j]? = some x → ∃ u, xs[i * k + j]? = some u ∧ DRep (Fx g) w u x) : DRep (Fx g) w' v (.sl k es) := by
 subst hn
 have e0 := (Ext.grow h hb).fx
 obtain ⟨A, c, h2, h3, h4⟩ := own_form hown
 rcases hown.2 with ⟨e6, e7⟩ | ⟨gb, cap, cur, e6, e7, e8, -⟩
 · rw [e6] at h2
   have := (Value.slice.inj h2).2.1
   omega
 · have e9 : A = some ⟨gb, 0, none⟩ := (Value.slice.inj (h2.symm.trans e6)).1
   rw [h2]
   refine DRep.of_row (xs := xs) h3 hm hk (fun _ => ⟨gb, 0, e9, fun j u hj => ⟨?_, ?_⟩⟩) h1 fun i j e x he hx => ?_
   · rw [Nat.zero_add]; exact own_cell hown (by rw [e6]; rfl) j u hj
   · refine ⟨h.f0 _ _ (Nat.le_trans h.base e7), fun i' hi' => ?_, fun t T n' c' hT hv => ?_⟩
     · have := (h.blk i' _ hi').2; omega
     · obtain ⟨⟨n'', ys, h8⟩, -⟩ := h.toks t T hT
       have := (h8.lt gb (by rw [hv]; rfl)).2
       omega
   · obtain ⟨u, h8, h9⟩ := hrep i j e x he hx
     exact ⟨u, h8, h9.mono e0⟩
end
end Go.Proofs.YtddfimjiihggmaaGreatDoor.Px
namespace Go.Proofs.YtddfimjiihggmaaGreatDoor
open Go.RowKit Px
theorem run_append_zeros {P : Program} (w : World) (t u ty e : TypeId) (i : TypeInfo) (z : Value) (bytes : Nat) (ht : P.underlying t = some (.slice e)) (hu : P.underlying u = some (.int .i64)) (hi : P.info? e = some i) (hz : i.zero = some z) (n : Nat) (h0 : 0 < n) (hk0 : 0 < i.size) (hby : i.bytes = bytes) (hb : n * bytes ≤ 140737488355328) (h63 : n ≤ 140737488355328) :
 (Builtin.append_ #[t, u] ty #[.slice none 0 0, .int .i64 n]).run P w =
  .ok (.slice (some ⟨w.heap.size, 0, none⟩) n (grownCap w n 0 e)) (w.drew.alloc (.cells (Builtin.zeroCells z.cells n ++ Builtin.zeroCells z.cells (grownCap w n 0 e - n)) e)) := by
 have hn : n ≠ 0 := by omega
 have h63' : ¬ (9223372036854775807 < (n : Int)) := by omega
 have h48' : ¬ (281474976710656 < Builtin.nextslicecap n 0 * bytes) := by rw [nextslicecap_zero h0]; omega
 have hw : IntKind.i64.wrap (n : Int) = n := wrapI _ (by omega)
 have h1 : ¬ ((n : Int) < 0) := by omega
 have h2 : ¬ (281474976710656 < (n : Int) * (bytes : Int)) := by
  have : ((n * bytes : Nat) : Int) = (n : Int) * (bytes : Int) := by push_cast; rfl
  omega
 have hk2 : i.size ≠ 0 := by omega
 have hk1 : n * i.size ≠ 0 := Nat.mul_ne_zero hn hk2
 simp [Builtin.append_, run_underlying ht, run_underlying hu, sizeOf, typeInfo, zeroValue, hi, hz, Builtin.lenOf, hn, h63', h48', Question.forced, run_firstCells_none, newRow, grownCap, asInt, asIntOf, hw, h1, h2, hk1, hby]
theorem own_nil {P : Program} {f E k : Nat} {args : List DV} (h : PCalls P f args (.d (.val (.slice none 0 0)))) : POwn P f args E k [] := fun F w vals hl hr hg =>
 (h F w vals hl hr hg).mono fun _ _ ⟨v, h1, h2, h3⟩ => by
  have hv : v = .slice none 0 0 := DRep.val_eq h2
  subst hv
  exact ⟨_, [], h1, World.ownsRow_nil _ _ _ _, fun u hu => (by cases hu), DRep.nil, h3⟩
section
variable {P : Program} {sq : Bool} {ops : Array Oper} {K : PS → Prop} {rest : List Oper} {st : PS} {d : Option Nat} {ty : TypeId} {pos : String} {af : Array Edge} {gd : Option (Nat × Bool)}
theorem ls_slice_nil (T : TypeId) (x y : Operand) {E k : Nat} {kd : IntKind} [hS : SliceOf P T E k] (hx : st.ev x = .d (.val (.slice none 0 0))) (hy : st.ev y = .d (.val (.int kd 0))) (hd : dstOk ⟨d, .slice T x none (some y) none, ty, pos, af, gd⟩ st = true) :
 LocS P ⟨d, .slice T x none (some y) none, ty, pos, af, gd⟩ st (.d (.val (.slice none 0 0))) .no := fun st2 ha =>
 OpS.value (ha.dst hd) fun _ _ g a w h => by
  have h1 := h.eval x
  rw [ha.ev x (by simp [Op.operands]), hx] at h1
  have h2 := h.eval y
  rw [ha.ev y (by simp [Op.operands]), hy] at h2
  refine ⟨.slice none 0 0, w, ?_, Below.refl _ _, DRep.val _ rfl⟩
  simp [execOp, Instr.sliceAt, Instr.slice, Instr.sliceBounds, Instr.sliceBound, DRep.val_eq h1, DRep.val_eq h2, asIntOf, hS.und, hS.size]
theorem ls_cap_nil (T : TypeId) (x : Operand) {E k : Nat} [hS : SliceOf P T E k] (hx : st.ev x = .d (.val (.slice none 0 0))) (hd : dstOk ⟨d, .call { callee := .builtin .cap, args := #[x], argTypes := #[T] }, ty, pos, af, gd⟩ st = true) :
 LocS P ⟨d, .call { callee := .builtin .cap, args := #[x], argTypes := #[T] }, ty, pos, af, gd⟩ st (.d (.val (.int .i64 0))) .no := fun st2 ha =>
 OpS.value (ha.dst hd) fun _ _ g a w h => by
  have h1 := h.eval x
  rw [ha.ev x (by simp [Op.operands, Call.operands]), hx] at h1
  refine ⟨.int .i64 0, w, ?_, Below.refl _ _, DRep.val _ rfl⟩
  simp [execOp, resolve, invoke, builtin, Builtin.cap_, DRep.val_eq h1, hS.und, goInt]
theorem ls_len_nil (T : TypeId) (x : Operand) {E k : Nat} [hS : SliceOf P T E k] (hx : st.ev x = .d (.val (.slice none 0 0))) (hd : dstOk ⟨d, .call { callee := .builtin .len, args := #[x], argTypes := #[T] }, ty, pos, af, gd⟩ st = true) :
 LocS P ⟨d, .call { callee := .builtin .len, args := #[x], argTypes := #[T] }, ty, pos, af, gd⟩ st (.d (.val (.int .i64 0))) .no := fun st2 ha =>
 OpS.value (ha.dst hd) fun _ _ g a w h => by
  have h1 := h.eval x
  rw [ha.ev x (by simp [Op.operands, Call.operands]), hx] at h1
  refine ⟨.int .i64 0, w, ?_, Below.refl _ _, DRep.val _ rfl⟩
  simp [execOp, resolve, invoke, builtin, Builtin.len_, DRep.val_eq h1, hS.und, goInt]
theorem ySz {T E k : Nat} {x y : Operand} {kd : IntKind} [SliceOf P T E k] (hx : st.ev x = .d (.val (.slice none 0 0))) (hy : st.ev y = .d (.val (.int kd 0))) (h : YR P sq ops K rest (st.put d (.d (.val (.slice none 0 0))))) (hd : dstOk ⟨d, .slice T x none (some y) none, ty, pos, af, gd⟩ st = true := by kernel_rfl) (hk : opOk ⟨d, .slice T x none (some y) none, ty, pos, af, gd⟩ st .no = true := by kernel_rfl) (hw : st.want ops ⟨d, .slice T x none (some y) none, ty, pos, af, gd⟩ = some true := by rfl) :
 YR P sq ops K (⟨d, .slice T x none (some y) none, ty, pos, af, gd⟩ :: rest) st := yr_v (ls_slice_nil T x y hx hy hd) hk hw h
theorem yNc {T E k : Nat} {x : Operand} [SliceOf P T E k] (hx : st.ev x = .d (.val (.slice none 0 0))) (h : YR P sq ops K rest (st.put d (.d (.val (.int .i64 0))))) (hd : dstOk ⟨d, .call { callee := .builtin .cap, args := #[x], argTypes := #[T] }, ty, pos, af, gd⟩ st = true := by kernel_rfl) (hk : opOk ⟨d, .call { callee := .builtin .cap, args := #[x], argTypes := #[T] }, ty, pos, af, gd⟩ st .no = true := by kernel_rfl) (hw : st.want ops ⟨d, .call { callee := .builtin .cap, args := #[x], argTypes := #[T] }, ty, pos, af, gd⟩ = some true := by rfl) :
 YR P sq ops K (⟨d, .call { callee := .builtin .cap, args := #[x], argTypes := #[T] }, ty, pos, af, gd⟩ :: rest) st := yr_v (ls_cap_nil T x hx hd) hk hw h
theorem yNl {T E k : Nat} {x : Operand} [SliceOf P T E k] (hx : st.ev x = .d (.val (.slice none 0 0))) (h : YR P sq ops K rest (st.put d (.d (.val (.int .i64 0))))) (hd : dstOk ⟨d, .call { callee := .builtin .len, args := #[x], argTypes := #[T] }, ty, pos, af, gd⟩ st = true := by kernel_rfl) (hk : opOk ⟨d, .call { callee := .builtin .len, args := #[x], argTypes := #[T] }, ty, pos, af, gd⟩ st .no = true := by kernel_rfl) (hw : st.want ops ⟨d, .call { callee := .builtin .len, args := #[x], argTypes := #[T] }, ty, pos, af, gd⟩ = some true := by rfl) :
 YR P sq ops K (⟨d, .call { callee := .builtin .len, args := #[x], argTypes := #[T] }, ty, pos, af, gd⟩ :: rest) st := yr_v (ls_len_nil T x hx hd) hk hw h
end
section
variable {P : Program} {ops : Array Oper} {K : PS → Prop} {rest : List Oper} {st : PS} {ty : TypeId} {pos : String} {af : Array Edge} {gd : Option (Nat × Bool)}
theorem yAz {T U E k bytes e n : Nat} {zs : List Value} {x y : Operand} [hA : AppOf P T E k bytes] [hL : LitOf P T E k zs] (hk0 : 0 < k) (hU : P.underlying U = some (.int .i64)) (hx : st.ev x = .d (.val (.slice none 0 0))) (hy : st.ev y = .d (.val (.int .i64 n))) (h0 : 0 < n) (hn : n * bytes ≤ 140737488351232) (hn2 : n ≤ 140737488351232) (hi : st.bget e = none)
 (h : YR P true ops K rest ((st.bput e []).put (some e) (.bs e n E k))) (hd : dstOk ⟨some e, .call { callee := .builtin .append, args := #[x, y], argTypes := #[T, U] }, ty, pos, af, gd⟩ st = true := by kernel_rfl)
 (hw : st.want ops ⟨some e, .call { callee := .builtin .append, args := #[x, y], argTypes := #[T, U] }, ty, pos, af, gd⟩ = some true := by rfl) :
 YR P true ops K (⟨some e, .call { callee := .builtin .append, args := #[x, y], argTypes := #[T, U] }, ty, pos, af, gd⟩ :: rest) st := by
 refine .any rfl fun B w0 Q hQ g a w hr => ?_
 obtain ⟨i, z, q1, q2, q3, q4, q5⟩ := hA.inf
 have h1 := hr.eval x
 rw [hx] at h1
 have h2 := hr.eval y
 rw [hy] at h2
 obtain ⟨z', hz1, hz2⟩ := hL.zero w
 have hzz : z' = z := by
  have hE : P.info? E = some i := q1
  simp [zeroValue, typeInfo, hE, q2] at hz1
  exact hz1.symm
 subst hzz
 have hrun0 := run_append_zeros w T U ty E i z' bytes hA.und hU q1 q2 n h0 (by rw [q3]; exact hk0) q4 (by omega) (by omega)
 have hrun : (execOp a.eval ⟨some e, .call { callee := .builtin .append, args := #[x, y], argTypes := #[T, U] }, ty, pos, af, gd⟩).run P w = .ok (.value (.slice (some ⟨w.heap.size, 0, none⟩) n (grownCap w n 0 E))) (w.drew.alloc (.cells (Builtin.zeroCells z'.cells n ++ Builtin.zeroCells z'.cells (grownCap w n 0 E - n)) E)) := by
  simp only [execOp, resolve, Sem.run_bind, Sem.run_pure, Result.andThen_ok, invoke]
  simp only [List.map_toArray, List.map_cons, List.map_nil, DRep.val_eq h1, DRep.val_eq h2, builtin, Sem.run_bind, hrun0, Result.andThen_ok, Sem.run_pure]
 have hge := grownCap_ge w n 0 E
 have hle := grownCap_le_maxLen w n 0 E (by unfold maxLen; omega)
 obtain ⟨w', hw'⟩ : ∃ w', w' = w.drew.alloc (.cells (Builtin.zeroCells z'.cells n ++ Builtin.zeroCells z'.cells (grownCap w n 0 E - n)) E) := ⟨_, rfl⟩
 have hheap : w'.heap[w.heap.size]? = some (.cells (Builtin.zeroCells z'.cells n ++ Builtin.zeroCells z'.cells (grownCap w n 0 E - n)) E (0, 0)) := by rw [hw']; exact heap_alloc_new w.drew _
 have hbel : Below w.heap.size w w' := by
  rw [hw']
  exact ⟨rfl, rfl, rfl, by simp, fun k hk => Below.heap_alloc w.drew _ k hk⟩
 have hzs : z'.cells.size = k := by rw [q5]
 have hsz : (Builtin.zeroCells z'.cells n ++ Builtin.zeroCells z'.cells (grownCap w n 0 E - n)).size = grownCap w n 0 E * k := by
  simp only [Array.size_append, size_zeroCells, hzs, ← Nat.add_mul]
  congr 1; omega
 have hin : e < st.n := dstOk_spec hd e rfl
 obtain ⟨ev, hr'⟩ := hr.adopt e w.heap.size E hi hin hbel (Nat.le_refl _) _ hheap [] (Nat.zero_le _) (fun _ j c hj => by simp at hj) (fun j u hj => by simp at hj)
 unfold wpList
 rw [if_pos (want_spec hr hw)]
 refine .inl ?_
 unfold Oper.wp
 rw [hrun, ← hw']
 refine h.sound hQ (hr'.put (x := .bs e n E k) ⟨w.heap.size, grownCap w n 0 E, by simp [Gh.addb], rfl, hge, hle, by simp only [World.shape?, hheap, hsz]⟩ _ ?_)
 intro j hj
 exact dstOk_spec (st := st) hd j hj
variable {B : Nat} {w0 : Cx} {Q : Exit → PS → Prop} {c : Code}
theorem pw_tkz (s i t k : Nat) {E : Nat} {cs : List SV} (hs : st.get s = .bs i 0 E k) (hi : st.bget i = some cs) (hE : t / 100000 = E) (ht : st.tget t = none) (hno : st.noTs t = true) (h : PW P B w0 c Q (((st.kill i).tput t 0).put (some s) (.ts t k []))) (hlt : Nat.blt i 500000 = true := by rfl) (hsm : Nat.blt (t % 100000) 10000 = true := by rfl) : PW P B w0 c Q st := fun g a w hr => by
 have hv := hr.slots s
 rw [hs] at hv
 have hlt := Nat.le_of_ble_eq_true hlt
 obtain ⟨g', q1, q2, q3, q4, hr'⟩ := hr.tkb (n := 0) hlt hi (by omega) hv hE (Nat.le_of_ble_eq_true hsm) ht hno
 refine h _ a w { hr' with lim := hr'.lim, size := hr'.size, boxes := hr'.boxes, maps := hr'.maps, dom := hr'.dom, tdom := hr'.tdom, tlen := hr'.tlen, glob := hr'.glob, slots := fun j => ?_ }
 rw [get_put]
 by_cases e : j = s
 · rw [if_pos e, e]
   obtain ⟨b2, c2, -, hvv, -, h4, -⟩ := hv
   refine ⟨?_, fun T hT => ?_⟩
   · rw [hvv]
     exact DRep.of_row (es := ([] : List (List DV))) (xs := []) (Nat.zero_le _) (Nat.zero_le _) (fun e he => by cases he) (fun h0 => by simp at h0) (fun u hu => by cases hu) fun i j e x he => by simp at he
   · rw [q3] at hT
     simp only [Gh.sett, if_pos] at hT
     cases hT
     refine ⟨rfl, fun A n' c' h1 => ?_⟩
     obtain ⟨-, e2, -⟩ := Value.slice.inj (h1.symm.trans hvv)
     exact ⟨Nat.zero_le _, fun _ => rfl⟩
 · rw [if_neg e]; exact hr'.slots j
end
end Go.Proofs.YtddfimjiihggmaaGreatDoor
namespace Go.Proofs.YtddfimjiihggmaaGreatDoor.Px
open Go.RowKit Go.ChangeShapes
inductive CK where
 | i (k : IntKind)
 | s
 | b
def CK.is : CK → Value → Bool
 | .i k, .int k' _ => decide (k' = k)
 | .s, .string _ => true
 | .b, .bool _ => true
 | _, _ => false
def CK.ty (P : Program) (c : CK) (t : TypeId) : Bool := match c, P.underlying t with
 | .i k, some (.int k') => decide (k = k')
 | .s, some .string => true
 | .b, some .bool => true
 | _, _ => false
def veq : Value → Value → Bool
 | .int _ a, .int _ b => a == b
 | .string a, .string b => a.toList == b.toList
 | .bool a, .bool b => a == b
 | _, _ => false
def veqs : List Value → List Value → Bool
 | [], [] => true
 | x :: xs, y :: ys => veq x y && veqs xs ys
 | _, _ => false
def fits : List CK → List Value → Bool
 | [], [] => true
 | c :: cs, x :: xs => c.is x && fits cs xs
 | _, _ => false
section
variable {P : Program} (w : World)
theorem CK.plain {c : CK} {t : TypeId} (h : c.ty P t = true) : P.plainKey t = true := by
 unfold CK.ty at h
 unfold Program.plainKey
 cases e : P.underlying t with
 | none => rw [e] at h; cases c <;> simp at h
 | some d => rw [e] at h; cases c <;> cases d <;> simp at h ⊢
theorem run_veq {c : CK} {t : TypeId} (h : c.ty P t = true) {x y : Value} (hx : c.is x = true) (hy : c.is y = true) (d : Nat) : (Op.equalIn (d + 1) t x y).run P w = .ok (veq x y) w := by
 unfold CK.ty at h
 cases e : P.underlying t with
 | none => rw [e] at h; cases c <;> simp at h
 | some u =>
  rw [e] at h
  cases c with
  | i k =>
   cases u <;> simp at h
   subst h
   cases x <;> simp [CK.is] at hx
   cases y <;> simp [CK.is] at hy
   subst hx hy
   exact run_equalIn_int w d t _ _ _ _ e
  | s =>
   cases u <;> simp at h
   cases x <;> simp [CK.is] at hx
   cases y <;> simp [CK.is] at hy
   exact run_equalIn_string w d t _ _ e
  | b =>
   cases u <;> simp at h
   cases x <;> simp [CK.is] at hx
   cases y <;> simp [CK.is] at hy
   exact run_equalIn_bool' w d t _ _ e
def fieldsB (P : Program) : Nat → List CK → List Field → Bool
 | _, [], [] => true
 | off, c :: cs, f :: fs => c.ty P f.type && Nat.beq f.offset off && !(f.name == "_") && fieldsB P (off + 1) cs fs
 | _, _, _ => false
theorem run_eqFieldsV (d : Nat) (xs ys : Array Value) : ∀ (cs : List CK) (fs : List Field) (off : Nat), fieldsB P off cs fs = true → ∀ la lb : List Value, fits cs la = true → fits cs lb = true → (∀ (j : Nat) v, la[j]? = some v → xs[off + j]? = some v) → (∀ (j : Nat) v, lb[j]? = some v → ys[off + j]? = some v) →
 (Op.eqFields (d + 1) xs ys fs).run P w = .ok (veqs la lb) w
 | [], [], off, _, la, lb, ha, hb, _, _ => by
  cases la with
  | nil => cases lb with
   | nil => simp [Op.eqFields, veqs]
   | cons => cases hb
  | cons => cases ha
 | [], _ :: _, _, h, _, _, _, _, _, _ => by cases h
 | _ :: _, [], _, h, _, _, _, _, _, _ => by cases h
 | c :: cs, f :: fs, off, h, la, lb, ha, hb, hxs, hys => by
  cases la with
  | nil => cases ha
  | cons a la =>
   cases lb with
   | nil => cases hb
   | cons b lb =>
    simp only [fieldsB, fits, Bool.and_eq_true] at h ha hb
    obtain ⟨⟨⟨h1, h2⟩, h3⟩, h4⟩ := h
    have h2 := Nat.eq_of_beq_eq_true h2
    have hn : f.name ≠ "_" := by simpa using h3
    have p1 := run_part_plain w (CK.plain h1) (xs := xs) (off := f.offset) (v := a) (by rw [h2]; exact hxs 0 a rfl)
    have p2 := run_part_plain w (CK.plain h1) (xs := ys) (off := f.offset) (v := b) (by rw [h2]; exact hys 0 b rfl)
    have p3 := run_veq w h1 ha.1 hb.1 d
    have ih := run_eqFieldsV d xs ys cs fs (off + 1) h4 la lb ha.2 hb.2 (fun j v hj => by rw [show off + 1 + j = off + (j + 1) by omega]; exact hxs (j + 1) v hj) fun j v hj => by rw [show off + 1 + j = off + (j + 1) by omega]; exact hys (j + 1) v hj
    simp only [Op.eqFields, hn, ne_eq, not_false_eq_true, if_true, Sem.run_bind, p1, p2, p3, Result.andThen_ok, veqs]
    cases veq a b
    · simp
    · simpa using ih
end
class EqOf (P : Program) (T : TypeId) (cs : outParam (List CK)) : Prop where
 run : ∀ (w : World) (la lb : List Value), fits cs la = true → fits cs lb = true → (Op.equalIn 10000 T (.agg la.toArray) (.agg lb.toArray)).run P w = .ok (veqs la lb) w
 guard : P.eqGuardType P.depth T = false
theorem eqOf_struct {P : Program} {T : TypeId} {cs : List CK} (h : (match P.underlying T with | some (.struct fs) => fieldsB P 0 cs fs.toList | _ => false) = true) (hp : P.stoodInHeld T = false) (hg : P.eqGuardType P.depth T = false) : EqOf P T cs := by
 refine ⟨fun w la lb ha hb => ?_, hg⟩
 cases hu : P.underlying T with
 | none => rw [hu] at h; cases h
 | some u =>
  rw [hu] at h
  cases u with
  | struct fs =>
   have hf : P.fieldsOf T = fs := by simp [Program.fieldsOf, hu]
   rw [show (10000 : Nat) = 9999 + 1 from rfl, run_equalIn_agg w 9999 T _ _ (by rw [hf]; exact hu) hp, hf]
   exact run_eqFieldsV w 9998 _ _ cs fs.toList 0 h la lb ha hb (fun j v hj => by simpa using hj) fun j v hj => by simpa using hj
  | _ => cases h
section
variable {P : Program} {sq : Bool} {ops : Array Oper} {K : PS → Prop} {rest : List Oper} {st : PS} {d : Option Nat} {ty : TypeId} {pos : String} {af : Array Edge} {gd : Option (Nat × Bool)}
theorem yBx {t t' : Nat} {x y : Operand} {cs ds : List DV} {vs us : List Value} {ks : List CK} [hE : EqOf P t ks] (hv : fits ks vs = true) (hu : fits ks us = true) (hx : st.ev x = .d (.agg cs)) (hcx : valsOf cs = some vs) (hy : st.ev y = .d (.agg ds)) (hcy : valsOf ds = some us)
 (h : YR P sq ops K rest (st.put d (.d (.val (.bool (!veqs vs us)))))) (hd : dstOk ⟨d, .binOp .neq t x y t', ty, pos, af, gd⟩ st = true := by kernel_rfl) (hk : opOk ⟨d, .binOp .neq t x y t', ty, pos, af, gd⟩ st .no = true := by kernel_rfl) (hw : st.want ops ⟨d, .binOp .neq t x y t', ty, pos, af, gd⟩ = some true := by rfl) : YR P sq ops K (⟨d, .binOp .neq t x y t', ty, pos, af, gd⟩ :: rest) st :=
 yBA (fun w => by rw [Sem.run_bind, run_eqGuard_agg w _ _ _ _ _ _ hE.guard, Result.andThen_ok, run_neq_struct, hE.run w vs us hv hu]; rfl) rfl hx hcx hy hcy h hd hk hw
end
theorem veq_str (a b : List UInt8) : veq (vS a) (vS b) = (a == b) := by
 show ((ByteArray.mk a.toArray).toList == (ByteArray.mk b.toArray).toList) = (a == b)
 rw [str_list, str_list]
end Go.Proofs.YtddfimjiihggmaaGreatDoor.Px
namespace Go.Proofs.YtddfimjiihggmaaGreatDoor
open Go.Lib
def cutB (c : UInt8) : Str → Option (Str × Str)
 | [] => none
 | b :: l => if b = c then some ([], l) else (cutB c l).map fun p => (b :: p.1, p.2)
theorem cutB_eq {c : UInt8} {s : Str} {p : Str × Str} (h : cutB c s = some p) : s = p.1 ++ c :: p.2 := by
 induction s generalizing p with
 | nil => cases h
 | cons b l ih =>
  rw [cutB] at h
  split at h
  · rename_i e; cases h; rw [e]; rfl
  · rw [Option.map_eq_some_iff] at h
    obtain ⟨q, h1, rfl⟩ := h
    rw [ih h1]; rfl
theorem cutB_index (c : UInt8) (s : Str) : indexByte s c = match cutB c s with | none => -1 | some p => (p.1.length : Int) := by
 induction s with
 | nil => rfl
 | cons b l ih =>
  rw [cutB, indexByte]
  by_cases h : b = c
  · rw [if_pos (by simpa using h), if_pos h]; rfl
  · rw [if_neg (by simpa using h), if_neg h, ih]
    cases cutB c l with
    | none => rfl
    | some p =>
     show (if ((p.1.length : Int) == -1) = true then (-1 : Int) else (p.1.length : Int) + 1) = ((b :: p.1).length : Int)
     rw [if_neg (by simp)]
     rfl
def ctT (c : UInt8) (s : Str) : Str := match cutB c s with | none => s | some p => p.1
def ctR (c : UInt8) (s : Str) : Str := match cutB c s with | none => [] | some p => p.2
def ctB (c : UInt8) (s : Str) : Bool := (cutB c s).isSome
theorem ct_len (c : UInt8) (s : Str) : (ctT c s).length ≤ s.length ∧ (ctR c s).length ≤ s.length ∧ (ctB c s = true → (ctR c s).length < s.length) := by
 unfold ctT ctR ctB
 cases h : cutB c s with
 | none => simp
 | some p =>
  have := congrArg List.length (cutB_eq h)
  simp at this
  simp
  omega
def spl (c : UInt8) : Str → List Str
 | [] => [[]]
 | b :: l => if b = c then [] :: spl c l else match spl c l with
  | [] => [[b]]
  | h :: t => (b :: h) :: t
theorem spl_ne (c : UInt8) (s : Str) : spl c s ≠ [] := by
 cases s with
 | nil => simp [spl]
 | cons b l =>
  rw [spl]
  split
  · simp
  · split <;> simp
theorem spl_cut (c : UInt8) (s : Str) : spl c s = match cutB c s with | none => [s] | some p => p.1 :: spl c p.2 := by
 induction s with
 | nil => rfl
 | cons b l ih =>
  rw [spl, cutB]
  by_cases h : b = c
  · rw [if_pos h, if_pos h]
  · rw [if_neg h, if_neg h]
    cases e : cutB c l with
    | none => rw [e] at ih; rw [ih]; rfl
    | some p => rw [e] at ih; rw [ih]; rfl
theorem cutB_app {c : UInt8} {a b : Str} (h : c ∉ a) : cutB c (a ++ c :: b) = some (a, b) := by
 induction a with
 | nil => simp [cutB]
 | cons x a ih =>
  simp only [List.mem_cons, not_or] at h
  rw [List.cons_append, cutB, if_neg (Ne.symm h.1), ih h.2]
  rfl
theorem cutB_none {c : UInt8} {a : Str} : cutB c a = none ↔ c ∉ a := by
 induction a with
 | nil => simp [cutB]
 | cons x a ih =>
  rw [cutB]
  by_cases h : x = c
  · rw [if_pos h]; simp [h]
  · rw [if_neg h, Option.map_eq_none_iff, ih]; simp [Ne.symm h]
theorem cutB_notin {c : UInt8} {s : Str} {p : Str × Str} (h : cutB c s = some p) : c ∉ p.1 := by
 induction s generalizing p with
 | nil => cases h
 | cons b l ih =>
  rw [cutB] at h
  split at h
  · cases h; simp
  · rename_i hb
    rw [Option.map_eq_some_iff] at h
    obtain ⟨q, h1, rfl⟩ := h
    simp [ih h1, Ne.symm hb]
theorem spl_app {c : UInt8} {a b : Str} (h : c ∉ a) : spl c (a ++ c :: b) = a :: spl c b := by
 rw [spl_cut, cutB_app h]
theorem spl_one {c : UInt8} {a : Str} (h : c ∉ a) : spl c a = [a] := by
 rw [spl_cut, cutB_none.2 h]
theorem spl_length (c : UInt8) (s : Str) : (spl c s).length ≤ s.length + 1 := by
 induction s with
 | nil => simp [spl]
 | cons b l ih =>
  rw [spl]
  split
  · simpa using ih
  · split
    · simp
    · rename_i e; rw [e] at ih; simp at ih ⊢; omega
theorem spl_len (c : UInt8) (s : Str) : ∀ t ∈ spl c s, t.length ≤ s.length := by
 induction s with
 | nil => intro t ht; simp [spl] at ht; subst ht; simp
 | cons b l ih =>
  intro t ht
  rw [spl] at ht
  split at ht
  · rcases List.mem_cons.1 ht with rfl | ht
    · simp
    · have := ih t ht; simp; omega
  · split at ht
    · rename_i e; exact absurd e (spl_ne c l)
    · rename_i h t' e
      rcases List.mem_cons.1 ht with rfl | ht
      · have := ih h (by rw [e]; simp); simp; omega
      · have := ih t (by rw [e]; simp [ht]); simp; omega
theorem splitK_spl (c : UInt8) : ∀ (k : Nat) (s : Str), s.count c = k → splitK [c] 0 k s = spl c s
 | 0, s, h => by
  have hn : c ∉ s := by rwa [List.count_eq_zero] at h
  rw [splitK, spl_one hn]
 | k + 1, s, h => by
  rw [splitK, index_one, cutB_index, spl_cut]
  cases e : cutB c s with
  | none =>
   have := cutB_none.1 e
   rw [← List.count_eq_zero] at this
   omega
  | some p =>
   have he := cutB_eq e
   have hn := cutB_notin e
   have h2 : p.2.count c = k := by
    rw [he, List.count_append, List.count_cons_self, List.count_eq_zero.2 hn] at h
    omega
   simp only
   rw [if_neg (by simp), Int.toNat_natCast]
   have h3 : s.take (p.1.length + 0) = p.1 := by conv => lhs; rw [he]; simp
   have h4 : s.drop (p.1.length + [c].length) = p.2 := by conv => lhs; rw [he]; simp
   rw [h3, h4, splitK_spl c k p.2 h2]
abbrev Knd := Int × Str × List Str × Str
def kndL : List Knd := [(1, [100, 101, 112, 111, 115, 105, 116], [[97, 109, 111, 117, 110, 116]], []),
 (2, [119, 105, 116, 104, 100, 114, 97, 119], [[97, 109, 111, 117, 110, 116]], []),
 (3, [98, 117, 121], [[97, 109, 111, 117, 110, 116], [102, 101, 101]], [42]),
 (4, [115, 101, 108, 108], [[112, 114, 111, 99, 101, 101, 100, 115], [99, 111, 115, 116], [108, 111, 110, 103, 112, 114, 111, 99, 101, 101, 100, 115], [108, 111, 110, 103, 99, 111, 115, 116]], [42]),
 (5, [100, 101, 102, 101, 114], [[97, 109, 111, 117, 110, 116]], [42]),
 (6, [105, 110, 99, 111, 109, 101], [[97, 109, 111, 117, 110, 116]], [42]),
 (7, [101, 120, 112, 101, 110, 115, 101], [[97, 109, 111, 117, 110, 116]], []),
 (8, [112, 97, 105, 100], [[97, 109, 111, 117, 110, 116]], []),
 (9, [103, 111, 116], [[97, 109, 111, 117, 110, 116]], []),
 (10, [115, 112, 108, 105, 116], [[99, 97, 115, 104], [99, 111, 115, 116]], [42]),
 (11, [115, 112, 105, 110, 111, 102, 102], [[99, 97, 115, 104], [99, 111, 115, 116], [109, 111, 118, 101, 100]], [42, 43]),
 (12, [101, 120, 99, 104, 97, 110, 103, 101], [[99, 97, 115, 104], [99, 111, 115, 116], [98, 97, 115, 105, 115]], [42, 43]),
 (13, [101, 120, 101, 114, 99, 105, 115, 101], [[112, 97, 105, 100], [109, 111, 118, 101, 100]], [42, 43]),
 (14, [99, 97, 112, 105, 116, 97, 108], [[99, 97, 115, 104], [99, 111, 115, 116]], [42]),
 (15, [105, 115, 115, 117, 101], [[97, 109, 111, 117, 110, 116]], []),
 (16, [99, 97, 110, 99, 101, 108], [[97, 109, 111, 117, 110, 116]], []),
 (17, [97, 99, 99, 114, 117, 101], [[97, 109, 111, 117, 110, 116]], [42]),
 (18, [97, 109, 111, 114, 116, 105, 122, 101], [[97, 109, 111, 117, 110, 116]], [42]),
 (19, [114, 101, 118, 97, 108, 117, 101], [[97, 109, 111, 117, 110, 116]], [42])]
def kndF (n : Int) : Option Knd := kndL.find? fun k => k.1 == n
def kndW (w : Str) : Option Knd := kndL.find? fun k => k.2.1 == w
theorem kndW_some {w : Str} {k : Knd} (h : kndW w = some k) : k ∈ kndL ∧ k.2.1 = w := by
 refine ⟨List.mem_of_find?_eq_some h, ?_⟩
 have := List.find?_some h
 simpa using this
theorem kndW_mem {k : Knd} (hk : k ∈ kndL) : kndW k.2.1 = some k := by
 have : (kndL.all fun k => kndW k.2.1 == some k) = true := by decide
 simpa using List.all_eq_true.1 this k hk
theorem kndF_mem {k : Knd} (hk : k ∈ kndL) : kndF k.1 = some k := by
 have : (kndL.all fun k => kndF k.1 == some k) = true := by decide
 simpa using List.all_eq_true.1 this k hk
theorem kndF_some {n : Int} {k : Knd} (h : kndF n = some k) : k ∈ kndL ∧ k.1 = n := by
 refine ⟨List.mem_of_find?_eq_some h, ?_⟩
 have := List.find?_some h
 simpa using this
def sOn : Str := [111, 110]
def sDebit : Str := [100, 101, 98, 105, 116]
def sCredit : Str := [99, 114, 101, 100, 105, 116]
section
variable {X : Type}
abbrev RLn (X : Type) := Str × Bool × X
abbrev Rul (X : Type) := Int × List (RLn X)
variable (tp : Str → Bool) (pe : Str → Option X)
def addR (l : RLn X) : List (Rul X) → List (Rul X)
 | [] => []
 | [r] => [(r.1, r.2 ++ [l])]
 | r :: s :: t => r :: addR l (s :: t)
theorem addR_last (l : RLn X) (o : List (Rul X)) (r : Rul X) : addR l (o ++ [r]) = o ++ [(r.1, r.2 ++ [l])] := by
 induction o with
 | nil => rfl
 | cons a o ih =>
  cases o with
  | nil => rfl
  | cons b o => simp only [List.cons_append] at ih ⊢; rw [addR, ih]
def lineG (out : List (Rul X)) (s : Str) : Option (List (Rul X)) :=
 if ctT 32 s = sOn then (kndW (ctR 32 s)).map fun k => out ++ [(k.1, [])]
 else if ctT 32 s = sDebit ∨ ctT 32 s = sCredit then
  if ctB 32 (ctR 32 s) && tp (ctT 32 (ctR 32 s)) && !out.isEmpty then (pe (ctR 32 (ctR 32 s))).map fun e => addR (ctT 32 (ctR 32 s), decide (ctT 32 s = sCredit), e) out else none
 else none
def runG (f : List (Rul X) → Str → Option (List (Rul X))) : Nat → List (Rul X) → List Str → List (Rul X) × Option Nat
 | _, out, [] => (out, none)
 | i, out, [s] => if s = [] then (out, none) else ([], some (i + 1))
 | i, out, s :: s' :: l => match f out s with
  | none => ([], some (i + 1))
  | some o => runG f (i + 1) o (s' :: l)
def prsR (s : Str) : List (Rul X) × Int × Int :=
 if 65536 < s.length then ([], 0, 4)
 else match runG (lineG tp pe) 0 [] (spl 10 s) with
  | (_, some i) => ([], i, 3)
  | (out, none) => if 64 < out.length ∨ (out.any fun r => decide (64 < r.2.length)) = true then ([], 0, 4) else (out, 0, 0)
theorem runG_step (f : List (Rul X) → Str → Option (List (Rul X))) (i : Nat) (o : List (Rul X)) (s s' : Str) (l : List Str) : runG f i o (s :: s' :: l) = match f o s with | none => ([], some (i + 1)) | some o => runG f (i + 1) o (s' :: l) := rfl
end
section
variable {X : Type} (tp : Str → Bool) (pe : Str → Option X) (pr : X → Str) (nm : X → X)
def kwT (n : Int) : Str := (kndF n).elim [] fun k => k.2.1
variable {tp pe pr nm}
end
end Go.Proofs.YtddfimjiihggmaaGreatDoor
namespace Go.Proofs.YtddfimjiihggmaaGreatDoor.Px
open Go.RowKit
theorem wp_q {P : Program} {o : Oper} {a : Act} {w : World} {K K' : Act → World → Prop} {Q Q' : Exit → Act → World → Prop} (h : ∀ a w, K a w → K' a w) (hq : ∀ e a w, e ≠ .normal → Q e a w → Q' e a w) (hh : o.wp P a w K Q) : o.wp P a w K' Q' := by
 have hl : LetsOut Q → LetsOut Q' := fun ⟨a, w, h⟩ => ⟨a, w, hq _ _ _ (by simp) h⟩
 unfold Oper.wp at *
 generalize (execOp a.eval o).run P w = r at *
 cases r with
 | ok n w' =>
  cases n <;> simp only [Oper.upon] at hh ⊢ <;>
   first
    | exact h _ _ hh
    | exact Calls.mono hh (fun e w'' he => by cases e <;> first | exact h _ _ he | exact hl he | exact hq _ _ _ (by simp) he)
    | exact Rows.mono hh (fun _ _ he => h _ _ he)
 | halt x w' => cases x <;> simp only [Oper.upon] at hh ⊢ <;> first | exact hq _ _ _ (by simp) hh | exact hh
def allR : List Nat → (Nat → Prop) → Prop
 | [], _ => True
 | i :: l, p => p i ∧ allR l p
theorem allR_mem {l : List Nat} {p : Nat → Prop} (h : allR l p) {i : Nat} (hi : i ∈ l) : p i := by
 induction l with
 | nil => cases hi
 | cons j l ih =>
  rcases List.mem_cons.1 hi with rfl | hi
  · exact h.1
  · exact ih h.2 hi
def gt (dflt : Bool) : List Bool → Nat → Bool
 | [], _ => dflt
 | b :: _, 0 => b
 | _ :: l, n + 1 => gt dflt l n
theorem gt_eq (dflt : Bool) (l : List Bool) (n : Nat) : l.toArray.getD n dflt = gt dflt l n := by
 induction l generalizing n with
 | nil => simp [gt, Array.getD]
 | cons b l ih =>
  cases n with
  | zero => simp [gt, Array.getD]
  | succ n => simpa [gt, Array.getD] using ih n
def rdy (listed : List Bool) : Nat → List Oper → List Nat
 | _, [] => []
 | k, o :: l => bif !(gt true listed k) && o.after.toList.all (fun e => !Region.binds .any e || gt false listed e.on) then k :: rdy listed (k + 1) l else rdy listed (k + 1) l
theorem mem_rdy {listed : List Bool} {l : List Oper} {k j : Nat} : j ∈ rdy listed k l ↔ k ≤ j ∧ gt true listed j = false ∧ ∃ o, l[j - k]? = some o ∧ ∀ e ∈ o.after, Region.binds .any e = true → gt false listed e.on = true := by
 induction l generalizing k with
 | nil => simp [rdy]
 | cons o l ih =>
  have hc : (!(gt true listed k) && o.after.toList.all (fun e => !Region.binds .any e || gt false listed e.on)) = true ↔ gt true listed k = false ∧ ∀ e ∈ o.after, Region.binds .any e = true → gt false listed e.on = true := by
   rw [Bool.and_eq_true, Bool.not_eq_true', List.all_eq_true]
   refine and_congr Iff.rfl ⟨fun h e he hb => ?_, fun h e he => ?_⟩
   · have := h e (Array.mem_toList_iff.2 he)
     rw [hb] at this
     simpa using this
   · have := h e (Array.mem_toList_iff.1 he)
     cases hb : Region.binds .any e with
     | false => rfl
     | true => rw [this hb]; rfl
  unfold rdy
  have tail : (j ∈ rdy listed (k + 1) l) ↔ k + 1 ≤ j ∧ gt true listed j = false ∧ ∃ o', (o :: l)[j - k]? = some o' ∧ ∀ e ∈ o'.after, Region.binds .any e = true → gt false listed e.on = true := by
   rw [ih]
   refine and_congr_right fun h => ?_
   rw [show j - k = (j - (k + 1)) + 1 by omega, List.getElem?_cons_succ]
  cases hb : (!(gt true listed k) && o.after.toList.all (fun e => !Region.binds .any e || gt false listed e.on)) with
  | true =>
   rw [cond_true, List.mem_cons, tail]
   obtain ⟨h1, h2⟩ := hc.1 hb
   constructor
   · rintro (rfl | ⟨h3, h4⟩)
     · exact ⟨Nat.le_refl _, h1, o, by simp, h2⟩
     · exact ⟨by omega, h4⟩
   · rintro ⟨h3, h4⟩
     by_cases e : j = k
     · exact .inl e
     · exact .inr ⟨by omega, h4⟩
  | false =>
   rw [cond_false, tail]
   constructor
   · rintro ⟨h3, h4⟩; exact ⟨by omega, h4⟩
   · rintro ⟨h3, h4, o', h5, h6⟩
     by_cases e : j = k
     · subst e
       simp only [Nat.sub_self, List.getElem?_cons_zero, Option.some.injEq] at h5
       subst h5
       rw [hc.2 ⟨h4, h6⟩] at hb
       cases hb
     · exact ⟨by omega, h4, o', h5, h6⟩
theorem rdy_ready {listed : List Bool} {l : List Oper} {j : Nat} : j ∈ Region.ready .any l.toArray listed.toArray ↔ j ∈ rdy listed 0 l := by
 rw [mem_ready, mem_rdy, gt_eq]
 simp only [Nat.zero_le, true_and, Nat.sub_zero, List.getElem?_toArray, gt_eq]
section
variable {P : Program} {B : Nat} {w0 : Cx} {l : List Oper} {J st : PS}
def noSel (l : List Oper) : Bool := l.all fun o => match o.op with | .select .. => false | _ => true
def apartB (l : List Oper) (listed : List Bool) (i : Nat) (oi : Oper) : Bool := allIx (fun j oj => Nat.beq j i || gt true listed j || oj.after.toList.any (fun e => Region.binds .any e && Nat.beq e.on i) || oi.apart l.toArray oj) 0 l
end
section
variable {P : Program} {sq : Bool} {ops : Array Oper} {K : PS → Prop} {rest : List Oper} {st : PS} {d : Option Nat} {op : Op} {ty : TypeId} {pos : String} {af : Array Edge} {gd : Option (Nat × Bool)} {q : Nat × Bool}
end
def kmap (l : List (List UInt8 × DV)) : List (Value × DV) := l.map fun p => (vS p.1, p.2)
def mget (z : DV) (k : List UInt8) : List (List UInt8 × DV) → DV
 | [] => z
 | (k', v) :: l => if k' = k then v else mget z k l
def mset (k : List UInt8) (v : DV) : List (List UInt8 × DV) → List (List UInt8 × DV)
 | [] => [(k, v)]
 | (k', v') :: l => if k' = k then (k, v) :: l else (k', v') :: mset k v l
theorem find_spec (k : List UInt8) : ∀ (l : List (List UInt8 × DV)) (es : List MapEntry) (n : Nat), es.length = l.length → (∀ (i : Nat) e p, es[i]? = some e → l[i]? = some p → e.key = vS p.1) →
 (∃ j e d, Instr.findNow .string (vS k) es n = some (some (n + j, e.val)) ∧ es[j]? = some e ∧ l[j]? = some (k, d) ∧ (∀ z, mget z k l = d) ∧ ∀ v, mset k v l = l.set j (k, v)) ∨
 (Instr.findNow .string (vS k) es n = some none ∧ (∀ z, mget z k l = z) ∧ (∀ v, mset k v l = l ++ [(k, v)]) ∧ ∀ p ∈ l, p.1 ≠ k)
 | [], [], n, _, _ => .inr ⟨rfl, fun _ => rfl, fun _ => rfl, fun p hp => by simp at hp⟩
 | [], e :: es, n, hl, _ => by simp at hl
 | p :: l, [], n, hl, _ => by simp at hl
 | (k', d) :: l, e :: es, n, hl, hk => by
  have h0 : e.key = vS k' := hk 0 e (k', d) rfl rfl
  have hs : Instr.sameNow .string (vS k) e.key = some ((⟨k.toArray⟩ : ByteArray) == ⟨k'.toArray⟩) := by rw [h0]; rfl
  by_cases hkk : k' = k
  · subst hkk
    refine .inl ⟨0, e, d, ?_, rfl, rfl, fun z => by rw [mget, if_pos rfl], fun v => by rw [mset, if_pos rfl]; rfl⟩
    rw [Instr.findNow, hs, (MapKept.bytes_beq _ _).2 rfl]
    rfl
  · have hb : ((⟨k.toArray⟩ : ByteArray) == ⟨k'.toArray⟩) = false := by
     rw [← Bool.not_eq_true, MapKept.bytes_beq]
     intro e
     apply hkk
     have := congrArg (fun x : ByteArray => x.data.toList) e
     simpa using this.symm
    have hf : Instr.findNow .string (vS k) (e :: es) n = Instr.findNow .string (vS k) es (n + 1) := by rw [Instr.findNow, hs, hb]
    rcases find_spec k l es (n + 1) (by simpa using hl) (fun i e' p' he hp => hk (i + 1) e' p' (by simpa using he) (by simpa using hp)) with ⟨j, e', d', h1, h2, h3, h4, h5⟩ | ⟨h1, h2, h3, h4⟩
    · refine .inl ⟨j + 1, e', d', ?_, h2, h3, fun z => by rw [mget, if_neg hkk, h4], fun v => by rw [mset, if_neg hkk, h5]; rfl⟩
      rw [hf, h1, show n + 1 + j = n + (j + 1) by omega]
    · exact .inr ⟨by rw [hf, h1], fun z => by rw [mget, if_neg hkk, h2], fun v => by rw [mset, if_neg hkk, h3]; rfl, fun p hp => by
       rcases List.mem_cons.1 hp with rfl | hp
       · exact hkk
       · exact h4 p hp⟩
class MapOf (P : Program) (T : Nat) (z : outParam DV) : Prop where
 und : ∃ kt et, P.underlying T = some (.map kt et) ∧ P.underlying kt = some .string ∧ ∀ w, ∃ v, (zeroValue et).run P w = .ok v w ∧ ∀ F w', DRep F w' v z
section
variable {P : Program} {sq : Bool} {ops : Array Oper} {K : PS → Prop} {rest : List Oper} {st : PS} {d : Option Nat} {ty : TypeId} {pos : String} {af : Array Edge} {gd : Option (Nat × Bool)}
theorem ls_mkm (T : TypeId) {e : Nat} (hi : st.bget (500000 + e) = none) (hd : dstOk ⟨some e, .makeMap T none, ty, pos, af, gd⟩ st = true) :
 LocS P ⟨some e, .makeMap T none, ty, pos, af, gd⟩ st (.mb (500000 + e)) (.box (500000 + e) [.mc (kmap [])]) := fun st2 ha => by
 intro B w0 g a w K Q hr hK
 have hin : e < st2.n := dstOk_spec (ha.dst hd) e rfl
 have hlim : st2.n ≤ 10000 := hr.lim
 have hi2 : st2.bget (500000 + e) = none := ha.fresh rfl e rfl (500000 + e) (newOf_map (by omega)) hi
 have hrep := hr.newm e 0 hi2 hin #[] (kmap []) ⟨rfl, MapKept.stamped_empty 0, fun i e p he => by simp at he⟩
 have hrun : (execOp a.eval ⟨some e, .makeMap T none, ty, pos, af, gd⟩).run P w = .ok (.value (.map (some w.heap.size))) (w.alloc (.map #[] 0)) := by
  simp [execOp, run_makeMap]
 unfold Oper.wp
 rw [hrun]
 exact hK _ _ _ (hrep.put (x := .mb (500000 + e)) ⟨w.heap.size, by simp [Gh.addb], rfl⟩ _ (dstOk_spec (st := st2.bput (500000 + e) _) (ha.dst hd)))
theorem yKm {T e : Nat} (hi : st.bget (500000 + e) = none)
 (h : YR P sq ops K rest ((st.bput (500000 + e) [.mc (kmap [])]).put (some e) (.mb (500000 + e)))) (hd : dstOk ⟨some e, .makeMap T none, ty, pos, af, gd⟩ st = true := by kernel_rfl) (hk : opOk ⟨some e, .makeMap T none, ty, pos, af, gd⟩ st (.box (500000 + e) [.mc (kmap [])]) = true := by kernel_rfl) (hw : st.want ops ⟨some e, .makeMap T none, ty, pos, af, gd⟩ = some true := by rfl) :
 YR P sq ops K (⟨some e, .makeMap T none, ty, pos, af, gd⟩ :: rest) st := yr_b (ls_mkm T hi hd) hk hw h
theorem map_at {B : Nat} {w0 : Cx} {g : Gh} {a : Act} {w : World} (hr : Rep B w0 g st a w) {i : Nat} {l : List (List UInt8 × DV)} (hge : 500000 ≤ i) (hi : st.bget i = some [.mc (kmap l)]) :
 ∃ b es c, g.bl i = some b ∧ w.heap[b]? = some (.map es c) ∧ es.toList.length = l.length ∧ MapKept.Stamped es c ∧ (∀ (i : Nat) e p, es.toList[i]? = some e → l[i]? = some p → e.key = vS p.1) ∧ ∀ (i : Nat) e p, es.toList[i]? = some e → l[i]? = some p → DRep (Fx g) w e.val p.2 := by
 obtain ⟨b, es, c, h1, h2, h3, h5, h4⟩ := hr.maps i _ hi hge
 have hp : ∀ (i : Nat) p, l[i]? = some p → (kmap l)[i]? = some (vS p.1, p.2) := fun i p hp => by rw [kmap, List.getElem?_map, hp]; rfl
 exact ⟨b, es, c, h1, h2, by simpa [kmap] using h3, h5, fun i e p he hl => (h4 i e _ (by simpa using he) (hp i p hl)).1, fun i e p he hl => (h4 i e _ (by simpa using he) (hp i p hl)).2⟩
theorem ls_mlk (T : TypeId) (x y : Operand) {i : Nat} {l : List (List UInt8 × DV)} {k : List UInt8} {z : DV} [hM : MapOf P T z] (hge : 500000 ≤ i) (hx : st.ev x = .mb i) (hi : st.bget i = some [.mc (kmap l)]) (hy : st.ev y = .d (dS k)) (hd : dstOk ⟨d, .lookup T x y false, ty, pos, af, gd⟩ st = true) :
 LocS P ⟨d, .lookup T x y false, ty, pos, af, gd⟩ st (.d (mget z k l)) .no := fun st2 ha =>
 OpS.value (ha.dst hd) fun _ _ g a w h => by
  have h1 := h.eval x
  rw [ha.ev x (by simp [Op.operands]), hx] at h1
  have h2 := h.eval y
  rw [ha.ev y (by simp [Op.operands]), hy] at h2
  have hi2 : st2.bget i = some [.mc (kmap l)] := (ha.ids rfl x (by simp [Op.operands]) i (by rw [hx]; simp [SV.ids])).trans hi
  obtain ⟨b, q1, q2⟩ := h1
  obtain ⟨b', es, c, r1, r2, r3, -, r4, r5⟩ := map_at h hge hi2
  rw [q1] at r1
  cases r1
  obtain ⟨kt, et, m1, m2, m3⟩ := hM.und
  obtain ⟨v, m4, m5⟩ := m3 w
  have hc : ∀ e, (Instr.checkKey e 10000 kt (vS k)).run P w = .ok () w := fun e => MapKept.run_checkKey (k := vS k) m2 (by simp [MapKept.IsKey]) e 9999
  rcases find_spec k l es.toList 0 r3 r4 with ⟨j, e, d', f1, f2, f3, f4, -⟩ | ⟨f1, f2, -, -⟩
  · refine ⟨e.val, w, ?_, Below.refl _ _, ?_⟩
    · simp [execOp, Instr.lookup, run_underlying m1, q2, DRep.val_eq h2, MapKept.run_getObj_map r2, hc, MapKept.run_findKey m2 f1, Result.andThen]
    · rw [f4]; exact r5 j e _ f2 f3
  · refine ⟨v, w, ?_, Below.refl _ _, ?_⟩
    · simp [execOp, Instr.lookup, run_underlying m1, q2, DRep.val_eq h2, MapKept.run_getObj_map r2, hc, MapKept.run_findKey m2 f1, m4, Result.andThen]
    · rw [f2]; exact m5 _ _
theorem yKl {T : Nat} {x y : Operand} {i : Nat} {l : List (List UInt8 × DV)} {k : List UInt8} {z v : DV} [hM : MapOf P T z] (hx : st.ev x = .mb i) (hi : st.bget i = some [.mc (kmap l)]) (hy : st.ev y = .d (dS k)) (hv : mget z k l = v)
 (h : YR P sq ops K rest (st.put d (.d v))) (hge : Nat.ble 500000 i = true := by rfl) (hd : dstOk ⟨d, .lookup T x y false, ty, pos, af, gd⟩ st = true := by kernel_rfl) (hk : opOk ⟨d, .lookup T x y false, ty, pos, af, gd⟩ st .no = true := by kernel_rfl) (hw : st.want ops ⟨d, .lookup T x y false, ty, pos, af, gd⟩ = some true := by rfl) :
 YR P sq ops K (⟨d, .lookup T x y false, ty, pos, af, gd⟩ :: rest) st := yr_v (hv ▸ ls_mlk T x y (Nat.le_of_ble_eq_true hge) hx hi hy hd) hk hw h
theorem run_keyStays (k : List UInt8) (w : World) : (Instr.keyThatStays (vS k) (vS k)).run P w = .ok (vS k) w := by
 have : Instr.sameBits 10000 (vS k) (vS k) = true := by
  show ((⟨k.toArray⟩ : ByteArray) == ⟨k.toArray⟩) = true
  exact (MapKept.bytes_beq _ _).2 rfl
 simp [Instr.keyThatStays, this]
theorem ls_mup (T : TypeId) (x y u : Operand) {i : Nat} {l : List (List UInt8 × DV)} {k : List UInt8} {z v : DV} [hM : MapOf P T z] (hge : 500000 ≤ i) (hx : st.ev x = .mb i) (hi : st.bget i = some [.mc (kmap l)]) (hy : st.ev y = .d (dS k)) (hu : st.ev u = .d v) (hd : dstOk ⟨d, .mapUpdate T x y u, ty, pos, af, gd⟩ st = true) :
 LocS P ⟨d, .mapUpdate T x y u, ty, pos, af, gd⟩ st .any (.box i [.mc (kmap (mset k v l))]) := fun st2 ha => by
 intro B w0 g a w K Q h hK
 have h1 := h.eval x
 rw [ha.ev x (by simp [Op.operands]), hx] at h1
 have h2 := h.eval y
 rw [ha.ev y (by simp [Op.operands]), hy] at h2
 have h3 := h.eval u
 rw [ha.ev u (by simp [Op.operands]), hu] at h3
 have hi2 : st2.bget i = some [.mc (kmap l)] := (ha.ids rfl x (by simp [Op.operands]) i (by rw [hx]; simp [SV.ids])).trans hi
 obtain ⟨b, q1, q2⟩ := h1
 obtain ⟨b', es, c, r1, r2, r3, rs, r4, r5⟩ := map_at h hge hi2
 rw [q1] at r1
 cases r1
 obtain ⟨kt, et, m1, m2, -⟩ := hM.und
 have hc : ∀ e, (Instr.checkKey e 10000 kt (vS k)).run P w = .ok () w := fun e => MapKept.run_checkKey (k := vS k) m2 (by simp [MapKept.IsKey]) e 9999
 have hblt : b < w.heap.size := (Array.getElem?_eq_some_iff.1 r2).1
 suffices hrun : ∃ es' c', (execOp a.eval ⟨d, .mapUpdate T x y u, ty, pos, af, gd⟩).run P w = .ok .skip { w with heap := w.heap.setIfInBounds b (.map es' c') } ∧ es'.toList.length = (mset k v l).length ∧ MapKept.Stamped es' c' ∧ ∀ (q : Nat) e p, es'.toList[q]? = some e → (mset k v l)[q]? = some p → e.key = vS p.1 ∧ DRep (Fx g) w e.val p.2 by
  obtain ⟨es', c', e1, e2, e4, e3⟩ := hrun
  have hs := MapKept.heap_set (o' := .map es' c') r2
  have hrep := h.seto i b [.mc (kmap (mset k v l))] (w' := { w with heap := w.heap.setIfInBounds b (.map es' c') }) q1 ⟨rfl, rfl, rfl, by simp, fun q hq => by omega⟩ (fun q _ hne => hs.2 q hne) (by unfold World.shape?; simp only [hs.1, r2]) (fun _ hlt => by omega) (fun e _ ms hms => by
   obtain rfl : kmap (mset k v l) = ms := by simpa using hms
   refine ⟨es', c', hs.1, by simpa [kmap] using e2, e4, fun q en p he hp => ?_⟩
   rw [kmap, List.getElem?_map, Option.map_eq_some_iff] at hp
   obtain ⟨p', hp1, rfl⟩ := hp
   have := e3 q en p' (by simpa using he) hp1
   exact ⟨this.1, this.2.mono e.fx⟩)
  unfold Oper.wp
  rw [e1]
  exact hK g _ _ (hrep.put (x := .any) trivial _ (dstOk_spec (st := st2.bput i _) (ha.dst hd)))
 rcases find_spec k l es.toList 0 r3 r4 with ⟨j, e, d', f1, f2, f3, -, f5⟩ | ⟨f1, -, f3, f6⟩
 · have hek : e.key = vS k := r4 j e _ f2 f3
   have hj : es[j]? = some e := by simpa using f2
   refine ⟨es.modify j fun e => { e with key := vS k, val := a.eval u }, c, ?_, ?_, ?_, ?_⟩
   · simp [execOp, Instr.mapUpdate, run_underlying m1, q2, DRep.val_eq h2, MapKept.run_getObj_map r2, hc, MapKept.run_findKey m2 f1, hj, hek, run_keyStays, MapKept.run_setObj_map _ r2, Result.andThen]
   · rw [f5]; simpa using r3
   · exact MapKept.stamped_modify rs j _ (fun _ _ => rfl) fun e' _ he' => by
      rw [hj] at he'
      cases he'
      exact hek.symm
   · intro q en p he hp
     rw [f5] at hp
     rw [Array.toList_modify, List.getElem?_modify] at he
     by_cases hq : j = q
     · subst hq
       rw [f2] at he
       rw [List.getElem?_set_self (by rw [← r3]; exact (List.getElem?_eq_some_iff.1 f2).1)] at hp
       cases hp
       simp at he
       subst he
       exact ⟨rfl, h3⟩
     · rw [List.getElem?_set_ne hq] at hp
       simp [hq] at he
       exact ⟨r4 q en p (by simpa using he) hp, r5 q en p (by simpa using he) hp⟩
 · refine ⟨es.push { key := vS k, val := a.eval u, born := c }, c + 1, ?_, ?_, ?_, ?_⟩
   · simp [execOp, Instr.mapUpdate, run_underlying m1, q2, DRep.val_eq h2, MapKept.run_getObj_map r2, hc, MapKept.run_findKey m2 f1, MapKept.run_setObj_map _ r2, Result.andThen]
   · rw [f3]; simpa using r3
   · exact MapKept.stamped_push rs fun x hx e => by
      obtain ⟨q, hq⟩ := List.mem_iff_getElem?.1 hx
      obtain ⟨p, hp⟩ : ∃ p, l[q]? = some p := ⟨_, List.getElem?_eq_getElem (by rw [← r3]; exact (List.getElem?_eq_some_iff.1 hq).1)⟩
      have h5 := r4 q x p hq hp
      rw [e] at h5
      refine f6 p (List.mem_of_getElem? hp) ?_
      have := congrArg (fun v : Value => match v with | .string s => s.data.toList | _ => []) h5
      simpa using this.symm
   · intro q en p he hp
     rw [f3] at hp
     rw [Array.toList_push] at he
     rcases Nat.lt_or_ge q l.length with hq | hq
     · rw [List.getElem?_append_left hq] at hp
       rw [List.getElem?_append_left (by omega)] at he
       exact ⟨r4 q en p he hp, r5 q en p he hp⟩
     · rw [List.getElem?_append_right hq] at hp
       rw [List.getElem?_append_right (by omega), r3] at he
       obtain ⟨hq0, -⟩ := List.getElem?_eq_some_iff.1 hp
       have hq1 : q - l.length = 0 := by simpa using hq0
       rw [hq1] at he hp
       cases he
       cases hp
       exact ⟨rfl, h3⟩
theorem yKu {T : Nat} {x y u : Operand} {i : Nat} {l l' : List (List UInt8 × DV)} {k : List UInt8} {z v : DV} [hM : MapOf P T z] (hx : st.ev x = .mb i) (hi : st.bget i = some [.mc (kmap l)]) (hy : st.ev y = .d (dS k)) (hu : st.ev u = .d v) (hl : mset k v l = l')
 (h : YR P sq ops K rest ((st.bput i [.mc (kmap l')]).put d .any)) (hge : Nat.ble 500000 i = true := by rfl) (hd : dstOk ⟨d, .mapUpdate T x y u, ty, pos, af, gd⟩ st = true := by kernel_rfl) (hk : opOk ⟨d, .mapUpdate T x y u, ty, pos, af, gd⟩ st (.box i [.mc (kmap l')]) = true := by kernel_rfl) (hw : st.want ops ⟨d, .mapUpdate T x y u, ty, pos, af, gd⟩ = some true := by rfl) :
 YR P sq ops K (⟨d, .mapUpdate T x y u, ty, pos, af, gd⟩ :: rest) st := yr_b (hl ▸ ls_mup T x y u (Nat.le_of_ble_eq_true hge) hx hi hy hu hd) hk hw h
end
open Go.RowKit Go.Maps Go.Sort Go.WideMaps
def KeysC (P : Program) (fK it T : Nat) : Prop := ∀ mb W, Calls P fK #[.map mb] W fun e w' => e = .returned (.func (.func it) #[] #[.pointer (some ⟨W.heap.size, 0, none⟩)]) ∧ w' = W.alloc (.cells #[.map mb] T)
def SortedC (P : Program) (fS it k : Nat) : Prop := ∀ (a b nn : Nat) (D0 : DataW Unit) (R : Value → Option (DataW Unit × List MemPlace)) (W : World), a < W.heap.size → W.cell? ⟨a, 0, none⟩ = some (.map (some b)) → W.ownsMap P k R b nn D0 →
 Maps.size D0 ≤ maxLen → Maps.size D0 * 16 ≤ 140737488355328 → Calls P fS #[.func (.func it) #[] #[.pointer (some ⟨a, 0, none⟩)]] W fun e w' => ∃ (v : Value) (ss : List (List UInt8)), e = .returned v ∧ ss.Perm (strKeys D0) ∧
  w'.ownsRow W.heap.size k 1 v ss.length ((ss.mergeSort (fun x y => decide (x ≤ y))).map encStr) ∧ (v = .slice none 0 0 ↔ ss = []) ∧ Below W.heap.size W w'
def skeys (l : List (List UInt8 × DV)) : List (List UInt8) := (l.map (·.1)).mergeSort leB
def anyR (_ : Value) : Option (DataW Unit × List MemPlace) := some (.nil, [])
theorem own_of_map {P : Program} {k : Nat} {w : World} {b c : Nat} {es : Array MapEntry} {l : List (List UInt8 × DV)} (hk : P.underlying k = some .string) (h2 : w.heap[b]? = some (.map es c)) (h3 : es.toList.length = l.length) (hs : MapKept.Stamped es c)
 (h4 : ∀ (i : Nat) e p, es.toList[i]? = some e → l[i]? = some p → e.key = vS p.1) (hl : l.length ≤ 1000000) (hkl : ∀ p ∈ l, p.1.length ≤ 1000000) :
 ∃ D0 : DataW Unit, w.ownsMap P k anyR b l.length D0 ∧ Maps.size D0 = l.length ∧ (strKeys D0).Perm (l.map (·.1)) := by
 have hrd : ∀ (i : Nat) e p, es.toList[i]? = some e → l[i]? = some p → WideElems.rd P k anyR e = some (.string p.1, .nil) := fun i e p he hp => by
  have h5 := h4 i e p he hp
  have h6 : keyOf P k e.key = some (.string p.1) := by
   rw [h5]
   have := keyOf_string_mk hk (s := ⟨p.1.toArray⟩) (by
    have := hkl p (List.mem_of_getElem? hp)
    show p.1.toArray.size ≤ maxLen
    simp only [List.size_toArray, maxLen]; omega)
   simpa [vS] using this
  simp [WideElems.rd, h6, anyR]
 have hmap : es.toList.map (WideElems.rg P k anyR) = l.map fun p => (Lit.string p.1, DataW.nil) := by
  refine List.ext_getElem? fun i => ?_
  rw [List.getElem?_map, List.getElem?_map]
  cases he : es.toList[i]? with
  | none =>
   have : l[i]? = none := by rw [List.getElem?_eq_none_iff] at he ⊢; omega
   rw [this]; rfl
  | some e =>
   cases hp : l[i]? with
   | none => rw [List.getElem?_eq_none_iff] at hp; have := (List.getElem?_eq_some_iff.1 he).1; omega
   | some p => simp [WideElems.rg_of (hrd i e p he hp)]
 refine ⟨_, ⟨es, c, h2, ⟨by simp only [maxLen]; simp at h3; omega, hs, fun x hx => ?_⟩, by simp at h3; omega, rfl⟩, ?_, ?_⟩
 · obtain ⟨i, hi, rfl⟩ := List.mem_iff_getElem.1 hx
   exact ⟨_, hrd i _ _ (List.getElem?_eq_getElem hi) (List.getElem?_eq_getElem (by omega))⟩
 · rw [hmap]
   show ((l.map fun p => (Lit.string p.1, (DataW.nil : DataW Unit))).foldr DataW.insert []).length = _
   rw [(WideShapes.sorted_perm _).length_eq, List.length_map]
 · rw [hmap]
   show (((l.map fun p => (Lit.string p.1, (DataW.nil : DataW Unit))).foldr DataW.insert []).map fun p => strOf p.1).Perm _
   refine ((WideShapes.sorted_perm _).map _).trans ?_
   rw [List.map_map]
   exact .refl _
section
variable {P : Program} {ops : Array Oper} {K : PS → Prop} {rest : List Oper} {st : PS} {d : Option Nat} {ty : TypeId} {pos : String} {af : Array Edge} {gd : Option (Nat × Bool)}
theorem yKk {fK it T e i : Nat} {x : Operand} {ts : Array TypeId} [HasBody P fK] (hK : KeysC P fK it T) (hx : st.ev x = .mb i) (hi : st.bget e = none)
 (h : YR P true ops K rest ((st.bput e [.mb i]).put (some e) (.fn it [e]))) (hin : Nat.blt e st.n = true := by rfl)
 (hw : st.want ops ⟨some e, .call { callee := .value (.func fK), args := #[x], argTypes := ts }, ty, pos, af, gd⟩ = some true := by rfl) :
 YR P true ops K (⟨some e, .call { callee := .value (.func fK), args := #[x], argTypes := ts }, ty, pos, af, gd⟩ :: rest) st := by
 refine .any rfl fun B w0 Q hQ g a w hr => ?_
 have hlt : e < st.n := Nat.le_of_ble_eq_true hin
 have h1 := hr.eval x
 rw [hx] at h1
 obtain ⟨b, q1, q2⟩ := h1
 unfold wpList
 rw [if_pos (want_spec hr hw)]
 refine .inl ?_
 unfold Oper.wp
 have hrun := run_call (P := P) (f := fK) (d := some e) (l := [x]) (ts := ts) (ty := ty) (pos := pos) (af := af) (gd := gd) (a := a) (w := w)
 rw [hrun]
 show Calls P fK _ w _
 have hc := hK (some b) w
 simp only [List.map_cons, List.map_nil, q2]
 refine hc.mono ?_
 rintro e' w' ⟨rfl, rfl⟩
 have hrep := hr.newb e T hi hlt #[.map (some b)] [.mb i] (by simp) (fun j c hj => by
  cases j with
  | zero => cases hj; exact ⟨_, rfl, b, q1, rfl⟩
  | succ j => simp at hj) (fun u hu => by simp at hu; subst hu; rfl)
 refine h.sound hQ (hrep.put (x := .fn it [e]) ⟨[w.heap.size], rfl, rfl, fun j b' c hb hc' => ?_⟩ _ fun j hj => by cases hj; exact hlt)
 cases j with
 | zero => cases hb; cases hc'; simp [Gh.addb]
 | succ j => simp at hb
theorem yKs {fS it k j i : Nat} {l : List (List UInt8 × DV)} {ks : List (List UInt8)} {x : Operand} {ts : Array TypeId} [HasBody P fS] (hS : SortedC P fS it k) (hk : P.underlying k = some .string) (hx : st.ev x = .fn it [j]) (hj : st.bget j = some [.mb i]) (hi : st.bget i = some [.mc (kmap l)])
 (hl : l.length ≤ 1000000) (hkl : ∀ p ∈ l, p.1.length ≤ 1000000) (hks : skeys l = ks)
 (h : YR P true ops K rest (st.put d (.d (.sl 1 (ks.map fun s => [dS s]))))) (hjl : Nat.blt j 500000 = true := by rfl) (hge : Nat.ble 500000 i = true := by rfl) (hd : dstOk ⟨d, .call { callee := .value (.func fS), args := #[x], argTypes := ts }, ty, pos, af, gd⟩ st = true := by kernel_rfl)
 (hw : st.want ops ⟨d, .call { callee := .value (.func fS), args := #[x], argTypes := ts }, ty, pos, af, gd⟩ = some true := by rfl) :
 YR P true ops K (⟨d, .call { callee := .value (.func fS), args := #[x], argTypes := ts }, ty, pos, af, gd⟩ :: rest) st := by
 subst hks
 refine .any rfl fun B w0 Q hQ g a w hr => ?_
 have h1 := hr.eval x
 rw [hx] at h1
 obtain ⟨bs, q1, q2, q3⟩ := h1
 obtain ⟨a0, rfl⟩ : ∃ a0, bs = [a0] := by
  match bs, q2 with
  | [a0], _ => exact ⟨a0, rfl⟩
 have q4 := q3 0 a0 j rfl rfl
 obtain ⟨b', xs, T, r1, r2, r3, r4, -⟩ := hr.boxes j _ hj (Nat.le_of_ble_eq_true hjl)
 rw [q4] at r1
 cases r1
 obtain ⟨u, r5, b, r6, rfl⟩ := r4 0 _ rfl
 obtain ⟨b2, es, c, s1, s2, s3, s4, s5, -⟩ := map_at hr (Nat.le_of_ble_eq_true hge) hi
 rw [r6] at s1
 cases s1
 obtain ⟨D0, d1, d2, d3⟩ := own_of_map hk s2 s3 s4 s5 hl hkl
 have hcell : w.cell? ⟨a0, 0, none⟩ = some (.map (some b)) := see_cell.2 (by rw [see_cells r2, r5]; rfl)
 unfold wpList
 rw [if_pos (want_spec hr hw)]
 refine .inl ?_
 unfold Oper.wp
 have hrun := run_call (P := P) (f := fS) (d := d) (l := [x]) (ts := ts) (ty := ty) (pos := pos) (af := af) (gd := gd) (a := a) (w := w)
 rw [hrun]
 show Calls P fS _ w _
 have hc := hS a0 b l.length D0 anyR w (hr.blk j a0 q4).2 hcell d1 (by rw [d2]; simp only [maxLen]; omega) (by rw [d2]; omega)
 simp only [List.map_cons, List.map_nil, q1]
 refine hc.mono ?_
 rintro e' w' ⟨v, ss, rfl, hp, hrow, -, hb⟩
 have hsort : ss.mergeSort (fun x y => decide (x ≤ y)) = skeys l := mergeSort_of_perm (hp.trans d3)
 rw [hsort] at hrow
 have hlen : ss.length = (skeys l).length := by rw [← hsort, List.length_mergeSort]
 have hlen2 : (skeys l).length = l.length := by rw [skeys, List.length_mergeSort, List.length_map]
 refine h.sound hQ ((hr.grow hb).put (x := .d (.sl 1 ((skeys l).map fun s => [dS s]))) ?_ _ (dstOk_spec (st := st) hd))
 show DRep (Fx g) w' v _
 rcases hrow.2 with ⟨rfl, h0⟩ | ⟨gb, cap, cur, rfl, hbase, hg, hc1, hc2, -, ht⟩
 · have : skeys l = [] := List.eq_nil_of_length_eq_zero (by omega)
   rw [this]
   exact .nil
 · refine .sl (fun i _ => encStr ((skeys l).getD i [])) (by simp [hlen]) hc1 (by omega) (fun e he => ?_) (fun h0 => ⟨gb, 0, rfl, fun i j hi' hj' => ⟨?_, ?_⟩⟩) (fun i j _ _ => rfl) (fun i j e x he hx' => ?_)
   · obtain ⟨s, -, rfl⟩ := List.mem_map.1 he; rfl
   · have hi2 : i < (skeys l).length := by omega
     obtain rfl : j = 0 := by omega
     refine see_cell.2 ?_
     rw [see_cells hg]
     have h5 : cur.toList[i]? = ((skeys l).map encStr)[i]? := by
      rw [← ht, List.getElem?_take_of_lt (by omega)]
     rw [show 0 + i * 1 + 0 = i by omega, ← Array.getElem?_toList, h5, List.getElem?_map, List.getElem?_eq_getElem hi2]
     simp [List.getD, List.getElem?_eq_getElem hi2]
   · refine ⟨hr.f0 _ _ (Nat.le_trans hr.base hbase), fun i' hi3 => ?_, fun t T' n c' hT hv => ?_⟩
     · have := (hr.blk i' gb hi3).2; omega
     · obtain ⟨⟨n', xs', h6⟩, -⟩ := hr.toks t T' hT
       have := (h6.lt gb (by rw [hv]; rfl)).2
       omega
   · rw [List.getElem?_map, Option.map_eq_some_iff] at he
     obtain ⟨s, hs1, rfl⟩ := he
     cases j with
     | zero =>
      cases hx'
      simp only [List.getD, hs1, Option.getD_some]
      exact DRep.val _ rfl
     | succ j => simp at hx'
end
end Go.Proofs.YtddfimjiihggmaaGreatDoor.Px
namespace Go.Proofs.YtddfimjiihggmaaGreatDoor
open Go.RowKit
theorem decDigits_dec {n : Nat} (h : n ≠ 0) : Lib.decDigits n = dec n := by
 induction n using Nat.strongRecOn with
 | _ n ih =>
  rw [Lib.decDigits, dec_pos h]
  by_cases h2 : n < 10
  · rw [dif_pos h2, show n / 10 = 0 by omega, dec_zero, show n % 10 = n by omega]
    rfl
  · rw [dif_neg h2, ih (n / 10) (by omega) (by omega)]
    rfl
theorem decDigits_small (n k : Nat) (h : n < 10 ^ k) (hk : 0 < k) : (Lib.decDigits n).length ≤ k := by
 induction k generalizing n with
 | zero => omega
 | succ k ih =>
  rw [Lib.decDigits]
  by_cases h2 : n < 10
  · rw [dif_pos h2]; simp
  · rw [dif_neg h2]
    have h3 : 0 < k := by
     by_cases e : k = 0
     · subst e; simp at h; omega
     · omega
    have := ih (n / 10) (by rw [Nat.pow_succ] at h; omega) h3
    simp; omega
def sg (b : Bool) (m : Nat) : Int := if b then -(m : Int) else m
def grp (n : Nat) : List Nat := if h : n = 0 then [] else (n % 1000000000) :: grp (n / 1000000000)
termination_by n
decreasing_by exact Nat.div_lt_self (by omega) (by omega)
def gval : List Nat → Nat
 | [] => 0
 | x :: l => x + 1000000000 * gval l
def gok (l : List Nat) : Prop := ∀ x ∈ l, x < 1000000000
theorem grp_zero : grp 0 = [] := by rw [grp]; simp
theorem grp_pos {n : Nat} (h : n ≠ 0) : grp n = (n % 1000000000) :: grp (n / 1000000000) := by rw [grp]; simp [h]
theorem gval_grp (n : Nat) : gval (grp n) = n := by
 induction n using Nat.strongRecOn with
 | _ n ih =>
  by_cases h : n = 0
  · subst h; rw [grp_zero]; rfl
  · rw [grp_pos h, gval, ih (n / 1000000000) (Nat.div_lt_self (by omega) (by omega))]
    omega
theorem gok_grp (n : Nat) : gok (grp n) := by
 induction n using Nat.strongRecOn with
 | _ n ih =>
  by_cases h : n = 0
  · subst h; rw [grp_zero]; intro x hx; simp at hx
  · rw [grp_pos h]
    intro x hx
    rcases List.mem_cons.1 hx with e | e
    · omega
    · exact ih (n / 1000000000) (Nat.div_lt_self (by omega) (by omega)) x e
theorem grp_nil {n : Nat} : grp n = [] ↔ n = 0 := by
 constructor
 · intro h; have := gval_grp n; rw [h] at this; exact this.symm
 · rintro rfl; exact grp_zero
theorem gok_cons {x : Nat} {l : List Nat} : gok (x :: l) ↔ x < 1000000000 ∧ gok l := by simp [gok]
theorem gok_append {l r : List Nat} : gok (l ++ r) ↔ gok l ∧ gok r := by
 simp only [gok, List.mem_append]
 exact ⟨fun h => ⟨fun x hx => h x (.inl hx), fun x hx => h x (.inr hx)⟩, fun h x hx => hx.elim (h.1 x) (h.2 x)⟩
theorem gval_append (l r : List Nat) : gval (l ++ r) = gval l + 1000000000 ^ l.length * gval r := by
 induction l with
 | nil => simp [gval]
 | cons x l ih =>
  rw [List.cons_append, gval, ih, gval, List.length_cons, Nat.pow_succ, Nat.mul_add, ← Nat.mul_assoc, Nat.mul_comm (1000000000 ^ l.length) 1000000000]
  omega
theorem gval_lt {l : List Nat} (h : gok l) : gval l < 1000000000 ^ l.length := by
 induction l with
 | nil => simp [gval]
 | cons x l ih =>
  obtain ⟨h1, h2⟩ := gok_cons.1 h
  have := ih h2
  rw [gval, List.length_cons, Nat.pow_succ]
  omega
def cutG : List Nat → List Nat
 | [] => []
 | x :: l => if cutG l = [] ∧ x = 0 then [] else x :: cutG l
theorem cutG_gval (l : List Nat) : gval (cutG l) = gval l := by
 induction l with
 | nil => rfl
 | cons x l ih =>
  rw [cutG]
  split
  · rename_i h
    rw [h.1] at ih
    rw [gval, gval, ← ih, h.2]
    simp [gval]
  · rw [gval, gval, ih]
theorem cutG_gok {l : List Nat} (h : gok l) : gok (cutG l) := by
 induction l with
 | nil => exact h
 | cons x l ih =>
  obtain ⟨h1, h2⟩ := gok_cons.1 h
  rw [cutG]
  split
  · intro x hx; simp at hx
  · exact gok_cons.2 ⟨h1, ih h2⟩
theorem cutG_last (l : List Nat) : (cutG l).getLast? ≠ some 0 := by
 induction l with
 | nil => simp [cutG]
 | cons x l ih =>
  rw [cutG]
  split
  · simp
  · rename_i h
    by_cases he : cutG l = []
    · rw [he]
      simp
      intro e
      exact h ⟨he, e⟩
    · match hd : cutG l, he, ih with
      | y :: r, _, ih => simpa using ih
theorem cutG_snoc (l : List Nat) (x : Nat) : cutG (l ++ [x]) = if x = 0 then cutG l else l ++ [x] := by
 induction l with
 | nil => simp [cutG]
 | cons y l ih =>
  rw [List.cons_append, cutG, ih]
  by_cases h : x = 0
  · simp only [h, if_true]
    rw [cutG]
  · simp only [h, if_false]
    rw [if_neg (by simp)]
def rdG (t : Str) : List Nat := if h : t = [] then [] else natOf (t.drop (t.length - 9)) :: rdG (t.take (t.length - 9))
termination_by t.length
decreasing_by
 rw [List.length_take]
 have : 0 < t.length := List.length_pos_iff.2 h
 omega
theorem rdG_nil : rdG [] = [] := by rw [rdG]; simp
theorem rdG_pos {t : Str} (h : t ≠ []) : rdG t = natOf (t.drop (t.length - 9)) :: rdG (t.take (t.length - 9)) := by rw [rdG]; simp [h]
theorem natOf_lt {t : Str} (h : t.all isD = true) : natOf t < 10 ^ t.length := by
 induction t using snoc_ind with
 | h0 => simp [natOf]
 | h1 l b ih =>
  rw [List.all_append, Bool.and_eq_true] at h
  have hb := dv_lt (b := b) (by simpa using h.2)
  have := ih h.1
  rw [natOf_snoc, List.length_append, List.length_singleton, Nat.pow_succ]
  omega
theorem natOf_pos {t : Str} (h : t.all isD = true) (h0 : t.head? ≠ some 48) (hn : t ≠ []) : natOf t ≠ 0 := fun e => by
 have := dec_natOf h h0
 rw [e, dec_zero] at this
 exact hn this.symm
theorem rdG_grp {t : Str} (h : t.all isD = true) (h0 : t.head? ≠ some 48) : rdG t = grp (natOf t) := by
 obtain ⟨n, hn⟩ : ∃ n, n = t.length := ⟨_, rfl⟩
 induction n using Nat.strongRecOn generalizing t with
 | _ n ih =>
  by_cases he : t = []
  · subst he; rw [rdG_nil]; exact grp_zero.symm
  · have hpos : 0 < t.length := List.length_pos_iff.2 he
    have hne := natOf_pos h h0 he
    have hall : (t.take (t.length - 9)).all isD = true ∧ (t.drop (t.length - 9)).all isD = true := by
     rw [← Bool.and_eq_true, ← List.all_append, List.take_append_drop]; exact h
    have hhead : (t.take (t.length - 9)).head? ≠ some 48 := by
     match t, h0 with
     | x :: l, h0 =>
      cases hk : (x :: l).length - 9 with
      | zero => simp
      | succ k => simpa using h0
    have hsplit := natOf_append (t.take (t.length - 9)) (t.drop (t.length - 9))
    rw [List.take_append_drop] at hsplit
    have hdl : (t.drop (t.length - 9)).length = min 9 t.length := by rw [List.length_drop]; omega
    have hlt := natOf_lt hall.2
    rw [hdl] at hsplit hlt
    rw [rdG_pos he, ih (t.take (t.length - 9)).length (by rw [List.length_take]; omega) hall.1 hhead rfl, grp_pos hne]
    by_cases h9 : 9 ≤ t.length
    · rw [Nat.min_eq_left h9] at hsplit hlt
      have e1 : natOf t % 1000000000 = natOf (t.drop (t.length - 9)) := by omega
      have e2 : natOf t / 1000000000 = natOf (t.take (t.length - 9)) := by omega
      rw [e1, e2]
    · rw [Nat.min_eq_right (by omega)] at hsplit hlt
      have e0 : t.length - 9 = 0 := by omega
      have hle : 10 ^ t.length ≤ 10 ^ 9 := Nat.pow_le_pow_right (by omega) (by omega)
      simp only [e0, List.take_zero, List.drop_zero] at hsplit hlt ⊢
      have e3 : natOf ([] : Str) = 0 := rfl
      have e1 : natOf t % 1000000000 = natOf t := Nat.mod_eq_of_lt (by omega)
      have e2 : natOf t / 1000000000 = 0 := Nat.div_eq_of_lt (by omega)
      rw [e1, e2, e3]
def padk : Nat → Nat → Str
 | 0, _ => []
 | k + 1, b => padk k (b / 10) ++ [dig (b % 10)]
theorem padk_length (k b : Nat) : (padk k b).length = k := by
 induction k generalizing b with
 | zero => rfl
 | succ k ih => rw [padk, List.length_append, ih]; rfl
theorem dec_split {a : Nat} (ha : a ≠ 0) (k b : Nat) (hb : b < 10 ^ k) : dec (a * 10 ^ k + b) = dec a ++ padk k b := by
 induction k generalizing b with
 | zero => simp at hb; subst hb; simp [padk]
 | succ k ih =>
  rw [Nat.pow_succ] at hb
  have hp : 0 < 10 ^ k := Nat.pow_pos (by omega)
  have hap : 0 < a * 10 ^ k := Nat.mul_pos (by omega) hp
  have e0 : a * 10 ^ (k + 1) = 10 * (a * 10 ^ k) := by rw [Nat.pow_succ, ← Nat.mul_assoc]; omega
  have e1 : (10 * (a * 10 ^ k) + b) / 10 = a * 10 ^ k + b / 10 := by omega
  have e2 : (10 * (a * 10 ^ k) + b) % 10 = b % 10 := by omega
  rw [e0, dec_pos (by omega), e1, e2, ih (b / 10) (by omega), padk, List.append_assoc]
def fmt (n : Nat) : Str := if n = 0 then [48] else dec n
theorem fmt_pad {k n : Nat} (h : n < 10 ^ k) (hk : 0 < k) : List.replicate (k - (fmt n).length) 48 ++ fmt n = padk k n := by
 have key : ∀ (k n : Nat), n < 10 ^ k → (dec n).length ≤ k ∧ List.replicate (k - (dec n).length) 48 ++ dec n = padk k n := by
  intro k
  induction k with
  | zero => intro n h; simp at h; subst h; simp [dec_zero, padk]
  | succ k ih =>
   intro n h
   rw [Nat.pow_succ] at h
   obtain ⟨h1, h2⟩ := ih (n / 10) (by omega)
   by_cases hn : n = 0
   · subst hn
     rw [dec_zero] at h2 ⊢
     simp only [List.length_nil, Nat.sub_zero, List.append_nil] at h2 ⊢
     refine ⟨by omega, ?_⟩
     rw [padk, ← h2, show (0 : Nat) % 10 = 0 from rfl, List.replicate_succ']
     rfl
   · rw [dec_pos hn, padk, List.length_append, List.length_singleton]
     refine ⟨by omega, ?_⟩
     rw [← h2, show k + 1 - ((dec (n / 10)).length + 1) = k - (dec (n / 10)).length by omega, List.append_assoc]
 by_cases hn : n = 0
 · subst hn
   have := (key k 0 h).2
   rw [dec_zero] at this
   simp only [List.length_nil, Nat.sub_zero, List.append_nil] at this
   rw [fmt, if_pos rfl, ← this]
   obtain ⟨j, rfl⟩ : ∃ j, k = j + 1 := ⟨k - 1, by omega⟩
   rw [List.replicate_succ']
   simp
 · rw [fmt, if_neg hn]; exact (key k n h).2
theorem fmt_len {k n : Nat} (h : n < 10 ^ k) (hk : 0 < k) : (fmt n).length ≤ k := by
 have := congrArg List.length (fmt_pad h hk)
 rw [List.length_append, List.length_replicate, padk_length] at this
 omega
def pads : List Nat → Str
 | [] => []
 | x :: l => pads l ++ padk 9 x
theorem pads_length (l : List Nat) : (pads l).length = 9 * l.length := by
 induction l with
 | nil => rfl
 | cons x l ih => rw [pads, List.length_append, ih, padk_length, List.length_cons]; omega
theorem dec_groups {l : List Nat} {x : Nat} (h : gok l) (hx : x ≠ 0) : dec (gval (l ++ [x])) = dec x ++ pads l := by
 induction l with
 | nil => simp [gval, pads]
 | cons y l ih =>
  obtain ⟨h1, h2⟩ := gok_cons.1 h
  have hne : gval (l ++ [x]) ≠ 0 := by
   rw [gval_append]
   have : 0 < 1000000000 ^ l.length := Nat.pow_pos (by omega)
   simp only [gval, Nat.mul_zero, Nat.add_zero]
   have : 0 < 1000000000 ^ l.length * x := Nat.mul_pos this (by omega)
   omega
  rw [List.cons_append, gval, Nat.add_comm, Nat.mul_comm, show (1000000000 : Nat) = 10 ^ 9 from rfl, dec_split hne 9 y h1, ih h2, pads, List.append_assoc]
open Go.RowKit Px
def getS (k : Str) : List (Str × Str) → Str
 | [] => []
 | (k', v) :: l => if k' = k then v else getS k l
def setS (k v : Str) : List (Str × Str) → List (Str × Str)
 | [] => [(k, v)]
 | (k', v') :: l => if k' = k then (k, v) :: l else (k', v') :: setS k v l
def mapD (l : List (Str × Str)) : List (Str × DV) := l.map fun p => (p.1, dS p.2)
theorem mget_D (k : Str) (l : List (Str × Str)) : mget (dS []) k (mapD l) = dS (getS k l) := by
 induction l with
 | nil => rfl
 | cons p l ih =>
  show (if p.1 = k then dS p.2 else mget (dS []) k (mapD l)) = dS (if p.1 = k then p.2 else getS k l)
  split
  · rfl
  · exact ih
theorem mset_D (k v : Str) (l : List (Str × Str)) : mset k (dS v) (mapD l) = mapD (setS k v l) := by
 induction l with
 | nil => rfl
 | cons p l ih =>
  show (if p.1 = k then (k, dS v) :: mapD l else (p.1, dS p.2) :: mset k (dS v) (mapD l)) = mapD (if p.1 = k then (k, v) :: l else (p.1, p.2) :: setS k v l)
  split
  · rfl
  · rw [ih]; rfl
theorem getS_set (k v j : Str) (l : List (Str × Str)) : getS j (setS k v l) = if j = k then v else getS j l := by
 induction l with
 | nil =>
  show (if k = j then v else []) = if j = k then v else []
  by_cases h : j = k
  · rw [if_pos h, if_pos h.symm]
  · rw [if_neg h, if_neg (fun e => h e.symm)]
 | cons p l ih =>
  show getS j (if p.1 = k then (k, v) :: l else (p.1, p.2) :: setS k v l) = if j = k then v else (if p.1 = j then p.2 else getS j l)
  by_cases hp : p.1 = k
  · rw [if_pos hp]
    show (if k = j then v else getS j l) = _
    by_cases h : j = k
    · rw [if_pos h, if_pos h.symm]
    · rw [if_neg h, if_neg (fun e => h e.symm), if_neg (fun e => h (e.symm.trans hp))]
  · rw [if_neg hp]
    show (if p.1 = j then p.2 else getS j (setS k v l)) = _
    by_cases hj : p.1 = j
    · rw [if_pos hj, if_pos hj, if_neg (fun e => hp (hj.trans e))]
    · rw [if_neg hj, if_neg hj, ih]
abbrev addI (a b : Str) : Str := canon (val a + val b)
theorem dec_le {n k : Nat} (h : n < 10 ^ k) : (dec n).length ≤ k := by
 by_cases h0 : n = 0
 · rw [h0, dec_zero]; simp
 · rw [← decDigits_dec h0]
   refine decDigits_small n k h ?_
   rcases Nat.eq_zero_or_pos k with rfl | hk
   · simp at h; omega
   · exact hk
theorem canon_le {z : Int} {k : Nat} (h : z.natAbs < 10 ^ k) : (canon z).length ≤ k + 1 := by
 have := dec_le h
 unfold canon
 split <;> simp <;> omega
theorem val_lt {a : Str} {k : Nat} (h : a.length ≤ k) : (val a).natAbs < 10 ^ k := by
 rw [← natOf_dgs]
 have h1 := natOf_lt (dgs_all a)
 have hb : (bod a).length ≤ a.length := by unfold bod; split <;> simp
 have h2 : (dgs a).1.length ≤ a.length := by
  unfold dgs
  split
  · exact Nat.le_trans (List.dropWhile_suffix _).length_le hb
  · simp
 exact Nat.lt_of_lt_of_le h1 (Nat.pow_le_pow_right (by decide) (Nat.le_trans h2 h))
theorem addI_len {a b : Str} {k : Nat} (ha : a.length ≤ k) (hb : b.length ≤ k) : (addI a b).length ≤ k + 2 := by
 have h1 := val_lt ha
 have h2 := val_lt hb
 refine canon_le (k := k + 1) ?_
 rw [Nat.pow_succ]
 omega
theorem getS_setS_len {k v : Str} {l : List (Str × Str)} {n : Nat} (hv : v.length ≤ n) (hl : ∀ j, (getS j l).length ≤ n) (j : Str) : (getS j (setS k v l)).length ≤ n := by
 rw [getS_set]
 split
 · exact hv
 · exact hl j
open Go.RowKit Px Go.Sort Go.Lib
theorem ltS_dec (a b : Str) : ltS a b = decide (a < b) := bytesLess_eq a b
theorem leS_dec (a b : Str) : decide (a ≤ b) = !ltS b a := by
 rw [ltS_dec, Bool.eq_iff_iff]
 simp
abbrev mSort (ss : List Str) : List Str := ss.mergeSort fun x y => decide (x ≤ y)
theorem mSort_up (ss : List Str) : (mSort ss).Pairwise fun x y => ltS y x = false := by
 have h := List.pairwise_mergeSort (le := fun x y : Str => decide (x ≤ y)) (fun a b c h1 h2 => by
  rw [leS_dec, Bool.not_eq_true'] at h1 h2 ⊢
  rcases ltS_total a b with e | e | e
  · rcases ltS_total b c with e2 | e2 | e2
    · exact ltS_asymm (ltS_trans e e2)
    · subst e2; exact ltS_asymm e
    · rw [h2] at e2; cases e2
  · subst e; exact h2
  · rw [h1] at e; cases e) (fun a b => by
  rw [leS_dec, leS_dec]
  rcases ltS_total a b with e | e | e
  · rw [ltS_asymm e]; rfl
  · subst e; rw [ltS_irrefl]; rfl
  · rw [ltS_asymm e]; simp) ss
 refine h.imp fun h => ?_
 rw [leS_dec] at h
 simpa using h
abbrev Cf := Str × Str
def evA (A : Str → Int) : List Cf → Int
 | [] => 0
 | c :: e => val c.2 * A c.1 + evA A e
theorem evA_append (A : Str → Int) (a b : List Cf) : evA A (a ++ b) = evA A a + evA A b := by
 induction a with
 | nil => simp [evA]
 | cons c a ih => simp only [List.cons_append, evA, ih]; omega
def one (k j : Str) : Int := if j = k then 1 else 0
abbrev cf (k : Str) (e : List Cf) : Int := evA (one k) e
def sumM (e : List Cf) : Nat → List (Str × Str)
 | 0 => []
 | i + 1 => match e[i]? with
  | none => sumM e i
  | some c => setS c.1 (addI (getS c.1 (sumM e i)) c.2) (sumM e i)
theorem val_nil : val [] = 0 := by rw [← canon_zero, val_canon]
theorem evA_setS (A : Str → Int) (k v : Str) (M : List (Str × Str)) : evA A (setS k v M) = evA A M - val (getS k M) * A k + val v * A k := by
 induction M with
 | nil => simp [setS, evA, getS, val_nil]
 | cons p M ih =>
  show evA A (if p.1 = k then (k, v) :: M else (p.1, p.2) :: setS k v M) = evA A (p :: M) - val (if p.1 = k then p.2 else getS k M) * A k + val v * A k
  by_cases h : p.1 = k
  · rw [if_pos h, if_pos h]
    simp only [evA]
    rw [h]
    omega
  · rw [if_neg h, if_neg h]
    simp only [evA, ih]
    omega
theorem evA_sumM (A : Str → Int) (e : List Cf) (i : Nat) : evA A (sumM e i) = evA A (e.take i) := by
 induction i with
 | zero => rfl
 | succ i ih =>
  rw [sumM]
  cases h : e[i]? with
  | none =>
   rw [List.getElem?_eq_none_iff] at h
   simp only [ih, List.take_of_length_le h, List.take_of_length_le (Nat.le_succ_of_le h)]
  | some c =>
   simp only
   rw [evA_setS, val_canon, ih, List.take_add_one, h, Option.toList, evA_append, Int.add_mul]
   simp only [evA]
   omega
theorem keys_setS (k v : Str) (M : List (Str × Str)) : (setS k v M).map (·.1) = if k ∈ M.map (·.1) then M.map (·.1) else M.map (·.1) ++ [k] := by
 induction M with
 | nil => simp [setS]
 | cons p M ih =>
  show (if p.1 = k then (k, v) :: M else (p.1, p.2) :: setS k v M).map (·.1) = _
  by_cases h : p.1 = k
  · rw [if_pos h, if_pos (by simp [h])]
    simp [h]
  · rw [if_neg h, List.map_cons, ih]
    by_cases h2 : k ∈ M.map (·.1)
    · rw [if_pos h2, if_pos (by simp only [List.map_cons, List.mem_cons]; exact .inr h2)]
      rfl
    · rw [if_neg h2, if_neg (by simp only [List.map_cons, List.mem_cons, not_or]; exact ⟨fun e => h e.symm, h2⟩)]
      rfl
theorem keys_nodup (e : List Cf) (i : Nat) : ((sumM e i).map (·.1)).Nodup := by
 induction i with
 | zero => exact List.nodup_nil
 | succ i ih =>
  rw [sumM]
  cases h : e[i]? with
  | none => exact ih
  | some c =>
   simp only
   rw [keys_setS]
   split
   · exact ih
   · rename_i h2
     rw [List.nodup_append]
     exact ⟨ih, by simp, fun a ha b hb => by
      rw [List.mem_singleton.1 hb]
      rintro rfl
      exact h2 ha⟩
theorem keys_len (e : List Cf) (i : Nat) : (sumM e i).length ≤ i := by
 induction i with
 | zero => exact Nat.le_refl _
 | succ i ih =>
  rw [sumM]
  cases h : e[i]? with
  | none => exact Nat.le_succ_of_le ih
  | some c =>
   simp only
   have := congrArg List.length (keys_setS c.1 (addI (getS c.1 (sumM e i)) c.2) (sumM e i))
   rw [List.length_map] at this
   split at this
   · rw [List.length_map] at this; omega
   · rw [List.length_append, List.length_map] at this; simp at this; omega
theorem keys_mem (e : List Cf) (i : Nat) (k : Str) (hk : k ∈ (sumM e i).map (·.1)) : ∃ c ∈ e, c.1 = k := by
 induction i with
 | zero => cases hk
 | succ i ih =>
  rw [sumM] at hk
  cases h : e[i]? with
  | none => rw [h] at hk; exact ih hk
  | some c =>
   rw [h] at hk
   simp only at hk
   rw [keys_setS] at hk
   split at hk
   · exact ih hk
   · rcases List.mem_append.1 hk with hk | hk
     · exact ih hk
     · exact ⟨c, List.mem_of_getElem? h, (List.mem_singleton.1 hk).symm⟩
theorem cf_notin {k : Str} {M : List (Str × Str)} (h : k ∉ M.map (·.1)) : cf k M = 0 := by
 induction M with
 | nil => rfl
 | cons p M ih =>
  simp only [List.map_cons, List.mem_cons, not_or] at h
  show val p.2 * (if p.1 = k then 1 else 0) + cf k M = 0
  rw [if_neg (fun e => h.1 e.symm), ih h.2]
  omega
theorem cf_get {k : Str} {M : List (Str × Str)} (h : (M.map (·.1)).Nodup) : cf k M = val (getS k M) := by
 induction M with
 | nil => rw [getS, val_nil]; rfl
 | cons p M ih =>
  rw [List.map_cons, List.nodup_cons] at h
  show val p.2 * (if p.1 = k then 1 else 0) + cf k M = val (if p.1 = k then p.2 else getS k M)
  by_cases e : p.1 = k
  · rw [if_pos e, if_pos e, cf_notin (e ▸ h.1)]
    omega
  · rw [if_neg e, if_neg e, ih h.2]
    omega
theorem get_mem {M : List (Str × Str)} (h : (M.map (·.1)).Nodup) {p : Str × Str} (hp : p ∈ M) : getS p.1 M = p.2 := by
 induction M with
 | nil => cases hp
 | cons q M ih =>
  rw [List.map_cons, List.nodup_cons] at h
  show (if q.1 = p.1 then q.2 else getS p.1 M) = p.2
  rcases List.mem_cons.1 hp with rfl | hp
  · rw [if_pos rfl]
  · have hin : p.1 ∈ M.map (·.1) := List.mem_map_of_mem hp
    rw [if_neg fun e => h.1 (by rw [e]; exact hin), ih h.2 hp]
theorem get_notin {k : Str} {M : List (Str × Str)} (h : k ∉ M.map (·.1)) : getS k M = [] := by
 induction M with
 | nil => rfl
 | cons p M ih =>
  simp only [List.map_cons, List.mem_cons, not_or] at h
  show (if p.1 = k then p.2 else getS k M) = []
  rw [if_neg (fun e => h.1 e.symm), ih h.2]
theorem sumM_can (e : List Cf) (i : Nat) (k : Str) : ∃ z, getS k (sumM e i) = canon z := by
 induction i with
 | zero => exact ⟨0, by rw [canon_zero]; rfl⟩
 | succ i ih =>
  rw [sumM]
  cases h : e[i]? with
  | none => exact ih
  | some c =>
   simp only
   rw [getS_set]
   split
   · exact ⟨_, rfl⟩
   · exact ih
theorem sumM_get (e : List Cf) (k : Str) : getS k (sumM e e.length) = canon (cf k e) := by
 obtain ⟨z, hz⟩ := sumM_can e e.length k
 have h1 := cf_get (k := k) (keys_nodup e e.length)
 rw [hz, val_canon] at h1
 rw [hz, ← h1, cf, evA_sumM, List.take_length]
def keep (M : List (Str × Str)) (k : Str) : Option Cf := if getS k M = [] then none else some (k, getS k M)
def nf (e : List Cf) : List Cf := (mSort ((sumM e e.length).map (·.1))).filterMap (keep (sumM e e.length))
theorem nf_len (e : List Cf) : (nf e).length ≤ e.length := by
 refine Nat.le_trans (List.length_filterMap_le _ _) ?_
 rw [List.length_mergeSort, List.length_map]
 exact keys_len e _
theorem cf_mem {k : Str} {e : List Cf} (h : cf k e ≠ 0) : ∃ c ∈ e, c.1 = k := by
 refine Decidable.byContradiction fun h1 => h ?_
 refine cf_notin fun h2 => h1 ?_
 obtain ⟨c, hc, e⟩ := List.mem_map.1 h2
 exact ⟨c, hc, e⟩
abbrev Ln := RLn (List Cf)
def ngC (c : Cf) : Cf := (c.1, canon (- val c.2))
def lnC (l : Ln) : List Cf := if l.2.1 then l.2.2.map ngC else l.2.2
def lnsC (ls : List Ln) : List Cf := ls.flatMap lnC
abbrev rS (A : Str → Int) (ls : List Ln) : Int := evA A (lnsC ls)
def rNm (ls : List Ln) : List Str := ls.flatMap fun l => l.2.2.map (·.1)
theorem lnC_names (l : Ln) : (lnC l).map (·.1) = l.2.2.map (·.1) := by
 unfold lnC
 split
 · rw [List.map_map]; rfl
 · rfl
theorem rNm_eq (ls : List Ln) : (lnsC ls).map (·.1) = rNm ls := by
 unfold lnsC rNm
 induction ls with
 | nil => rfl
 | cons l ls ih => simp only [List.flatMap_cons, List.map_append, ih, lnC_names]
theorem rS_notin {k : Str} {ls : List Ln} (h : k ∉ rNm ls) : rS (one k) ls = 0 := by
 rcases Decidable.em (rS (one k) ls = 0) with h1 | h1
 · exact h1
 · obtain ⟨c, h2, h3⟩ := cf_mem (e := lnsC ls) h1
   exact absurd (by rw [← rNm_eq]; exact List.mem_map.2 ⟨c, h2, h3⟩) h
def balB (ls : List Ln) : Bool := (rNm ls).all fun k => decide (rS (one k) ls = 0)
theorem balB_iff {ls : List Ln} : balB ls = true ↔ ∀ k, rS (one k) ls = 0 := by
 rw [balB, List.all_eq_true]
 refine ⟨fun h k => ?_, fun h k _ => decide_eq_true (h k)⟩
 rcases Decidable.em (k ∈ rNm ls) with h1 | h1
 · exact of_decide_eq_true (h k h1)
 · exact rS_notin h1
theorem bal_sums (ls : List Ln) : ((sumM (lnsC ls) (lnsC ls).length).all fun p => p.2 == []) = balB ls := by
 rw [Bool.eq_iff_iff, balB_iff, List.all_eq_true]
 have hnd := keys_nodup (lnsC ls) (lnsC ls).length
 have hz : ∀ z : Int, canon z = [] ↔ z = 0 := fun z => ⟨fun h => by have := congrArg val h; rwa [val_canon, val_nil] at this, fun h => by rw [h]; exact canon_zero⟩
 constructor
 · intro h k
   rcases Decidable.em (k ∈ (sumM (lnsC ls) (lnsC ls).length).map (·.1)) with h1 | h1
   · obtain ⟨p, hp, rfl⟩ := List.mem_map.1 h1
     have h2 := h p hp
     have h3 := get_mem hnd hp
     rw [sumM_get] at h3
     exact (hz _).1 (h3.trans (by simpa using h2))
   · have h3 := get_notin h1
     rw [sumM_get] at h3
     exact (hz _).1 h3
 · intro h p hp
   have h3 := get_mem hnd hp
   rw [sumM_get] at h3
   rw [← h3, (hz _).2 (h p.1)]
   rfl
def fmdB (p : Str → Bool) (s : Str) : Bool := decide ((spl 46 s).length ≤ 6) && (spl 46 s).all p
def sgnB (s : Str) : Bool := s == [42] || s == [43]
def tmpB (nb : Str → Bool) (s : Str) : Bool := fmdB (fun x => sgnB x || nb x) s
abbrev Ac := Str × Int
def undB (code parent : Str) : Bool := parent.isPrefixOf code && (match code.drop parent.length with | [] => true | b :: _ => b == 46)
def stA (code : Str) (b : Ac × Bool) (a : Ac) : Ac × Bool := if undB code a.1 && (!b.2 || decide (b.1.1.length < a.1.length)) then (a, true) else b
def fndA (code : Str) (l : List Ac) : Ac × Bool := l.foldl (stA code) (([], 0), false)
theorem fndA_is (code : Str) (l : List Ac) : (fndA code l).2 = l.any fun a => undB code a.1 := by
 unfold fndA
 have : ∀ (l : List Ac) (b : Ac × Bool), (l.foldl (stA code) b).2 = (b.2 || l.any fun a => undB code a.1) := by
  intro l
  induction l with
  | nil => intro b; simp
  | cons a l ih =>
   intro b
   rw [List.foldl_cons, ih, List.any_cons]
   unfold stA
   cases hu : undB code a.1 with
   | false => simp
   | true =>
    cases hb : b.2 with
    | false => simp
    | true => simp only [Bool.true_and, Bool.not_true, Bool.false_or]; split <;> simp [hb]
 rw [this]; simp
theorem fndA_mono {code : Str} {a b : List Ac} (h : ∀ x ∈ a, x ∈ b) (hf : (fndA code a).2 = true) : (fndA code b).2 = true := by
 rw [fndA_is] at hf ⊢
 obtain ⟨x, h1, h2⟩ := List.any_eq_true.1 hf
 exact List.any_eq_true.2 ⟨x, h x h1, h2⟩
section
variable (tp : Str → Bool) (ce : List Cf → Int) (nm : List Cf → List Cf)
abbrev Ru := Rul (List Cf)
def lnsE : List Ln → Int
 | [] => 0
 | l :: ls => if tp l.1 then (if ce l.2.2 = 0 then lnsE ls else ce l.2.2) else 3
def rE (r : Ru) : Int := match kndF r.1 with
 | none => 7
 | some _ => if 64 < r.2.length then 4 else lnsE tp ce r.2
theorem lnsE_zero {ls : List Ln} : lnsE tp ce ls = 0 ↔ ∀ l ∈ ls, tp l.1 = true ∧ ce l.2.2 = 0 := by
 induction ls with
 | nil => simp [lnsE]
 | cons l ls ih =>
  rw [lnsE]
  cases h : tp l.1 with
  | false => simp [h]
  | true =>
   rw [if_pos rfl]
   by_cases h2 : ce l.2.2 = 0
   · rw [if_pos h2, ih]; simp [h, h2]
   · rw [if_neg h2]; simp [h2]
theorem rE_zero {r : Ru} : rE tp ce r = 0 ↔ (∃ k, kndF r.1 = some k) ∧ r.2.length ≤ 64 ∧ ∀ l ∈ r.2, tp l.1 = true ∧ ce l.2.2 = 0 := by
 unfold rE
 cases h : kndF r.1 with
 | none => simp
 | some k =>
  simp only
  by_cases h2 : 64 < r.2.length
  · rw [if_pos h2]
    refine ⟨fun h => by simp at h, fun h => ?_⟩
    omega
  · rw [if_neg h2, lnsE_zero]
    exact ⟨fun h => ⟨⟨k, rfl⟩, by omega, h⟩, fun h => h.2.2⟩
def luE (k : Knd) (ch : List Ac) (x : Ln) : Int :=
 if ((spl 46 x.1).any fun s => (s == [42] && !k.2.2.2.contains 42) || (s == [43] && !k.2.2.2.contains 43)) = true then 9
 else if ((nm x.2.2).any fun c => !k.2.2.1.contains c.1) = true then 6
 else if (fndA x.1 ch).2 then 0 else 6
def lusE (k : Knd) (ch : List Ac) : List Ln → Int
 | [] => 0
 | x :: l => if luE nm k ch x = 0 then lusE k ch l else luE nm k ch x
theorem lusE_zero {k : Knd} {ch : List Ac} {ls : List Ln} : lusE nm k ch ls = 0 ↔ ∀ x ∈ ls, luE nm k ch x = 0 := by
 induction ls with
 | nil => simp [lusE]
 | cons x ls ih =>
  rw [lusE]
  by_cases h : luE nm k ch x = 0
  · rw [if_pos h, ih]; simp [h]
  · rw [if_neg h]; simp [h]
theorem luE_zero {k : Knd} {ch : List Ac} {x : Ln} : luE nm k ch x = 0 ↔ (((spl 46 x.1).any fun s => (s == [42] && !k.2.2.2.contains 42) || (s == [43] && !k.2.2.2.contains 43)) = false ∧ (∀ c ∈ nm x.2.2, k.2.2.1.contains c.1 = true)) ∧ (fndA x.1 ch).2 = true := by
 unfold luE
 cases h1 : (spl 46 x.1).any fun s => (s == [42] && !k.2.2.2.contains 42) || (s == [43] && !k.2.2.2.contains 43) with
 | true => simp
 | false =>
  rw [if_neg (by simp)]
  cases h2 : (nm x.2.2).any fun c => !k.2.2.1.contains c.1 with
  | true =>
   rw [if_pos rfl]
   obtain ⟨c, h3, h4⟩ := List.any_eq_true.1 h2
   refine ⟨fun h => by simp at h, fun h => ?_⟩
   rw [h.1.2 c h3] at h4
   cases h4
  | false =>
   rw [if_neg (by simp)]
   have h3 : ∀ c ∈ nm x.2.2, k.2.2.1.contains c.1 = true := fun c hc => by
    have := List.any_eq_false.1 h2 c hc
    simpa using this
   cases h4 : (fndA x.1 ch).2 with
   | true => simpa using h3
   | false => simp
def useI (ch : List Ac) : Nat → List Ru → List Ru → Int × Int
 | _, _, [] => (0, 0)
 | i, pre, r :: l =>
  if rE tp ce r ≠ 0 then (i, rE tp ce r)
  else if (pre.any fun x => x.1 == r.1) = true then (i, 5)
  else match kndF r.1 with
   | none => (0, 0)
   | some k => if lusE nm k ch r.2 ≠ 0 then (i, lusE nm k ch r.2) else if balB r.2 then useI ch (i + 1) (pre ++ [r]) l else (i, 14)
def UseOk (ch : List Ac) (r : Ru) : Prop := rE tp ce r = 0 ∧ (∀ k, kndF r.1 = some k → ∀ x ∈ r.2, luE nm k ch x = 0) ∧ balB r.2 = true
theorem useI_zero {ch : List Ac} : ∀ (l : List Ru) (i : Nat) (pre : List Ru), (useI tp ce nm ch i pre l).2 = 0 ↔ (∀ r ∈ l, UseOk tp ce nm ch r) ∧ (∀ r ∈ l, ∀ x ∈ pre, x.1 ≠ r.1) ∧ l.Pairwise fun a b => a.1 ≠ b.1
 | [], i, pre => by simp [useI]
 | r :: l, i, pre => by
  rw [useI]
  by_cases h1 : rE tp ce r = 0
  · rw [if_neg (by simpa using h1)]
    obtain ⟨⟨k, hk⟩, -, -⟩ := (rE_zero tp ce).1 h1
    cases h2 : pre.any fun x => x.1 == r.1 with
    | true =>
     rw [if_pos rfl]
     obtain ⟨x, h3, h4⟩ := List.any_eq_true.1 h2
     refine ⟨fun h => by simp at h, fun h => ?_⟩
     exact absurd (by simpa using h4) (h.2.1 r (by simp) x h3)
    | false =>
     rw [if_neg (by simp), hk]
     simp only
     have h3 : ∀ x ∈ pre, x.1 ≠ r.1 := fun x hx => by
      have := List.any_eq_false.1 h2 x hx
      simpa using this
     by_cases h4 : lusE nm k ch r.2 = 0
     · rw [if_neg (by simpa using h4)]
       cases h5 : balB r.2 with
       | true =>
        rw [if_pos rfl, useI_zero l (i + 1) (pre ++ [r])]
        have hu : UseOk tp ce nm ch r := ⟨h1, fun k' hk' x hx => by rw [hk] at hk'; cases hk'; exact (lusE_zero nm).1 h4 x hx, h5⟩
        constructor
        · rintro ⟨g1, g2, g3⟩
          refine ⟨fun r' hr' => ?_, fun r' hr' x hx => ?_, List.pairwise_cons.2 ⟨fun r' hr' => ?_, g3⟩⟩
          · rcases List.mem_cons.1 hr' with rfl | hr'
            · exact hu
            · exact g1 r' hr'
          · rcases List.mem_cons.1 hr' with rfl | hr'
            · exact h3 x hx
            · exact g2 r' hr' x (by simp [hx])
          · exact g2 r' hr' r (by simp)
        · rintro ⟨g1, g2, g3⟩
          obtain ⟨g4, g5⟩ := List.pairwise_cons.1 g3
          refine ⟨fun r' hr' => g1 r' (by simp [hr']), fun r' hr' x hx => ?_, g5⟩
          rcases List.mem_append.1 hx with hx | hx
          · exact g2 r' (by simp [hr']) x hx
          · have : x = r := by simpa using hx
            subst this
            exact g4 r' hr'
       | false =>
        rw [if_neg (by simp)]
        refine ⟨fun h => by simp at h, fun h => ?_⟩
        have := (h.1 r (by simp)).2.2
        rw [h5] at this
        cases this
     · rw [if_pos h4]
       refine ⟨fun h => absurd h h4, fun h => absurd ((lusE_zero nm).2 ((h.1 r (by simp)).2.1 k hk)) h4⟩
  · rw [if_pos h1]
    exact ⟨fun h => absurd h h1, fun h => absurd (h.1 r (by simp)).1 h1⟩
theorem useI_num {ch : List Ac} : ∀ (l : List Ru) (i : Nat) (pre : List Ru), ((useI tp ce nm ch i pre l).2 = 0 → (useI tp ce nm ch i pre l).1 = 0) ∧ ((useI tp ce nm ch i pre l).2 ≠ 0 → (i : Int) ≤ (useI tp ce nm ch i pre l).1 ∧ (useI tp ce nm ch i pre l).1 < i + l.length)
 | [], i, pre => by simp [useI]
 | r :: l, i, pre => by
  rw [useI]
  have ih := useI_num (ch := ch) l (i + 1) (pre ++ [r])
  split
  · rename_i h; exact ⟨fun h2 => absurd h2 h, fun _ => by simp; omega⟩
  · split
    · exact ⟨fun h2 => by simp at h2, fun _ => by simp; omega⟩
    · split
      · exact ⟨fun _ => rfl, fun h => absurd rfl h⟩
      · split
        · rename_i h; exact ⟨fun h2 => absurd h2 h, fun _ => by simp; omega⟩
        · split
          · refine ⟨ih.1, fun h => ?_⟩
            obtain ⟨h1, h2⟩ := ih.2 h
            simp only [List.length_cons]
            omega
          · exact ⟨fun h2 => by simp at h2, fun _ => by simp; omega⟩
theorem use_more {a b : List Ac} (h : ∀ x ∈ a, x ∈ b) {l : List Ru} (hu : (useI tp ce nm a 0 [] l).2 = 0) : (useI tp ce nm b 0 [] l).2 = 0 := by
 rw [useI_zero] at hu ⊢
 refine ⟨fun r hr => ?_, hu.2⟩
 obtain ⟨h1, h2, h3⟩ := hu.1 r hr
 refine ⟨h1, fun k hk x hx => ?_, h3⟩
 have := h2 k hk x hx
 rw [luE_zero] at this ⊢
 exact ⟨this.1, fndA_mono h this.2⟩
def fndR (l : List Ru) (n : Int) : Option Ru := l.find? fun r => r.1 == n
theorem fndR_self {l : List Ru} (h : l.Pairwise fun a b => a.1 ≠ b.1) {r : Ru} (hr : r ∈ l) : fndR l r.1 = some r := by
 unfold fndR
 induction l with
 | nil => simp at hr
 | cons x l ih =>
  obtain ⟨h1, h2⟩ := List.pairwise_cons.1 h
  rcases List.mem_cons.1 hr with rfl | hr
  · simp
  · rw [List.find?_cons_of_neg (by simpa using h1 r hr)]
    exact ih h2 hr
end
section
variable (tp : Str → Bool) (ce : List Cf → Int) (nm : List Cf → List Cf) (pe : Str → Option (List Cf)) (pr : List Cf → Str)
variable {tp ce nm pe pr}
theorem use_find {ch : List Ac} {l : List Ru} (h : (useI tp ce nm ch 0 [] l).2 = 0) {r : Ru} (hr : r ∈ l) : fndR l r.1 = some r ∧ UseOk tp ce nm ch r := by
 rw [useI_zero] at h
 exact ⟨fndR_self h.2.2 hr, h.1 r hr⟩
end
theorem knd_nums : kndL.map (·.1) = (List.range 19).map fun n : Nat => ((n + 1 : Nat) : Int) := by decide
theorem kndF_is (n : Int) : (kndF n).isSome = (decide (1 ≤ n) && decide (n ≤ 19)) := by
 rw [Bool.eq_iff_iff, Bool.and_eq_true, decide_eq_true_iff, decide_eq_true_iff]
 constructor
 · intro h
   obtain ⟨k, hk⟩ := Option.isSome_iff_exists.1 h
   obtain ⟨h1, rfl⟩ := kndF_some hk
   have : k.1 ∈ kndL.map (·.1) := List.mem_map.2 ⟨k, h1, rfl⟩
   rw [knd_nums, List.mem_map] at this
   obtain ⟨m, h2, h3⟩ := this
   have := List.mem_range.1 h2
   omega
 · rintro ⟨h1, h2⟩
   have : n ∈ kndL.map (·.1) := by
    rw [knd_nums, List.mem_map]
    exact ⟨(n - 1).toNat, List.mem_range.2 (by omega), by omega⟩
   obtain ⟨k, h3, rfl⟩ := List.mem_map.1 this
   rw [kndF_mem h3]; rfl
theorem pre_take (p s : Str) : p.isPrefixOf s = (decide (p.length ≤ s.length) && (s.take p.length == p)) := by
 rw [Bool.eq_iff_iff, List.isPrefixOf_iff_prefix, List.prefix_iff_eq_take]
 constructor
 · intro h
   have h1 : p.length ≤ s.length := by have := congrArg List.length h; rw [List.length_take] at this; omega
   rw [Bool.and_eq_true]
   exact ⟨decide_eq_true h1, beq_iff_eq.2 h.symm⟩
 · intro h
   rw [Bool.and_eq_true] at h
   exact (beq_iff_eq.1 h.2).symm
theorem wHasPre (s p : Str) : PCalls Tryz.prog 211 [dS s, dS p] (.d (dB (p.isPrefixOf s))) := by
 rw [pre_take]
 by_cases h : p.length ≤ s.length
 · have t1 : decide ((s.length : Int) ≥ (p.length : Int)) = true := decide_eq_true (by omega)
   have h1 : s.take ((p.length : Int)).toNat = s.take p.length := by rw [Int.toNat_natCast]
   have h2 : (p.length : Int) ≤ s.length := by omega
   rw [decide_eq_true h, Bool.true_and]
   obtain ⟨t, ht⟩ : ∃ t, t = s.take p.length := ⟨_, rfl⟩
   rw [← ht] at h1 ⊢
   clear ht
   refine pcalls_of_pw Tryz.func211 rfl Tryz.ntmps211 Tryz.results211 (by simp) fun B w0 => ?_
   refine pzr (yAd rfl (yQ (pzr (yMd rfl (yNs rfl (yMd rfl (yNs rfl (yB rfl rfl rfl rfl (yMd rfl ?_))))))))); rw [t1]; refine yMd rfl (yMd rfl (yNs rfl (yS0h (by omega) h2 h1 rfl rfl (yMd rfl (yBse rfl rfl (yPd rfl rfl (yAd rfl (yQ (pw_ret ?_)))))))))
   exact q_ret _ (.tmp rfl .nil) rfl
 · have t1 : decide ((s.length : Int) ≥ (p.length : Int)) = false := decide_eq_false (by omega)
   rw [decide_eq_false h, Bool.false_and]
   refine pcalls_of_pw Tryz.func211 rfl Tryz.ntmps211 Tryz.results211 (by simp) fun B w0 => ?_
   refine pzr (yAd rfl (yQ (pzr (yMd rfl (yNs rfl (yMd rfl (yNs rfl (yB rfl rfl rfl rfl (yMd rfl ?_))))))))); rw [t1]; refine yO rfl (yO rfl (yO rfl (yO rfl (yO rfl (yO rfl (yVd rfl rfl (yAd rfl (yQ (pw_ret ?_)))))))))
   exact q_ret _ (.tmp rfl .nil) rfl
theorem pre_len {p s : Str} (h : p.isPrefixOf s = true) : p.length ≤ s.length := by
 rw [pre_take, Bool.and_eq_true] at h
 exact of_decide_eq_true h.1
theorem wCutPreI (s p : Str) : PCalls Tryz.prog 164 [dS s, dS p] (.tup [dS (if p.isPrefixOf s then s.drop p.length else s), dB (p.isPrefixOf s)]) := by
 have c1 := wHasPre s p
 cases h : p.isPrefixOf s with
 | true =>
  rw [h] at c1
  have h2 : (p.length : Int) ≤ s.length := by have := pre_len h; omega
  have h1 : s.drop ((p.length : Int)).toNat = s.drop p.length := by rw [Int.toNat_natCast]
  rw [if_pos rfl]
  obtain ⟨t, ht⟩ : ∃ t, t = s.drop p.length := ⟨_, rfl⟩
  rw [← ht] at h1 ⊢
  clear ht
  refine pcalls_of_pw Tryz.func164 rfl Tryz.ntmps164 Tryz.results164 (by simp) fun B w0 => ?_
  refine pzr (yAd rfl (yAd rfl (yQ (pw_seq (pzr (yMd rfl (yMd rfl (yC (c1) rfl rfl (yU rfl rfl rfl ?_))))))))); refine yQ (pw_cf rfl (pw_skip (pzr (yMd rfl (yMd rfl (yNs rfl (ySl0 (by omega) h2 h1 rfl rfl (yAd rfl (yAd rfl ?_))))))))); refine yQ (pw_ret ?_)
  exact q_ret _ (.tmp rfl (.tmp rfl .nil)) rfl
 | false =>
  rw [h] at c1
  rw [if_neg (by simp)]
  refine pcalls_of_pw Tryz.func164 rfl Tryz.ntmps164 Tryz.results164 (by simp) fun B w0 => ?_
  refine pzr (yAd rfl (yAd rfl (yQ (pw_seq (pzr (yMd rfl (yMd rfl (yC (c1) rfl rfl (yU rfl rfl rfl ?_))))))))); refine yQ (pw_ct rfl (pzr (yMd rfl (yAd rfl (yAd rfl (yQ (pw_ret (q_then_ret ?_))))))))
  exact q_ret _ (.tmp rfl (.tmp rfl .nil)) rfl
theorem wCutPre (s p : Str) : PCalls Tryz.prog 121 [dS s, dS p] (.tup [dS (if p.isPrefixOf s then s.drop p.length else s), dB (p.isPrefixOf s)]) := by
 have c1 := wCutPreI s p
 obtain ⟨t, ht⟩ : ∃ t, t = (if p.isPrefixOf s then s.drop p.length else s) := ⟨_, rfl⟩
 obtain ⟨b, hb⟩ : ∃ t, t = p.isPrefixOf s := ⟨_, rfl⟩
 rw [← ht, ← hb] at c1 ⊢
 clear ht hb
 refine pcalls_of_pw Tryz.func121 rfl Tryz.ntmps121 Tryz.results121 (by simp) fun B w0 => ?_
 refine pzr (yAd rfl (yAd rfl (yQ (pzr (yMd rfl (yMd rfl (yC (c1) rfl rfl (yX rfl rfl (yX rfl rfl ?_))))))))); refine yAd rfl (yAd rfl (yQ (pw_ret ?_)))
 exact q_ret _ (.tmp rfl (.tmp rfl .nil)) rfl
theorem u8_int (x : UInt8) (n : Nat) (hn : n < 256) : ((x.toNat : Int) == (n : Int)) = (x == UInt8.ofNat n) := by
 rw [Bool.eq_iff_iff, beq_iff_eq, beq_iff_eq]
 constructor
 · intro h
   have h1 : x.toNat = n := by omega
   rw [← h1]; simp
 · rintro rfl
   simp; omega
theorem wUnder (code parent : Str) : PCalls Tryz.prog 71 [dS code, dS parent] (.d (dB (undB code parent))) := by
 have c1 := wCutPre code parent
 unfold undB
 cases h : parent.isPrefixOf code with
 | false =>
  rw [h, if_neg (by simp)] at c1
  rw [Bool.false_and]
  refine pcalls_of_pw Tryz.func71 rfl Tryz.ntmps71 Tryz.results71 (by simp) fun B w0 => ?_
  refine pzr (yAd rfl (yQ (pzr (yMd rfl (yMd rfl (yC (c1) rfl rfl (yMp rfl (yX rfl rfl (yX rfl rfl ?_))))))))); refine yAd rfl (yAd rfl (yQ (pzr (yMd rfl (yMd rfl (yO rfl (yO rfl (yO rfl (yO rfl ?_))))))))); refine yO rfl (yO rfl (yO rfl (yVd rfl rfl (yAd rfl (yQ (pw_ret ?_))))))
  exact q_ret _ (.tmp rfl .nil) rfl
 | true =>
  rw [h, if_pos rfl] at c1
  rw [Bool.true_and]
  cases hd : code.drop parent.length with
  | nil =>
   rw [hd] at c1
   refine pcalls_of_pw Tryz.func71 rfl Tryz.ntmps71 Tryz.results71 (by simp) fun B w0 => ?_
   refine pzr (yAd rfl (yQ (pzr (yMd rfl (yMd rfl (yC (c1) rfl rfl (yMp rfl (yX rfl rfl (yX rfl rfl ?_))))))))); refine yAd rfl (yAd rfl (yQ (pzr (yMd rfl (yMd rfl (yMd rfl (yBse rfl rfl (yMd rfl (yO rfl ?_))))))))); refine yO rfl (yO rfl (yPd rfl rfl (yPd rfl rfl (yAd rfl (yQ (pw_ret ?_))))))
   exact q_ret _ (.tmp rfl .nil) rfl
  | cons b l =>
   rw [hd] at c1
   have t1 : ((b.toNat : Int) == 46) = (b == 46) := u8_int b 46 (by omega)
   have hx : (b :: l : Str)[(0 : Int).toNat]? = some b := rfl
   have t0 : ((b :: l : Str) == []) = false := rfl
   obtain ⟨r, hr⟩ : ∃ r, r = (b == 46) := ⟨_, rfl⟩
   rw [← hr] at t1
   obtain ⟨z, hz⟩ : ∃ z, z = (b :: l : Str) := ⟨_, rfl⟩
   rw [← hz] at c1 hx t0
   show PCalls Tryz.prog 71 [dS code, dS parent] (.d (dB (b == 46)))
   rw [← hr]
   clear hd hz hr
   refine pcalls_of_pw Tryz.func71 rfl Tryz.ntmps71 Tryz.results71 (by simp) fun B w0 => ?_
   refine pzr (yAd rfl (yQ (pzr (yMd rfl (yMd rfl (yC (c1) rfl rfl (yMp rfl (yX rfl rfl (yX rfl rfl ?_))))))))); refine yAd rfl (yAd rfl (yQ (pzr (yMd rfl (yMd rfl (yMd rfl (yBse rfl rfl (yMd rfl ?_)))))))); rw [t0]
   refine yMd rfl (yIs hx (by omega) rfl rfl (yB rfl rfl rfl rfl (yVd rfl rfl (yPd rfl rfl (yAd rfl (yQ (pw_ret ?_))))))); rw [t1]
   exact q_ret _ (.tmp rfl .nil) rfl
theorem pcalls_slA {P : Program} {f : FuncId} {k : Nat} {es : List (List DV)} {rest : List DV} {r : SV} (h : es.length ≤ 9223372036854775807 → PCalls P f (.sl k es :: rest) r) : PCalls P f (.sl k es :: rest) r := fun F w vals hl hr hg => by
 refine h ?_ F w vals hl hr hg
 cases vals with
 | nil => simp at hl
 | cons v vals =>
  have h1 := hr 0 v _ rfl rfl
  obtain ⟨A, c, news, -, -, hm, -⟩ := DRep.row h1
  exact hm
abbrev dAc (a : Ac) : List DV := [dS a.1, dI a.2]
theorem wFindA (l : List Ac) (code : Str) : PCalls Tryz.prog 47 [.sl 2 (l.map dAc), dS code] (.tup [.agg (dAc (fndA code l).1), dB (fndA code l).2]) := by
 unfold fndA
 obtain ⟨r, hr⟩ : ∃ r, r = l.foldl (stA code) (([], 0), false) := ⟨_, rfl⟩
 rw [← hr]
 refine pcalls_slA fun hl => ?_
 rw [List.length_map] at hl
 refine pcalls_of_pw Tryz.func47 rfl Tryz.ntmps47 Tryz.results47 (by simp) fun B w0 => ?_
 refine pzr (yZ (cs := [_, _]) rfl rfl (yAd rfl (yQ (pzr (yZ (cs := [_, _]) rfl rfl (yQ (pzr (yAd rfl (yQ ?_))))))))); refine pw_seq (pzr (yMd rfl (yN rfl (yMd rfl (yQ (pw_block ?_)))))); refine pw_loop (fun p : Nat × (Ac × Bool) => ⟨37, [(1, .d (dS code)), (4, .bx 4 0), (6, .bx 6 0), (7, .d (dB p.2.2)), (10, .d (.sl 2 (l.map dAc))), (11, .d (dI l.length)), (12, .d (dI p.1))], [(4, [.d (dS []), .d (dI 0)]), (6, [.d (dS p.2.1.1), .d (dI p.2.1.2)])], []⟩) (fun p => p.1 ≤ l.length ∧ p.2 = (l.take p.1).foldl (stA code) (([], 0), false)) (fun p => l.length - p.1) (0, (([], 0), false)) ⟨Nat.zero_le _, rfl⟩
  ⟨rfl, ⟨.refl _, .refl _, .refl _, .refl _, .refl _, .of_eq (congrArg (fun n : Nat => SV.d (dI n)) (by simp)), .refl _, trivial⟩, ⟨⟨_, rfl, lesC_refl _⟩, ⟨_, rfl, lesC_refl _⟩, trivial⟩, trivial, rfl⟩ ?_
 rintro ⟨k, ⟨⟨c0, n0⟩, f⟩⟩ ⟨hk, hI⟩
 simp only at hk hI ⊢
 rcases Nat.lt_or_ge k l.length with h | h
 rotate_left
 · have u1 : decide ((k : Int) < (l.length : Int)) = false := decide_eq_false (by omega)
   rw [List.take_of_length_le h, ← hr] at hI
   subst hI
   clear hr
   refine pzr (yB rfl rfl rfl rfl (yQ (pw_seq ?_))); rw [u1]; refine pw_cf rfl (pw_exit (pzr (yLa (ys := [_, _]) rfl rfl rfl rfl (yMd rfl (yS (cs' := [_, _]) rfl rfl rfl rfl rfl (yAd rfl (yQ (pw_ret ?_))))))))
   exact q_ret _ (.agg inferInstance rfl rfl rfl rfl (.tmp rfl .nil)) rfl
 have u1 : decide ((k : Int) < (l.length : Int)) = true := decide_eq_true (by omega)
 obtain ⟨⟨a0, a1⟩, ha⟩ : ∃ a, l[k]? = some a := ⟨_, List.getElem?_eq_getElem h⟩
 have ex := ix dAc l k k (a0, a1) rfl ha
 have hw := wrapI ((k : Int) + 1) (by omega)
 have c1 := wUnder code a0
 have hnx : (l.take (k + 1)).foldl (stA code) (([], 0), false) = stA code ((c0, n0), f) (a0, a1) := by
  rw [List.take_add_one, ha, List.foldl_append, ← hI]; rfl
 have arith : l.length - (k + 1) < l.length - k := by omega
 clear hr hI
 rw [stA] at hnx
 cases hu : undB code a0 with
 | false =>
  rw [hu] at c1 hnx
  rw [Bool.false_and, if_neg (by simp)] at hnx
  refine pzr (yB rfl rfl rfl rfl (yQ (pw_seq ?_))); rw [u1]; refine pw_ct rfl (pw_skip (pw_seq (pw_block (pzr (yW ex (by omega) rfl rfl (yLs (ys := [_, _]) rfl rfl rfl (yZ (cs := [_, _]) rfl rfl (yS (cs' := [_, _]) rfl rfl rfl rfl rfl (yQ ?_))))))))); refine pzr (yMd rfl (yFb rfl (yLd rfl rfl rfl (yC (c1) rfl rfl (yMd rfl (yO rfl (yO rfl (yO rfl (yO rfl ?_))))))))); refine yO rfl (yO rfl (yO rfl (yO rfl (yO rfl (yO rfl (yO rfl (yVd rfl rfl (yQ (pw_cf rfl ?_))))))))); refine pw_skip (pw_region (yB rfl rfl rfl rfl (yMd rfl (yQ (q_then ?_)))))
  exact ⟨(k + 1, ((c0, n0), f)), ⟨h, hnx.symm⟩, arith, rfl, ⟨.refl _, .refl _, .refl _, .refl _, .refl _, .refl _, .of_eq (congrArg (fun n => SV.d (dI n)) hw), trivial⟩, ⟨⟨_, rfl, lesC_refl _⟩, ⟨_, rfl, lesC_refl _⟩, trivial⟩, trivial, rfl⟩
 | true =>
  rw [hu] at c1 hnx
  cases f with
  | false =>
   have hnx2 : (l.take (k + 1)).foldl (stA code) (([], 0), false) = ((a0, a1), true) := by rw [hnx]; rfl
   refine pzr (yB rfl rfl rfl rfl (yQ (pw_seq ?_))); rw [u1]; refine pw_ct rfl (pw_skip (pw_seq (pw_block (pzr (yW ex (by omega) rfl rfl (yLs (ys := [_, _]) rfl rfl rfl (yZ (cs := [_, _]) rfl rfl (yS (cs' := [_, _]) rfl rfl rfl rfl rfl (yQ ?_))))))))); refine pzr (yMd rfl (yFb rfl (yLd rfl rfl rfl (yC (c1) rfl rfl (yMd rfl (yMd rfl (yU rfl rfl rfl (yMd rfl (yO rfl ?_))))))))); refine yO rfl (yO rfl (yO rfl (yO rfl (yO rfl (yO rfl (yPd rfl rfl (yPd rfl rfl (yQ (pw_ct rfl ?_))))))))); refine pw_region (yLa (ys := [_, _]) rfl rfl rfl rfl (yS (cs' := [_, _]) rfl rfl rfl rfl rfl (yAd rfl (yQ (pw_region (yB rfl rfl rfl rfl (yMd rfl (yQ (q_then ?_)))))))))
   exact ⟨(k + 1, ((a0, a1), true)), ⟨h, hnx2.symm⟩, arith, rfl, ⟨.refl _, .refl _, .refl _, .refl _, .refl _, .refl _, .of_eq (congrArg (fun n => SV.d (dI n)) hw), trivial⟩, ⟨⟨_, rfl, lesC_refl _⟩, ⟨_, rfl, lesC_refl _⟩, trivial⟩, trivial, rfl⟩
  | true =>
   by_cases hc : c0.length < a0.length
   · have t1 : decide ((a0.length : Int) > (c0.length : Int)) = true := decide_eq_true (by omega)
     have hnx2 : (l.take (k + 1)).foldl (stA code) (([], 0), false) = ((a0, a1), true) := by rw [hnx, decide_eq_true hc]; rfl
     refine pzr (yB rfl rfl rfl rfl (yQ (pw_seq ?_))); rw [u1]; refine pw_ct rfl (pw_skip (pw_seq (pw_block (pzr (yW ex (by omega) rfl rfl (yLs (ys := [_, _]) rfl rfl rfl (yZ (cs := [_, _]) rfl rfl (yS (cs' := [_, _]) rfl rfl rfl rfl rfl (yQ ?_))))))))); refine pzr (yMd rfl (yFb rfl (yLd rfl rfl rfl (yC (c1) rfl rfl (yMd rfl (yMd rfl (yU rfl rfl rfl (yMd rfl (yFb rfl ?_))))))))); refine yLd rfl rfl rfl (yNs rfl (yFb rfl (yLd rfl rfl rfl (yNs rfl (yB rfl rfl rfl rfl (yVd rfl rfl (yPd rfl rfl (yQ (q_then ?_))))))))); rw [t1]; refine pw_ct rfl (pw_region (yLa (ys := [_, _]) rfl rfl rfl rfl (yS (cs' := [_, _]) rfl rfl rfl rfl rfl (yAd rfl (yQ (pw_region (yB rfl rfl rfl rfl (yMd rfl (yQ ?_))))))))); refine q_then ?_
     exact ⟨(k + 1, ((a0, a1), true)), ⟨h, hnx2.symm⟩, arith, rfl, ⟨.refl _, .refl _, .refl _, .refl _, .refl _, .refl _, .of_eq (congrArg (fun n => SV.d (dI n)) hw), trivial⟩, ⟨⟨_, rfl, lesC_refl _⟩, ⟨_, rfl, lesC_refl _⟩, trivial⟩, trivial, rfl⟩
   · have t1 : decide ((a0.length : Int) > (c0.length : Int)) = false := decide_eq_false (by omega)
     have hnx2 : (l.take (k + 1)).foldl (stA code) (([], 0), false) = ((c0, n0), true) := by rw [hnx, decide_eq_false hc]; rfl
     refine pzr (yB rfl rfl rfl rfl (yQ (pw_seq ?_))); rw [u1]; refine pw_ct rfl (pw_skip (pw_seq (pw_block (pzr (yW ex (by omega) rfl rfl (yLs (ys := [_, _]) rfl rfl rfl (yZ (cs := [_, _]) rfl rfl (yS (cs' := [_, _]) rfl rfl rfl rfl rfl (yQ ?_))))))))); refine pzr (yMd rfl (yFb rfl (yLd rfl rfl rfl (yC (c1) rfl rfl (yMd rfl (yMd rfl (yU rfl rfl rfl (yMd rfl (yFb rfl ?_))))))))); refine yLd rfl rfl rfl (yNs rfl (yFb rfl (yLd rfl rfl rfl (yNs rfl (yB rfl rfl rfl rfl (yVd rfl rfl (yPd rfl rfl (yQ (q_then ?_))))))))); rw [t1]; refine pw_cf rfl (pw_skip (pw_region (yB rfl rfl rfl rfl (yMd rfl (yQ (q_then ?_))))))
     exact ⟨(k + 1, ((c0, n0), true)), ⟨h, hnx2.symm⟩, arith, rfl, ⟨.refl _, .refl _, .refl _, .refl _, .refl _, .refl _, .of_eq (congrArg (fun n => SV.d (dI n)) hw), trivial⟩, ⟨⟨_, rfl, lesC_refl _⟩, ⟨_, rfl, lesC_refl _⟩, trivial⟩, trivial, rfl⟩
end Go.Proofs.YtddfimjiihggmaaGreatDoor