/- The iterator of the values of a list of strings. -/
import Derived.Test.YtddfimjiihggmaaGreatDoorB9
import Derived.RangeFuncNested
import Derived.RangeFuncBound
import Derived.RangeFuncCalls
import Derived.RangeFuncLeaves
import Derived.Shelf.Abstract
import Derived.Shelf.RegionOpen
import Derived.WalkKit
import Derived.OwnWalkIn
import Derived.TacticsInMore
import Derived.LoopNIn
import Derived.LoopIn
import Derived.Test.YtddfimjiihggmaaGreatDoorB2
import Derived.Shelf.SlicesE.Compact
import Derived.Ground.SlgnProg
import Derived.Test.YtddfimjiihggmaaGreatDoorProg
import Derived.Test.YtddfimjiihggmaaGreatDoorB4
import Derived.Test.YtddfimjiihggmaaGreatDoorB6
import Derived.Shelf.SortM.Plain
import Derived.Shelf.SortM.SortNone
import Derived.Sort.OwnSorted
import Derived.Sort.Walk0
set_option maxHeartbeats 16000000
set_option maxRecDepth 20000
namespace Go.Proofs.YtddfimjiihggmaaGreatDoor
open Go.RowKit Go.Shelf Px
attribute [local go_sem] Oper.semAt_some
theorem strs_at {F : Nat → Nat → Prop} {w : World} {v : Value} {l : List Str} (h : DRep F w v (dStrs l)) : ∃ A c, v = .slice A l.length c ∧ ∀ (j : Nat) s, l[j]? = some s → ∃ b o, A = some ⟨b, o, none⟩ ∧ w.cell? ⟨b, o + j, none⟩ = some (vS s) := by
 obtain ⟨A, c, news, r1, -, -, -, -, r6, -, r8⟩ := DRep.row h
 rw [List.length_map] at r1 r6
 refine ⟨A, c, r1, fun j s hj => ?_⟩
 obtain ⟨b, o, e, r9⟩ := r6 (by have := (List.getElem?_eq_some_iff.1 hj).1; omega)
 obtain ⟨u, t1, t2⟩ := r8 j 0 [dS s] (dS s) (by rw [List.getElem?_map, hj]; rfl) rfl
 refine ⟨b, o, e, ?_⟩
 have t3 := DRep.val_eq t2
 rw [t3] at t1
 have := (r9 _ _ t1).1
 rwa [Nat.mul_one, Nat.add_zero] at this
set_option maxRecDepth 100000 in
theorem vals1_spec (l : List Str) (hl : l.length ≤ 1000000) (F : Nat → Nat → Prop) (w : World) (p : Value) (hp : DRep F w p (.ref [dStrs l])) : ItSpec Tryz.prog 75 #[p] (l.map fun s => [vS s]) F w := by
 intro lp J Jx hJ hJx hY hgo h0
 obtain ⟨B, off, v, rfl, hc, hv⟩ : ∃ b off v, p = .pointer (some ⟨b, off, none⟩) ∧ w.cell? ⟨b, off, none⟩ = some v ∧ DRep F w v (dStrs l) := by
  cases hp with
  | @ref b off _ f hc h => exact ⟨b, off, f 0, rfl, (hc 0 (by simp)).1, h 0 _ rfl⟩
 obtain ⟨A, c, rfl, -⟩ := strs_at hv
 have HC : Hid (∀ w', Kp F w F w' → ∀ (j : Nat) s, l[j]? = some s → ∃ b o, A = some ⟨b, o, none⟩ ∧ w'.cell? ⟨b, o + j, none⟩ = some (vS s)) := Lib.hid fun w' k j s hj => by
  obtain ⟨A', c', e, h⟩ := strs_at (hv.mono k)
  cases e
  exact h j s hj
 clear hv hp
 refine callsIn_of_wp Tryz.func75 rfl trivial ?_ rfl
 simp only [Tryz.ntmps75, List.size_toArray, List.length_cons, List.length_nil, Nat.reduceAdd, Nat.reduceSub, Array.replicate_succ, Array.replicate_zero, List.push_toArray, List.append_toArray, List.nil_append, List.cons_append]
 have HY := Lib.hid hY
 have HK := Lib.hid (show Kp F w F w from Kp.same fun _ _ h => h)
 clear hJ hJx hY hgo
 gi_wp2
 gi_loopw [7] (fun i wr => ∃ k : Nat, k ≤ l.length ∧ i = .int .i64 k ∧ J k wr ∧ Hid (Kp F w F wr))
  (fun i _ => l.length - (intOf i).toNat)
 case atStart => exact ⟨0, Nat.zero_le _, rfl, h0, HK⟩
 case round =>
  obtain ⟨k, hk, rfl, hJs, hnx⟩ := hrel
  by_cases hlt : k < l.length
  · obtain ⟨s, hs⟩ : ∃ s, l[k]? = some s := ⟨_, List.getElem?_eq_getElem hlt⟩
    obtain ⟨b, o, rfl, hcx⟩ := HC.out wr hnx.out k s hs
    obtain ⟨fn, tmps, assign, body, hy, hR⟩ := HY.out k [vS s] wr (by rw [List.getElem?_map, hs]; rfl) hJs
    have HS := Lib.hid hs
    clear hs
    gi_wp2
    refine ⟨rfl, ?_⟩
    refine hR.mono ?_
    rintro e W3 (⟨rfl, hJ3, hk3, -⟩ | ⟨rfl, hJx3⟩)
    · gi_wp2
      go_roundw
      case rel => exact ⟨k + 1, by omega, by simp, hJ3, Lib.hid (hnx.out.trans hk3)⟩
      case measure => simp [intOf]; omega
    · gi_wp2
      refine bodyPost_ret (results_none rfl _ _ _) rfl ?_
      exact ⟨⟨_, rfl⟩, .inr hJx3⟩
  · obtain rfl : k = l.length := by omega
    gi_wp2
    go_end0
    exact ⟨⟨_, rfl⟩, .inl (by rw [List.length_map]; exact hJs)⟩
end Go.Proofs.YtddfimjiihggmaaGreatDoor
namespace Go.Proofs.YtddfimjiihggmaaGreatDoor.Px
open Go.RowKit
theorem pown_of_pwN {P : Program} {f : FuncId} {fn : Func} {c : Code} {n s t E k : Nat} {args : List DV} {es : List (List DV)} (hf : P.funcs[f]? = some fn) (hb : fn.body = some c) (hn : fn.ntmps = n) (hrs : fn.results = #[.tmp s]) (hl : args.length ≤ n) (hE : t / 100000 = E)
 (h : ∀ B w0, w0.rl = none → PW P B w0 c (QOwn s t k es) ⟨n, argS 0 args, [], []⟩) (hlim : Nat.ble n 10000 = true := by rfl) : POwn P f args E k es := by
 intro F w vals hvl hv hgo
 refine calls_of_wpM hf hb ?_
 have hrep := Rep.entry (F := F) (w := w) (vals := vals) (args := args) hn hl (Nat.le_of_ble_eq_true hlim) hvl hv hgo
 refine wpIn_mono (h w.heap.size _ rfl _ _ _ hrep) fun e a' w' ⟨g, st, h1, h2⟩ => ?_
 have fin : (st.get s = .ts t k es ∧ st.tget t = some es.length) → LeavesInM Fence.wide 0 P fn a'.tmps (fun e w' => ∃ v' xs, e = .returned v' ∧ w'.ownsRow w.heap.size E k v' es.length xs ∧ (∀ u ∈ xs, u.oneCell' = true) ∧ DRep (OwnF F w.heap.size k v') w' v' (.sl k es) ∧ Below w.heap.size w w') a'.defers .returning w' := by
  rintro ⟨h3, h4⟩
  refine leaves_of_rep (st := st) (Nat.le_refl _) (fun w' h1 => ?_) a'.defers w' h1
  obtain ⟨T, A, cc, h5, h6⟩ := h1.tlen t _ h4
  have h7 := h1.slots s
  rw [h3] at h7
  obtain ⟨h8, h9⟩ := h7
  obtain ⟨hk, h10⟩ := h9 T h5
  have hv' := (h10 A _ cc h6).2 rfl
  obtain ⟨⟨n', xs, h11⟩, -⟩ := h1.toks t T h5
  have hT := h1.telt t T h5
  have hn' : n' = es.length := by
   obtain ⟨A2, c2, q1, -, -⟩ := own_form h11
   rw [h6] at q1; cases q1; rfl
  subst hn'
  have hown : w'.ownsRow w.heap.size E k (a'.tmps.getD s undef) es.length xs := by
   rw [hv', ← hk, ← hE, ← hT]
   refine ⟨h11.1, ?_⟩
   rcases h11.2 with q | ⟨gb, cap, cur, q1, -, q2⟩
   · exact .inl q
   · refine .inr ⟨gb, cap, cur, q1, ?_, q2⟩
     rcases h1.evo.tb t T gb h5 (by rw [q1]; rfl) with q3 | ⟨i, q3⟩ | ⟨t', T', q3, -⟩
     · exact q3
     · cases q3
     · cases q3
  refine ⟨_, results_one hrs _ _, _, xs, rfl, hown, row_one h8 hown, h8.mono (Kp.same fun b o hf => ⟨by have := hf.1; rw [h1.evo.f0] at this; exact this, fun n c hvc => ?_⟩), h1.evo.below⟩
  rw [← hk]; exact hf.2.2 t T n c h5 (hv' ▸ hvc)
 cases e with
 | normal => exact fin h2
 | ret => exact fin h2
 | _ => exact h2.elim
end Go.Proofs.YtddfimjiihggmaaGreatDoor.Px
namespace Go.Proofs
open Go.Shelf
def Tryz.compStr_ren : Go.Shelf.Ren := ⟨fun | 43 => 73 | n => n, fun | 22 => 36 | 23 => 9 | 3 => 3 | 4 => 4 | 0 => 0 | n => n, fun | n => n⟩
theorem Tryz.compStr : Go.Proofs.SlLaysE.n43 Tryz.prog Tryz.compStr_ren := {
 mixed := by kernel_rfl
 f43 := ⟨Tryz.f73.name, by decide, Tryz.func73.trans (congrArg some (by kernel_rfl))⟩
 t0 := Tryz.underlying0
 a0 := Tryz.isAgg0
 z0 := Tryz.sizeOf0
 v0 := Tryz.zeroValue0
 t3 := Tryz.underlying3
 a3 := Tryz.isAgg3
 z3 := Tryz.sizeOf3
 v3 := Tryz.zeroValue3
 t4 := Tryz.underlying4
 a4 := Tryz.isAgg4
 z4 := Tryz.sizeOf4
 v4 := Tryz.zeroValue4
 t22 := Tryz.underlying36
 a22 := Tryz.isAgg36
 z22 := Tryz.sizeOf36
 v22 := Tryz.zeroValue36
 a23 := Tryz.isAgg9
 z23 := Tryz.sizeOf9 }
end Go.Proofs
namespace Go.Proofs.YtddfimjiihggmaaGreatDoor
open Go.RowKit Px Go.Sort Go.Lib
theorem beq_dec (x y : Str) : (x == y) = decide (x = y) := by rw [Bool.eq_iff_iff]; simp
theorem mSort_len (ss : List Str) : (mSort ss).length = ss.length := List.length_mergeSort ss
theorem comp_up {d : Array Str} (hd : ∀ i j, i ≤ j → j < d.size → ltS d[j]! d[i]! = false) : ∀ m, m ≤ d.size → ascS (compactUpTo d m) ∧ (∀ x, x ∈ compactUpTo d m ↔ ∃ j, j < m ∧ d[j]! = x)
 | 0, _ => by simp [compactUpTo, ascS]
 | m + 1, hm => by
  obtain ⟨h1, h2⟩ := comp_up hd m (by omega)
  rw [compactUpTo_succ]
  cases hk : keeps d m
  · simp only [keeps, decide_eq_false_iff_not, not_or, Decidable.not_not] at hk
    simp only [Bool.false_eq_true, if_false, List.append_nil]
    refine ⟨h1, fun x => ?_⟩
    rw [h2]
    constructor
    · rintro ⟨j, hj, rfl⟩; exact ⟨j, by omega, rfl⟩
    · rintro ⟨j, hj, rfl⟩
      by_cases e : j = m
      · subst e; exact ⟨j - 1, by omega, hk.2.symm⟩
      · exact ⟨j, by omega, rfl⟩
  · simp only [keeps, decide_eq_true_eq] at hk
    simp only [if_true]
    refine ⟨?_, fun x => ?_⟩
    · rw [ascS_append]
      refine ⟨h1, ⟨fun y hy => (by cases hy), trivial⟩, fun x hx y hy => ?_⟩
      obtain ⟨j, hj, rfl⟩ := (h2 x).1 hx
      have e : y = d[m]! := by simpa using hy
      subst e
      rcases hk with hk | hk
      · omega
      · have h3 := hd j (m - 1) (by omega) (by omega)
        have h4 := hd (m - 1) m (by omega) (by omega)
        have h5 := hd j m (by omega) (by omega)
        rcases ltS_total d[j]! d[m]! with e | e | e
        · exact e
        · exfalso
          rcases ltS_total d[m - 1]! d[m]! with e2 | e2 | e2
          · rw [← e, h3] at e2; cases e2
          · exact hk e2.symm
          · rw [h4] at e2; cases e2
        · rw [h5] at e; cases e
    · rw [List.mem_append, h2]
      constructor
      · rintro (⟨j, hj, rfl⟩ | h)
        · exact ⟨j, by omega, rfl⟩
        · exact ⟨m, by omega, (List.mem_singleton.1 h).symm⟩
      · rintro ⟨j, hj, rfl⟩
        by_cases e : j = m
        · subst e; exact .inr (by simp)
        · exact .inl ⟨j, by omega, rfl⟩
theorem comp_sort (ss : List Str) : compact (mSort ss) = uniS ss := by
 obtain ⟨s, hs⟩ : ∃ s, s = mSort ss := ⟨_, rfl⟩
 have hsort := mSort_up ss
 have hmem : ∀ x, x ∈ s ↔ x ∈ ss := fun x => by rw [hs, List.mem_mergeSort]
 rw [← hs] at hsort ⊢
 have hd : ∀ i j, i ≤ j → j < s.toArray.size → ltS s.toArray[j]! s.toArray[i]! = false := fun i j hij hj => by
  have hj' : j < s.length := by simpa using hj
  have hi' : i < s.length := by omega
  rw [getElem!_pos s.toArray i (by simpa using hi'), getElem!_pos s.toArray j hj]
  simp only [List.getElem_toArray]
  rcases Nat.lt_or_ge i j with h | h
  · exact List.pairwise_iff_getElem.1 hsort i j hi' hj' h
  · have : i = j := by omega
    subst this; exact ltS_irrefl _
 obtain ⟨h1, h2⟩ := comp_up hd s.length (by simp)
 unfold compact
 refine uniS_of h1 fun x => ?_
 rw [h2, ← hmem]
 constructor
 · rintro ⟨j, hj, rfl⟩
   rw [getElem!_pos s.toArray j (by simpa using hj)]
   simp
 · intro hx
   obtain ⟨j, hj, rfl⟩ := List.mem_iff_getElem.1 hx
   exact ⟨j, hj, by rw [getElem!_pos s.toArray j (by simpa using hj)]; simp⟩
theorem sort_row (ss : List Str) (hl : ss.length ≤ 1000000) : PRow Tryz.prog 72 9 1 [] (ss.map encStr) ((mSort ss).map encStr) := by
 intro w v n hown hone
 have hn : n = ss.length := by have := hown.1; simpa using this.symm
 subst hn
 rcases hown.2 with ⟨rfl, h0⟩ | ⟨g, cap, cur, rfl, hg, hb, hn, hcap, hsz, ht⟩
 · have hz : ss = [] := List.eq_nil_of_length_eq_zero h0
   subst hz
   refine (AnyM.slices_Sort_string_none Tryz.sortStr none 0 w).mono ?_
   rintro e w' ⟨rfl, rfl⟩
   have e : mSort [] = [] := List.eq_nil_of_length_eq_zero (mSort_len [])
   rw [e]
   exact ⟨rfl, hown, hone, rfl, rfl, rfl, Nat.le_refl _, fun _ _ _ => rfl⟩
 · refine (AnyM.slices_Sort_string Tryz.sortStr g 0 cap ss w (holds_of_block hb (by simpa using ht)) (Array.getElem?_eq_some_iff.1 hb).1 (by omega)).mono ?_
   rintro e w' ⟨rfl, n, os, rfl⟩
   refine ⟨rfl, ?_, fun u hu => by obtain ⟨z, -, rfl⟩ := List.mem_map.1 hu; rfl, grownBy_sorted _⟩
   exact ownsRow_sorted (n := n) (os := os) (ts := mSort ss) (ss := ss) (mSort_len ss) hg hb hn hcap hsz
theorem comp_row (ss : List Str) (hl : ss.length ≤ 1000000) : PRowC Tryz.prog 73 9 1 (ss.map encStr) ((compact ss).map encStr) := by
 intro w A c n hown h0 hone
 have hn0 : n = ss.length := by have := hown.1; simpa using this.symm
 subst hn0
 rcases hown.2 with ⟨e0, h1⟩ | ⟨g, cap, cur, e0, hg, hb, hn, hcap, hsz, ht⟩
 · omega
 obtain ⟨rfl, -, rfl⟩ := Value.slice.inj e0
 have h1 := AnyE.slices_Compact Tryz.compStr encStr (fun _ => rfl) ⟨fun x y w => by
  have : (binOp .eql (Tryz.compStr_ren.t 23) (encStr x) (encStr y)) = pure (.bool ((ByteArray.mk x.toArray).toList == (ByteArray.mk y.toArray).toList)) := rfl
  rw [this, str_list, str_list, beq_dec]; rfl, fun op a b x y w => GuardAt.string _ _ op a b _ _ w⟩ ⟨fun x y w => by
  have : (binOp .neq (Tryz.compStr_ren.t 23) (encStr x) (encStr y)) = pure (.bool (!((ByteArray.mk x.toArray).toList == (ByteArray.mk y.toArray).toList))) := rfl
  rw [this, str_list, str_list, beq_dec]; rfl, fun op a b x y w => GuardAt.string _ _ op a b _ _ w⟩ [] Tryz.zeroValue9 g 0 c ss.toArray w (holds_of_block hb (by simpa using ht)) (by simp; omega) (by simpa using hn)
 simp only [List.size_toArray] at h1
 refine h1.mono ?_
 rintro e w' ⟨rfl, q, rfl⟩
 have hcl : (compactUpTo ss.toArray ss.length).length ≤ ss.length := by
  unfold compactUpTo
  rw [List.length_map]
  exact Nat.le_trans (List.length_filter_le _ _) (by simp)
 obtain ⟨ts, hts⟩ : ∃ ts, ts = compactUpTo ss.toArray ss.length ++ List.replicate (ss.length - (compactUpTo ss.toArray ss.length).length) ([] : Str) := ⟨_, rfl⟩
 have htl : ts.length = ss.length := by rw [hts]; simp; omega
 have hheap : (putRow encStr (Sort.ahead w q) g 0 ts.toArray).heap[g]? = some (.cells (putCells encStr 0 ts.toArray cur) 9 (0, 0)) := by
  simp [putRow, mapBlock, Sort.ahead, Array.getElem?_modify, hb, onCells]
 rw [← hts]
 refine ⟨(compactUpTo ss.toArray ss.length).length, (List.replicate (ss.length - (compactUpTo ss.toArray ss.length).length) ([] : Str)).map encStr, rfl, hcl, by unfold compact; simp, ?_, fun u hu => by obtain ⟨z, -, rfl⟩ := List.mem_map.1 hu; rfl, ?_⟩
 · have e : (compact ss).map encStr ++ (List.replicate (ss.length - (compactUpTo ss.toArray ss.length).length) ([] : Str)).map encStr = ts.map encStr := by rw [hts, List.map_append]; rfl
   rw [e]
   refine ⟨by simp [htl], .inr ⟨g, c, _, rfl, hg, hheap, hn, hcap, by simp [putCells, hsz], ?_⟩⟩
   rw [Nat.mul_one, ← htl]
   exact take_putCells cur ts (by omega)
 · refine ⟨rfl, rfl, rfl, by simp, fun k hk hne => ?_⟩
   have : g ≠ k := fun e => hne (by rw [e]; rfl)
   simp [putRow, mapBlock, Sort.ahead, Array.getElem?_modify, this]
abbrev nv (l : List Str) : List SV := (l.map encStr).map fun u => SV.d (.val u)
theorem wSortNil : PCalls Tryz.prog 72 [.val (.slice none 0 0)] (.tup []) := fun F w vals hl hr hg => by
 obtain rfl : vals = [.slice none 0 0] := vals_of (us := [.slice none 0 0]) hl hr
 exact (AnyM.slices_Sort_string_none Tryz.sortStr none 0 w).mono fun e w' ⟨h1, h2⟩ => ⟨.tuple #[], h1, ⟨[], rfl, rfl, fun i y x hy => by simp at hy⟩, by rw [h2]; exact Below.refl _ _⟩
theorem wCompNil : PCalls Tryz.prog 73 [.val (.slice none 0 0)] (.d (.val (.slice none 0 0))) := by
 refine pcalls_of_pw Tryz.func73 rfl Tryz.ntmps73 Tryz.results73 (by simp) fun B w0 => ?_
 refine pzr (yAd rfl (yQ (pw_seq (pzr (yMd rfl (yNl rfl (yB rfl rfl rfl rfl (yQ (pw_ct rfl ?_))))))))); refine pzr (yMd rfl (yAd rfl (yQ (pw_ret (q_then_ret ?_)))))
 exact q_ret _ (.tmp rfl .nil) rfl
theorem toDs_nv (l : List Str) : toDs (nv l) = some (l.map fun a => DV.val (encStr a)) := by
 induction l with
 | nil => rfl
 | cons x l ih =>
  show toDs (SV.d (.val (encStr x)) :: nv l) = _
  simp only [toDs, toD, ih, List.map_cons]
def rwS : Nat → SV
 | 0 => .d (.val (.slice none 0 0))
 | n + 1 => .bs 26 (n + 1) 9 1
def rwB (l : List Str) : Nat → List (Nat × List SV)
 | 0 => []
 | n + 1 => [(26, nv (l.take (n + 1)))]
theorem rNm_snoc {ls : List Ln} {k : Nat} {l : Ln} (h : ls[k]? = some l) : rNm (ls.take (k + 1)) = rNm (ls.take k) ++ l.2.2.map (·.1) := by
 rw [List.take_add_one, h, rNm, List.flatMap_append]
 simp [rNm]
theorem rNm_at {ls : List Ln} {k m : Nat} {l : Ln} {c : Cf} (h : ls[k]? = some l) (hc : l.2.2[m]? = some c) : (rNm ls)[(rNm (ls.take k)).length + m]? = some c.1 := by
 obtain ⟨h1, h2⟩ := List.getElem?_eq_some_iff.1 h
 have e : rNm ls = rNm (ls.take k) ++ (l.2.2.map (·.1) ++ rNm (ls.drop (k + 1))) := by
  conv => lhs; rw [show ls = ls.take k ++ l :: ls.drop (k + 1) by rw [← h2, ← List.drop_eq_getElem_cons h1, List.take_append_drop]]
  simp [rNm]
 have hm := (List.getElem?_eq_some_iff.1 hc).1
 rw [e, List.getElem?_append_right (by omega), Nat.add_sub_cancel_left, List.getElem?_append_left (by rw [List.length_map]; exact hm), List.getElem?_map, hc]
 rfl
theorem wNamesR (r : Ru) (hb1 : r.2.length ≤ 1000000) (hb2 : ∀ l ∈ r.2, l.2.2.length ≤ 1000000) (hb : (rNm r.2).length ≤ 1000000) : PCalls Tryz.prog 34 [.agg (dRu r)] (.d (dStrs (uniS (rNm r.2)))) := by
 obtain ⟨n, ls⟩ := r
 simp only at hb1 hb2 hb
 obtain ⟨nm, hnm⟩ : ∃ q, q = rNm ls := ⟨_, rfl⟩
 obtain ⟨R, hR⟩ : ∃ q, q = uniS nm := ⟨_, rfl⟩
 have hat := fun (k m : Nat) (l : Ln) (c : Cf) (h : ls[k]? = some l) (hc : l.2.2[m]? = some c) => rNm_at h hc
 have hsn := fun (k : Nat) (l : Ln) (h : ls[k]? = some l) => congrArg List.length (rNm_snoc h)
 have hend : (rNm (ls.take ls.length)).length = nm.length := by rw [List.take_length, hnm]
 have h00 : (rNm (ls.take 0)).length = 0 := rfl
 rw [← hnm] at hb hat ⊢
 rw [← hR]
 obtain ⟨cn, hcn⟩ : ∃ cn : Nat → Nat, cn = fun k => (rNm (ls.take k)).length := ⟨_, rfl⟩
 have hat : ∀ (k m : Nat) (l : Ln) (c : Cf), ls[k]? = some l → l.2.2[m]? = some c → nm[cn k + m]? = some c.1 := by rw [hcn]; exact hat
 have hsn : ∀ (k : Nat) (l : Ln), ls[k]? = some l → cn (k + 1) = cn k + l.2.2.length := fun k l h => by rw [hcn]; simpa using hsn k l h
 have hend : cn ls.length = nm.length := by rw [hcn]; exact hend
 have h00 : cn 0 = 0 := by rw [hcn]; exact h00
 clear hcn hnm
 refine pcalls_of_pw Tryz.func34 rfl Tryz.ntmps34 Tryz.results34 (by simp) fun B w0 => ?_
 refine pzr (yK (cs := [_, _]) rfl rfl (yAd rfl (yQ (pzr (yAd rfl (yQ (pw_seq (pzr (yFb rfl ?_))))))))); refine yLd rfl rfl rfl (yN rfl (yMd rfl (yQ (pw_block ?_)))); refine pw_loop (fun k : Nat => ⟨33, [(3, rwS (cn k)), (9, .d (.sl 3 (ls.map dLn))), (10, .d (dI ls.length)), (11, .d (dI k))], rwB nm (cn k), []⟩) (fun k => k ≤ ls.length) (fun k => ls.length - k) 0 (Nat.zero_le _)
  ⟨rfl, ⟨.of_eq (by rw [h00]; rfl), .refl _, .of_eq (congrArg (fun n : Nat => SV.d (dI n)) (by simp)), .refl _, trivial⟩, by rw [h00]; trivial, trivial, by rw [h00]; rfl⟩ ?_
 intro k hk
 rcases Nat.lt_or_ge k ls.length with h | h
 rotate_left
 · have u1 : decide ((k : Int) < (ls.length : Int)) = false := decide_eq_false (by omega)
   obtain rfl : k = ls.length := by omega
   rw [hend]
   cases e : nm with
   | nil =>
    subst e
    have hR0 : R = [] := hR
    subst hR0
    simp only [List.length_nil, rwS, rwB]
    refine pzr (yB rfl rfl rfl rfl (yQ (pw_seq ?_))); rw [u1]; refine pw_cf rfl (pw_exit (pzr (yMd rfl (yC (wSortNil) rfl rfl (yQ (pzr (yMd rfl (yC (wCompNil) rfl rfl (yAd rfl ?_))))))))); refine yQ (pw_ret ?_)
    exact q_ret _ (.tnil 1 rfl .nil) rfl
   | cons x nm' =>
    rw [← e]
    obtain ⟨q, hq⟩ : ∃ q, nm.length = q + 1 := ⟨nm'.length, by rw [e]; rfl⟩
    clear e
    have c5 := sort_row nm (by omega)
    have c6 := comp_row (mSort nm) (by rw [mSort_len]; omega)
    rw [comp_sort, ← hR] at c6
    have hms := mSort_len nm
    have hch := chunk_one (fun a : Str => DV.val (encStr a)) R
    have hRl : R.length ≤ q + 1 := by rw [hR, ← hq]; exact uniS_length nm
    have htk : nm.take (q + 1) = nm := List.take_of_length_le (by omega)
    rw [hq]
    simp only [rwS, rwB]
    rw [htk]
    clear hat hsn hend h00 hR htk
    refine pzr (yB rfl rfl rfl rfl (yQ (pw_seq ?_))); rw [u1]; refine pw_cf rfl (pw_exit (pzr (yMw rfl ?_))); refine yRb c5 (by simp; omega) rfl rfl rfl ?_; refine yQ (pzr (yMw rfl ?_)); refine yRc (n' := R.length) c6 (by omega) (by omega) (by simp; omega) (by simp) rfl rfl ?_; refine yAw rfl (yQ ?_); refine pw_frz 2 26 (es := R.map dC) (ds := R.map fun a => DV.val (encStr a)) (by simp) hch (toDs_nv R) rfl rfl ?_; refine pw_ret ?_
    exact q_ret _ (.tmp rfl .nil) rfl
 have u1 : decide ((k : Int) < (ls.length : Int)) = true := decide_eq_true (by omega)
 obtain ⟨⟨a, c, x⟩, hl⟩ : ∃ a, ls[k]? = some a := ⟨_, List.getElem?_eq_getElem h⟩
 have ex := ix dLn ls k k (a, c, x) rfl hl
 have hw := wrapI ((k : Int) + 1) (by omega)
 have hxl := hb2 _ (List.mem_of_getElem? hl)
 have hnk := hsn k _ hl
 have hatk := fun m d => hat k m _ d hl
 simp only at hxl hnk hatk
 have arith : ls.length - (k + 1) < ls.length - k := by omega
 obtain ⟨K, hK⟩ : ∃ K, K = cn k := ⟨_, rfl⟩
 rw [← hK] at hnk hatk ⊢
 cases K with
 | zero =>
  simp only [rwS, rwB]
  refine pzr (yB rfl rfl rfl rfl (yQ (pw_seq ?_))); rw [u1]; refine pw_ct rfl (pw_skip (pw_seq (pw_block (pzr (yW ex (by omega) rfl rfl (yLs (ys := [_, _, _]) rfl rfl rfl (yZ (cs := [_, _, _]) rfl rfl (yS (cs' := [_, _, _]) rfl rfl rfl rfl rfl (yQ ?_))))))))); refine pzr (yFb rfl (yLd rfl rfl rfl (yN rfl (yMd rfl (yQ (pw_block ?_)))))); refine pw_loop (fun m : Nat => ⟨33, [(3, rwS (0 + m)), (9, .d (.sl 3 (ls.map dLn))), (10, .d (dI ls.length)), (11, .d (dI k)), (16, .d (.sl 2 (x.map dCf))), (17, .d (dI x.length)), (18, .d (dI m))], rwB nm (0 + m), []⟩) (fun m => m ≤ x.length) (fun m => x.length - m) 0 (Nat.zero_le _)
   ⟨rfl, ⟨.refl _, .refl _, .refl _, .refl _, .refl _, .of_eq (congrArg (fun n : Nat => SV.d (dI n)) (by simp)), .refl _, trivial⟩, trivial, trivial, rfl⟩ ?_
  intro m hm
  obtain ⟨z, hz⟩ : ∃ z, z = 0 + m := ⟨_, rfl⟩
  have hzn : 0 + (m + 1) = z + 1 := by omega
  rw [← hz]
  rcases Nat.lt_or_ge m x.length with h2 | h2
  rotate_left
  · have u2 : decide ((m : Int) < (x.length : Int)) = false := decide_eq_false (by omega)
    have hze : cn (k + 1) = z := by rw [hnk]; omega
    clear hz hzn hatk hnk
    cases z with
    | zero =>
     simp only [rwS, rwB]
     refine pzr (yB rfl rfl rfl rfl (yQ (pw_seq ?_))); rw [u2]; refine pw_cf rfl (pw_exit (pw_region (yB rfl rfl rfl rfl (yMd rfl (yQ (q_then ?_))))))
     exact ⟨k + 1, h, arith, rfl, ⟨.of_eq (by rw [hze]; rfl), .refl _, .refl _, .of_eq (congrArg (fun n => SV.d (dI n)) hw), trivial⟩, (by rw [hze]; exact trivial), trivial, (by rw [hze]; rfl)⟩
    | succ z =>
     simp only [rwS, rwB]
     refine pzr (yB rfl rfl rfl rfl (yQ (pw_seq ?_))); rw [u2]; refine pw_cf rfl (pw_exit (pw_region (yB rfl rfl rfl rfl (yMd rfl (yQ (q_then ?_))))))
     exact ⟨k + 1, h, arith, rfl, ⟨.of_eq (by rw [hze]; rfl), .refl _, .refl _, .of_eq (congrArg (fun n => SV.d (dI n)) hw), trivial⟩, (by rw [hze]; exact ⟨⟨_, rfl, lesC_refl _⟩, trivial⟩), trivial, (by rw [hze]; simp [PS.closed, SV.ok, aget, Nat.beq, rwS, rwB, nv, -List.map_take, -List.map_set])⟩
  have u2 : decide ((m : Int) < (x.length : Int)) = true := decide_eq_true (by omega)
  obtain ⟨⟨c0, f⟩, hc⟩ : ∃ a, x[m]? = some a := ⟨_, List.getElem?_eq_getElem h2⟩
  have em := ix dCf x m m (c0, f) rfl hc
  have hw2 := wrapI ((m : Int) + 1) (by omega)
  have hd := hatk m _ hc
  simp only at hd
  rw [← hz] at hd
  have hzl : z < nm.length := (List.getElem?_eq_some_iff.1 hd).1
  have arith2 : x.length - (m + 1) < x.length - m := by omega
  clear hz hc hatk hnk hw
  cases z with
  | zero =>
   have htk : nm.take 1 = [c0] := by rw [show 1 = 0 + 1 by rfl, List.take_add_one, hd]; rfl
   simp only [rwS, rwB]
   refine pzr (yB rfl rfl rfl rfl (yQ (pw_seq ?_))); rw [u2]; refine pw_ct rfl (pw_skip (pw_seq (pw_block (pzr (yW em (by omega) rfl rfl (yLs (ys := [_, _]) rfl rfl rfl (yZ (cs := [_, _]) rfl rfl (yS (cs' := [_, _]) rfl rfl rfl rfl rfl (yQ ?_))))))))); refine pw_region (yMd rfl (yFb rfl (yLd rfl rfl rfl ?_))); refine yR (es := [[_]]) rfl rfl rfl rfl rfl ?_; refine yTn (vs := [encStr c0]) (es := [dC c0]) (m := 1) (by omega) (by omega) (by omega) (by omega) rfl rfl rfl rfl rfl (yAw rfl (yQ (pw_region (yB rfl rfl rfl rfl (yMd rfl (yQ (q_then ?_)))))))
   exact ⟨m + 1, h2, arith2, rfl, ⟨.of_eq (by rw [hzn]; rfl), .refl _, .refl _, .refl _, .refl _, .refl _, .of_eq (congrArg (fun n => SV.d (dI n)) hw2), trivial⟩, (by rw [hzn]; exact ⟨⟨_, rfl, lesC_eq (by rw [htk]; rfl)⟩, trivial⟩), trivial, (by rw [hzn]; simp [PS.closed, SV.ok, aget, Nat.beq, rwS, rwB, nv, -List.map_take, -List.map_set])⟩
  | succ z =>
   have htk : nm.take (z + 1 + 1) = nm.take (z + 1) ++ [c0] := by rw [List.take_add_one, hd]; rfl
   obtain ⟨tk, htk2⟩ : ∃ y, y = nm.take (z + 1) := ⟨_, rfl⟩
   have htl : (tk.map encStr).length = z + 1 := by rw [htk2]; simp; omega
   simp only [rwS, rwB]
   rw [← htk2] at htk ⊢
   clear htk2
   refine pzr (yB rfl rfl rfl rfl (yQ (pw_seq ?_))); rw [u2]; refine pw_ct rfl (pw_skip (pw_seq (pw_block (pzr (yW em (by omega) rfl rfl (yLs (ys := [_, _]) rfl rfl rfl (yZ (cs := [_, _]) rfl rfl (yS (cs' := [_, _]) rfl rfl rfl rfl rfl (yQ ?_))))))))); refine pw_region (yMw rfl (yFb rfl (yLd rfl rfl rfl ?_))); refine yR (es := [[_]]) rfl rfl rfl rfl rfl ?_; refine yTw (us := tk.map encStr) (vs := [encStr c0]) (es := [dC c0]) (m := 1) (n := z + 1) (by omega) (by omega) (by omega) rfl rfl (by rw [htl]; omega) rfl rfl rfl ?_; refine yAw rfl (yQ (pw_region (yB rfl rfl rfl rfl (yMd rfl (yQ (q_then ?_))))))
   exact ⟨m + 1, h2, arith2, rfl, ⟨.of_eq (by rw [hzn]; rfl), .refl _, .refl _, .refl _, .refl _, .refl _, .of_eq (congrArg (fun n => SV.d (dI n)) hw2), trivial⟩, (by rw [hzn]; exact ⟨⟨_, rfl, lesC_eq (by show _ = nv (nm.take (z + 1 + 1)); rw [htk]; simp [nv])⟩, trivial⟩), trivial, (by rw [hzn]; simp [PS.closed, SV.ok, aget, Nat.beq, rwS, rwB, nv, -List.map_take, -List.map_set])⟩
 | succ q =>
  simp only [rwS, rwB]
  refine pzr (yB rfl rfl rfl rfl (yQ (pw_seq ?_))); rw [u1]; refine pw_ct rfl (pw_skip (pw_seq (pw_block (pzr (yW ex (by omega) rfl rfl (yLs (ys := [_, _, _]) rfl rfl rfl (yZ (cs := [_, _, _]) rfl rfl (yS (cs' := [_, _, _]) rfl rfl rfl rfl rfl (yQ ?_))))))))); refine pzr (yFb rfl (yLd rfl rfl rfl (yN rfl (yMd rfl (yQ (pw_block ?_)))))); refine pw_loop (fun m : Nat => ⟨33, [(3, rwS (q + 1 + m)), (9, .d (.sl 3 (ls.map dLn))), (10, .d (dI ls.length)), (11, .d (dI k)), (16, .d (.sl 2 (x.map dCf))), (17, .d (dI x.length)), (18, .d (dI m))], rwB nm (q + 1 + m), []⟩) (fun m => m ≤ x.length) (fun m => x.length - m) 0 (Nat.zero_le _)
   ⟨rfl, ⟨.refl _, .refl _, .refl _, .refl _, .refl _, .of_eq (congrArg (fun n : Nat => SV.d (dI n)) (by simp)), .refl _, trivial⟩, ⟨⟨_, rfl, lesC_refl _⟩, trivial⟩, trivial, by simp [PS.closed, SV.ok, aget, Nat.beq, rwS, rwB, nv, -List.map_take, -List.map_set]⟩ ?_
  intro m hm
  obtain ⟨z, hz⟩ : ∃ z, z = (q + 1) + m := ⟨_, rfl⟩
  have hzn : (q + 1) + (m + 1) = z + 1 := by omega
  rw [← hz]
  rcases Nat.lt_or_ge m x.length with h2 | h2
  rotate_left
  · have u2 : decide ((m : Int) < (x.length : Int)) = false := decide_eq_false (by omega)
    have hze : cn (k + 1) = z := by rw [hnk]; omega
    have hz1 : 0 < z := by omega
    clear hz hzn hatk hnk
    obtain ⟨y, rfl⟩ : ∃ y, z = y + 1 := ⟨z - 1, by omega⟩
    simp only [rwS, rwB]
    refine pzr (yB rfl rfl rfl rfl (yQ (pw_seq ?_))); rw [u2]; refine pw_cf rfl (pw_exit (pw_region (yB rfl rfl rfl rfl (yMd rfl (yQ (q_then ?_))))))
    exact ⟨k + 1, h, arith, rfl, ⟨.of_eq (by rw [hze]; rfl), .refl _, .refl _, .of_eq (congrArg (fun n => SV.d (dI n)) hw), trivial⟩, (by rw [hze]; exact ⟨⟨_, rfl, lesC_refl _⟩, trivial⟩), trivial, (by rw [hze]; simp [PS.closed, SV.ok, aget, Nat.beq, rwS, rwB, nv, -List.map_take, -List.map_set])⟩
  have u2 : decide ((m : Int) < (x.length : Int)) = true := decide_eq_true (by omega)
  obtain ⟨⟨c0, f⟩, hc⟩ : ∃ a, x[m]? = some a := ⟨_, List.getElem?_eq_getElem h2⟩
  have em := ix dCf x m m (c0, f) rfl hc
  have hw2 := wrapI ((m : Int) + 1) (by omega)
  have hd := hatk m _ hc
  simp only at hd
  rw [← hz] at hd
  have hzl : z < nm.length := (List.getElem?_eq_some_iff.1 hd).1
  have arith2 : x.length - (m + 1) < x.length - m := by omega
  have hz1 : 0 < z := by omega
  clear hz hc hatk hnk hw
  obtain ⟨z, rfl⟩ : ∃ y, z = y + 1 := ⟨z - 1, by omega⟩
  have htk : nm.take (z + 1 + 1) = nm.take (z + 1) ++ [c0] := by rw [List.take_add_one, hd]; rfl
  obtain ⟨tk, htk2⟩ : ∃ y, y = nm.take (z + 1) := ⟨_, rfl⟩
  have htl : (tk.map encStr).length = z + 1 := by rw [htk2]; simp; omega
  simp only [rwS, rwB]
  rw [← htk2] at htk ⊢
  clear htk2
  refine pzr (yB rfl rfl rfl rfl (yQ (pw_seq ?_))); rw [u2]; refine pw_ct rfl (pw_skip (pw_seq (pw_block (pzr (yW em (by omega) rfl rfl (yLs (ys := [_, _]) rfl rfl rfl (yZ (cs := [_, _]) rfl rfl (yS (cs' := [_, _]) rfl rfl rfl rfl rfl (yQ ?_))))))))); refine pw_region (yMw rfl (yFb rfl (yLd rfl rfl rfl ?_))); refine yR (es := [[_]]) rfl rfl rfl rfl rfl ?_; refine yTw (us := tk.map encStr) (vs := [encStr c0]) (es := [dC c0]) (m := 1) (n := z + 1) (by omega) (by omega) (by omega) rfl rfl (by rw [htl]; omega) rfl rfl rfl ?_; refine yAw rfl (yQ (pw_region (yB rfl rfl rfl rfl (yMd rfl (yQ (q_then ?_))))))
  exact ⟨m + 1, h2, arith2, rfl, ⟨.of_eq (by rw [hzn]; rfl), .refl _, .refl _, .refl _, .refl _, .refl _, .of_eq (congrArg (fun n => SV.d (dI n)) hw2), trivial⟩, (by rw [hzn]; exact ⟨⟨_, rfl, lesC_eq (by show _ = nv (nm.take (z + 1 + 1)); rw [htk]; simp [nv])⟩, trivial⟩), trivial, (by rw [hzn]; simp [PS.closed, SV.ok, aget, Nat.beq, rwS, rwB, nv, -List.map_take, -List.map_set])⟩
theorem take_next {α : Type} {l r : List α} {i : Nat} {x : α} (h : l.take i = r.take i) (hx : l[i]? = some x) (hy : r[i]? = some x) : l.take (i + 1) = r.take (i + 1) := by
 rw [List.take_add_one, List.take_add_one, h, hx, hy]
theorem wEqS (l r : List Str) (hl : l.length ≤ 1000000) (hr : r.length ≤ 1000000) : PCalls Tryz.prog 24 [dStrs l, dStrs r] (.d (dB (decide (l = r)))) := by
 refine pcalls_of_pw Tryz.func24 rfl Tryz.ntmps24 Tryz.results24 (by simp) fun B w0 => ?_
 by_cases hn : l.length = r.length
 rotate_left
 · have t1 : (((l.map fun s => [dS s]).length : Int) != ((r.map fun s => [dS s]).length : Int)) = true := by simp; omega
   rw [decide_eq_false fun e => hn (by rw [e])]
   refine pzr (yAd rfl (yQ (pw_seq (pzr (yMd rfl (yN rfl (yMd rfl (yN rfl (yB rfl rfl rfl rfl ?_))))))))); refine yQ (q_then ?_); rw [t1]; refine pw_ct rfl (pzr (yAd rfl (yQ (pw_ret (q_then_ret ?_)))))
   exact q_ret _ (.tmp rfl .nil) rfl
 have t1 : (((l.map fun s => [dS s]).length : Int) != ((r.map fun s => [dS s]).length : Int)) = false := by simp; omega
 refine pzr (yAd rfl (yQ (pw_seq (pzr (yMd rfl (yN rfl (yMd rfl (yN rfl (yB rfl rfl rfl rfl ?_))))))))); refine yQ (q_then ?_); rw [t1]; refine pw_cf rfl (pw_skip (pw_seq (pzr (yMd rfl (yN rfl (yMd rfl (yQ (pw_block ?_)))))))); refine pw_loop (fun i : Nat => ⟨26, [(0, .d (dStrs l)), (1, .d (dStrs r)), (12, .d (dI l.length)), (13, .d (dI i))], [], []⟩) (fun i => i ≤ l.length ∧ l.take i = r.take i) (fun i => l.length - i) 0 ⟨Nat.zero_le _, rfl⟩ ⟨rfl, ⟨.refl _, .refl _, .of_eq (congrArg (fun n : Nat => SV.d (dI n)) (by simp)), .refl _, trivial⟩, trivial, trivial, rfl⟩ ?_
 rintro i ⟨hi, h0⟩
 rcases Nat.lt_or_ge i l.length with h | h
 · have u1 : decide ((i : Int) < (l.length : Int)) = true := decide_eq_true (by omega)
   obtain ⟨x, hx⟩ : ∃ a, l[i]? = some a := ⟨_, List.getElem?_eq_getElem h⟩
   obtain ⟨y, hy⟩ : ∃ a, r[i]? = some a := ⟨_, List.getElem?_eq_getElem (by omega)⟩
   have ex := ix (fun s => [dS s]) l i i x rfl hx
   have ey := ix (fun s => [dS s]) r i i y rfl hy
   have hw := wrapI ((i : Int) + 1) (by omega)
   by_cases e : x = y
   · have hv : (!(x == y)) = false := by simp [e]
     refine pzr (yB rfl rfl rfl rfl (yQ (pw_seq ?_))); rw [u1]; refine pw_ct rfl (pw_skip (pw_seq (pw_block (pzr (yMd rfl (yAd rfl (yQ (pw_seq ?_)))))))); refine pw_draw Tryz.mixed (by kernel_rfl) ?_; refine yMd rfl (yMd rfl (yW ex (by omega) rfl rfl (yLr rfl rfl (yMd rfl (yMd rfl (yW ey (by omega) rfl rfl (yLr rfl rfl (yBsn rfl rfl (yQ ?_))))))))); refine q_then ?_; rw [hv]; refine pw_cf rfl (pw_skip (pw_region (yB rfl rfl rfl rfl (yMd rfl (yQ (q_then ?_))))))
     exact ⟨i + 1, ⟨by omega, take_next h0 hx (e ▸ hy)⟩, by omega, rfl, ⟨.refl _, .refl _, .refl _, .of_eq (congrArg (fun n => SV.d (dI n)) hw), trivial⟩, trivial, trivial, rfl⟩
   · have hv : (!(x == y)) = true := by simpa using e
     rw [decide_eq_false fun e2 => e (by subst e2; rw [hx] at hy; exact Option.some.inj hy)]
     refine pzr (yB rfl rfl rfl rfl (yQ (pw_seq ?_))); rw [u1]; refine pw_ct rfl (pw_skip (pw_seq (pw_block (pzr (yMd rfl (yAd rfl (yQ (pw_seq ?_)))))))); refine pw_draw Tryz.mixed (by kernel_rfl) ?_; refine yMd rfl (yMd rfl (yW ex (by omega) rfl rfl (yLr rfl rfl (yMd rfl (yMd rfl (yW ey (by omega) rfl rfl (yLr rfl rfl (yBsn rfl rfl (yQ ?_))))))))); refine q_then ?_; rw [hv]; refine pw_ct rfl (pzr (yAd rfl (yQ (pw_ret (q_blk_ret (q_then_ret (q_then_ret (q_blk_ret (q_then_ret ?_)))))))))
     exact q_ret _ (.tmp rfl .nil) rfl
 · have u1 : decide ((i : Int) < (l.length : Int)) = false := decide_eq_false (by omega)
   rw [List.take_of_length_le (by omega), List.take_of_length_le (by omega)] at h0
   rw [decide_eq_true h0]
   refine pzr (yB rfl rfl rfl rfl (yQ (pw_seq ?_))); rw [u1]; refine pw_cf rfl (pw_exit (pzr (yAd rfl (yQ (pw_ret ?_)))))
   exact q_ret _ (.tmp rfl .nil) rfl
theorem wValues (l : List Str) (hl : l.length ≤ 1000000) : PCalls Tryz.prog 36 [dStrs l] (.d (dIt Tryz.prog (l.map fun s => [vS s]))) := by
 refine pcalls_of_pw Tryz.func36 rfl Tryz.ntmps36 Tryz.results36 (by simp) fun B w0 => ?_
 refine pzr (yK (cs := [_]) rfl rfl (yAd rfl (yQ (pzr (yCm rfl (yAf rfl (yQ ?_))))))); refine pw_it1 2 1 (l.map fun s => [vS s]) (ds := [dStrs l]) (vals1_spec l hl) rfl rfl rfl ?_; refine pw_ret ?_
 exact q_ret _ (.tmp rfl .nil) rfl
abbrev asT : Nat := 9 * 100000 + 2
theorem wAppendSeq (l : List Str) (hl : l.length ≤ 1000000) : POwn Tryz.prog 123 [.val (.slice none 0 0), dIt Tryz.prog (l.map fun s => [vS s])] 9 1 (l.map dC) := by
 refine pown_of_pwN (t := asT) Tryz.func123 rfl Tryz.ntmps123 Tryz.results123 (by simp) rfl fun B w0 hrl => ?_
 refine pzr (yK (cs := [_]) rfl rfl (yAd rfl (yQ ?_))); refine pw_tokb 2 0 asT 1 rfl rfl rfl rfl ?_; refine pw_seq (pzr (yMd rfl (yQ (pw_block ?_)))); refine pw_le (st' := ⟨13, [(2, .bx 2 0), (6, .d (dIt Tryz.prog (l.map fun s => [vS s])))], [(2, [.ts asT 1 ((l.take 0).map dC)])], [(asT, ((l.take 0).map dC).length)]⟩) ⟨rfl, ⟨.refl _, .refl _, trivial⟩, ⟨⟨_, rfl, lesC_refl _⟩, trivial⟩, ⟨rfl, trivial⟩, rfl⟩ ?_; refine pw_rf (l.map fun s => [vS s]) [(5, 7)] (fun _ => True) (fun i => [(2, [.ts asT 1 ((l.take i).map dC)])]) (fun i => [(asT, ((l.take i).map dC).length)]) trivial hrl rfl (fun x hx => by obtain ⟨p, -, rfl⟩ := List.mem_map.1 hx; rfl) rfl rfl (by decide) ?_ ?_
 · intro i x hx _
   rw [List.getElem?_map, Option.map_eq_some_iff] at hx
   obtain ⟨s, hs, rfl⟩ := hx
   have hil := (List.getElem?_eq_some_iff.1 hs).1
   refine ⟨[.any, .any, .bx 2 0, .any, .any, .d (dS s)], of_decide_eq_true rfl, .any (.any (.keep rfl (.refl _) (.any (.any (.new rfl rfl .nil))))), rfl, rfl, by kernel_rfl, fun B w0 => ?_⟩
   have htk : l.take (i + 1) = l.take i ++ [s] := by rw [List.take_add_one, hs]; rfl
   have hli : (l.take i).length ≤ 1000000 := by rw [List.length_take]; omega
   obtain ⟨zs, hz⟩ : ∃ z, z = l.take i := ⟨_, rfl⟩
   rw [← hz] at htk hli ⊢
   clear hz
   refine pw_block (pw_region (yLt rfl rfl rfl (yMd rfl ?_))); refine yR (es := [[_]]) rfl rfl rfl rfl rfl ?_; refine yT (es' := (zs ++ [s]).map dC) (m := ((zs ++ [s]).map dC).length) (by simp; omega) (by simp; omega) rfl rfl rfl rfl rfl (by simp) (by simp) ?_; refine ySt (cs' := [_]) rfl rfl rfl rfl (yQ (q_blk ?_))
   exact ⟨trivial, ⟨(by rw [htk]; rfl), trivial⟩, ⟨(by rw [htk]; rfl), trivial⟩⟩
 · intro _
   rw [List.length_map, List.take_length]
   refine pzr (yLt rfl rfl rfl (yAt rfl (yQ (pw_ret ?_))))
   exact q_own rfl rfl
theorem wCollect (l : List Str) (hl : l.length ≤ 1000000) : POwn Tryz.prog 74 [dIt Tryz.prog (l.map fun s => [vS s])] 9 1 (l.map dC) := by
 have c1 := wAppendSeq l hl
 refine pown_of_pw (t := asT) Tryz.func74 rfl Tryz.ntmps74 Tryz.results74 (by simp) rfl fun B w0 => ?_
 refine pzr (yAd rfl (yQ (pzr (yMd rfl (yCo (t := asT) c1 rfl rfl rfl rfl (yAt rfl (yQ (pw_ret ?_))))))))
 exact q_own rfl rfl
theorem wSortedV (l : List Str) (hl : l.length ≤ 1000000) (h0 : l ≠ []) : PCalls Tryz.prog 35 [dIt Tryz.prog (l.map fun s => [vS s])] (.d (dStrs (mSort l))) := by
 have c1 := wCollect l hl
 have c5 := sort_row l hl
 have hpos : 0 < l.length := List.length_pos_iff.2 h0
 have hch := chunk_one (fun a : Str => DV.val (encStr a)) l
 have hcm := chunk_one (fun a : Str => DV.val (encStr a)) (mSort l)
 have hml := mSort_len l
 obtain ⟨M, hM⟩ : ∃ M, M = mSort l := ⟨_, rfl⟩
 rw [← hM] at c5 hcm hml ⊢
 clear hM
 refine pcalls_of_pw Tryz.func35 rfl Tryz.ntmps35 Tryz.results35 (by simp) fun B w0 => ?_
 refine pzr (yAd rfl (yQ (pzr (yMd rfl ?_)))); refine yCob (vs := l.map encStr) c1 (by rw [List.length_map]; exact hpos) (by rw [List.length_map, List.map_map]; exact hch) (by simp) rfl rfl ?_; refine yAw rfl (yQ (pzr (yMw rfl ?_))); refine yRb c5 (by simp) rfl rfl rfl ?_; refine yQ ?_; refine pw_frz 3 5 (es := M.map dC) (ds := M.map fun a => DV.val (encStr a)) (by simp [hml]) (by simpa [hml] using hcm) (toDs_nv M) rfl rfl ?_; refine pzr (yMd rfl (yAd rfl (yQ (pw_ret ?_))))
 exact q_ret _ (.tmp rfl .nil) rfl
def stdOk (n : Int) : Bool := match fndR stdR n with
 | none => false
 | some r => decide (r.1 = n) && (decide (rulE r = 0) && (balB r.2 && (qR r && (uniS (rNm r.2) == iSort (nmsK n)))))
theorem std_all : (List.range 19).all (fun i => stdOk ((i + 1 : Nat) : Int)) = true := by kernel_rfl
theorem std_kinds : stdR.all (fun r => (kndF r.1).isSome) = true := by kernel_rfl
theorem std_use : ruI stdR chtA = (0, 0) := by
 rw [ruI, show nf = nfi from funext nf_i]
 kernel_rfl
theorem cht_ok : ctE chtA = 0 := by kernel_rfl
theorem std_no {n : Int} (h : kndF n = none) : fndR stdR n = none := by
 have hk := std_kinds
 obtain ⟨S, hS⟩ : ∃ S, S = stdR := ⟨_, rfl⟩
 rw [← hS] at hk ⊢
 cases e : fndR S n with
 | none => rfl
 | some r =>
  have h1 := List.all_eq_true.1 hk r (List.mem_of_find?_eq_some e)
  have h2 : r.1 = n := by simpa using List.find?_some e
  rw [h2, h] at h1
  cases h1
theorem std_in {n : Int} (h : (kndF n).isSome = true) : ∃ r, fndR stdR n = some r ∧ r.1 = n ∧ rulE r = 0 ∧ balB r.2 = true ∧ bdR r ∧ uniS (rNm r.2) = mSort (nmsK n) := by
 have h0 : stdOk n = true := by
  by_cases hr : n < 1 ∨ 19 < n
  · rw [kndF_no hr] at h; cases h
  · have := List.all_eq_true.1 std_all (n.toNat - 1) (List.mem_range.2 (by omega))
    rwa [show ((n.toNat - 1 + 1 : Nat) : Int) = n by omega] at this
 unfold stdOk at h0
 split at h0
 · cases h0
 · rename_i r e
   simp only [Bool.and_eq_true, decide_eq_true_eq, beq_iff_eq] at h0
   exact ⟨r, e, h0.1, h0.2.1, h0.2.2.1, bdR_of h0.2.2.2.1, by rw [mSort_i]; exact h0.2.2.2.2⟩
theorem nms_bd (n : Int) : (nmsK n).length ≤ 1000000 ∧ ((kndF n).isSome = true → nmsK n ≠ []) := by
 have h2 : ∀ k ∈ kndL, k.2.2.1.length ≤ 4 ∧ k.2.2.1 ≠ [] := by decide
 rw [nmsK]
 cases h : kndF n with
 | none => exact ⟨by simp, fun h => by cases h⟩
 | some k =>
  have := h2 k (kndF_some h).1
  exact ⟨Nat.le_trans this.1 (by omega), fun _ => this.2⟩
theorem rNm_len {ls : List Ln} {A B : Nat} (h1 : ls.length ≤ A) (h2 : ∀ l ∈ ls, l.2.2.length ≤ B) : (rNm ls).length ≤ A * B := by
 rw [← rNm_eq, List.length_map]
 exact lnsC_len h1 h2
theorem lawStandard (n : Int) : PCalls Tryz.prog 6 [dI n] (.d (dB true)) := by
 have k0 := wAwake
 have s0 := wStandard
 have h0 := wChart
 have c0 := wCheckRu stdR chtA (by rw [stdL]; omega) stdB chtB.1 chtB.2
 rw [std_use] at c0
 have n0 := wNamesK n
 have f0 := wFindR stdR n (by rw [stdL]; omega)
 have a0 := wCheckAll chtA chtB.1 chtB.2
 rw [cht_ok] at a0
 obtain ⟨hnl, hne⟩ := nms_bd n
 cases hk : (kndF n).isSome with
 | false =>
  have hk0 : kndF n = none := by simpa using hk
  have e1 : erK n = 7 := by rw [erK, hk]; rfl
  rw [e1] at n0
  rw [std_no hk0] at f0
  have e0 : nmsK n = [] := by rw [nmsK, hk0]; rfl
  rw [e0] at n0
  rw [show orR none = (0, []) from rfl] at f0
  obtain ⟨S, hS⟩ : ∃ S, S = stdR := ⟨_, rfl⟩
  obtain ⟨C, hC⟩ : ∃ C, C = chtA := ⟨_, rfl⟩
  rw [← hS] at s0 c0 f0
  rw [← hC] at h0 c0 a0
  clear hS hC
  refine pcalls_of_pw Tryz.func6 rfl Tryz.ntmps6 Tryz.results6 (by simp) fun B w0 => ?_
  refine pzr (yAd rfl (yQ (pzr (yC (s0) rfl rfl (yAd rfl (yQ (pzr (yMd rfl (yC (h0) rfl rfl ?_))))))))); refine yC (c0) rfl rfl (yMp rfl (yX rfl rfl (yX rfl rfl (yAd rfl (yAd rfl (yQ (pzr (yMd rfl (yC (n0) rfl rfl ?_))))))))); refine yMp rfl (yX rfl rfl (yX rfl rfl (yAd rfl (yAd rfl (yQ (pzr (yMd rfl (yMd rfl (yC (f0) rfl rfl ?_))))))))); refine yMp rfl (yX rfl rfl (yX rfl rfl (yZ (cs := [_, _]) rfl rfl (yS (cs' := [_, _]) rfl rfl rfl rfl rfl (yAd rfl (yQ (pw_seq (pzr (yMd rfl ?_))))))))); refine yB rfl rfl rfl rfl (yMd rfl (yMd rfl (yB rfl rfl rfl rfl (yVd rfl rfl (yMd rfl (yMd rfl (yMd rfl (yB rfl rfl rfl rfl ?_)))))))); refine yBbn (c := false) Tryz.underlying4 (by rfl) rfl rfl ?_; refine yVd rfl rfl (yMd rfl (yC (h0) rfl rfl (yC (a0) rfl rfl (yB rfl rfl rfl rfl (yVd rfl rfl (yQ (pw_cf rfl (pw_skip (pw_seq ?_))))))))); refine pzr (yMd rfl (yU rfl rfl rfl (yQ (pw_ct rfl (pzr (yMd rfl (yN rfl (yB rfl rfl rfl rfl (yMd rfl ?_))))))))); refine yC (k0) rfl rfl (yPd rfl rfl (yAd rfl (yQ (pw_ret (q_then_ret ?_)))))
  exact q_ret _ (.tmp rfl .nil) rfl
 | true =>
  obtain ⟨r, hr, hrn, hr0, hrb, hrB, hru⟩ := std_in hk
  have b0 := wBalanced r hrB
  rw [hr0, hrb] at b0
  have hlw := (rE_zero (tp := tmpB nameB) (ce := chE)).1 hr0
  have hll : ∀ l ∈ r.2, l.2.2.length ≤ 16 := fun l hl => (chE_zero.1 (hlw.2.2 l hl).2).1
  have m0 := wNamesR r (by have := hlw.2.1; omega) (fun l hl => by have := hll l hl; omega) (by have := rNm_len hlw.2.1 hll; omega)
  rw [hru] at m0
  have e1 : erK n = 0 := by rw [erK, hk]; rfl
  rw [e1] at n0
  rw [hr] at f0
  have v0 := wValues (nmsK n) hnl
  have y0 := wSortedV (nmsK n) hnl (hne hk)
  have e0 := wEqS (mSort (nmsK n)) (mSort (nmsK n)) (by rw [mSort_len]; exact hnl) (by rw [mSort_len]; exact hnl)
  rw [decide_eq_true rfl] at e0
  rw [show orR (some r) = r from rfl] at f0
  obtain ⟨q, ls⟩ := r
  simp only at hrn
  subst hrn
  obtain ⟨S, hS⟩ : ∃ S, S = stdR := ⟨_, rfl⟩
  obtain ⟨C, hC⟩ : ∃ C, C = chtA := ⟨_, rfl⟩
  obtain ⟨T, hT⟩ : ∃ T, T = nmsK q := ⟨_, rfl⟩
  obtain ⟨M, hM⟩ : ∃ M, M = mSort T := ⟨_, rfl⟩
  rw [← hT, ← hM] at m0 y0 e0
  rw [← hT] at n0 v0
  rw [← hS] at s0 c0 f0
  rw [← hC] at h0 c0 a0
  obtain ⟨V, hV⟩ : ∃ V : DV, V = dIt Tryz.prog (T.map fun s => [vS s]) := ⟨_, rfl⟩
  rw [← hV] at v0 y0
  have hqq : (q == q) = true := beq_self_eq_true q
  clear hS hC hT hM hV hru hll hlw hr0 hrb hrB hr hk hne hnl
  refine pcalls_of_pw Tryz.func6 rfl Tryz.ntmps6 Tryz.results6 (by simp) fun B w0 => ?_
  refine pzr (yAd rfl (yQ (pzr (yC (s0) rfl rfl (yAd rfl (yQ (pzr (yMd rfl (yC (h0) rfl rfl ?_))))))))); refine yC (c0) rfl rfl (yMp rfl (yX rfl rfl (yX rfl rfl (yAd rfl (yAd rfl (yQ (pzr (yMd rfl (yC (n0) rfl rfl ?_))))))))); refine yMp rfl (yX rfl rfl (yX rfl rfl (yAd rfl (yAd rfl (yQ (pzr (yMd rfl (yMd rfl (yC (f0) rfl rfl ?_))))))))); refine yMp rfl (yX rfl rfl (yX rfl rfl (yZ (cs := [_, _]) rfl rfl (yS (cs' := [_, _]) rfl rfl rfl rfl rfl (yAd rfl (yQ (pw_seq (pzr (yMd rfl ?_))))))))); refine yB rfl rfl rfl rfl (yMd rfl (yMd rfl (yB rfl rfl rfl rfl (yVd rfl rfl (yMd rfl (yMd rfl (yMd rfl (yB rfl rfl rfl rfl ?_)))))))); refine yBbn (c := false) Tryz.underlying4 (by rfl) rfl rfl ?_; refine yVd rfl rfl (yMd rfl (yC (h0) rfl rfl (yC (a0) rfl rfl (yB rfl rfl rfl rfl (yVd rfl rfl (yQ (pw_cf rfl (pw_skip (pw_seq ?_))))))))); refine pzr (yMd rfl (yU rfl rfl rfl (yQ (pw_cf rfl (pw_skip (pzr (yLa (ys := [_, _]) rfl rfl rfl rfl (yC (b0) rfl rfl (yMp rfl ?_))))))))); refine yX rfl rfl (yX rfl rfl (yAd rfl (yAd rfl (yQ (pzr (yLa (ys := [_, _]) rfl rfl rfl rfl (yC (m0) rfl rfl (yAd rfl (yQ ?_))))))))); refine pzr (yMd rfl (yB rfl rfl rfl rfl (yMd rfl (yMd rfl (yPd rfl rfl (yMd rfl (yFb rfl (yLd rfl rfl rfl (yMd rfl ?_))))))))); refine yB rfl rfl rfl rfl (yPd rfl rfl (yMd rfl ?_)); rw [hqq]; refine yMd rfl (yMd rfl (yC (v0) rfl rfl (yC (y0) rfl rfl (yC (e0) rfl rfl (yPd rfl rfl (yMd rfl (yC (k0) rfl rfl (yPd rfl rfl (yAd rfl ?_))))))))); refine yQ (pw_ret ?_)
  exact q_ret _ (.tmp rfl .nil) rfl
end Go.Proofs.YtddfimjiihggmaaGreatDoor