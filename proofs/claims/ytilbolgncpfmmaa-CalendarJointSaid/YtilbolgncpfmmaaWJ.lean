/- Sort and Compact over rows of one's own, Grow of nothing, for this seat. -/
import Derived.Test.YtilbolgncpfmmaaPxO
import Derived.Test.YtilbolgncpfmmaaLaid
import Derived.Test.YtilbolgncpfmmaaSortDay
import Derived.Test.YtilbolgncpfmmaaAd
import Derived.Sort.OwnSortedInts
import Derived.Shelf.SlicesE.Compact
import Derived.Test.YtilbolgncpfmmaaBiz
import Derived.Lib.SlicesCompact
import Derived.Test.YtilbolgncpfmmaaW20
import Derived.Test.YtilbolgncpfmmaaW21
namespace Go.Proofs.Ytilbolgncpfmmaa
open Go.RowKit Px Go.Sort Go.Lib

abbrev iV (zs : List Int) : List Value := zs.map (Value.int .i64)
theorem dZ_dVs (zs : List Int) : zs.map dZ = dVs (iV zs) := by simp [dVs, iV]
theorem iV_one (zs : List Int) : ∀ u ∈ iV zs, u.oneCell' = true := fun u hu => by obtain ⟨z, -, rfl⟩ := List.mem_map.1 hu; rfl
theorem grownBy_refl (w : World) (r : Option Nat) : w.grownBy w r := ⟨rfl, rfl, rfl, Nat.le_refl _, fun _ _ _ => rfl⟩

theorem sort_row {f E : Nat} (hno : ∀ (p : Option Addr) (cap : Nat) (w : World), Calls Try.prog f #[.slice p 0 cap] w fun e w' => e = .returned (.tuple #[]) ∧ w' = w)
    (hs : ∀ (blk off cap : Nat) (zs : List Int) (w : World), Holds (Value.int .i64) w blk off zs.toArray → blk < w.heap.size → zs.length < 4611686018427387904 → Calls Try.prog f #[.slice (some ⟨blk, off, none⟩) zs.length cap] w fun e w' => e = .returned (.tuple #[]) ∧ ∃ n os, w' = grow (putRow (Value.int .i64) (Sort.ahead w n) blk off (zs.mergeSort fun x y => decide (x ≤ y)).toArray) os)
    (zs : List Int) (hl : zs.length < 4611686018427387904) : PRow Try.prog f E (iV zs) (iV (zs.mergeSort fun x y => decide (x ≤ y))) false := by
  intro N w v hown hN
  rw [List.length_map] at hown
  rcases hown.2 with ⟨rfl, h0⟩ | ⟨g, cap, cur, rfl, hg, hb, hn, hcap, hsz, ht⟩
  · have hz : zs = [] := List.eq_nil_of_length_eq_zero h0
    subst hz
    refine (hno none 0 w).mono ?_
    rintro e w' ⟨rfl, rfl⟩
    exact ⟨_, fun h => (by cases h), fun _ => ⟨rfl, rfl⟩, by simpa using hown, grownBy_refl _ _⟩
  · refine (hs g 0 cap zs w (holds_of_blockI hb (by simpa using ht)) (Array.getElem?_eq_some_iff.1 hb).1 hl).mono ?_
    rintro e w' ⟨rfl, n, os, rfl⟩
    refine ⟨_, fun h => (by cases h), fun _ => ⟨rfl, rfl⟩, ?_, grownBy_sortedI _⟩
    have := ownsRow_sortedI (n := n) (os := os) (ts := zs.mergeSort fun x y => decide (x ≤ y)) (ss := zs) (by simp) hg hb hn hcap hsz
    simpa using this
theorem r121 (zs : List Int) (hl : zs.length ≤ 1000000) : PRow Try.prog 121 3 (iV zs) (iV (zs.mergeSort fun x y => decide (x ≤ y))) false :=
  sort_row (fun p cap w => AnyG.slices_Sort_int_none Try.sortInt p cap w) (fun blk off cap zs w h1 h2 h3 => AnyG.slices_Sort_int Try.sortInt blk off cap zs w h1 h2 h3) zs (by omega)
theorem r85 (zs : List Int) (hl : zs.length ≤ 1000000) : PRow Try.prog 85 26 (iV zs) (iV (zs.mergeSort fun x y => decide (x ≤ y))) false :=
  sort_row (fun p cap w => AnyG.slices_Sort_int_none Try.sortDay p cap w) (fun blk off cap zs w h1 h2 h3 => AnyG.slices_Sort_int Try.sortDay blk off cap zs w h1 h2 h3) zs (by omega)

theorem comp_row {f E : Nat} (hno : ∀ w : World, Calls Try.prog f #[.slice none 0 0] w fun e w' => e = .returned (.slice none 0 0) ∧ w' = w)
    (hs : ∀ (blk off cap : Nat) (d : Array Int) (w : World), Holds (Value.int .i64) w blk off d → d.size ≤ 9223372036854775807 → d.size ≤ cap →
      Calls Try.prog f #[.slice (some ⟨blk, off, none⟩) d.size cap] w fun e w' => e = .returned (.slice (some ⟨blk, off, none⟩) (compactUpTo d d.size).length cap) ∧ ∃ q, w' = putRow (Value.int .i64) (Sort.ahead w q) blk off (compactUpTo d d.size ++ List.replicate (d.size - (compactUpTo d d.size).length) 0).toArray)
    (zs : List Int) (hl : zs.length ≤ 1000000) : PRow Try.prog f E (iV zs) (iV (compact zs)) true := by
  intro N w v hown hN
  rw [List.length_map] at hown
  rcases hown.2 with ⟨rfl, h0⟩ | ⟨g, cap, cur, rfl, hg, hb, hn, hcap, hsz, ht⟩
  · have hz : zs = [] := List.eq_nil_of_length_eq_zero h0
    subst hz
    refine (hno w).mono ?_
    rintro e w' ⟨rfl, rfl⟩
    exact ⟨_, fun _ => rfl, fun h => (by cases h), World.ownsRow_nil _ _ _ _, grownBy_refl _ _⟩
  · have h1 := hs g 0 cap zs.toArray w (holds_of_blockI hb (by simpa using ht)) (by simp; omega) (by simpa using hn)
    simp only [List.size_toArray] at h1
    refine h1.mono ?_
    rintro e w' ⟨rfl, q, rfl⟩
    have hcl : (compactUpTo zs.toArray zs.length).length ≤ zs.length := by
      unfold compactUpTo
      rw [List.length_map]
      exact Nat.le_trans (List.length_filter_le _ _) (by simp)
    obtain ⟨ts, hts⟩ : ∃ ts, ts = compactUpTo zs.toArray zs.length ++ List.replicate (zs.length - (compactUpTo zs.toArray zs.length).length) 0 := ⟨_, rfl⟩
    have htl : ts.length = zs.length := by rw [hts]; simp; omega
    have hgl : g < w.heap.size := (Array.getElem?_eq_some_iff.1 hb).1
    have hheap : (putRow (Value.int .i64) (Sort.ahead w q) g 0 ts.toArray).heap[g]? = some (.cells (putCells (Value.int .i64) 0 ts.toArray cur) E (0, 0)) := by
      simp [putRow, mapBlock, Sort.ahead, Array.getElem?_modify, hb, onCells]
    rw [← hts]
    refine ⟨_, fun _ => rfl, fun h => (by cases h), ⟨by simp, .inr ⟨g, cap, _, by simp [compact], hg, hheap, ?_, hcap, by simp [putCells, hsz], ?_⟩⟩, ?_⟩
    · rw [List.length_map]; unfold compact; omega
    · have h2 := take_putCellsI cur ts (by rw [htl]; omega)
      have h3 : (putCells (Value.int .i64) 0 ts.toArray cur).toList.take (iV (compact zs)).length = ((putCells (Value.int .i64) 0 ts.toArray cur).toList.take ts.length).take (iV (compact zs)).length := by
        rw [List.take_take]; congr 1; rw [List.length_map]; unfold compact; omega
      rw [Nat.mul_one, h3, h2, ← List.map_take, List.length_map, hts]
      unfold compact iV
      rw [List.take_left]
    · refine ⟨rfl, rfl, rfl, by simp, fun k hk hne => ?_⟩
      have : g ≠ k := fun e => hne (by rw [e]; rfl)
      simp [putRow, mapBlock, Sort.ahead, Array.getElem?_modify, this]
theorem comp_nil122 (w : World) : Calls Try.prog 122 #[.slice none 0 0] w fun e w' => e = .returned (.slice none 0 0) ∧ w' = w := by
  go_enter Try.func122, Try.ntmps122
  go_wp2
  go_ret
  exact ⟨rfl, rfl⟩
theorem comp_nil124 (w : World) : Calls Try.prog 124 #[.slice none 0 0] w fun e w' => e = .returned (.slice none 0 0) ∧ w' = w := by
  go_enter Try.func124, Try.ntmps124
  go_wp2
  go_ret
  exact ⟨rfl, rfl⟩
theorem r122 (zs : List Int) (hl : zs.length ≤ 1000000) : PRow Try.prog 122 3 (iV zs) (iV (compact zs)) true :=
  comp_row comp_nil122 (fun blk off cap d w h1 h2 h3 => AnyE.slices_Compact Try.compInt (Value.int .i64) (fun _ => rfl) (EqlAt.intD _ _ .i64) (NeqAt.intD _ _ .i64) 0 Try.zeroValue3 blk off cap d w h1 h2 h3) zs hl
theorem r124 (zs : List Int) (hl : zs.length ≤ 1000000) : PRow Try.prog 124 26 (iV zs) (iV (compact zs)) true :=
  comp_row comp_nil124 (fun blk off cap d w h1 h2 h3 => AnyE.slices_Compact Try.compDay (Value.int .i64) (fun _ => rfl) (EqlAt.intD _ _ .i64) (NeqAt.intD _ _ .i64) 0 Try.zeroValue26 blk off cap d w h1 h2 h3) zs hl

/-! Grow of nothing -/
theorem run_append_zeros {P : Program} (w : World) (t u ty e : TypeId) (i : TypeInfo) (z : Value) (ht : P.underlying t = some (.slice e)) (hu : P.underlying u = some (.int .i64)) (hi : P.info? e = some i) (hz : i.zero = some z) (n : Nat) (h0 : 0 < n) (hsz : i.size = 1) (hby : i.bytes = 8) (h63 : n ≤ 1000000) :
    (Builtin.append_ #[t, u] ty #[.slice none 0 0, .int .i64 n]).run P w =
      .ok (.slice (some ⟨w.heap.size, 0, none⟩) n (grownCap w n 0 e)) (w.drew.alloc (.cells (Builtin.zeroCells z.cells n ++ Builtin.zeroCells z.cells (grownCap w n 0 e - n)) e)) := by
  have hn : n ≠ 0 := by omega
  have h63' : ¬ (9223372036854775807 < (n : Int)) := by omega
  have h48' : ¬ (281474976710656 < Builtin.nextslicecap n 0 * 8) := by rw [nextslicecap_zero h0]; omega
  have hw : IntKind.i64.wrap (n : Int) = n := wrapI _ (by omega)
  have h1 : ¬ ((n : Int) < 0) := by omega
  have h2 : ¬ (281474976710656 < (n : Int) * 8) := by omega
  simp [Builtin.append_, run_underlying ht, run_underlying hu, sizeOf, typeInfo, zeroValue, hi, hz, Builtin.lenOf, hn, h63', h48', Question.forced, run_firstCells_none, newRow, grownCap, asInt, asIntOf, hw, h1, h2, hsz, hby]

section
variable {P : Program} {ops : Array Oper} {K : PS → Prop} {rest : List Oper} {st : PS} {d : Option Nat} {ty : TypeId} {pos : String} {af : Array Edge} {gd : Option (Nat × Bool)}
theorem ls_slice_nil (T : TypeId) (x y : Operand) {E k : Nat} {kd : IntKind} [hS : SliceOf P T E k] (hx : st.ev x = .d (.val (.slice none 0 0))) (hy : st.ev y = .d (.val (.int kd 0))) (hd : dstOk ⟨d, .slice T x none (some y) none, ty, pos, af, gd⟩ st = true) :
    LocS P ⟨d, .slice T x none (some y) none, ty, pos, af, gd⟩ st (.d (.val (.slice none 0 0))) .no := fun st2 ha =>
  OpS.value (ha.dst hd) fun _ _ g a w h => by
    have h1 := h.eval x
    rw [ha.ev x (by simp [Op.operands]), hx] at h1
    have h2 := h.eval y
    rw [ha.ev y (by simp [Op.operands]), hy] at h2
    refine ⟨.slice none 0 0, w, ?_, Below.refl _ _, DRep.val _ rfl⟩
    simp [execOp, Instr.sliceAt, Instr.slice, Instr.sliceBounds, Instr.sliceBound, DRep.val_eq h1, DRep.val_eq h2, asIntOf, hS.und, hS.size]
theorem ls_cap_nil (T : TypeId) (x : Operand) {E k : Nat} [hS : SliceOf P T E k] (hx : st.ev x = .d (.val (.slice none 0 0))) (hd : dstOk ⟨d, .call { callee := .builtin .cap, args := #[x], argTypes := #[T] }, ty, pos, af, gd⟩ st = true) :
    LocS P ⟨d, .call { callee := .builtin .cap, args := #[x], argTypes := #[T] }, ty, pos, af, gd⟩ st (.d (.val (.int .i64 0))) .no := fun st2 ha =>
  OpS.value (ha.dst hd) fun _ _ g a w h => by
    have h1 := h.eval x
    rw [ha.ev x (by simp [Op.operands, Call.operands]), hx] at h1
    refine ⟨.int .i64 0, w, ?_, Below.refl _ _, DRep.val _ rfl⟩
    simp [execOp, resolve, invoke, builtin, Builtin.cap_, DRep.val_eq h1, hS.und, goInt]
theorem ls_len_nil (T : TypeId) (x : Operand) {E k : Nat} [hS : SliceOf P T E k] (hx : st.ev x = .d (.val (.slice none 0 0))) (hd : dstOk ⟨d, .call { callee := .builtin .len, args := #[x], argTypes := #[T] }, ty, pos, af, gd⟩ st = true) :
    LocS P ⟨d, .call { callee := .builtin .len, args := #[x], argTypes := #[T] }, ty, pos, af, gd⟩ st (.d (.val (.int .i64 0))) .no := fun st2 ha =>
  OpS.value (ha.dst hd) fun _ _ g a w h => by
    have h1 := h.eval x
    rw [ha.ev x (by simp [Op.operands, Call.operands]), hx] at h1
    refine ⟨.int .i64 0, w, ?_, Below.refl _ _, DRep.val _ rfl⟩
    simp [execOp, resolve, invoke, builtin, Builtin.len_, DRep.val_eq h1, hS.und, goInt]
/-- zero values appended to nil: a row of one's own -/
theorem yGz {T U E e t n : Nat} {x y : Operand} [hA : AppOf P T E 1 8] (hU : P.underlying U = some (.int .i64)) (hx : st.ev x = .d (.val (.slice none 0 0))) (hy : st.ev y = .d (.val (.int .i64 n))) (h0 : 0 < n) (hn : n ≤ 1000000) (hz : ∃ u : Value, u.oneCell' = true ∧ ∀ i z, P.info? E = some i → i.zero = some z → z.cells = #[u]) (hE : t / 100000 = E) (ht : st.tget t = none) (hno : st.noTs t = true)
    (h : ∀ vs : List Value, vs.length = n → (∀ u ∈ vs, u.oneCell' = true) → YR P true ops K rest ((st.tput t (dVs vs).length).put (some e) (.ts t 1 (dVs vs)))) (hd : dstOk ⟨some e, .call { callee := .builtin .append, args := #[x, y], argTypes := #[T, U] }, ty, pos, af, gd⟩ st = true := by kernel_rfl)
    (hw : st.want ops ⟨some e, .call { callee := .builtin .append, args := #[x, y], argTypes := #[T, U] }, ty, pos, af, gd⟩ = some true := by rfl) :
    YR P true ops K (⟨some e, .call { callee := .builtin .append, args := #[x, y], argTypes := #[T, U] }, ty, pos, af, gd⟩ :: rest) st := by
  refine .any rfl fun B w0 Q hQ g a w hr => ?_
  obtain ⟨i, z, q1, q2, q3, q4, q5⟩ := hA.inf
  obtain ⟨u, hu1, hu2⟩ := hz
  have hzc := hu2 i z q1 q2
  have h1 := hr.eval x
  rw [hx] at h1
  have h2 := hr.eval y
  rw [hy] at h2
  have hrun0 := run_append_zeros w T U ty E i z hA.und hU q1 q2 n h0 q3 q4 hn
  have hrun : (execOp a.eval ⟨some e, .call { callee := .builtin .append, args := #[x, y], argTypes := #[T, U] }, ty, pos, af, gd⟩).run P w = .ok (.value (.slice (some ⟨w.heap.size, 0, none⟩) n (grownCap w n 0 E))) (w.drew.alloc (.cells (Builtin.zeroCells z.cells n ++ Builtin.zeroCells z.cells (grownCap w n 0 E - n)) E)) := by
    simp only [execOp, resolve, Sem.run_bind, Sem.run_pure, Result.andThen_ok, invoke]
    simp only [List.map_toArray, List.map_cons, List.map_nil, DRep.val_eq h1, DRep.val_eq h2, builtin, Sem.run_bind, hrun0, Result.andThen_ok, Sem.run_pure]
  have hzl : ∀ m, (Builtin.zeroCells z.cells m).toList = List.replicate m u := fun m => by
    rw [hzc]
    apply List.ext_getElem
    · simp [Builtin.zeroCells]
    · intro j h1 h2
      simp [Builtin.zeroCells, Nat.mod_one]
  have hge := grownCap_ge w n 0 E
  have hle := grownCap_le_maxLen w n 0 E (by unfold maxLen; omega)
  obtain ⟨w', hw'⟩ : ∃ w', w' = w.drew.alloc (.cells (Builtin.zeroCells z.cells n ++ Builtin.zeroCells z.cells (grownCap w n 0 E - n)) E) := ⟨_, rfl⟩
  have hheap : w'.heap[w.heap.size]? = some (.cells (Builtin.zeroCells z.cells n ++ Builtin.zeroCells z.cells (grownCap w n 0 E - n)) E (0, 0)) := by rw [hw']; exact heap_alloc_new w.drew _
  have hlist : (Builtin.zeroCells z.cells n ++ Builtin.zeroCells z.cells (grownCap w n 0 E - n)).toList = List.replicate n u ++ List.replicate (grownCap w n 0 E - n) u := by rw [Array.toList_append, hzl, hzl]
  have hown : w'.ownsRow w.heap.size E 1 (.slice (some ⟨w.heap.size, 0, none⟩) n (grownCap w n 0 E)) (dVs (List.replicate n u)).length (List.replicate n u) := by
    refine ⟨by simp, .inr ⟨w.heap.size, grownCap w n 0 E, _, by simp, Nat.le_refl _, hheap, by simpa using hge, hle, ?_, ?_⟩⟩
    · rw [← Array.length_toList, hlist]; simp; omega
    · rw [hlist]; simp
  have hbel : Below w.heap.size w w' := by
    rw [hw']
    exact ⟨rfl, rfl, rfl, by simp, fun k hk => Below.heap_alloc w.drew _ k hk⟩
  have hdr : DRep (OwnF (Fx g) w.heap.size 1 (.slice (some ⟨w.heap.size, 0, none⟩) n (grownCap w n 0 E))) w' (.slice (some ⟨w.heap.size, 0, none⟩) n (grownCap w n 0 E)) (.sl 1 (dVs (List.replicate n u))) := by
    have e : n = (dVs (List.replicate n u)).length := by simp
    have : DRep (OwnF (Fx g) w.heap.size 1 (.slice (some ⟨w.heap.size, 0, none⟩) n (grownCap w n 0 E))) w' (.slice (some ⟨w.heap.size, 0, none⟩) (dVs (List.replicate n u)).length (grownCap w n 0 E)) (.sl 1 (dVs (List.replicate n u))) := by
      refine DRep.of_row (xs := List.replicate n u) (by rw [← e]; exact hge) (by rw [← e]; omega) (fun x hx => by obtain ⟨p, -, rfl⟩ := List.mem_map.1 hx; rfl) (fun _ => ⟨w.heap.size, 0, rfl, fun j v hj => ?_⟩) (fun v hv => by rw [(List.mem_replicate.1 hv).2]; exact hu1) fun i j x y hx hy => ?_
      · have hlt := (List.getElem?_eq_some_iff.1 hj).1
        rw [List.length_replicate] at hlt
        refine ⟨?_, .inr (Nat.le_refl _), fun n' c' hv => ?_⟩
        · simp only [World.cell?, hheap, Option.isSome_none, Bool.false_eq_true, if_false, Nat.zero_add]
          rw [← Array.getElem?_toList, hlist, List.getElem?_append_left (by simpa using hlt)]
          exact hj
        · obtain ⟨-, hn', -⟩ := Value.slice.inj hv
          omega
      · rw [List.getElem?_map, Option.map_eq_some_iff] at hx
        obtain ⟨v, q1, rfl⟩ := hx
        match j, hy with
        | 0, hy => cases hy; exact ⟨v, by simpa using q1, .val _ (by rw [(List.mem_replicate.1 (List.mem_of_getElem? q1)).2]; exact hu1)⟩
        | j + 1, hy => simp at hy
    rw [← e] at this
    exact this
  unfold wpList
  rw [if_pos (want_spec hr hw)]
  refine .inl ?_
  unfold Oper.wp
  rw [hrun, ← hw']
  exact (h _ (by simp) (fun v hv => by rw [(List.mem_replicate.1 hv).2]; exact hu1)).sound hQ (hr.newrow hbel hown hdr hE ht hno (dstOk_spec hd e rfl))
/-- a row of one's own, cut to its beginning; nothing else is told afterwards -/
theorem yCut {T E e t : Nat} {x y : Operand} {kd : IntKind} {m : Nat} {vs : List Value} [hS : SliceOf P T E 1] (hx : st.ev x = .ts t 1 (dVs vs)) (ht : st.tget t = some vs.length) (hy : st.ev y = .d (.val (.int kd m))) (hm : m ≤ vs.length) (hE : t / 100000 = E) (h1 : ∀ u ∈ vs, u.oneCell' = true)
    (h : YR P true ops K rest ⟨st.n, [(e, .ts t 1 (dVs (vs.take m)))], [], [(t, (vs.take m).length)]⟩) (hd : dstOk ⟨some e, .slice T x none (some y) none, ty, pos, af, gd⟩ st = true := by kernel_rfl) (hw : st.want ops ⟨some e, .slice T x none (some y) none, ty, pos, af, gd⟩ = some true := by rfl) :
    YR P true ops K (⟨some e, .slice T x none (some y) none, ty, pos, af, gd⟩ :: rest) st := by
  refine .any rfl fun B w0 Q hQ g a w hr => ?_
  obtain ⟨T', A, cc, h5, h6⟩ := hr.tlen t _ ht
  have hTE := hr.telt t T' h5
  obtain ⟨⟨n', xs, h7⟩, -⟩ := hr.toks t T' h5
  have hn' : n' = vs.length := by
    obtain ⟨A2, c2, q1, -, -⟩ := own_form h7
    rw [h6] at q1; cases q1; rfl
  subst hn'
  have hxe := hr.eval x
  rw [hx] at hxe
  obtain ⟨hdx, q2⟩ := hxe
  obtain ⟨hk, q4⟩ := q2 T' h5
  have ex := (q4 A _ cc h6).2 (by simp)
  rw [hk, hTE, hE] at h7
  have hxs := row_dvs (ex ▸ hdx) h7
  subst hxs
  have hye := hr.eval y
  rw [hy] at hye
  obtain ⟨A2, c2, q1, q3, -⟩ := own_form h7
  have hrun : (execOp a.eval ⟨some e, .slice T x none (some y) none, ty, pos, af, gd⟩).run P w = .ok (.value (.slice A2 m c2)) w := by
    have hn : (0 : Int) ≤ m ∧ (m : Int) ≤ (c2 : Int) := ⟨by omega, by omega⟩
    simp only [execOp, Instr.sliceAt, Instr.slice, Instr.sliceBounds, Instr.sliceBound, ex, q1, DRep.val_eq hye, asIntOf, Sem.run_bind, Sem.run_pure, Result.andThen_ok, hS.und, hn, and_self, if_true, hS.size, Option.map_some, Option.map_none, Nat.sub_zero]
    cases A2 <;> simp [Addr.add]
  have hown : w.ownsRow B E 1 (.slice A2 m c2) (xs.take m).length (xs.take m) := by
    refine ⟨by simp, ?_⟩
    rcases h7.2 with ⟨q5, q6⟩ | ⟨gb, cap, cur, q5, q6, q7, q8, q9, q10, q11⟩
    · rw [q1] at q5
      obtain ⟨rfl, -, rfl⟩ := Value.slice.inj q5
      have : m = 0 := by omega
      subst this
      exact .inl ⟨rfl, by simp⟩
    · rw [q1] at q5
      obtain ⟨rfl, -, rfl⟩ := Value.slice.inj q5
      refine .inr ⟨gb, c2, cur, by rw [List.length_take, Nat.min_eq_left hm], q6, q7, by rw [List.length_take]; omega, q9, q10, ?_⟩
      rw [Nat.mul_one] at q11 ⊢
      have hml : (xs.take m).length = m := by rw [List.length_take]; omega
      rw [hml]
      conv => rhs; rw [← q11]
      rw [List.take_take, Nat.min_eq_left hm]
  unfold wpList
  rw [if_pos (want_spec hr hw)]
  refine .inl ?_
  unfold Oper.wp
  rw [hrun]
  have hlt : e < a.tmps.size := by rw [hr.size]; exact dstOk_spec hd e rfl
  refine h.sound hQ (hr.changed (v := .slice none 0 0) (grownBy_refl _ _) (fun b hb => (by simp [Value.ownBlock] at hb)) hown (fun u hu => h1 u (List.mem_of_mem_take hu)) hE (by simp [Act.put, hr.size]) hr.defers ?_)
  simp only [Act.put]
  rw [getD_set _ _ _ _ _ hlt, if_pos rfl]
end
theorem z3 : ∃ u : Value, u.oneCell' = true ∧ ∀ i z, Try.prog.info? 3 = some i → i.zero = some z → z.cells = #[u] := ⟨.int .i64 0, rfl, fun i z h1 h2 => by
  obtain ⟨i', h3, h4⟩ := Option.map_eq_some_iff.1 Try.inf22
  rw [h3] at h1
  cases h1
  simp at h4
  rw [h4.1] at h2
  cases h2
  rfl⟩
theorem z26 : ∃ u : Value, u.oneCell' = true ∧ ∀ i z, Try.prog.info? 26 = some i → i.zero = some z → z.cells = #[u] := ⟨.int .i64 0, rfl, fun i z h1 h2 => by
  obtain ⟨i', h3, h4⟩ := Option.map_eq_some_iff.1 Try.inf23
  rw [h3] at h1
  cases h1
  simp at h4
  rw [h4.1] at h2
  cases h2
  rfl⟩
end Go.Proofs.Ytilbolgncpfmmaa

/- Plain mathematics of joined calendars: no program in sight. -/
namespace Go.Proofs.Ytilbolgncpfmmaa
open Go.Lib

theorem asc_ext : ∀ {l l' : List Int}, l.Pairwise (· < ·) → l'.Pairwise (· < ·) → (∀ x, x ∈ l ↔ x ∈ l') → l = l'
  | [], [], _, _, _ => rfl
  | [], y :: l', _, _, hm => by have := (hm y).2 (by simp); simp at this
  | x :: l, [], _, _, hm => by have := (hm x).1 (by simp); simp at this
  | x :: l, y :: l', h, h', hm => by
    rw [List.pairwise_cons] at h h'
    have hxy : x = y := by
      rcases List.mem_cons.1 ((hm x).1 (by simp)) with e | e
      · exact e
      · rcases List.mem_cons.1 ((hm y).2 (by simp)) with e' | e'
        · exact e'.symm
        · have := h'.1 x e; have := h.1 y e'; omega
    subst hxy
    rw [asc_ext h.2 h'.2 fun z => ?_]
    have hz := hm z
    simp only [List.mem_cons] at hz
    constructor
    · intro h1
      rcases hz.1 (.inr h1) with e | e
      · subst e; have := h.1 z h1; omega
      · exact e
    · intro h1
      rcases hz.2 (.inr h1) with e | e
      · subst e; have := h'.1 z h1; omega
      · exact e

theorem comp_up {d : Array Int} (hd : ∀ i j, i ≤ j → j < d.size → d[i]! ≤ d[j]!) : ∀ m, m ≤ d.size → (compactUpTo d m).Pairwise (· < ·) ∧ (∀ x, x ∈ compactUpTo d m ↔ ∃ j, j < m ∧ d[j]! = x)
  | 0, _ => by simp [compactUpTo]
  | m + 1, hm => by
    obtain ⟨h1, h2⟩ := comp_up hd m (by omega)
    rw [compactUpTo_succ]
    cases hk : keeps d m
    · simp only [keeps, decide_eq_false_iff_not, not_or, Decidable.not_not] at hk
      simp only [Bool.false_eq_true, if_false, List.append_nil]
      refine ⟨h1, fun x => ?_⟩
      rw [h2]
      constructor
      · rintro ⟨j, hj, rfl⟩; exact ⟨j, by omega, rfl⟩
      · rintro ⟨j, hj, rfl⟩
        by_cases e : j = m
        · subst e; exact ⟨j - 1, by omega, hk.2.symm⟩
        · exact ⟨j, by omega, rfl⟩
    · simp only [keeps, decide_eq_true_eq] at hk
      simp only [if_true]
      refine ⟨?_, fun x => ?_⟩
      · rw [List.pairwise_append]
        refine ⟨h1, by simp, fun x hx y hy => ?_⟩
        obtain ⟨j, hj, rfl⟩ := (h2 x).1 hx
        have e : y = d[m]! := by simpa using hy
        subst e
        rcases hk with hk | hk
        · omega
        · have h3 := hd j (m - 1) (by omega) (by omega)
          have h4 := hd (m - 1) m (by omega) (by omega)
          omega
      · rw [List.mem_append, h2]
        constructor
        · rintro (⟨j, hj, rfl⟩ | h)
          · exact ⟨j, by omega, rfl⟩
          · exact ⟨m, by omega, (List.mem_singleton.1 h).symm⟩
        · rintro ⟨j, hj, rfl⟩
          by_cases e : j = m
          · subst e; exact .inr (by simp)
          · exact .inl ⟨j, by omega, rfl⟩

/-- the elements of two lists, in ascending order, each once -/
def uni (a b : List Int) : List Int := compact ((a ++ b).mergeSort fun x y => decide (x ≤ y))
theorem uni_spec (a b : List Int) : (uni a b).Pairwise (· < ·) ∧ ∀ x, x ∈ uni a b ↔ x ∈ a ∨ x ∈ b := by
  obtain ⟨s, hs⟩ : ∃ s, s = (a ++ b).mergeSort fun x y => decide (x ≤ y) := ⟨_, rfl⟩
  have hsort : s.Pairwise (fun x y => x ≤ y) := by
    have := List.pairwise_mergeSort (le := fun x y : Int => decide (x ≤ y)) (by intro a b c; simp; omega) (by intro a b; simp; omega) (a ++ b)
    rw [hs]
    exact this.imp (by intro a b h; simpa using h)
  have hmem : ∀ x, x ∈ s ↔ x ∈ a ∨ x ∈ b := fun x => by rw [hs, List.mem_mergeSort, List.mem_append]
  have hd : ∀ i j, i ≤ j → j < s.toArray.size → s.toArray[i]! ≤ s.toArray[j]! := fun i j hij hj => by
    have hj' : j < s.length := by simpa using hj
    have hi' : i < s.length := by omega
    rw [getElem!_pos s.toArray i (by simpa using hi'), getElem!_pos s.toArray j hj]
    simp only [List.getElem_toArray]
    rcases Nat.lt_or_ge i j with h | h
    · exact List.pairwise_iff_getElem.1 hsort i j hi' hj' h
    · have : i = j := by omega
      subst this; exact Int.le_refl _
  obtain ⟨h1, h2⟩ := comp_up hd s.length (by simp)
  rw [uni, ← hs]
  unfold compact
  refine ⟨h1, fun x => ?_⟩
  rw [h2, ← hmem]
  constructor
  · rintro ⟨j, hj, rfl⟩
    rw [getElem!_pos s.toArray j (by simpa using hj)]
    simp
  · intro hx
    obtain ⟨j, hj, rfl⟩ := List.mem_iff_getElem.1 hx
    exact ⟨j, hj, by rw [getElem!_pos s.toArray j (by simpa using hj)]; simp⟩
theorem uni_comm (a b : List Int) : uni a b = uni b a := asc_ext (uni_spec a b).1 (uni_spec b a).1 fun x => by rw [(uni_spec a b).2, (uni_spec b a).2]; exact or_comm
theorem uni_self {a : List Int} (h : a.Pairwise (· < ·)) : uni a a = a := asc_ext (uni_spec a a).1 h fun x => by rw [(uni_spec a a).2]; exact or_self_iff
theorem compact_len (zs : List Int) : (compact zs).length ≤ zs.length := by
  unfold compact compactUpTo
  rw [List.length_map]
  exact Nat.le_trans (List.length_filter_le _ _) (by simp)
theorem uni_len (a b : List Int) : (uni a b).length ≤ a.length + b.length := by
  have := compact_len ((a ++ b).mergeSort fun x y => decide (x ≤ y))
  rw [List.length_mergeSort, List.length_append] at this
  exact this

theorem asc_of_steps {l : List Int} (h : ∀ i, 0 < i → i < l.length → l[i - 1]?.getD 0 < l[i]?.getD 0) : l.Pairwise (· < ·) := by
  rw [List.pairwise_iff_getElem]
  intro i j hi hj hij
  have key : ∀ k, i < k → k < l.length → l[i]?.getD 0 < l[k]?.getD 0 := by
    intro k
    induction k with
    | zero => intro h1; omega
    | succ k ih =>
      intro h1 h2
      have h3 := h (k + 1) (by omega) h2
      simp only [Nat.add_sub_cancel] at h3
      rcases Nat.lt_or_ge i k with h4 | h4
      · have := ih h4 (by omega); omega
      · have : i = k := by omega
        subst this; exact h3
  have := key j hij hj
  rw [List.getElem?_eq_getElem hi, List.getElem?_eq_getElem hj] at this
  exact this
theorem steps_of_asc {l : List Int} (h : l.Pairwise (· < ·)) (i : Nat) (h0 : 0 < i) (hi : i < l.length) : l[i - 1]?.getD 0 < l[i]?.getD 0 := by
  have := List.pairwise_iff_getElem.1 h (i - 1) i (by omega) hi (by omega)
  rw [List.getElem?_eq_getElem hi, List.getElem?_eq_getElem (show i - 1 < l.length by omega)]
  exact this
theorem chk_iff {we hs : List Int} : chk we hs = 0 ↔ (we.Pairwise (· < ·) ∧ (∀ x ∈ we, 0 ≤ x ∧ x ≤ 6)) ∧ (hs.Pairwise (· < ·) ∧ ∀ x ∈ hs, vB x = true) ∧ hs.length ≤ 1000 := by
  constructor
  · intro h
    unfold chk at h
    by_cases h1 : fe (errW we) we.length = 0
    · rw [if_pos h1] at h
      by_cases h2 : 1000 < hs.length
      · rw [if_pos h2] at h; omega
      · rw [if_neg h2] at h
        have hw := fe_zero _ _ h1
        have hh := fe_zero _ _ h
        have hw' : ∀ i, i < we.length → (0 ≤ we[i]?.getD 0 ∧ we[i]?.getD 0 ≤ 6) ∧ (0 < i → we[i - 1]?.getD 0 < we[i]?.getD 0) := fun i hi => by
          have := hw i hi
          unfold errW at this
          split at this
          · omega
          · split at this
            · omega
            · exact ⟨by omega, fun _ => by omega⟩
        have hh' : ∀ i, i < hs.length → vB (hs[i]?.getD 0) = true ∧ (0 < i → hs[i - 1]?.getD 0 < hs[i]?.getD 0) := fun i hi => by
          have := hh i hi
          unfold errH at this
          split at this
          · omega
          · split at this
            · omega
            · rename_i h3 h4
              exact ⟨by simpa using h3, fun _ => by omega⟩
        refine ⟨⟨asc_of_steps fun i h0 hi => (hw' i hi).2 h0, fun x hx => ?_⟩, ⟨asc_of_steps fun i h0 hi => (hh' i hi).2 h0, fun x hx => ?_⟩, by omega⟩
        · obtain ⟨i, hi, rfl⟩ := List.mem_iff_getElem.1 hx
          have := (hw' i hi).1
          rwa [List.getElem?_eq_getElem hi] at this
        · obtain ⟨i, hi, rfl⟩ := List.mem_iff_getElem.1 hx
          have := (hh' i hi).1
          rwa [List.getElem?_eq_getElem hi] at this
    · rw [if_neg h1] at h; exact absurd h h1
  · rintro ⟨⟨h1, h2⟩, ⟨h3, h4⟩, h5⟩
    refine chk_ok (fun i hi => ?_) (by omega) fun i hi => ?_
    · have := h2 we[i] (List.getElem_mem hi)
      unfold errW
      rw [if_neg (by rw [List.getElem?_eq_getElem hi]; simp only [Option.getD_some]; omega), if_neg (fun h => by have := steps_of_asc h1 i h.1 hi; omega)]
    · have := h4 hs[i] (List.getElem_mem hi)
      unfold errH
      rw [if_neg (by rw [List.getElem?_eq_getElem hi]; simp only [Option.getD_some, this]; simp), if_neg (fun h => by have := steps_of_asc h3 i h.1 hi; omega)]

/-- what Join returns -/
def jnE (we hs we' hs' : List Int) : Int := if chk we hs = 0 ∧ chk we' hs' = 0 then (if 1000 < (uni hs hs').length then 4 else 0) else 1
def jnW (we hs we' hs' : List Int) : List Int := if jnE we hs we' hs' = 0 then uni we we' else []
def jnH (we hs we' hs' : List Int) : List Int := if jnE we hs we' hs' = 0 then uni hs hs' else []
theorem jnE_zero {we hs we' hs' : List Int} (h : jnE we hs we' hs' = 0) : chk we hs = 0 ∧ chk we' hs' = 0 ∧ (uni hs hs').length ≤ 1000 ∧ jnW we hs we' hs' = uni we we' ∧ jnH we hs we' hs' = uni hs hs' := by
  refine ⟨?_, ?_, ?_, by rw [jnW, if_pos h], by rw [jnH, if_pos h]⟩ <;> unfold jnE at h <;> split at h <;> rename_i h1 <;> first | omega | (split at h <;> first | omega | exact h1.1 | exact h1.2)
theorem jn_chk {we hs we' hs' : List Int} (h : jnE we hs we' hs' = 0) : chk (uni we we') (uni hs hs') = 0 := by
  obtain ⟨h1, h2, h3, -, -⟩ := jnE_zero h
  obtain ⟨⟨a1, a2⟩, ⟨a3, a4⟩, a5⟩ := chk_iff.1 h1
  obtain ⟨⟨b1, b2⟩, ⟨b3, b4⟩, b5⟩ := chk_iff.1 h2
  refine chk_iff.2 ⟨⟨(uni_spec _ _).1, fun x hx => ?_⟩, ⟨(uni_spec _ _).1, fun x hx => ?_⟩, h3⟩
  · rcases ((uni_spec _ _).2 x).1 hx with h | h
    · exact a2 x h
    · exact b2 x h
  · rcases ((uni_spec _ _).2 x).1 hx with h | h
    · exact a4 x h
    · exact b4 x h

/-- two ascending lists in one -/
def mrg : List Int → List Int → List Int
  | [], ys => ys
  | xs, [] => xs
  | x :: xs, y :: ys => if x ≤ y then x :: (if x = y then mrg xs ys else mrg xs (y :: ys)) else y :: mrg (x :: xs) ys
termination_by xs ys => xs.length + ys.length
theorem mrg_nil_r (xs : List Int) : mrg xs [] = xs := by cases xs <;> simp [mrg]
theorem mrg_spec : ∀ (n : Nat) (xs ys : List Int), xs.length + ys.length = n → xs.Pairwise (· < ·) → ys.Pairwise (· < ·) → (mrg xs ys).Pairwise (· < ·) ∧ ∀ x, x ∈ mrg xs ys ↔ x ∈ xs ∨ x ∈ ys := by
  intro n
  induction n using Nat.strongRecOn with
  | _ n ih =>
    intro xs ys hn hx hy
    match xs, ys with
    | [], ys => rw [mrg]; exact ⟨hy, fun x => by simp⟩
    | x :: xs, [] => rw [mrg_nil_r]; exact ⟨hx, fun x => by simp⟩
    | x :: xs, y :: ys =>
      have hx' := List.pairwise_cons.1 hx
      have hy' := List.pairwise_cons.1 hy
      simp only [List.length_cons] at hn
      rw [mrg]
      by_cases h1 : x ≤ y
      · rw [if_pos h1]
        by_cases h2 : x = y
        · subst h2
          rw [if_pos rfl]
          obtain ⟨q1, q2⟩ := ih (xs.length + ys.length) (by omega) xs ys rfl hx'.2 hy'.2
          refine ⟨List.pairwise_cons.2 ⟨fun z hz => ?_, q1⟩, fun z => ?_⟩
          · rcases (q2 z).1 hz with h | h
            · exact hx'.1 z h
            · exact hy'.1 z h
          · simp only [List.mem_cons, q2]
            constructor
            · rintro (h | h | h)
              · exact .inl (.inl h)
              · exact .inl (.inr h)
              · exact .inr (.inr h)
            · rintro ((h | h) | (h | h))
              · exact .inl h
              · exact .inr (.inl h)
              · exact .inl h
              · exact .inr (.inr h)
        · rw [if_neg h2]
          obtain ⟨q1, q2⟩ := ih (xs.length + (y :: ys).length) (by simp only [List.length_cons]; omega) xs (y :: ys) rfl hx'.2 hy
          refine ⟨List.pairwise_cons.2 ⟨fun z hz => ?_, q1⟩, fun z => ?_⟩
          · rcases (q2 z).1 hz with h | h
            · exact hx'.1 z h
            · rcases List.mem_cons.1 h with e | e
              · omega
              · have := hy'.1 z e; omega
          · rw [List.mem_cons, q2, List.mem_cons (a := z) (b := x)]
            exact or_assoc.symm
      · rw [if_neg h1]
        obtain ⟨q1, q2⟩ := ih ((x :: xs).length + ys.length) (by simp only [List.length_cons]; omega) (x :: xs) ys rfl hx hy'.2
        refine ⟨List.pairwise_cons.2 ⟨fun z hz => ?_, q1⟩, fun z => ?_⟩
        · rcases (q2 z).1 hz with h | h
          · rcases List.mem_cons.1 h with e | e
            · omega
            · have := hx'.1 z e; omega
          · exact hy'.1 z h
        · rw [List.mem_cons, q2, List.mem_cons (a := z) (b := y)]
          constructor
          · rintro (h | h | h)
            · exact .inr (.inl h)
            · exact .inl h
            · exact .inr (.inr h)
          · rintro (h | h | h)
            · exact .inr (.inl h)
            · exact .inl h
            · exact .inr (.inr h)
theorem mrg_uni {a b : List Int} (ha : a.Pairwise (· < ·)) (hb : b.Pairwise (· < ·)) : mrg a b = uni a b := by
  obtain ⟨h1, h2⟩ := mrg_spec _ a b rfl ha hb
  exact asc_ext h1 (uni_spec a b).1 fun x => by rw [h2, (uni_spec a b).2]
/-- the weekdays of two lists, one after the other -/
def wkJ (c : List Int) (k : Nat) : List Int := (List.range k).flatMap fun (w : Nat) => if (w : Int) ∈ c then [(w : Int)] else []
theorem wkJ_succ (c : List Int) (k : Nat) : wkJ c (k + 1) = wkJ c k ++ (if (k : Int) ∈ c then [(k : Int)] else []) := by simp [wkJ, List.range_succ]
theorem wkJ_spec (c : List Int) (k : Nat) : (wkJ c k).Pairwise (· < ·) ∧ ∀ x, x ∈ wkJ c k ↔ (0 ≤ x ∧ x < k) ∧ x ∈ c := by
  induction k with
  | zero => simp [wkJ]; intro x h1 h2; omega
  | succ k ih =>
    rw [wkJ_succ]
    refine ⟨?_, fun x => ?_⟩
    · rw [List.pairwise_append]
      refine ⟨ih.1, by split <;> simp, fun x hx y hy => ?_⟩
      have := ((ih.2 x).1 hx).1
      split at hy
      · have : y = k := by simpa using hy
        omega
      · simp at hy
    · rw [List.mem_append, ih.2]
      constructor
      · rintro (h | h)
        · exact ⟨by omega, h.2⟩
        · split at h
          · rename_i h1
            have : x = k := by simpa using h
            subst this
            exact ⟨by omega, h1⟩
          · simp at h
      · rintro ⟨h1, h2⟩
        by_cases e : x = k
        · subst e
          exact .inr (by rw [if_pos h2]; simp)
        · exact .inl ⟨by omega, h2⟩
theorem wkJ_uni {a b : List Int} (ha : ∀ x ∈ a, 0 ≤ x ∧ x ≤ 6) (hb : ∀ x ∈ b, 0 ≤ x ∧ x ≤ 6) : wkJ (a ++ b) 7 = uni a b := by
  obtain ⟨h1, h2⟩ := wkJ_spec (a ++ b) 7
  refine asc_ext h1 (uni_spec a b).1 fun x => ?_
  rw [h2, (uni_spec a b).2, List.mem_append]
  constructor
  · exact fun h => h.2
  · intro h
    refine ⟨?_, h⟩
    rcases h with h | h
    · have := ha x h; omega
    · have := hb x h; omega
theorem wkJ_len (c : List Int) (k : Nat) : (wkJ c k).length ≤ k := by
  induction k with
  | zero => simp [wkJ]
  | succ k ih => rw [wkJ_succ, List.length_append]; split <;> simp <;> omega
end Go.Proofs.Ytilbolgncpfmmaa

/- Walks of slices.Concat and of the union of two lists, for this seat. -/
namespace Go.Proofs.Ytilbolgncpfmmaa
open Go.RowKit Px

theorem own_nil {f E k : Nat} {args : List DV} (h : PCalls Try.prog f args (.d (.val (.slice none 0 0)))) : POwn Try.prog f args E k [] := fun F w vals hl hr =>
  (h F w vals hl hr).mono fun _ _ ⟨v, h1, h2, h3⟩ => by
    have hv : v = .slice none 0 0 := DRep.val_eq h2
    subst hv
    exact ⟨_, [], h1, World.ownsRow_nil _ _ _ _, DRep.nil, h3⟩
/-- how many elements the first lists have -/
def tot (css : List (List Int)) (k : Nat) : Nat := ((css.take k).flatten).length
theorem tot_succ {css : List (List Int)} {k : Nat} {c : List Int} (h : css[k]? = some c) : tot css (k + 1) = tot css k + c.length := by
  unfold tot
  rw [List.take_add_one, h]
  simp
theorem tot_le (css : List (List Int)) (k : Nat) : tot css k ≤ css.flatten.length := by
  unfold tot
  have : css.flatten = (css.take k).flatten ++ (css.drop k).flatten := by rw [← List.flatten_append, List.take_append_drop]
  rw [this, List.length_append]
  omega

set_option maxRecDepth 20000 in
set_option maxHeartbeats 1000000 in
theorem o139 (n : Nat) (hn : n ≤ 1000000) : POwn Try.prog 139 [.val (.slice none 0 0), dI n] 3 1 [] := by
  have t1 : decide ((n : Int) < 0) = false := decide_eq_false (by omega)
  have hw : IntKind.i64.wrap ((n : Int) - IntKind.i64.wrap (0 - 0)) = n := by rw [show IntKind.i64.wrap (0 - 0) = 0 by decide, Int.sub_zero]; exact wrapI _ (by omega)
  rcases Nat.eq_zero_or_pos n with rfl | h0
  · refine own_nil ?_
    refine pcalls_of_pw Try.func139 rfl Try.ntmps139 Try.results139 (by simp) fun B w0 => ?_
    refine pw_seq ?_; refine pw_region ?_; refine yAd rfl ?_; refine yQ ?_; refine pw_seq ?_; refine pw_seq ?_; refine pw_region ?_; refine yMd rfl ?_; refine yB rfl rfl rfl rfl ?_; refine yQ ?_; refine pw_cf rfl ?_; refine pw_skip ?_
    refine pw_seq ?_; refine pw_seq ?_; refine pw_region ?_; refine yMd rfl ?_; refine yMd rfl ?_; refine yr_v (ls_cap_nil _ _ rfl (by kernel_rfl)) (by kernel_rfl) rfl ?_; refine yMd rfl ?_
    refine yr_v (ls_len_nil _ _ rfl (by kernel_rfl)) (by kernel_rfl) rfl ?_; refine yB rfl rfl rfl rfl ?_; refine yB rfl rfl rfl rfl ?_; refine yAd rfl ?_; refine yQ ?_; refine pw_seq ?_; refine pw_region ?_; refine yMd rfl ?_
    refine yB rfl rfl rfl rfl ?_; refine yQ ?_; refine pw_cf rfl ?_; refine pw_skip ?_; refine pw_seq ?_; refine pw_region ?_; refine yMd rfl ?_; refine yAd rfl ?_; refine yQ ?_; refine pw_ret ?_
    exact q_ret _ (.tmp rfl .nil) rfl
  · have t2 : decide ((n : Int) > 0) = true := decide_eq_true (by omega)
    refine pown_of_pw (t := 300004) Try.func139 rfl Try.ntmps139 Try.results139 (by simp) rfl fun B w0 => ?_
    refine pw_seq ?_; refine pw_region ?_; refine yAd rfl ?_; refine yQ ?_; refine pw_seq ?_; refine pw_seq ?_; refine pw_region ?_; refine yMd rfl ?_; refine yB rfl rfl rfl rfl ?_; refine yQ ?_; refine pw_cf rfl ?_; refine pw_skip ?_
    refine pw_seq ?_; refine pw_seq ?_; refine pw_region ?_; refine yMd rfl ?_; refine yMd rfl ?_
    rw [t1]
    refine yr_v (ls_cap_nil _ _ rfl (by kernel_rfl)) (by kernel_rfl) rfl ?_; refine yMd rfl ?_; refine yr_v (ls_len_nil _ _ rfl (by kernel_rfl)) (by kernel_rfl) rfl ?_; refine yB rfl rfl rfl rfl ?_; refine yB rfl rfl rfl rfl ?_
    refine yAd rfl ?_; refine yQ ?_; refine pw_seq ?_; refine pw_region ?_; refine yMd rfl ?_; refine yB rfl rfl rfl rfl ?_; refine yQ ?_; refine q_then ?_
    rw [hw]
    skip
    rw [t2]
    refine pw_ct rfl ?_; refine pw_region ?_; refine yMd rfl ?_; refine yMd rfl ?_; refine yr_v (ls_cap_nil _ _ rfl (by kernel_rfl)) (by kernel_rfl) rfl ?_; refine yr_v (ls_slice_nil _ _ _ rfl rfl (by kernel_rfl)) (by kernel_rfl) rfl ?_
    refine yMd rfl ?_; refine yGz (t := 300004) (n := n) Try.underlying3 rfl rfl h0 hn z3 rfl rfl rfl fun vs hv hv1 => ?_; refine yMd rfl ?_; refine yr_v (ls_len_nil _ _ rfl (by kernel_rfl)) (by kernel_rfl) rfl ?_
    have hvl : (dVs vs).length = vs.length := by simp
    rw [hvl]
    refine yCut (m := 0) (vs := vs) rfl rfl rfl (Nat.zero_le _) rfl hv1 ?_; refine yAt rfl ?_; refine yQ ?_; refine pw_seq ?_; refine pw_region ?_; refine yMt rfl ?_; refine yAt rfl ?_; refine yQ ?_; refine pw_ret ?_
    exact q_own rfl rfl

set_option maxRecDepth 20000 in
set_option maxHeartbeats 1000000 in
theorem o141 (n : Nat) (hn : n ≤ 1000000) : POwn Try.prog 141 [.val (.slice none 0 0), dI n] 26 1 [] := by
  have t1 : decide ((n : Int) < 0) = false := decide_eq_false (by omega)
  have hw : IntKind.i64.wrap ((n : Int) - IntKind.i64.wrap (0 - 0)) = n := by rw [show IntKind.i64.wrap (0 - 0) = 0 by decide, Int.sub_zero]; exact wrapI _ (by omega)
  rcases Nat.eq_zero_or_pos n with rfl | h0
  · refine own_nil ?_
    refine pcalls_of_pw Try.func141 rfl Try.ntmps141 Try.results141 (by simp) fun B w0 => ?_
    refine pw_seq ?_; refine pw_region ?_; refine yAd rfl ?_; refine yQ ?_; refine pw_seq ?_; refine pw_seq ?_; refine pw_region ?_; refine yMd rfl ?_; refine yB rfl rfl rfl rfl ?_; refine yQ ?_; refine pw_cf rfl ?_; refine pw_skip ?_
    refine pw_seq ?_; refine pw_seq ?_; refine pw_region ?_; refine yMd rfl ?_; refine yMd rfl ?_; refine yr_v (ls_cap_nil _ _ rfl (by kernel_rfl)) (by kernel_rfl) rfl ?_; refine yMd rfl ?_
    refine yr_v (ls_len_nil _ _ rfl (by kernel_rfl)) (by kernel_rfl) rfl ?_; refine yB rfl rfl rfl rfl ?_; refine yB rfl rfl rfl rfl ?_; refine yAd rfl ?_; refine yQ ?_; refine pw_seq ?_; refine pw_region ?_; refine yMd rfl ?_
    refine yB rfl rfl rfl rfl ?_; refine yQ ?_; refine pw_cf rfl ?_; refine pw_skip ?_; refine pw_seq ?_; refine pw_region ?_; refine yMd rfl ?_; refine yAd rfl ?_; refine yQ ?_; refine pw_ret ?_
    exact q_ret _ (.tmp rfl .nil) rfl
  · have t2 : decide ((n : Int) > 0) = true := decide_eq_true (by omega)
    refine pown_of_pw (t := 2600004) Try.func141 rfl Try.ntmps141 Try.results141 (by simp) rfl fun B w0 => ?_
    refine pw_seq ?_; refine pw_region ?_; refine yAd rfl ?_; refine yQ ?_; refine pw_seq ?_; refine pw_seq ?_; refine pw_region ?_; refine yMd rfl ?_; refine yB rfl rfl rfl rfl ?_; refine yQ ?_; refine pw_cf rfl ?_; refine pw_skip ?_
    refine pw_seq ?_; refine pw_seq ?_; refine pw_region ?_; refine yMd rfl ?_; refine yMd rfl ?_
    rw [t1]
    refine yr_v (ls_cap_nil _ _ rfl (by kernel_rfl)) (by kernel_rfl) rfl ?_; refine yMd rfl ?_; refine yr_v (ls_len_nil _ _ rfl (by kernel_rfl)) (by kernel_rfl) rfl ?_; refine yB rfl rfl rfl rfl ?_; refine yB rfl rfl rfl rfl ?_
    refine yAd rfl ?_; refine yQ ?_; refine pw_seq ?_; refine pw_region ?_; refine yMd rfl ?_; refine yB rfl rfl rfl rfl ?_; refine yQ ?_; refine q_then ?_
    rw [hw]
    skip
    rw [t2]
    refine pw_ct rfl ?_; refine pw_region ?_; refine yMd rfl ?_; refine yMd rfl ?_; refine yr_v (ls_cap_nil _ _ rfl (by kernel_rfl)) (by kernel_rfl) rfl ?_; refine yr_v (ls_slice_nil _ _ _ rfl rfl (by kernel_rfl)) (by kernel_rfl) rfl ?_
    refine yMd rfl ?_; refine yGz (t := 2600004) (n := n) Try.underlying3 rfl rfl h0 hn z26 rfl rfl rfl fun vs hv hv1 => ?_; refine yMd rfl ?_; refine yr_v (ls_len_nil _ _ rfl (by kernel_rfl)) (by kernel_rfl) rfl ?_
    have hvl : (dVs vs).length = vs.length := by simp
    rw [hvl]
    refine yCut (m := 0) (vs := vs) rfl rfl rfl (Nat.zero_le _) rfl hv1 ?_; refine yAt rfl ?_; refine yQ ?_; refine pw_seq ?_; refine pw_region ?_; refine yMt rfl ?_; refine yAt rfl ?_; refine yQ ?_; refine pw_ret ?_
    exact q_own rfl rfl

set_option maxRecDepth 20000 in
set_option maxHeartbeats 1000000 in
theorem o120 (css : List (List Int)) (hl : css.length ≤ 1000) (ht : (css.flatten).length ≤ 1000000) : POwn Try.prog 120 [.sl 1 (css.map fun c => [dIs c])] 3 1 (css.flatten.map dZ) := by
  refine pown_of_pw (t := 300006) Try.func120 rfl Try.ntmps120 Try.results120 (by simp) rfl fun B w0 => ?_
  refine pw_seq ?_; refine pw_region ?_; refine yAd rfl ?_; refine yQ ?_; refine pw_seq ?_; refine pw_region ?_; refine yAd rfl ?_; refine yQ ?_; refine pw_seq ?_; refine pw_seq ?_; refine pw_region ?_; refine yMd rfl ?_
  refine yN rfl ?_; refine yMd rfl ?_; refine yQ ?_; refine pw_block ?_
  refine pw_loop (fun k : Nat => ⟨36, [(0, .d (.sl 1 (css.map fun c => [dIs c]))), (9, .d (.sl 1 (css.map fun c => [dIs c]))), (10, .d (dI css.length)), (11, .d (dI k)), (3, .d (dI (tot css k)))], [], []⟩) (fun k => k ≤ css.length) (fun k => css.length - k) 0 (Nat.zero_le _) ⟨rfl, ⟨.refl _, .refl _, .of_eq ?_, .refl _, .refl _, trivial⟩, trivial, trivial, rfl⟩ ?_
  · exact congrArg (fun n : Nat => SV.d (dI n)) (by simp)
  intro k hk
  refine pw_seq ?_; refine pw_region ?_; refine yB rfl rfl rfl rfl ?_; refine yQ ?_; refine pw_seq ?_
  refine pw_cond rfl (fun h => ?_) (fun h => ?_)
  · simp at h
    obtain ⟨c, hc⟩ : ∃ c, c = css[k] := ⟨_, rfl⟩
    have gk : css[k]? = some c := by rw [List.getElem?_eq_getElem h, hc]
    have ek := ix (fun c => [dIs c]) css k k c rfl gk
    have hts := tot_succ gk
    have htl := tot_le css (k + 1)
    have hw1 := wrapI ((k : Int) + 1) (by omega)
    have hw2 : IntKind.i64.wrap ((tot css k : Int) + ((c.map dZ).length : Int)) = (tot css (k + 1) : Int) := by rw [List.length_map, wrapI _ (by omega)]; omega
    have h0 : decide ((tot css (k + 1) : Int) < 0) = false := decide_eq_false (by omega)
    refine pw_skip ?_; refine pw_seq ?_; refine pw_block ?_; refine pw_seq ?_; refine pw_region ?_; refine yW ek (by omega) rfl rfl ?_; refine yLr rfl rfl ?_; refine yAd rfl ?_; refine yQ ?_; refine pw_seq ?_; refine pw_region ?_
    refine yMd rfl ?_; refine yMd rfl ?_; refine yN rfl ?_; refine yB rfl rfl rfl rfl ?_; refine yAd rfl ?_; refine yQ ?_; refine pw_seq ?_; refine pw_region ?_; refine yMd rfl ?_; refine yB rfl rfl rfl rfl ?_; refine yQ ?_
    refine q_then ?_
    rw [hw2, h0]
    refine pw_cf rfl ?_; refine pw_skip ?_; refine pw_region ?_; refine yB rfl rfl rfl rfl ?_; refine yMd rfl ?_; refine yQ ?_; refine q_then ?_
    refine ⟨k + 1, by omega, by omega, rfl, ⟨.refl _, .refl _, .refl _, .of_eq (congrArg (fun n => SV.d (dI n)) hw1), .refl _, trivial⟩, trivial, trivial, rfl⟩
  · simp at h
    obtain rfl : k = css.length := by omega
    have ht2 : tot css css.length = css.flatten.length := by rw [tot, List.take_length]
    have c1 := o139 (tot css css.length) (by omega)
    refine pw_exit ?_; refine pw_seq ?_; refine pw_region ?_; refine yMd rfl ?_; refine yCo (t := 300006) c1 rfl rfl rfl rfl ?_; refine yAt rfl ?_; refine yQ ?_; refine pw_seq ?_; refine pw_seq ?_; refine pw_region ?_; refine yMd rfl ?_
    refine yN rfl ?_; refine yMd rfl ?_; refine yQ ?_; refine pw_block ?_
    refine pw_loop (fun k : Nat => ⟨36, [(25, .d (.sl 1 (css.map fun c => [dIs c]))), (26, .d (dI css.length)), (27, .d (dI k)), (6, .ts 300006 1 (((css.take k).flatten).map dZ))], [], [(300006, (((css.take k).flatten).map dZ).length)]⟩) (fun k => k ≤ css.length) (fun k => css.length - k) 0 (Nat.zero_le _) ⟨rfl, ⟨.refl _, .of_eq ?_, .refl _, .refl _, trivial⟩, trivial, ⟨rfl, trivial⟩, rfl⟩ ?_
    · exact congrArg (fun n : Nat => SV.d (dI n)) (by simp)
    intro k hk
    refine pw_seq ?_; refine pw_region ?_; refine yB rfl rfl rfl rfl ?_; refine yQ ?_; refine pw_seq ?_
    refine pw_cond rfl (fun h => ?_) (fun h => ?_)
    · simp at h
      obtain ⟨c, hc⟩ : ∃ c, c = css[k] := ⟨_, rfl⟩
      have gk : css[k]? = some c := by rw [List.getElem?_eq_getElem h, hc]
      have ek := ix (fun c => [dIs c]) css k k c rfl gk
      have hts := tot_succ gk
      have htl := tot_le css (k + 1)
      have hw1 := wrapI ((k : Int) + 1) (by omega)
      have hfl : (css.take (k + 1)).flatten = (css.take k).flatten ++ c := by rw [List.take_add_one, gk]; simp
      have hln : ((css.take k).flatten).length = tot css k := rfl
      obtain ⟨zs, hz⟩ : ∃ zs, zs = (css.take k).flatten := ⟨_, rfl⟩
      rw [← hz] at hfl hln ⊢
      refine pw_skip ?_; refine pw_seq ?_; refine pw_block ?_; refine pw_seq ?_; refine pw_region ?_; refine yW ek (by omega) rfl rfl ?_; refine yLr rfl rfl ?_; refine yAd rfl ?_; refine yQ ?_; refine pw_region ?_; refine yMt rfl ?_
      refine yMd rfl ?_; refine yT (es' := (zs ++ c).map dZ) (m := ((zs ++ c).map dZ).length) (by simp; omega) (by simp; omega) rfl rfl rfl rfl rfl (by simp) (by simp) ?_; refine yAt rfl ?_; refine yQ ?_; refine pw_region ?_
      refine yB rfl rfl rfl rfl ?_; refine yMd rfl ?_; refine yQ ?_; refine q_then ?_
      refine ⟨k + 1, by omega, by omega, rfl, ⟨.refl _, .refl _, .of_eq (congrArg (fun n => SV.d (dI n)) hw1), .of_eq ?_, trivial⟩, trivial, ⟨?_, trivial⟩, rfl⟩
      · rw [hfl]; rfl
      · rw [hfl]; rfl
    · simp at h
      obtain rfl : k = css.length := by omega
      rw [List.take_length]
      refine pw_exit ?_; refine pw_seq ?_; refine pw_region ?_; refine yMt rfl ?_; refine yAt rfl ?_; refine yQ ?_; refine pw_ret ?_
      exact q_own rfl rfl

set_option maxRecDepth 20000 in
set_option maxHeartbeats 1000000 in
theorem o123 (css : List (List Int)) (hl : css.length ≤ 1000) (ht : (css.flatten).length ≤ 1000000) : POwn Try.prog 123 [.sl 1 (css.map fun c => [dIs c])] 26 1 (css.flatten.map dZ) := by
  refine pown_of_pw (t := 2600006) Try.func123 rfl Try.ntmps123 Try.results123 (by simp) rfl fun B w0 => ?_
  refine pw_seq ?_; refine pw_region ?_; refine yAd rfl ?_; refine yQ ?_; refine pw_seq ?_; refine pw_region ?_; refine yAd rfl ?_; refine yQ ?_; refine pw_seq ?_; refine pw_seq ?_; refine pw_region ?_; refine yMd rfl ?_
  refine yN rfl ?_; refine yMd rfl ?_; refine yQ ?_; refine pw_block ?_
  refine pw_loop (fun k : Nat => ⟨36, [(0, .d (.sl 1 (css.map fun c => [dIs c]))), (9, .d (.sl 1 (css.map fun c => [dIs c]))), (10, .d (dI css.length)), (11, .d (dI k)), (3, .d (dI (tot css k)))], [], []⟩) (fun k => k ≤ css.length) (fun k => css.length - k) 0 (Nat.zero_le _) ⟨rfl, ⟨.refl _, .refl _, .of_eq ?_, .refl _, .refl _, trivial⟩, trivial, trivial, rfl⟩ ?_
  · exact congrArg (fun n : Nat => SV.d (dI n)) (by simp)
  intro k hk
  refine pw_seq ?_; refine pw_region ?_; refine yB rfl rfl rfl rfl ?_; refine yQ ?_; refine pw_seq ?_
  refine pw_cond rfl (fun h => ?_) (fun h => ?_)
  · simp at h
    obtain ⟨c, hc⟩ : ∃ c, c = css[k] := ⟨_, rfl⟩
    have gk : css[k]? = some c := by rw [List.getElem?_eq_getElem h, hc]
    have ek := ix (fun c => [dIs c]) css k k c rfl gk
    have hts := tot_succ gk
    have htl := tot_le css (k + 1)
    have hw1 := wrapI ((k : Int) + 1) (by omega)
    have hw2 : IntKind.i64.wrap ((tot css k : Int) + ((c.map dZ).length : Int)) = (tot css (k + 1) : Int) := by rw [List.length_map, wrapI _ (by omega)]; omega
    have h0 : decide ((tot css (k + 1) : Int) < 0) = false := decide_eq_false (by omega)
    refine pw_skip ?_; refine pw_seq ?_; refine pw_block ?_; refine pw_seq ?_; refine pw_region ?_; refine yW ek (by omega) rfl rfl ?_; refine yLr rfl rfl ?_; refine yAd rfl ?_; refine yQ ?_; refine pw_seq ?_; refine pw_region ?_
    refine yMd rfl ?_; refine yMd rfl ?_; refine yN rfl ?_; refine yB rfl rfl rfl rfl ?_; refine yAd rfl ?_; refine yQ ?_; refine pw_seq ?_; refine pw_region ?_; refine yMd rfl ?_; refine yB rfl rfl rfl rfl ?_; refine yQ ?_
    refine q_then ?_
    rw [hw2, h0]
    refine pw_cf rfl ?_; refine pw_skip ?_; refine pw_region ?_; refine yB rfl rfl rfl rfl ?_; refine yMd rfl ?_; refine yQ ?_; refine q_then ?_
    refine ⟨k + 1, by omega, by omega, rfl, ⟨.refl _, .refl _, .refl _, .of_eq (congrArg (fun n => SV.d (dI n)) hw1), .refl _, trivial⟩, trivial, trivial, rfl⟩
  · simp at h
    obtain rfl : k = css.length := by omega
    have ht2 : tot css css.length = css.flatten.length := by rw [tot, List.take_length]
    have c1 := o141 (tot css css.length) (by omega)
    refine pw_exit ?_; refine pw_seq ?_; refine pw_region ?_; refine yMd rfl ?_; refine yCo (t := 2600006) c1 rfl rfl rfl rfl ?_; refine yAt rfl ?_; refine yQ ?_; refine pw_seq ?_; refine pw_seq ?_; refine pw_region ?_
    refine yMd rfl ?_; refine yN rfl ?_; refine yMd rfl ?_; refine yQ ?_; refine pw_block ?_
    refine pw_loop (fun k : Nat => ⟨36, [(25, .d (.sl 1 (css.map fun c => [dIs c]))), (26, .d (dI css.length)), (27, .d (dI k)), (6, .ts 2600006 1 (((css.take k).flatten).map dZ))], [], [(2600006, (((css.take k).flatten).map dZ).length)]⟩) (fun k => k ≤ css.length) (fun k => css.length - k) 0 (Nat.zero_le _) ⟨rfl, ⟨.refl _, .of_eq ?_, .refl _, .refl _, trivial⟩, trivial, ⟨rfl, trivial⟩, rfl⟩ ?_
    · exact congrArg (fun n : Nat => SV.d (dI n)) (by simp)
    intro k hk
    refine pw_seq ?_; refine pw_region ?_; refine yB rfl rfl rfl rfl ?_; refine yQ ?_; refine pw_seq ?_
    refine pw_cond rfl (fun h => ?_) (fun h => ?_)
    · simp at h
      obtain ⟨c, hc⟩ : ∃ c, c = css[k] := ⟨_, rfl⟩
      have gk : css[k]? = some c := by rw [List.getElem?_eq_getElem h, hc]
      have ek := ix (fun c => [dIs c]) css k k c rfl gk
      have hts := tot_succ gk
      have htl := tot_le css (k + 1)
      have hw1 := wrapI ((k : Int) + 1) (by omega)
      have hfl : (css.take (k + 1)).flatten = (css.take k).flatten ++ c := by rw [List.take_add_one, gk]; simp
      have hln : ((css.take k).flatten).length = tot css k := rfl
      obtain ⟨zs, hz⟩ : ∃ zs, zs = (css.take k).flatten := ⟨_, rfl⟩
      rw [← hz] at hfl hln ⊢
      refine pw_skip ?_; refine pw_seq ?_; refine pw_block ?_; refine pw_seq ?_; refine pw_region ?_; refine yW ek (by omega) rfl rfl ?_; refine yLr rfl rfl ?_; refine yAd rfl ?_; refine yQ ?_; refine pw_region ?_; refine yMt rfl ?_
      refine yMd rfl ?_; refine yT (es' := (zs ++ c).map dZ) (m := ((zs ++ c).map dZ).length) (by simp; omega) (by simp; omega) rfl rfl rfl rfl rfl (by simp) (by simp) ?_; refine yAt rfl ?_; refine yQ ?_; refine pw_region ?_
      refine yB rfl rfl rfl rfl ?_; refine yMd rfl ?_; refine yQ ?_; refine q_then ?_
      refine ⟨k + 1, by omega, by omega, rfl, ⟨.refl _, .refl _, .of_eq (congrArg (fun n => SV.d (dI n)) hw1), .of_eq ?_, trivial⟩, trivial, ⟨?_, trivial⟩, rfl⟩
      · rw [hfl]; rfl
      · rw [hfl]; rfl
    · simp at h
      obtain rfl : k = css.length := by omega
      rw [List.take_length]
      refine pw_exit ?_; refine pw_seq ?_; refine pw_region ?_; refine yMt rfl ?_; refine yAt rfl ?_; refine yQ ?_; refine pw_ret ?_
      exact q_own rfl rfl

set_option maxRecDepth 20000 in
set_option maxHeartbeats 1000000 in
theorem o97 (a b : List Int) (ha : a.length ≤ 10000) (hb : b.length ≤ 10000) : POwn Try.prog 97 [dIs a, dIs b] 3 1 (dVs (iV (uni a b))) := by
  have c1 : POwn Try.prog 120 [.sl 1 [[dIs a], [dIs b]]] 3 1 (dVs (iV (a ++ b))) := by
    have := o120 [a, b] (by simp) (by simp; omega)
    rw [dZ_dVs] at this
    simpa using this
  have c2 := r121 (a ++ b) (by simp; omega)
  have c3 := r122 ((a ++ b).mergeSort fun x y => decide (x ≤ y)) (by simp; omega)
  refine pown_of_pw (t := 300009) Try.func97 rfl Try.ntmps97 Try.results97 (by simp) rfl fun B w0 => ?_
  refine pw_seq ?_; refine pw_region ?_; refine yAd rfl ?_; refine yQ ?_; refine pw_seq ?_; refine pw_region ?_; refine yMd rfl ?_; refine yMd rfl ?_; refine yR (es := [[_], [_]]) rfl rfl rfl rfl rfl ?_
  refine yCo (t := 300009) c1 rfl rfl rfl rfl ?_; refine yAt rfl ?_; refine yQ ?_; refine pw_seq ?_; refine pw_region ?_; refine yMt rfl ?_; refine yRw 5 c2 (iV_one _) rfl rfl (congrArg some (by simp)) rfl (by simp) ?_; refine yQ ?_
  refine pw_seq ?_; refine pw_region ?_; refine yMt rfl ?_; refine yRg c3 (iV_one _) rfl rfl rfl ?_; refine yAt rfl ?_; refine yQ ?_; refine pw_ret ?_
  exact q_own rfl (congrArg some (by simp [uni]))

set_option maxRecDepth 20000 in
set_option maxHeartbeats 1000000 in
theorem o98 (a b : List Int) (ha : a.length ≤ 10000) (hb : b.length ≤ 10000) : POwn Try.prog 98 [dIs a, dIs b] 26 1 (dVs (iV (uni a b))) := by
  have c1 : POwn Try.prog 123 [.sl 1 [[dIs a], [dIs b]]] 26 1 (dVs (iV (a ++ b))) := by
    have := o123 [a, b] (by simp) (by simp; omega)
    rw [dZ_dVs] at this
    simpa using this
  have c2 := r85 (a ++ b) (by simp; omega)
  have c3 := r124 ((a ++ b).mergeSort fun x y => decide (x ≤ y)) (by simp; omega)
  refine pown_of_pw (t := 2600009) Try.func98 rfl Try.ntmps98 Try.results98 (by simp) rfl fun B w0 => ?_
  refine pw_seq ?_; refine pw_region ?_; refine yAd rfl ?_; refine yQ ?_; refine pw_seq ?_; refine pw_region ?_; refine yMd rfl ?_; refine yMd rfl ?_; refine yR (es := [[_], [_]]) rfl rfl rfl rfl rfl ?_
  refine yCo (t := 2600009) c1 rfl rfl rfl rfl ?_; refine yAt rfl ?_; refine yQ ?_; refine pw_seq ?_; refine pw_region ?_; refine yMt rfl ?_; refine yRw 5 c2 (iV_one _) rfl rfl (congrArg some (by simp)) rfl (by simp) ?_; refine yQ ?_
  refine pw_seq ?_; refine pw_region ?_; refine yMt rfl ?_; refine yRg c3 (iV_one _) rfl rfl rfl ?_; refine yAt rfl ?_; refine yQ ?_; refine pw_ret ?_
  exact q_own rfl (congrArg some (by simp [uni]))

end Go.Proofs.Ytilbolgncpfmmaa

/- Walks of Join, of the reference's Same, and of slices.IsSorted, for this seat. -/
namespace Go.Proofs.Ytilbolgncpfmmaa
open Go.RowKit Px

theorem p97 (a b : List Int) (ha : a.length ≤ 10000) (hb : b.length ≤ 10000) : PCalls Try.prog 97 [dIs a, dIs b] (.d (dIs (uni a b))) := by have := (o97 a b ha hb).pcalls; rwa [← dZ_dVs] at this
theorem p98 (a b : List Int) (ha : a.length ≤ 10000) (hb : b.length ≤ 10000) : PCalls Try.prog 98 [dIs a, dIs b] (.d (dIs (uni a b))) := by have := (o98 a b ha hb).pcalls; rwa [← dZ_dVs] at this
theorem p22 : PCalls Try.prog 22 [] (.d (dB true)) := PCalls.of_plain (vs := []) (us := [.bool true]) rfl (by simp [Value.oneCell']) fun w => awake_any w
theorem PCalls.weak {P : Program} {f : FuncId} {args : List DV} {r r' : SV} (h : PCalls P f args r) (hr : ∀ g w v, SRep g w v r → SRep g w v r') : PCalls P f args r' := fun F w vals hl hv =>
  (h F w vals hl hv).mono fun _ _ ⟨v, h1, h2, h3⟩ => ⟨v, h1, hr _ _ _ h2, h3⟩
theorem nil_cal {g : Gh} {w : World} {v : Value} {e : Int} (h : SRep g w v (.tup [.agg [.val (.slice none 0 0), .val (.slice none 0 0)], dI e])) : SRep g w v (.tup [.agg (dC [] []), dI e]) := by
  obtain ⟨vs, h1, h2, h3⟩ := h
  refine ⟨vs, h1, h2, fun i y x hy hx => ?_⟩
  match i, hx with
  | 0, hx =>
    cases hx
    have h4 := h3 0 y _ hy rfl
    rw [DRep.agg2 h4]
    exact .agg (xs := [.slice none 0 0, .slice none 0 0]) rfl (by simp [Value.oneCell']) fun i x c hx hc => by
      match i, hx, hc with
      | 0, hx, hc => cases hx; cases hc; exact DRep.nil
      | 1, hx, hc => cases hx; cases hc; exact DRep.nil
      | i + 2, hx, hc => simp at hx
  | 1, hx => cases hx; exact h3 1 y _ hy rfl
  | i + 2, hx => simp at hx
theorem asc_len {l : List Int} (h : l.Pairwise (· < ·)) (hb : ∀ x ∈ l, 0 ≤ x ∧ x ≤ 6) : l.length ≤ 7 := by
  have : wkJ (l ++ []) 7 = uni l [] := wkJ_uni hb (by simp)
  have h2 : uni l [] = l := asc_ext (uni_spec _ _).1 h fun x => by rw [(uni_spec _ _).2]; simp
  have h3 := wkJ_len (l ++ []) 7
  rw [this, h2] at h3
  exact h3

set_option maxRecDepth 20000 in
set_option maxHeartbeats 1000000 in
theorem p60 (we hs we' hs' : List Int) : PCalls Try.prog 60 [.agg (dC we hs), .agg (dC we' hs')] (.tup [.agg (dC (jnW we hs we' hs') (jnH we hs we' hs')), dI (jnE we hs we' hs')]) := by
  obtain ⟨a, ha⟩ : ∃ c, c = chk we hs := ⟨_, rfl⟩
  obtain ⟨b, hb⟩ : ∃ b, b = chk we' hs' := ⟨_, rfl⟩
  have c1 : PCalls Try.prog 62 [.agg (dC we hs)] (.d (dI a)) := ha ▸ p62 we hs
  have c2 : PCalls Try.prog 62 [.agg (dC we' hs')] (.d (dI b)) := hb ▸ p62 we' hs'
  by_cases hE : jnE we hs we' hs' = 0
  · obtain ⟨q1, q2, q3, q4, q5⟩ := jnE_zero hE
    obtain ⟨⟨a1, a2⟩, ⟨a3, a4⟩, a5⟩ := chk_iff.1 q1
    obtain ⟨⟨b1, b2⟩, ⟨b3, b4⟩, b5⟩ := chk_iff.1 q2
    have l1 := asc_len a1 a2
    have l2 := asc_len b1 b2
    rw [q4, q5, hE]
    have d1 := p97 we we' (by omega) (by omega)
    have d2 := p98 hs hs' (by omega) (by omega)
    obtain ⟨us, hus⟩ : ∃ u, u = uni we we' := ⟨_, rfl⟩
    obtain ⟨vs, hvs⟩ : ∃ u, u = uni hs hs' := ⟨_, rfl⟩
    rw [← hus] at d1 ⊢
    rw [← hvs] at d2 q3 ⊢
    rw [q1] at ha
    rw [q2] at hb
    subst ha hb
    have t1 : decide (((vs.map dZ).length : Int) > 1000) = false := by simp; omega
    refine pcalls_of_pw Try.func60 rfl Try.ntmps60 Try.results60 (by simp) fun B w0 => ?_
    refine pw_seq ?_; refine pw_region ?_; refine yK (cs := [_, _]) rfl rfl ?_; refine yK (cs := [_, _]) rfl rfl ?_; refine yZ (cs := [_, _]) rfl rfl ?_; refine yAd rfl ?_; refine yQ ?_; refine pw_seq ?_; refine pw_seq ?_
    refine pw_region ?_; refine yLa (ys := [_, _]) rfl rfl rfl rfl ?_; refine yC (c1) rfl rfl ?_; refine yB rfl rfl rfl rfl ?_; refine yMd rfl ?_; refine yLa (ys := [_, _]) rfl rfl rfl rfl ?_; refine yC (c2) rfl rfl ?_
    refine yB rfl rfl rfl rfl ?_; refine yVd rfl rfl ?_; refine yQ ?_; refine pw_cf rfl ?_; refine pw_skip ?_; refine pw_seq ?_; refine pw_draw Try.mixed (by kernel_rfl) ?_; refine yFb rfl ?_; refine yLd rfl rfl rfl ?_
    refine yFb rfl ?_; refine yLd rfl rfl rfl ?_; refine yC (d1) rfl rfl ?_; refine yFb rfl ?_; refine yLd rfl rfl rfl ?_; refine yFb rfl ?_; refine yLd rfl rfl rfl ?_; refine yC (d2) rfl rfl ?_; refine yG (ys := [_, _]) rfl rfl ?_
    refine yZ (cs := [_, _]) rfl rfl ?_; refine yS (cs' := [_, _]) rfl rfl rfl rfl rfl ?_; refine yQ ?_; refine pw_seq ?_; refine pw_seq ?_; refine pw_region ?_; refine yFb rfl ?_; refine yLd rfl rfl rfl ?_; refine yN rfl ?_
    refine yB rfl rfl rfl rfl ?_; refine yQ ?_; refine q_then ?_
    rw [t1]
    refine pw_cf rfl ?_; refine pw_skip ?_; refine pw_seq ?_; refine pw_region ?_; refine yLa (ys := [_, _]) rfl rfl rfl rfl ?_; refine yS (cs' := [_, _]) rfl rfl rfl rfl rfl ?_; refine yAd rfl ?_; refine yQ ?_; refine pw_ret ?_
    exact q_ret _ (.agg inferInstance rfl rfl rfl rfl (.tmp rfl .nil)) rfl
  · have hW : jnW we hs we' hs' = [] := by rw [jnW, if_neg hE]
    have hH : jnH we hs we' hs' = [] := by rw [jnH, if_neg hE]
    rw [hW, hH]
    refine PCalls.weak ?_ fun g w v h => nil_cal h
    by_cases h0 : a = 0
    rotate_left
    · have hE1 : jnE we hs we' hs' = 1 := by rw [jnE, if_neg (fun h => h0 (ha.trans h.1))]
      have t1 : (a != 0) = true := by simpa using h0
      rw [hE1]
      refine pcalls_of_pw Try.func60 rfl Try.ntmps60 Try.results60 (by simp) fun B w0 => ?_
      refine pw_seq ?_; refine pw_region ?_; refine yK (cs := [_, _]) rfl rfl ?_; refine yK (cs := [_, _]) rfl rfl ?_; refine yZ (cs := [_, _]) rfl rfl ?_; refine yAd rfl ?_; refine yQ ?_; refine pw_seq ?_; refine pw_seq ?_
      refine pw_region ?_; refine yLa (ys := [_, _]) rfl rfl rfl rfl ?_; refine yC (c1) rfl rfl ?_; refine yB rfl rfl rfl rfl ?_; refine yMd rfl ?_
      rw [t1]
      refine yO rfl ?_; refine yO rfl ?_; refine yO rfl ?_; refine yPd rfl rfl ?_; refine yQ ?_; refine pw_ct rfl ?_; refine pw_seq ?_; refine pw_region ?_; refine yG (ys := [_, _]) rfl rfl ?_
      refine yS (cs' := [_, _]) rfl rfl rfl rfl rfl ?_; refine yAd rfl ?_; refine yQ ?_; refine pw_ret ?_; refine q_then_ret ?_
      exact q_ret _ (.agg inferInstance rfl rfl rfl rfl (.tmp rfl .nil)) rfl
    subst h0
    by_cases h0 : b = 0
    rotate_left
    · have hE1 : jnE we hs we' hs' = 1 := by rw [jnE, if_neg (fun h => h0 (hb.trans h.2))]
      have t1 : (b != 0) = true := by simpa using h0
      rw [hE1]
      refine pcalls_of_pw Try.func60 rfl Try.ntmps60 Try.results60 (by simp) fun B w0 => ?_
      refine pw_seq ?_; refine pw_region ?_; refine yK (cs := [_, _]) rfl rfl ?_; refine yK (cs := [_, _]) rfl rfl ?_; refine yZ (cs := [_, _]) rfl rfl ?_; refine yAd rfl ?_; refine yQ ?_; refine pw_seq ?_; refine pw_seq ?_
      refine pw_region ?_; refine yLa (ys := [_, _]) rfl rfl rfl rfl ?_; refine yC (c1) rfl rfl ?_; refine yB rfl rfl rfl rfl ?_; refine yMd rfl ?_; refine yLa (ys := [_, _]) rfl rfl rfl rfl ?_; refine yC (c2) rfl rfl ?_
      refine yB rfl rfl rfl rfl ?_; refine yVd rfl rfl ?_; refine yQ ?_; refine q_then ?_
      rw [t1]
      refine pw_ct rfl ?_; refine pw_seq ?_; refine pw_region ?_; refine yG (ys := [_, _]) rfl rfl ?_; refine yS (cs' := [_, _]) rfl rfl rfl rfl rfl ?_; refine yAd rfl ?_; refine yQ ?_; refine pw_ret ?_; refine q_then_ret ?_
      exact q_ret _ (.agg inferInstance rfl rfl rfl rfl (.tmp rfl .nil)) rfl
    subst h0
    obtain ⟨⟨a1, a2⟩, ⟨a3, a4⟩, a5⟩ := chk_iff.1 ha.symm
    obtain ⟨⟨b1, b2⟩, ⟨b3, b4⟩, b5⟩ := chk_iff.1 hb.symm
    have l1 := asc_len a1 a2
    have l2 := asc_len b1 b2
    have hbig : 1000 < (uni hs hs').length := by
      rcases Nat.lt_or_ge 1000 (uni hs hs').length with h | h
      · exact h
      · exact absurd (by rw [jnE, if_pos ⟨ha.symm, hb.symm⟩, if_neg (by omega)]) hE
    have hE1 : jnE we hs we' hs' = 4 := by rw [jnE, if_pos ⟨ha.symm, hb.symm⟩, if_pos hbig]
    have d1 := p97 we we' (by omega) (by omega)
    have d2 := p98 hs hs' (by omega) (by omega)
    obtain ⟨us, hus⟩ : ∃ u, u = uni we we' := ⟨_, rfl⟩
    obtain ⟨vs, hvs⟩ : ∃ u, u = uni hs hs' := ⟨_, rfl⟩
    rw [← hus] at d1
    rw [← hvs] at d2 hbig
    have t1 : decide (((vs.map dZ).length : Int) > 1000) = true := by simp; omega
    rw [hE1]
    refine pcalls_of_pw Try.func60 rfl Try.ntmps60 Try.results60 (by simp) fun B w0 => ?_
    refine pw_seq ?_; refine pw_region ?_; refine yK (cs := [_, _]) rfl rfl ?_; refine yK (cs := [_, _]) rfl rfl ?_; refine yZ (cs := [_, _]) rfl rfl ?_; refine yAd rfl ?_; refine yQ ?_; refine pw_seq ?_; refine pw_seq ?_
    refine pw_region ?_; refine yLa (ys := [_, _]) rfl rfl rfl rfl ?_; refine yC (c1) rfl rfl ?_; refine yB rfl rfl rfl rfl ?_; refine yMd rfl ?_; refine yLa (ys := [_, _]) rfl rfl rfl rfl ?_; refine yC (c2) rfl rfl ?_
    refine yB rfl rfl rfl rfl ?_; refine yVd rfl rfl ?_; refine yQ ?_; refine pw_cf rfl ?_; refine pw_skip ?_; refine pw_seq ?_; refine pw_draw Try.mixed (by kernel_rfl) ?_; refine yFb rfl ?_; refine yLd rfl rfl rfl ?_
    refine yFb rfl ?_; refine yLd rfl rfl rfl ?_; refine yC (d1) rfl rfl ?_; refine yFb rfl ?_; refine yLd rfl rfl rfl ?_; refine yFb rfl ?_; refine yLd rfl rfl rfl ?_; refine yC (d2) rfl rfl ?_; refine yG (ys := [_, _]) rfl rfl ?_
    refine yZ (cs := [_, _]) rfl rfl ?_; refine yS (cs' := [_, _]) rfl rfl rfl rfl rfl ?_; refine yQ ?_; refine pw_seq ?_; refine pw_seq ?_; refine pw_region ?_; refine yFb rfl ?_; refine yLd rfl rfl rfl ?_; refine yN rfl ?_
    refine yB rfl rfl rfl rfl ?_; refine yQ ?_; refine q_then ?_
    rw [t1]
    refine pw_ct rfl ?_; refine pw_seq ?_; refine pw_region ?_; refine yG (ys := [_, _]) rfl rfl ?_; refine yS (cs' := [_, _]) rfl rfl rfl rfl rfl ?_; refine yAd rfl ?_; refine yQ ?_; refine pw_ret ?_; refine q_then_ret ?_
    exact q_ret _ (.agg inferInstance rfl rfl rfl rfl (.tmp rfl .nil)) rfl

set_option maxRecDepth 20000 in
set_option maxHeartbeats 1000000 in
theorem p63 (we hs : List Int) (h1 : we.length ≤ 1000000) (h2 : hs.length ≤ 1000000) : PCalls Try.prog 63 [.agg (dC we hs), .agg (dC we hs)] (.d (dB true)) := by
  have b1 : (((we.map dZ).length : Int) != ((we.map dZ).length : Int)) = false := by simp
  have b2 : (((hs.map dZ).length : Int) != ((hs.map dZ).length : Int)) = false := by simp
  have bI : ∀ x : Int, (x != x) = false := fun x => by simp
  refine pcalls_of_pw Try.func63 rfl Try.ntmps63 Try.results63 (by simp) fun B w0 => ?_
  refine pw_seq ?_; refine pw_region ?_; refine yK (cs := [_, _]) rfl rfl ?_; refine yK (cs := [_, _]) rfl rfl ?_; refine yAd rfl ?_; refine yQ ?_; refine pw_seq ?_; refine pw_seq ?_; refine pw_region ?_; refine yFb rfl ?_
  refine yLd rfl rfl rfl ?_; refine yN rfl ?_; refine yFb rfl ?_; refine yLd rfl rfl rfl ?_; refine yN rfl ?_; refine yB rfl rfl rfl rfl ?_; refine yMd rfl ?_
  rw [b1]
  refine yFb rfl ?_; refine yLd rfl rfl rfl ?_; refine yN rfl ?_; refine yFb rfl ?_; refine yLd rfl rfl rfl ?_; refine yN rfl ?_; refine yB rfl rfl rfl rfl ?_; refine yVd rfl rfl ?_; refine yQ ?_; refine q_then ?_
  rw [b2]
  refine pw_cf rfl ?_; refine pw_skip ?_; refine pw_seq ?_; refine pw_seq ?_; refine pw_region ?_; refine yAd rfl ?_; refine yQ ?_; refine pw_block ?_
  refine pw_loop (fun k : Nat => ⟨59, [(2, .bx 2 0), (3, .bx 3 0), (5, .d (dI k))], [(2, [.d (dIs we), .d (dIs hs)]), (3, [.d (dIs we), .d (dIs hs)])], []⟩) (fun k => k ≤ we.length) (fun k => we.length - k) 0 (Nat.zero_le _) ⟨rfl, ⟨.refl _, .refl _, .refl _, trivial⟩, ⟨⟨_, rfl, .refl _, .refl _, trivial⟩, ⟨_, rfl, .refl _, .refl _, trivial⟩, trivial⟩, trivial, rfl⟩ ?_
  intro k hk
  refine pw_seq ?_; refine pw_seq ?_; refine pw_region ?_; refine yMd rfl ?_; refine yFb rfl ?_; refine yLd rfl rfl rfl ?_; refine yN rfl ?_; refine yB rfl rfl rfl rfl ?_; refine yQ ?_; refine q_then ?_
  refine pw_cond rfl (fun h => ?_) (fun h => ?_)
  · simp at h
    obtain ⟨x, hx⟩ : ∃ x, we[k]? = some x := ⟨_, List.getElem?_eq_getElem h⟩
    have ek := ix dZ we k k x rfl hx
    have hw1 := wrapI ((k : Int) + 1) (by omega)
    refine pw_skip ?_; refine pw_seq ?_; refine pw_block ?_; refine pw_seq ?_; refine pw_draw Try.mixed (by kernel_rfl) ?_; refine yFb rfl ?_; refine yLd rfl rfl rfl ?_; refine yMd rfl ?_; refine yW ek (by omega) rfl rfl ?_
    refine yLr rfl rfl ?_; refine yFb rfl ?_; refine yLd rfl rfl rfl ?_; refine yMd rfl ?_; refine yW ek (by omega) rfl rfl ?_; refine yLr rfl rfl ?_; refine yB rfl rfl rfl rfl ?_; refine yQ ?_; refine q_then ?_
    rw [bI x]
    refine pw_cf rfl ?_; refine pw_skip ?_; refine pw_region ?_; refine yMd rfl ?_; refine yB rfl rfl rfl rfl ?_; refine yAd rfl ?_; refine yQ ?_; refine q_then ?_
    exact ⟨k + 1, by omega, by omega, rfl, ⟨.refl _, .refl _, .of_eq (congrArg (fun n => SV.d (dI n)) hw1), trivial⟩, ⟨⟨_, rfl, .refl _, .refl _, trivial⟩, ⟨_, rfl, .refl _, .refl _, trivial⟩, trivial⟩, trivial, rfl⟩
  refine pw_exit ?_; refine pw_seq ?_; refine pw_seq ?_; refine pw_region ?_; refine yAd rfl ?_; refine yQ ?_; refine pw_block ?_
  refine pw_loop (fun k : Nat => ⟨59, [(2, .bx 2 0), (3, .bx 3 0), (6, .d (dI k))], [(2, [.d (dIs we), .d (dIs hs)]), (3, [.d (dIs we), .d (dIs hs)])], []⟩) (fun k => k ≤ hs.length) (fun k => hs.length - k) 0 (Nat.zero_le _) ⟨rfl, ⟨.refl _, .refl _, .refl _, trivial⟩, ⟨⟨_, rfl, .refl _, .refl _, trivial⟩, ⟨_, rfl, .refl _, .refl _, trivial⟩, trivial⟩, trivial, rfl⟩ ?_
  intro k hk
  refine pw_seq ?_; refine pw_seq ?_; refine pw_region ?_; refine yMd rfl ?_; refine yFb rfl ?_; refine yLd rfl rfl rfl ?_; refine yN rfl ?_; refine yB rfl rfl rfl rfl ?_; refine yQ ?_; refine q_then ?_
  refine pw_cond rfl (fun h => ?_) (fun h => ?_)
  · simp at h
    obtain ⟨x, hx⟩ : ∃ x, hs[k]? = some x := ⟨_, List.getElem?_eq_getElem h⟩
    have ek := ix dZ hs k k x rfl hx
    have hw1 := wrapI ((k : Int) + 1) (by omega)
    refine pw_skip ?_; refine pw_seq ?_; refine pw_block ?_; refine pw_seq ?_; refine pw_draw Try.mixed (by kernel_rfl) ?_; refine yFb rfl ?_; refine yLd rfl rfl rfl ?_; refine yMd rfl ?_; refine yW ek (by omega) rfl rfl ?_
    refine yLr rfl rfl ?_; refine yFb rfl ?_; refine yLd rfl rfl rfl ?_; refine yMd rfl ?_; refine yW ek (by omega) rfl rfl ?_; refine yLr rfl rfl ?_; refine yB rfl rfl rfl rfl ?_; refine yQ ?_; refine q_then ?_
    rw [bI x]
    refine pw_cf rfl ?_; refine pw_skip ?_; refine pw_region ?_; refine yMd rfl ?_; refine yB rfl rfl rfl rfl ?_; refine yAd rfl ?_; refine yQ ?_; refine q_then ?_
    exact ⟨k + 1, by omega, by omega, rfl, ⟨.refl _, .refl _, .of_eq (congrArg (fun n => SV.d (dI n)) hw1), trivial⟩, ⟨⟨_, rfl, .refl _, .refl _, trivial⟩, ⟨_, rfl, .refl _, .refl _, trivial⟩, trivial⟩, trivial, rfl⟩
  refine pw_exit ?_; refine pw_seq ?_; refine pw_region ?_; refine yAd rfl ?_; refine yQ ?_; refine pw_ret ?_
  exact q_ret _ (.tmp rfl .nil) rfl

set_option maxRecDepth 20000 in
theorem p125 (x : Int) : PCalls Try.prog 125 [dI x] (.d (dB false)) := by
  have b : (x != x) = false := by simp
  refine pcalls_of_pw Try.func125 rfl Try.ntmps125 Try.results125 (by simp) fun B w0 => ?_
  refine pw_seq ?_; refine pw_region ?_; refine yAd rfl ?_; refine yQ ?_; refine pw_seq ?_; refine pw_region ?_; refine yMd rfl ?_; refine yMd rfl ?_; refine yB rfl rfl rfl rfl ?_; refine yAd rfl ?_; refine yQ ?_; refine pw_ret ?_
  rw [b]
  exact q_ret _ (.tmp rfl .nil) rfl
set_option maxRecDepth 20000 in
theorem p100 (x y : Int) : PCalls Try.prog 100 [dI x, dI y] (.d (dB (decide (x < y)))) := by
  refine pcalls_of_pw Try.func100 rfl Try.ntmps100 Try.results100 (by simp) fun B w0 => ?_
  refine pw_seq ?_; refine pw_region ?_; refine yAd rfl ?_; refine yQ ?_; refine pw_seq ?_; refine pw_region ?_; refine yMd rfl ?_; refine yC (p125 _) rfl rfl ?_; refine yMd rfl ?_; refine yO rfl ?_; refine yO rfl ?_; refine yO rfl ?_
  refine yVd rfl rfl ?_; refine yMd rfl ?_; refine yMd rfl ?_; refine yMd rfl ?_; refine yB rfl rfl rfl rfl ?_; refine yVd rfl rfl ?_; refine yAd rfl ?_; refine yQ ?_; refine pw_ret ?_
  exact q_ret _ (.tmp rfl .nil) rfl
set_option maxRecDepth 20000 in
set_option maxHeartbeats 1000000 in
theorem p64 (hs : List Int) (ha : hs.Pairwise (· < ·)) (hl : hs.length ≤ 1000000) : PCalls Try.prog 64 [dIs hs] (.d (dB true)) := by
  have hw0 : IntKind.i64.wrap (((hs.map dZ).length : Int) - 1) = (hs.length : Int) - 1 := by rw [List.length_map, wrapI _ (by omega)]
  refine pcalls_of_pw Try.func64 rfl Try.ntmps64 Try.results64 (by simp) fun B w0 => ?_
  refine pw_seq ?_; refine pw_region ?_; refine yAd rfl ?_; refine yQ ?_; refine pw_seq ?_; refine pw_seq ?_; refine pw_region ?_; refine yMd rfl ?_; refine yN rfl ?_; refine yB rfl rfl rfl rfl ?_; refine yAd rfl ?_; refine yQ ?_
  refine pw_block ?_
  rw [hw0]
  refine pw_loop (fun k : Nat => ⟨21, [(0, .d (dIs hs)), (3, .d (dI ((k : Int) - 1)))], [], []⟩) (fun k => k ≤ hs.length) (fun k => k) hs.length (Nat.le_refl _) ⟨rfl, ⟨.refl _, .refl _, trivial⟩, trivial, trivial, rfl⟩ ?_
  intro k hk
  refine pw_seq ?_; refine pw_seq ?_; refine pw_region ?_; refine yMd rfl ?_; refine yB rfl rfl rfl rfl ?_; refine yQ ?_; refine q_then ?_
  refine pw_cond rfl (fun h => ?_) (fun h => ?_)
  · simp at h
    obtain ⟨x, hx⟩ : ∃ x, hs[k - 1]? = some x := ⟨_, List.getElem?_eq_getElem (by omega)⟩
    obtain ⟨y, hy⟩ : ∃ x, hs[k - 2]? = some x := ⟨_, List.getElem?_eq_getElem (by omega)⟩
    have hw1 : IntKind.i64.wrap ((k : Int) - 1 - 1) = ((k - 2 : Nat) : Int) := by rw [wrapI _ (by omega)]; omega
    have ek := ix dZ hs ((k : Int) - 1) (k - 1) x (by omega) hx
    have ek' := ix dZ hs (IntKind.i64.wrap ((k : Int) - 1 - 1)) (k - 2) y hw1 hy
    have hlt : y < x := by
      have := steps_of_asc ha (k - 1) (by omega) (by omega)
      rw [show k - 1 - 1 = k - 2 by omega, hx, hy] at this
      exact this
    have t1 : decide (x < y) = false := decide_eq_false (by omega)
    have c1 : PCalls Try.prog 100 [dI x, dI y] (.d (dB false)) := by have := p100 x y; rwa [t1] at this
    refine pw_skip ?_; refine pw_seq ?_; refine pw_block ?_; refine pw_seq ?_; refine pw_draw Try.mixed (by kernel_rfl) ?_; refine yMd rfl ?_; refine yMd rfl ?_; refine yW ek (by omega) rfl rfl ?_; refine yLr rfl rfl ?_
    refine yMd rfl ?_; refine yMd rfl ?_; refine yB rfl rfl rfl rfl ?_; refine yW ek' (by rw [hw1]; omega) rfl rfl ?_; refine yLr rfl rfl ?_; refine yC (c1) rfl rfl ?_; refine yQ ?_; refine pw_cf rfl ?_; refine pw_skip ?_
    refine pw_region ?_; refine yMd rfl ?_; refine yB rfl rfl rfl rfl ?_; refine yAd rfl ?_; refine yQ ?_; refine q_then ?_
    exact ⟨k - 1, by omega, by omega, rfl, ⟨.refl _, .of_eq (congrArg (fun n => SV.d (dI n)) (by rw [hw1]; omega)), trivial⟩, trivial, trivial, rfl⟩
  · refine pw_exit ?_; refine pw_seq ?_; refine pw_region ?_; refine yAd rfl ?_; refine yQ ?_; refine pw_ret ?_
    exact q_ret _ (.tmp rfl .nil) rfl
end Go.Proofs.Ytilbolgncpfmmaa

/- The walk of the reference's Join, for this seat. -/
namespace Go.Proofs.Ytilbolgncpfmmaa
open Go.RowKit Px

theorem drop_at {l : List Int} {i : Nat} {x : Int} (h : l[i]? = some x) : l.drop i = x :: l.drop (i + 1) := by
  obtain ⟨hi, rfl⟩ := List.getElem?_eq_some_iff.1 h
  exact List.drop_eq_getElem_cons hi
theorem mrg_l {a b : List Int} {i k : Nat} {x : Int} (hx : a[i]? = some x) (hk : b.length ≤ k) : mrg (a.drop i) (b.drop k) = x :: mrg (a.drop (i + 1)) (b.drop k) := by
  rw [List.drop_eq_nil_of_le hk, mrg_nil_r, mrg_nil_r, drop_at hx]
theorem mrg_r {a b : List Int} {i k : Nat} {y : Int} (hy : b[k]? = some y) (hi : a.length ≤ i) : mrg (a.drop i) (b.drop k) = y :: mrg (a.drop i) (b.drop (k + 1)) := by
  rw [List.drop_eq_nil_of_le hi, mrg, mrg, drop_at hy]
theorem mrg_eq {a b : List Int} {i k : Nat} {x : Int} (hx : a[i]? = some x) (hy : b[k]? = some x) : mrg (a.drop i) (b.drop k) = x :: mrg (a.drop (i + 1)) (b.drop (k + 1)) := by
  rw [drop_at hx, drop_at hy, mrg, if_pos (Int.le_refl _), if_pos rfl]
theorem mrg_lt {a b : List Int} {i k : Nat} {x y : Int} (hx : a[i]? = some x) (hy : b[k]? = some y) (h : x < y) : mrg (a.drop i) (b.drop k) = x :: mrg (a.drop (i + 1)) (b.drop k) := by
  rw [drop_at hx, drop_at hy, mrg, if_pos (by omega), if_neg (by omega)]
theorem mrg_gt {a b : List Int} {i k : Nat} {x y : Int} (hx : a[i]? = some x) (hy : b[k]? = some y) (h : y < x) : mrg (a.drop i) (b.drop k) = y :: mrg (a.drop i) (b.drop (k + 1)) := by
  rw [drop_at hx, drop_at hy, mrg, if_neg (by omega)]

set_option maxRecDepth 20000 in
set_option maxHeartbeats 4000000 in
theorem p61ok (we hs we' hs' : List Int) (q1 : chk we hs = 0) (q2 : chk we' hs' = 0) :
    PCalls Try.prog 61 [.agg (dC we hs), .agg (dC we' hs')] (if 1000 < (uni hs hs').length then .tup [.agg [.val (.slice none 0 0), .val (.slice none 0 0)], dI 4] else .tup [.agg (dC (uni we we') (uni hs hs')), dI 0]) := by
  have c1 := p24 we hs
  have c2 := p24 we' hs'
  rw [q1] at c1
  rw [q2] at c2
  obtain ⟨⟨a1, a2⟩, ⟨a3, a4⟩, a5⟩ := chk_iff.1 q1
  obtain ⟨⟨b1, b2⟩, ⟨b3, b4⟩, b5⟩ := chk_iff.1 q2
  have l1 := asc_len a1 a2
  have l2 := asc_len b1 b2
  have huw := wkJ_uni a2 b2
  have huh := mrg_uni a3 b3
  have hul := uni_len hs hs'
  rw [← huw, ← huh]
  rw [← huh] at hul
  refine pcalls_of_pw Try.func61 rfl Try.ntmps61 Try.results61 (by simp) fun B w0 => ?_
  refine pw_seq ?_; refine pw_region ?_; refine yK (cs := [_, _]) rfl rfl ?_; refine yK (cs := [_, _]) rfl rfl ?_; refine yZ (cs := [_, _]) rfl rfl ?_; refine yAd rfl ?_; refine yQ ?_; refine pw_seq ?_; refine pw_seq ?_
  refine pw_region ?_; refine yLa (ys := [_, _]) rfl rfl rfl rfl ?_; refine yC (c1) rfl rfl ?_; refine yB rfl rfl rfl rfl ?_; refine yMd rfl ?_; refine yLa (ys := [_, _]) rfl rfl rfl rfl ?_; refine yC (c2) rfl rfl ?_
  refine yB rfl rfl rfl rfl ?_; refine yVd rfl rfl ?_; refine yQ ?_; refine pw_cf rfl ?_; refine pw_skip ?_; refine pw_seq ?_; refine pw_region ?_; refine yG (ys := [_, _]) rfl rfl ?_; refine yZ (cs := [_, _]) rfl rfl ?_
  refine yS (cs' := [_, _]) rfl rfl rfl rfl rfl ?_; refine yQ ?_; refine pw_seq ?_; refine pw_seq ?_; refine pw_region ?_; refine yAd rfl ?_; refine yQ ?_; refine pw_block ?_
  refine pw_tokb 6 0 300006 1 rfl rfl rfl rfl ?_
  refine pw_tokb 6 1 2600006 1 rfl rfl rfl rfl ?_
  refine pw_loop (fun k : Nat => ⟨163, [(2, .bx 2 0), (3, .bx 3 0), (4, .bx 4 0), (6, .bx 6 0), (7, .d (dI k))], [(2, [.d (dIs we), .d (dIs hs)]), (3, [.d (dIs we'), .d (dIs hs')]), (4, [.d (.val (.slice none 0 0)), .d (.val (.slice none 0 0))]), (6, [.ts 300006 1 ((wkJ (we ++ we') k).map dZ), .ts 2600006 1 []])], [(300006, ((wkJ (we ++ we') k).map dZ).length), (2600006, 0)]⟩) (fun k => k ≤ 7) (fun k => 7 - k) 0 (Nat.zero_le _) ⟨rfl, ⟨.refl _, .refl _, .refl _, .refl _, .refl _, trivial⟩, ⟨⟨_, rfl, .refl _, .refl _, trivial⟩, ⟨_, rfl, .refl _, .refl _, trivial⟩, ⟨_, rfl, .refl _, .refl _, trivial⟩, ⟨_, rfl, .refl _, .refl _, trivial⟩, trivial⟩, ⟨rfl, rfl, trivial⟩, rfl⟩ ?_
  intro k hk
  have hwl := wkJ_len (we ++ we') k
  have hws := wkJ_succ (we ++ we') k
  obtain ⟨zs, hz⟩ : ∃ zs, zs = wkJ (we ++ we') k := ⟨_, rfl⟩
  rw [← hz] at hwl hws ⊢
  refine pw_seq ?_; refine pw_seq ?_; refine pw_region ?_; refine yMd rfl ?_; refine yB rfl rfl rfl rfl ?_; refine yQ ?_; refine q_then ?_
  refine pw_cond rfl (fun h => ?_) (fun h => ?_)
  · simp at h
    have hwk := wrapI ((k : Int) + 1) (by omega)
    have htot : IntKind.i64.wrap (((we.map dZ).length : Int) + ((we'.map dZ).length : Int)) = ((we.length + we'.length : Nat) : Int) := by rw [wrapI _ (by simp; omega)]; simp
    refine pw_skip ?_; refine pw_seq ?_; refine pw_block ?_; refine pw_seq ?_; refine pw_region ?_; refine yAd rfl ?_; refine yQ ?_; refine pw_block ?_
    refine pw_loop (fun i : Nat => ⟨163, [(2, .bx 2 0), (3, .bx 3 0), (4, .bx 4 0), (6, .bx 6 0), (7, .d (dI k)), (8, .d (dI i))], [(2, [.d (dIs we), .d (dIs hs)]), (3, [.d (dIs we'), .d (dIs hs')]), (4, [.d (.val (.slice none 0 0)), .d (.val (.slice none 0 0))]), (6, [.ts 300006 1 (zs.map dZ), .ts 2600006 1 []])], [(300006, (zs.map dZ).length), (2600006, 0)]⟩) (fun i => i ≤ we.length + we'.length ∧ ∀ j, j < i → (we ++ we')[j]? ≠ some (k : Int)) (fun i => we.length + we'.length - i) 0 ⟨Nat.zero_le _, fun j hj => by omega⟩ ⟨rfl, ⟨.refl _, .refl _, .refl _, .refl _, .refl _, .refl _, trivial⟩, ⟨⟨_, rfl, .refl _, .refl _, trivial⟩, ⟨_, rfl, .refl _, .refl _, trivial⟩, ⟨_, rfl, .refl _, .refl _, trivial⟩, ⟨_, rfl, .refl _, .refl _, trivial⟩, trivial⟩, ⟨rfl, rfl, trivial⟩, rfl⟩ ?_
    intro i hi
    obtain ⟨hi, hno⟩ := hi
    have hwi := wrapI ((i : Int) + 1) (by omega)
    have next : ∀ x, (we ++ we')[i]? = some x → x ≠ k → ∀ j, j < i + 1 → (we ++ we')[j]? ≠ some (k : Int) := fun x hx hne j hj => by
      by_cases e : j = i
      · subst e; rw [hx]; simpa using hne
      · exact hno j (by omega)
    refine pw_seq ?_; refine pw_seq ?_; refine pw_region ?_; refine yMd rfl ?_; refine yFb rfl ?_; refine yLd rfl rfl rfl ?_; refine yN rfl ?_; refine yFb rfl ?_; refine yLd rfl rfl rfl ?_; refine yN rfl ?_; refine yB rfl rfl rfl rfl ?_
    refine yB rfl rfl rfl rfl ?_; refine yQ ?_; refine q_then ?_
    rw [htot]
    refine pw_cond rfl (fun h2 => ?_) (fun h2 => ?_)
    · simp at h2
      by_cases hia : i < we.length
      · obtain ⟨x, hx⟩ : ∃ x, we[i]? = some x := ⟨_, List.getElem?_eq_getElem hia⟩
        have hx2 : (we ++ we')[i]? = some x := by rw [List.getElem?_append_left hia]; exact hx
        have ek := ix dZ we i i x rfl hx
        have t1 : decide ((i : Int) < ((we.map dZ).length : Int)) = true := by simp; omega
        have t2 : decide ((i : Int) ≥ ((we.map dZ).length : Int)) = false := by simp; omega
        refine pw_skip ?_; refine pw_seq ?_; refine pw_block ?_; refine pw_seq ?_; refine pw_region ?_; refine yMd rfl ?_; refine yFb rfl ?_; refine yLd rfl rfl rfl ?_; refine yN rfl ?_; refine yB rfl rfl rfl rfl ?_; refine yMd rfl ?_
        rw [t1]
        refine yFb rfl ?_; refine yLd rfl rfl rfl ?_; refine yMd rfl ?_; refine yW ek (by omega) rfl rfl ?_; refine yLr rfl rfl ?_; refine yMd rfl ?_; refine yB rfl rfl rfl rfl ?_; refine yPd rfl rfl ?_; refine yMd rfl ?_
        by_cases hxk : x = k
        · have t3 : (x == (k : Int)) = true := by simpa using hxk
          have hmem : (k : Int) ∈ we ++ we' := hxk ▸ List.mem_of_getElem? hx2
          rw [if_pos hmem] at hws
          rw [t3]
          refine yO rfl ?_; refine yO rfl ?_; refine yO rfl ?_; refine yO rfl ?_; refine yO rfl ?_; refine yO rfl ?_; refine yO rfl ?_; refine yO rfl ?_; refine yO rfl ?_; refine yO rfl ?_; refine yO rfl ?_; refine yO rfl ?_; refine yO rfl ?_
          refine yO rfl ?_; refine yO rfl ?_; refine yO rfl ?_; refine yO rfl ?_; refine yO rfl ?_; refine yPd rfl rfl ?_; refine yQ ?_; refine pw_ct rfl ?_; refine pw_seq ?_; refine pw_region ?_; refine yFb rfl ?_; refine yLt rfl rfl rfl ?_
          refine yMd rfl ?_; refine yR (es := [[_]]) rfl rfl rfl rfl rfl ?_; refine yT (es' := (zs ++ [(k : Int)]).map dZ) (m := ((zs ++ [(k : Int)]).map dZ).length) (by simp; omega) (by simp; omega) rfl rfl rfl rfl rfl (by simp) (by simp) ?_
          refine yFb rfl ?_; refine ySt (cs' := [_, _]) rfl rfl rfl rfl ?_; refine yQ ?_; refine pw_exit ?_; refine pw_region ?_; refine yMd rfl ?_; refine yB rfl rfl rfl rfl ?_; refine yAd rfl ?_; refine yQ ?_; refine q_then ?_
          refine ⟨k + 1, by omega, by omega, rfl, ⟨.refl _, .refl _, .refl _, .refl _, .of_eq (congrArg (fun n => SV.d (dI n)) hwk), trivial⟩, ⟨⟨_, rfl, .refl _, .refl _, trivial⟩, ⟨_, rfl, .refl _, .refl _, trivial⟩, ⟨_, rfl, .refl _, .refl _, trivial⟩, ⟨_, rfl, .of_eq ?_, .refl _, trivial⟩, trivial⟩, ⟨?_, rfl, trivial⟩, rfl⟩
          · rw [hws]
          · rw [hws]; rfl
        · have t3 : (x == (k : Int)) = false := by simpa using hxk
          rw [t3]
          refine yMd rfl ?_; refine yFb rfl ?_; refine yLd rfl rfl rfl ?_; refine yN rfl ?_; refine yB rfl rfl rfl rfl ?_; refine yMd rfl ?_
          rw [t2]
          refine yO rfl ?_; refine yO rfl ?_; refine yO rfl ?_; refine yO rfl ?_; refine yO rfl ?_; refine yO rfl ?_; refine yO rfl ?_; refine yO rfl ?_; refine yO rfl ?_; refine yO rfl ?_; refine yO rfl ?_; refine yVd rfl rfl ?_
          refine yVd rfl rfl ?_; refine yQ ?_; refine pw_cf rfl ?_; refine pw_skip ?_; refine pw_region ?_; refine yMd rfl ?_; refine yB rfl rfl rfl rfl ?_; refine yAd rfl ?_; refine yQ ?_; refine q_then ?_
          exact ⟨i + 1, ⟨by omega, next x hx2 hxk⟩, by omega, rfl, ⟨.refl _, .refl _, .refl _, .refl _, .refl _, .of_eq (congrArg (fun n => SV.d (dI n)) hwi), trivial⟩, ⟨⟨_, rfl, .refl _, .refl _, trivial⟩, ⟨_, rfl, .refl _, .refl _, trivial⟩, ⟨_, rfl, .refl _, .refl _, trivial⟩, ⟨_, rfl, .refl _, .refl _, trivial⟩, trivial⟩, ⟨rfl, rfl, trivial⟩, rfl⟩
      · obtain ⟨x, hx⟩ : ∃ x, we'[i - we.length]? = some x := ⟨_, List.getElem?_eq_getElem (by omega)⟩
        have hx2 : (we ++ we')[i]? = some x := by rw [List.getElem?_append_right (by omega)]; exact hx
        have hwm : IntKind.i64.wrap ((i : Int) - ((we.map dZ).length : Int)) = ((i - we.length : Nat) : Int) := by rw [wrapI _ (by simp; omega)]; simp; omega
        have ek := ix dZ we' (IntKind.i64.wrap ((i : Int) - ((we.map dZ).length : Int))) (i - we.length) x hwm hx
        have t1 : decide ((i : Int) < ((we.map dZ).length : Int)) = false := by simp; omega
        have t2 : decide ((i : Int) ≥ ((we.map dZ).length : Int)) = true := by simp; omega
        refine pw_skip ?_; refine pw_seq ?_; refine pw_block ?_; refine pw_seq ?_; refine pw_region ?_; refine yMd rfl ?_; refine yFb rfl ?_; refine yLd rfl rfl rfl ?_; refine yN rfl ?_; refine yB rfl rfl rfl rfl ?_; refine yMd rfl ?_
        rw [t1]
        refine yO rfl ?_; refine yO rfl ?_; refine yO rfl ?_; refine yO rfl ?_; refine yO rfl ?_; refine yO rfl ?_; refine yO rfl ?_; refine yVd rfl rfl ?_; refine yMd rfl ?_; refine yMd rfl ?_; refine yFb rfl ?_; refine yLd rfl rfl rfl ?_
        refine yN rfl ?_; refine yB rfl rfl rfl rfl ?_; refine yMd rfl ?_
        rw [t2]
        refine yFb rfl ?_; refine yLd rfl rfl rfl ?_; refine yMd rfl ?_; refine yFb rfl ?_; refine yLd rfl rfl rfl ?_; refine yN rfl ?_; refine yB rfl rfl rfl rfl ?_; refine yW ek (by rw [hwm]; omega) rfl rfl ?_; refine yLr rfl rfl ?_
        refine yMd rfl ?_; refine yB rfl rfl rfl rfl ?_; refine yPd rfl rfl ?_; refine yVd rfl rfl ?_; refine yQ ?_; refine q_then ?_
        by_cases hxk : x = k
        · have t3 : (x == (k : Int)) = true := by simpa using hxk
          have hmem : (k : Int) ∈ we ++ we' := hxk ▸ List.mem_of_getElem? hx2
          rw [if_pos hmem] at hws
          rw [t3]
          refine pw_ct rfl ?_; refine pw_seq ?_; refine pw_region ?_; refine yFb rfl ?_; refine yLt rfl rfl rfl ?_; refine yMd rfl ?_; refine yR (es := [[_]]) rfl rfl rfl rfl rfl ?_
          refine yT (es' := (zs ++ [(k : Int)]).map dZ) (m := ((zs ++ [(k : Int)]).map dZ).length) (by simp; omega) (by simp; omega) rfl rfl rfl rfl rfl (by simp) (by simp) ?_; refine yFb rfl ?_; refine ySt (cs' := [_, _]) rfl rfl rfl rfl ?_
          refine yQ ?_; refine pw_exit ?_; refine pw_region ?_; refine yMd rfl ?_; refine yB rfl rfl rfl rfl ?_; refine yAd rfl ?_; refine yQ ?_; refine q_then ?_
          refine ⟨k + 1, by omega, by omega, rfl, ⟨.refl _, .refl _, .refl _, .refl _, .of_eq (congrArg (fun n => SV.d (dI n)) hwk), trivial⟩, ⟨⟨_, rfl, .refl _, .refl _, trivial⟩, ⟨_, rfl, .refl _, .refl _, trivial⟩, ⟨_, rfl, .refl _, .refl _, trivial⟩, ⟨_, rfl, .of_eq ?_, .refl _, trivial⟩, trivial⟩, ⟨?_, rfl, trivial⟩, rfl⟩
          · rw [hws]
          · rw [hws]; rfl
        · have t3 : (x == (k : Int)) = false := by simpa using hxk
          rw [t3]
          refine pw_cf rfl ?_; refine pw_skip ?_; refine pw_region ?_; refine yMd rfl ?_; refine yB rfl rfl rfl rfl ?_; refine yAd rfl ?_; refine yQ ?_; refine q_then ?_
          exact ⟨i + 1, ⟨by omega, next x hx2 hxk⟩, by omega, rfl, ⟨.refl _, .refl _, .refl _, .refl _, .refl _, .of_eq (congrArg (fun n => SV.d (dI n)) hwi), trivial⟩, ⟨⟨_, rfl, .refl _, .refl _, trivial⟩, ⟨_, rfl, .refl _, .refl _, trivial⟩, ⟨_, rfl, .refl _, .refl _, trivial⟩, ⟨_, rfl, .refl _, .refl _, trivial⟩, trivial⟩, ⟨rfl, rfl, trivial⟩, rfl⟩
    · simp at h2
      have hmem : ¬ (k : Int) ∈ we ++ we' := fun hm => by
        obtain ⟨j, hj, e⟩ := List.mem_iff_getElem.1 hm
        exact hno j (by rw [List.length_append] at hj; omega) (by rw [List.getElem?_eq_getElem hj, e])
      rw [if_neg hmem, List.append_nil] at hws
      refine pw_exit ?_; refine pw_region ?_; refine yMd rfl ?_; refine yB rfl rfl rfl rfl ?_; refine yAd rfl ?_; refine yQ ?_; refine q_then ?_
      refine ⟨k + 1, by omega, by omega, rfl, ⟨.refl _, .refl _, .refl _, .refl _, .of_eq (congrArg (fun n => SV.d (dI n)) hwk), trivial⟩, ⟨⟨_, rfl, .refl _, .refl _, trivial⟩, ⟨_, rfl, .refl _, .refl _, trivial⟩, ⟨_, rfl, .refl _, .refl _, trivial⟩, ⟨_, rfl, .of_eq ?_, .refl _, trivial⟩, trivial⟩, ⟨?_, rfl, trivial⟩, rfl⟩
      · rw [hws]
      · rw [hws]; rfl
  simp at h
  obtain rfl : k = 7 := by omega
  rw [← hz]
  refine pw_exit ?_; refine pw_seq ?_; refine pw_region ?_; refine yAd rfl ?_; refine yAd rfl ?_; refine yQ ?_; refine pw_seq ?_; refine pw_block ?_
  refine pw_loop (fun p : Nat × Nat × List Int => ⟨163, [(2, .bx 2 0), (3, .bx 3 0), (4, .bx 4 0), (6, .bx 6 0), (9, .d (dI p.1)), (10, .d (dI p.2.1))], [(2, [.d (dIs we), .d (dIs hs)]), (3, [.d (dIs we'), .d (dIs hs')]), (4, [.d (.val (.slice none 0 0)), .d (.val (.slice none 0 0))]), (6, [.ts 300006 1 (zs.map dZ), .ts 2600006 1 (p.2.2.map dZ)])], [(300006, (zs.map dZ).length), (2600006, (p.2.2.map dZ).length)]⟩) (fun p => p.1 ≤ hs.length ∧ p.2.1 ≤ hs'.length ∧ p.2.2 ++ mrg (hs.drop p.1) (hs'.drop p.2.1) = mrg hs hs') (fun p => hs.length - p.1 + (hs'.length - p.2.1)) (0, 0, []) ⟨Nat.zero_le _, Nat.zero_le _, by simp⟩ ⟨rfl, ⟨.refl _, .refl _, .refl _, .refl _, .refl _, .refl _, trivial⟩, ⟨⟨_, rfl, .refl _, .refl _, trivial⟩, ⟨_, rfl, .refl _, .refl _, trivial⟩, ⟨_, rfl, .refl _, .refl _, trivial⟩, ⟨_, rfl, .refl _, .refl _, trivial⟩, trivial⟩, ⟨rfl, rfl, trivial⟩, rfl⟩ ?_
  rintro ⟨i, k, out⟩ ⟨hi, hk, hout⟩
  simp only at hi hk hout
  have hol : out.length ≤ 2000 := by have := congrArg List.length hout; rw [List.length_append] at this; omega
  have hwi := wrapI ((i : Int) + 1) (by omega)
  have hwk := wrapI ((k : Int) + 1) (by omega)
  have fin : ∀ x i' k', mrg (hs.drop i) (hs'.drop k) = x :: mrg (hs.drop i') (hs'.drop k') → (out ++ [x]) ++ mrg (hs.drop i') (hs'.drop k') = mrg hs hs' := fun x i' k' h => by rw [← hout, h]; simp
  by_cases hkb : k < hs'.length
  · obtain ⟨y, hy⟩ : ∃ x, hs'[k]? = some x := ⟨_, List.getElem?_eq_getElem hkb⟩
    have ey := ix dZ hs' k k y rfl hy
    have s1 : decide ((k : Int) < ((hs'.map dZ).length : Int)) = true := by simp; omega
    have s2 : ((k : Int) == ((hs'.map dZ).length : Int)) = false := by simp; omega
    by_cases hia : i < hs.length
    · obtain ⟨x, hx⟩ : ∃ x, hs[i]? = some x := ⟨_, List.getElem?_eq_getElem hia⟩
      have ex := ix dZ hs i i x rfl hx
      have s3 : decide ((i : Int) < ((hs.map dZ).length : Int)) = true := by simp; omega
      refine pw_seq ?_; refine pw_seq ?_; refine pw_region ?_; refine yMd rfl ?_; refine yFb rfl ?_; refine yLd rfl rfl rfl ?_; refine yN rfl ?_; refine yB rfl rfl rfl rfl ?_; refine yMd rfl ?_
      rw [s3]
      refine yO rfl ?_; refine yO rfl ?_; refine yO rfl ?_; refine yO rfl ?_; refine yO rfl ?_; refine yPd rfl rfl ?_; refine yQ ?_; refine pw_ct rfl ?_; refine pw_skip ?_; refine pw_block ?_; refine pw_seq ?_
      refine pw_draw Try.mixed (by kernel_rfl) ?_; refine yMd rfl ?_; refine yFb rfl ?_; refine yLd rfl rfl rfl ?_; refine yN rfl ?_; refine yB rfl rfl rfl rfl ?_; refine yMd rfl ?_
      rw [s2]
      refine yMd rfl ?_; refine yFb rfl ?_; refine yLd rfl rfl rfl ?_; refine yN rfl ?_; refine yB rfl rfl rfl rfl ?_; refine yMd rfl ?_
      rw [s3]
      refine yFb rfl ?_; refine yLd rfl rfl rfl ?_; refine yMd rfl ?_; refine yW ex (by omega) rfl rfl ?_; refine yLr rfl rfl ?_; refine yFb rfl ?_; refine yLd rfl rfl rfl ?_; refine yMd rfl ?_; refine yW ey (by omega) rfl rfl ?_
      refine yLr rfl rfl ?_; refine yB rfl rfl rfl rfl ?_; refine yPd rfl rfl ?_; refine yVd rfl rfl ?_; refine yQ ?_; refine q_then ?_
      by_cases hle : x ≤ y
      · have s4 : decide (x ≤ y) = true := decide_eq_true hle
        rw [s4]
        refine pw_ct rfl ?_; refine pw_seq ?_; refine pw_seq ?_; refine pw_draw Try.mixed (by kernel_rfl) ?_; refine yMd rfl ?_; refine yFb rfl ?_; refine yLd rfl rfl rfl ?_; refine yN rfl ?_; refine yB rfl rfl rfl rfl ?_; refine yMd rfl ?_
        rw [s1]
        refine yFb rfl ?_; refine yLd rfl rfl rfl ?_; refine yMd rfl ?_; refine yW ex (by omega) rfl rfl ?_; refine yLr rfl rfl ?_; refine yFb rfl ?_; refine yLd rfl rfl rfl ?_; refine yMd rfl ?_; refine yW ey (by omega) rfl rfl ?_
        refine yLr rfl rfl ?_; refine yB rfl rfl rfl rfl ?_; refine yPd rfl rfl ?_; refine yQ ?_; refine q_then ?_
        by_cases hxy : x = y
        · subst hxy
          have s5 : (x == x) = true := by simp
          rw [s5]
          refine pw_ct rfl ?_; refine pw_region ?_; refine yMd rfl ?_; refine yB rfl rfl rfl rfl ?_; refine yAd rfl ?_; refine yQ ?_; refine pw_seq ?_; refine pw_draw Try.mixed (by kernel_rfl) ?_; refine yFb rfl ?_; refine yLt rfl rfl rfl ?_
          refine yFb rfl ?_; refine yLd rfl rfl rfl ?_; refine yMd rfl ?_; refine yW ex (by omega) rfl rfl ?_; refine yLr rfl rfl ?_; refine yR (es := [[_]]) rfl rfl rfl rfl rfl ?_
          refine yT (es' := (out ++ [x]).map dZ) (m := ((out ++ [x]).map dZ).length) (by simp; omega) (by simp; omega) rfl rfl rfl rfl rfl (by simp) (by simp) ?_; refine yFb rfl ?_; refine ySt (cs' := [_, _]) rfl rfl rfl rfl ?_; refine yQ ?_
          refine pw_region ?_; refine yMd rfl ?_; refine yB rfl rfl rfl rfl ?_; refine yAd rfl ?_; refine yQ ?_; refine q_blk ?_; refine q_then ?_
          exact ⟨(i + 1, k + 1, out ++ [x]), ⟨by simp; omega, by simp; omega, fin x _ _ (mrg_eq hx hy)⟩, by simp; omega, rfl, ⟨.refl _, .refl _, .refl _, .refl _, .of_eq (congrArg (fun n => SV.d (dI n)) hwi), .of_eq (congrArg (fun n => SV.d (dI n)) hwk), trivial⟩, ⟨⟨_, rfl, .refl _, .refl _, trivial⟩, ⟨_, rfl, .refl _, .refl _, trivial⟩, ⟨_, rfl, .refl _, .refl _, trivial⟩, ⟨_, rfl, .refl _, .refl _, trivial⟩, trivial⟩, ⟨rfl, rfl, trivial⟩, rfl⟩
        · have s5 : (x == y) = false := by simpa using hxy
          rw [s5]
          refine pw_cf rfl ?_; refine pw_skip ?_; refine pw_seq ?_; refine pw_draw Try.mixed (by kernel_rfl) ?_; refine yFb rfl ?_; refine yLt rfl rfl rfl ?_; refine yFb rfl ?_; refine yLd rfl rfl rfl ?_; refine yMd rfl ?_
          refine yW ex (by omega) rfl rfl ?_; refine yLr rfl rfl ?_; refine yR (es := [[_]]) rfl rfl rfl rfl rfl ?_
          refine yT (es' := (out ++ [x]).map dZ) (m := ((out ++ [x]).map dZ).length) (by simp; omega) (by simp; omega) rfl rfl rfl rfl rfl (by simp) (by simp) ?_; refine yFb rfl ?_; refine ySt (cs' := [_, _]) rfl rfl rfl rfl ?_; refine yQ ?_
          refine pw_region ?_; refine yMd rfl ?_; refine yB rfl rfl rfl rfl ?_; refine yAd rfl ?_; refine yQ ?_; refine q_blk ?_; refine q_then ?_
          exact ⟨(i + 1, k, out ++ [x]), ⟨by simp; omega, by simp; omega, fin x _ _ (mrg_lt hx hy (by omega))⟩, by simp; omega, rfl, ⟨.refl _, .refl _, .refl _, .refl _, .of_eq (congrArg (fun n => SV.d (dI n)) hwi), .refl _, trivial⟩, ⟨⟨_, rfl, .refl _, .refl _, trivial⟩, ⟨_, rfl, .refl _, .refl _, trivial⟩, ⟨_, rfl, .refl _, .refl _, trivial⟩, ⟨_, rfl, .refl _, .refl _, trivial⟩, trivial⟩, ⟨rfl, rfl, trivial⟩, rfl⟩
      · have s4 : decide (x ≤ y) = false := decide_eq_false hle
        rw [s4]
        refine pw_cf rfl ?_; refine pw_seq ?_; refine pw_draw Try.mixed (by kernel_rfl) ?_; refine yFb rfl ?_; refine yLt rfl rfl rfl ?_; refine yFb rfl ?_; refine yLd rfl rfl rfl ?_; refine yMd rfl ?_; refine yW ey (by omega) rfl rfl ?_
        refine yLr rfl rfl ?_; refine yR (es := [[_]]) rfl rfl rfl rfl rfl ?_; refine yT (es' := (out ++ [y]).map dZ) (m := ((out ++ [y]).map dZ).length) (by simp; omega) (by simp; omega) rfl rfl rfl rfl rfl (by simp) (by simp) ?_
        refine yFb rfl ?_; refine ySt (cs' := [_, _]) rfl rfl rfl rfl ?_; refine yQ ?_; refine pw_region ?_; refine yMd rfl ?_; refine yB rfl rfl rfl rfl ?_; refine yAd rfl ?_; refine yQ ?_; refine q_blk ?_; refine q_then ?_
        exact ⟨(i, k + 1, out ++ [y]), ⟨by simp; omega, by simp; omega, fin y _ _ (mrg_gt hx hy (by omega))⟩, by simp; omega, rfl, ⟨.refl _, .refl _, .refl _, .refl _, .refl _, .of_eq (congrArg (fun n => SV.d (dI n)) hwk), trivial⟩, ⟨⟨_, rfl, .refl _, .refl _, trivial⟩, ⟨_, rfl, .refl _, .refl _, trivial⟩, ⟨_, rfl, .refl _, .refl _, trivial⟩, ⟨_, rfl, .refl _, .refl _, trivial⟩, trivial⟩, ⟨rfl, rfl, trivial⟩, rfl⟩
    · have s3 : decide ((i : Int) < ((hs.map dZ).length : Int)) = false := by simp; omega
      refine pw_seq ?_; refine pw_seq ?_; refine pw_region ?_; refine yMd rfl ?_; refine yFb rfl ?_; refine yLd rfl rfl rfl ?_; refine yN rfl ?_; refine yB rfl rfl rfl rfl ?_; refine yMd rfl ?_
      rw [s3]
      refine yMd rfl ?_; refine yFb rfl ?_; refine yLd rfl rfl rfl ?_; refine yN rfl ?_; refine yB rfl rfl rfl rfl ?_; refine yVd rfl rfl ?_; refine yQ ?_; refine q_then ?_
      rw [s1]
      refine pw_ct rfl ?_; refine pw_skip ?_; refine pw_block ?_; refine pw_seq ?_; refine pw_draw Try.mixed (by kernel_rfl) ?_; refine yMd rfl ?_; refine yFb rfl ?_; refine yLd rfl rfl rfl ?_; refine yN rfl ?_
      refine yB rfl rfl rfl rfl ?_; refine yMd rfl ?_
      rw [s2]
      refine yMd rfl ?_; refine yFb rfl ?_; refine yLd rfl rfl rfl ?_; refine yN rfl ?_; refine yB rfl rfl rfl rfl ?_; refine yMd rfl ?_
      rw [s3]
      refine yO rfl ?_; refine yO rfl ?_; refine yO rfl ?_; refine yO rfl ?_; refine yO rfl ?_; refine yO rfl ?_; refine yO rfl ?_; refine yO rfl ?_; refine yO rfl ?_; refine yO rfl ?_; refine yO rfl ?_; refine yVd rfl rfl ?_
      refine yVd rfl rfl ?_; refine yQ ?_; refine pw_cf rfl ?_; refine pw_seq ?_; refine pw_draw Try.mixed (by kernel_rfl) ?_; refine yFb rfl ?_; refine yLt rfl rfl rfl ?_; refine yFb rfl ?_; refine yLd rfl rfl rfl ?_; refine yMd rfl ?_
      refine yW ey (by omega) rfl rfl ?_; refine yLr rfl rfl ?_; refine yR (es := [[_]]) rfl rfl rfl rfl rfl ?_
      refine yT (es' := (out ++ [y]).map dZ) (m := ((out ++ [y]).map dZ).length) (by simp; omega) (by simp; omega) rfl rfl rfl rfl rfl (by simp) (by simp) ?_; refine yFb rfl ?_; refine ySt (cs' := [_, _]) rfl rfl rfl rfl ?_; refine yQ ?_
      refine pw_region ?_; refine yMd rfl ?_; refine yB rfl rfl rfl rfl ?_; refine yAd rfl ?_; refine yQ ?_; refine q_blk ?_; refine q_then ?_
      exact ⟨(i, k + 1, out ++ [y]), ⟨by simp; omega, by simp; omega, fin y _ _ (mrg_r hy (by omega))⟩, by simp; omega, rfl, ⟨.refl _, .refl _, .refl _, .refl _, .refl _, .of_eq (congrArg (fun n => SV.d (dI n)) hwk), trivial⟩, ⟨⟨_, rfl, .refl _, .refl _, trivial⟩, ⟨_, rfl, .refl _, .refl _, trivial⟩, ⟨_, rfl, .refl _, .refl _, trivial⟩, ⟨_, rfl, .refl _, .refl _, trivial⟩, trivial⟩, ⟨rfl, rfl, trivial⟩, rfl⟩
  · have s1 : decide ((k : Int) < ((hs'.map dZ).length : Int)) = false := by simp; omega
    have s2 : ((k : Int) == ((hs'.map dZ).length : Int)) = true := by simp; omega
    by_cases hia : i < hs.length
    · obtain ⟨x, hx⟩ : ∃ x, hs[i]? = some x := ⟨_, List.getElem?_eq_getElem hia⟩
      have ex := ix dZ hs i i x rfl hx
      have s3 : decide ((i : Int) < ((hs.map dZ).length : Int)) = true := by simp; omega
      refine pw_seq ?_; refine pw_seq ?_; refine pw_region ?_; refine yMd rfl ?_; refine yFb rfl ?_; refine yLd rfl rfl rfl ?_; refine yN rfl ?_; refine yB rfl rfl rfl rfl ?_; refine yMd rfl ?_
      rw [s3]
      refine yO rfl ?_; refine yO rfl ?_; refine yO rfl ?_; refine yO rfl ?_; refine yO rfl ?_; refine yPd rfl rfl ?_; refine yQ ?_; refine pw_ct rfl ?_; refine pw_skip ?_; refine pw_block ?_; refine pw_seq ?_
      refine pw_draw Try.mixed (by kernel_rfl) ?_; refine yMd rfl ?_; refine yFb rfl ?_; refine yLd rfl rfl rfl ?_; refine yN rfl ?_; refine yB rfl rfl rfl rfl ?_; refine yMd rfl ?_
      rw [s2]
      refine yO rfl ?_; refine yO rfl ?_; refine yO rfl ?_; refine yO rfl ?_; refine yO rfl ?_; refine yO rfl ?_; refine yO rfl ?_; refine yO rfl ?_; refine yO rfl ?_; refine yO rfl ?_; refine yO rfl ?_; refine yO rfl ?_; refine yO rfl ?_
      refine yO rfl ?_; refine yO rfl ?_; refine yO rfl ?_; refine yO rfl ?_; refine yO rfl ?_; refine yPd rfl rfl ?_; refine yQ ?_; refine pw_ct rfl ?_; refine pw_seq ?_; refine pw_seq ?_; refine pw_draw Try.mixed (by kernel_rfl) ?_
      refine yMd rfl ?_; refine yFb rfl ?_; refine yLd rfl rfl rfl ?_; refine yN rfl ?_; refine yB rfl rfl rfl rfl ?_; refine yMd rfl ?_
      rw [s1]
      refine yO rfl ?_; refine yO rfl ?_; refine yO rfl ?_; refine yO rfl ?_; refine yO rfl ?_; refine yO rfl ?_; refine yO rfl ?_; refine yO rfl ?_; refine yO rfl ?_; refine yO rfl ?_; refine yO rfl ?_; refine yVd rfl rfl ?_
      refine yQ ?_; refine pw_cf rfl ?_; refine pw_skip ?_; refine pw_seq ?_; refine pw_draw Try.mixed (by kernel_rfl) ?_; refine yFb rfl ?_; refine yLt rfl rfl rfl ?_; refine yFb rfl ?_; refine yLd rfl rfl rfl ?_; refine yMd rfl ?_
      refine yW ex (by omega) rfl rfl ?_; refine yLr rfl rfl ?_; refine yR (es := [[_]]) rfl rfl rfl rfl rfl ?_
      refine yT (es' := (out ++ [x]).map dZ) (m := ((out ++ [x]).map dZ).length) (by simp; omega) (by simp; omega) rfl rfl rfl rfl rfl (by simp) (by simp) ?_; refine yFb rfl ?_; refine ySt (cs' := [_, _]) rfl rfl rfl rfl ?_; refine yQ ?_
      refine pw_region ?_; refine yMd rfl ?_; refine yB rfl rfl rfl rfl ?_; refine yAd rfl ?_; refine yQ ?_; refine q_blk ?_; refine q_then ?_
      exact ⟨(i + 1, k, out ++ [x]), ⟨by simp; omega, by simp; omega, fin x _ _ (mrg_l hx (by omega))⟩, by simp; omega, rfl, ⟨.refl _, .refl _, .refl _, .refl _, .of_eq (congrArg (fun n => SV.d (dI n)) hwi), .refl _, trivial⟩, ⟨⟨_, rfl, .refl _, .refl _, trivial⟩, ⟨_, rfl, .refl _, .refl _, trivial⟩, ⟨_, rfl, .refl _, .refl _, trivial⟩, ⟨_, rfl, .refl _, .refl _, trivial⟩, trivial⟩, ⟨rfl, rfl, trivial⟩, rfl⟩
    · have s3 : decide ((i : Int) < ((hs.map dZ).length : Int)) = false := by simp; omega
      have hfin : out = mrg hs hs' := by rw [← hout, List.drop_eq_nil_of_le (by omega), List.drop_eq_nil_of_le (by omega), mrg_nil_r, List.append_nil]
      rw [← hfin]
      refine pw_seq ?_; refine pw_seq ?_; refine pw_region ?_; refine yMd rfl ?_; refine yFb rfl ?_; refine yLd rfl rfl rfl ?_; refine yN rfl ?_; refine yB rfl rfl rfl rfl ?_; refine yMd rfl ?_
      rw [s3]
      refine yMd rfl ?_; refine yFb rfl ?_; refine yLd rfl rfl rfl ?_; refine yN rfl ?_; refine yB rfl rfl rfl rfl ?_; refine yVd rfl rfl ?_; refine yQ ?_; refine q_then ?_
      rw [s1]
      refine pw_cf rfl ?_; refine pw_exit ?_; refine pw_seq ?_; refine pw_seq ?_; refine pw_region ?_; refine yFb rfl ?_; refine yLt rfl rfl rfl ?_; refine yN rfl ?_; refine yB rfl rfl rfl rfl ?_; refine yQ ?_; refine q_then ?_
      by_cases hbig : 1000 < out.length
      · have t1 : decide (((out.map dZ).length : Int) > 1000) = true := by simp; omega
        rw [t1, if_pos hbig]
        refine pw_ct rfl ?_; refine pw_seq ?_; refine pw_region ?_; refine yG (ys := [_, _]) rfl rfl ?_; refine yS (cs' := [_, _]) rfl rfl rfl rfl rfl ?_; refine yAd rfl ?_; refine yQ ?_; refine pw_ret ?_; refine q_then_ret ?_
        exact q_ret _ (.agg inferInstance rfl rfl rfl rfl (.tmp rfl .nil)) rfl
      · have t1 : decide (((out.map dZ).length : Int) > 1000) = false := by simp; omega
        rw [t1, if_neg hbig]
        refine pw_cf rfl ?_; refine pw_skip ?_; refine pw_seq ?_; refine pw_region ?_; refine yLa (ys := [_, _]) rfl rfl rfl rfl ?_; refine yS (cs' := [_, _]) rfl rfl rfl rfl rfl ?_; refine yAd rfl ?_; refine yQ ?_; refine pw_ret ?_
        exact q_ret _ (.agg inferInstance rfl rfl rfl rfl (.tmp rfl .nil)) rfl
set_option maxRecDepth 20000 in
set_option maxHeartbeats 1000000 in
theorem p61 (we hs we' hs' : List Int) : PCalls Try.prog 61 [.agg (dC we hs), .agg (dC we' hs')] (.tup [.agg (dC (jnW we hs we' hs') (jnH we hs we' hs')), dI (jnE we hs we' hs')]) := by
  obtain ⟨a, ha⟩ : ∃ c, c = chk we hs := ⟨_, rfl⟩
  obtain ⟨b, hb⟩ : ∃ b, b = chk we' hs' := ⟨_, rfl⟩
  have c1 : PCalls Try.prog 24 [.agg (dC we hs)] (.d (dI a)) := ha ▸ p24 we hs
  have c2 : PCalls Try.prog 24 [.agg (dC we' hs')] (.d (dI b)) := hb ▸ p24 we' hs'
  by_cases h0 : a = 0 ∧ b = 0
  · obtain ⟨rfl, rfl⟩ := h0
    have h1 := p61ok we hs we' hs' ha.symm hb.symm
    by_cases hbig : 1000 < (uni hs hs').length
    · have hE : jnE we hs we' hs' = 4 := by rw [jnE, if_pos ⟨ha.symm, hb.symm⟩, if_pos hbig]
      rw [if_pos hbig] at h1
      rw [jnW, jnH, hE, if_neg (by decide), if_neg (by decide)]
      exact PCalls.weak h1 fun g w v h => nil_cal h
    · have hE : jnE we hs we' hs' = 0 := by rw [jnE, if_pos ⟨ha.symm, hb.symm⟩, if_neg hbig]
      rw [if_neg hbig] at h1
      rw [jnW, jnH, hE, if_pos rfl, if_pos rfl]
      exact h1
  · have hE : jnE we hs we' hs' = 1 := by rw [jnE, if_neg (fun h => h0 ⟨ha.trans h.1, hb.trans h.2⟩)]
    rw [jnW, jnH, hE, if_neg (by decide), if_neg (by decide)]
    refine PCalls.weak ?_ fun g w v h => nil_cal h
    refine pcalls_of_pw Try.func61 rfl Try.ntmps61 Try.results61 (by simp) fun B w0 => ?_
    by_cases h1 : a = 0
    · subst h1
      have t1 : (b != 0) = true := by simpa using fun h => h0 ⟨rfl, h⟩
      refine pw_seq ?_; refine pw_region ?_; refine yK (cs := [_, _]) rfl rfl ?_; refine yK (cs := [_, _]) rfl rfl ?_; refine yZ (cs := [_, _]) rfl rfl ?_; refine yAd rfl ?_; refine yQ ?_; refine pw_seq ?_; refine pw_seq ?_
      refine pw_region ?_; refine yLa (ys := [_, _]) rfl rfl rfl rfl ?_; refine yC (c1) rfl rfl ?_; refine yB rfl rfl rfl rfl ?_; refine yMd rfl ?_; refine yLa (ys := [_, _]) rfl rfl rfl rfl ?_; refine yC (c2) rfl rfl ?_
      refine yB rfl rfl rfl rfl ?_; refine yVd rfl rfl ?_; refine yQ ?_; refine q_then ?_
      rw [t1]
      refine pw_ct rfl ?_; refine pw_seq ?_; refine pw_region ?_; refine yG (ys := [_, _]) rfl rfl ?_; refine yS (cs' := [_, _]) rfl rfl rfl rfl rfl ?_; refine yAd rfl ?_; refine yQ ?_; refine pw_ret ?_; refine q_then_ret ?_
      exact q_ret _ (.agg inferInstance rfl rfl rfl rfl (.tmp rfl .nil)) rfl
    · have t1 : (a != 0) = true := by simpa using h1
      refine pw_seq ?_; refine pw_region ?_; refine yK (cs := [_, _]) rfl rfl ?_; refine yK (cs := [_, _]) rfl rfl ?_; refine yZ (cs := [_, _]) rfl rfl ?_; refine yAd rfl ?_; refine yQ ?_; refine pw_seq ?_; refine pw_seq ?_
      refine pw_region ?_; refine yLa (ys := [_, _]) rfl rfl rfl rfl ?_; refine yC (c1) rfl rfl ?_; refine yB rfl rfl rfl rfl ?_; refine yMd rfl ?_
      rw [t1]
      refine yO rfl ?_; refine yO rfl ?_; refine yO rfl ?_; refine yPd rfl rfl ?_; refine yQ ?_; refine pw_ct rfl ?_; refine pw_seq ?_; refine pw_region ?_; refine yG (ys := [_, _]) rfl rfl ?_
      refine yS (cs' := [_, _]) rfl rfl rfl rfl rfl ?_; refine yAd rfl ?_; refine yQ ?_; refine pw_ret ?_; refine q_then_ret ?_
      exact q_ret _ (.agg inferInstance rfl rfl rfl rfl (.tmp rfl .nil)) rfl
end Go.Proofs.Ytilbolgncpfmmaa

/- The walks of the laws CalendarChecks and CalendarJoint. -/
namespace Go.Proofs.Ytilbolgncpfmmaa
open Go.RowKit Px

theorem jn_small {we hs we' hs' : List Int} : (jnW we hs we' hs').length ≤ 1000000 ∧ (jnH we hs we' hs').length ≤ 1000000 := by
  by_cases hE : jnE we hs we' hs' = 0
  · obtain ⟨q1, q2, q3, q4, q5⟩ := jnE_zero hE
    obtain ⟨⟨a1, a2⟩, -, -⟩ := chk_iff.1 q1
    obtain ⟨⟨b1, b2⟩, -, -⟩ := chk_iff.1 q2
    have l1 := asc_len a1 a2
    have l2 := asc_len b1 b2
    have := uni_len we we'
    rw [q4, q5]
    omega
  · rw [jnW, if_neg hE, jnH, if_neg hE]; simp

set_option maxRecDepth 20000 in
set_option maxHeartbeats 1000000 in
theorem p16 (we hs we' hs' : List Int) : PCalls Try.prog 16 [.agg (dC we hs), .agg (dC we' hs')] (.d (dB true)) := by
  obtain ⟨gr, hgr⟩ : ∃ g, g = great we hs := ⟨_, rfl⟩
  obtain ⟨gc, hgc⟩ : ∃ g, g = great we' hs' := ⟨_, rfl⟩
  have c1 := p20 we hs
  have c2 := p20 we' hs'
  rw [← hgr] at c1
  rw [← hgc] at c2
  refine pcalls_of_pw Try.func16 rfl Try.ntmps16 Try.results16 (by simp) fun B w0 => ?_
  cases gr
  rotate_left
  · refine pw_seq ?_; refine pw_region ?_; refine yK (cs := [_, _]) rfl rfl ?_; refine yK (cs := [_, _]) rfl rfl ?_; refine yAd rfl ?_; refine yQ ?_; refine pw_seq ?_; refine pw_seq ?_; refine pw_region ?_
    refine yLa (ys := [_, _]) rfl rfl rfl rfl ?_; refine yC (c1) rfl rfl ?_; refine yMd rfl ?_; refine yO rfl ?_; refine yO rfl ?_; refine yPd rfl rfl ?_; refine yQ ?_; refine pw_ct rfl ?_; refine pw_seq ?_; refine pw_region ?_
    refine yC (p22) rfl rfl ?_; refine yAd rfl ?_; refine yQ ?_; refine pw_ret ?_; refine q_then_ret ?_
    exact q_ret _ (.tmp rfl .nil) rfl
  cases gc
  rotate_left
  · refine pw_seq ?_; refine pw_region ?_; refine yK (cs := [_, _]) rfl rfl ?_; refine yK (cs := [_, _]) rfl rfl ?_; refine yAd rfl ?_; refine yQ ?_; refine pw_seq ?_; refine pw_seq ?_; refine pw_region ?_
    refine yLa (ys := [_, _]) rfl rfl rfl rfl ?_; refine yC (c1) rfl rfl ?_; refine yMd rfl ?_; refine yLa (ys := [_, _]) rfl rfl rfl rfl ?_; refine yC (c2) rfl rfl ?_; refine yVd rfl rfl ?_; refine yQ ?_; refine pw_ct rfl ?_
    refine pw_seq ?_; refine pw_region ?_; refine yC (p22) rfl rfl ?_; refine yAd rfl ?_; refine yQ ?_; refine pw_ret ?_; refine q_then_ret ?_
    exact q_ret _ (.tmp rfl .nil) rfl
  have d1 := p60 we hs we' hs'
  have d2 := p61 we hs we' hs'
  have d3 := p62 we hs
  have d4 := p24 we hs
  have hl := jn_small (we := we) (hs := hs) (we' := we') (hs' := hs')
  obtain ⟨us, hus⟩ : ∃ f, f = jnW we hs we' hs' := ⟨_, rfl⟩
  obtain ⟨vs, hvs⟩ : ∃ f, f = jnH we hs we' hs' := ⟨_, rfl⟩
  obtain ⟨e, he⟩ : ∃ f, f = jnE we hs we' hs' := ⟨_, rfl⟩
  obtain ⟨c, hc⟩ : ∃ f, f = chk we hs := ⟨_, rfl⟩
  rw [← hus, ← hvs, ← he] at d1 d2
  rw [← hc] at d3 d4
  rw [← hus, ← hvs] at hl
  have d5 := p63 us vs hl.1 hl.2
  have bI : ∀ x : Int, (x == x) = true := fun x => by simp
  refine pw_seq ?_; refine pw_region ?_; refine yK (cs := [_, _]) rfl rfl ?_; refine yK (cs := [_, _]) rfl rfl ?_; refine yAd rfl ?_; refine yQ ?_; refine pw_seq ?_; refine pw_seq ?_; refine pw_region ?_
  refine yLa (ys := [_, _]) rfl rfl rfl rfl ?_; refine yC (c1) rfl rfl ?_; refine yMd rfl ?_; refine yLa (ys := [_, _]) rfl rfl rfl rfl ?_; refine yC (c2) rfl rfl ?_; refine yVd rfl rfl ?_; refine yQ ?_; refine pw_cf rfl ?_
  refine pw_skip ?_; refine pw_seq ?_; refine pw_region ?_; refine yLa (ys := [_, _]) rfl rfl rfl rfl ?_; refine yLa (ys := [_, _]) rfl rfl rfl rfl ?_; refine yC (d1) rfl rfl ?_; refine yMp rfl ?_; refine yX rfl rfl ?_
  refine yX rfl rfl ?_; refine yZ (cs := [_, _]) rfl rfl ?_; refine yS (cs' := [_, _]) rfl rfl rfl rfl rfl ?_; refine yAd rfl ?_; refine yQ ?_; refine pw_seq ?_; refine pw_region ?_; refine yLa (ys := [_, _]) rfl rfl rfl rfl ?_
  refine yLa (ys := [_, _]) rfl rfl rfl rfl ?_; refine yC (d2) rfl rfl ?_; refine yMp rfl ?_; refine yX rfl rfl ?_; refine yX rfl rfl ?_; refine yZ (cs := [_, _]) rfl rfl ?_; refine yS (cs' := [_, _]) rfl rfl rfl rfl rfl ?_
  refine yAd rfl ?_; refine yQ ?_; refine pw_seq ?_; refine pw_draw Try.mixed (by kernel_rfl) ?_; refine yLa (ys := [_, _]) rfl rfl rfl rfl ?_; refine yC (d3) rfl rfl ?_; refine yLa (ys := [_, _]) rfl rfl rfl rfl ?_
  refine yC (d4) rfl rfl ?_; refine yB rfl rfl rfl rfl ?_; refine yMd rfl ?_
  rw [bI c]
  refine yLa (ys := [_, _]) rfl rfl rfl rfl ?_; refine yLa (ys := [_, _]) rfl rfl rfl rfl ?_; refine yC (d5) rfl rfl ?_; refine yPd rfl rfl ?_; refine yMd rfl ?_; refine yMd rfl ?_; refine yMd rfl ?_; refine yB rfl rfl rfl rfl ?_
  refine yPd rfl rfl ?_; refine yMd rfl ?_
  rw [bI e]
  refine yC (p22) rfl rfl ?_; refine yPd rfl rfl ?_; refine yAd rfl ?_; refine yQ ?_; refine pw_ret ?_
  exact q_ret _ (.tmp rfl .nil) rfl

theorem chkD_k1 {we hs : List Int} {x : Int} (hc : chk we hs = 0) (hx : vB x = true) : chkD we hs [x] = 0 := by rw [chkD, if_pos hc]; simp [hx]
theorem memB_uni (a b : List Int) (x : Int) : memB (uni a b) x = (memB a x || memB b x) := by
  rw [Bool.eq_iff_iff, Bool.or_eq_true]
  simpa [memB] using (uni_spec a b).2 x
theorem isB_joint {we hs we' hs' : List Int} (d : Int) : isB (uni we we') (uni hs hs') d = (isB we hs d && isB we' hs' d) := by
  simp only [isB, memB_uni]
  cases memB hs d <;> cases memB hs' d <;> cases memB we (wkd d) <;> cases memB we' (wkd d) <;> rfl
theorem jn_comm (we hs we' hs' : List Int) : jnE we' hs' we hs = jnE we hs we' hs' ∧ jnW we' hs' we hs = jnW we hs we' hs' ∧ jnH we' hs' we hs = jnH we hs we' hs' := by
  have h : jnE we' hs' we hs = jnE we hs we' hs' := by
    unfold jnE
    rw [uni_comm hs' hs]
    by_cases h1 : chk we hs = 0 <;> by_cases h2 : chk we' hs' = 0 <;> simp [h1, h2]
  refine ⟨h, ?_, ?_⟩
  · unfold jnW; rw [h, uni_comm we' we]
  · unfold jnH; rw [h, uni_comm hs' hs]
theorem jn_self {we hs : List Int} (h : chk we hs = 0) : jnE we hs we hs = 0 ∧ jnW we hs we hs = we ∧ jnH we hs we hs = hs := by
  obtain ⟨⟨a1, a2⟩, ⟨a3, a4⟩, a5⟩ := chk_iff.1 h
  have u1 := uni_self a1
  have u2 := uni_self a3
  have hE : jnE we hs we hs = 0 := by rw [jnE, if_pos ⟨h, h⟩, u2, if_neg (by omega)]
  exact ⟨hE, by rw [jnW, if_pos hE, u1], by rw [jnH, if_pos hE, u2]⟩

set_option maxRecDepth 20000 in
set_option maxHeartbeats 1000000 in
theorem p17 (we hs we' hs' : List Int) (d : Int) : PCalls Try.prog 17 [.agg (dC we hs), .agg (dC we' hs'), dI d] (.d (dB true)) := by
  obtain ⟨gr, hgr⟩ : ∃ g, g = great we hs := ⟨_, rfl⟩
  obtain ⟨gc, hgc⟩ : ∃ g, g = great we' hs' := ⟨_, rfl⟩
  have c1 := p20 we hs
  have c2 := p20 we' hs'
  rw [← hgr] at c1
  rw [← hgc] at c2
  refine pcalls_of_pw Try.func17 rfl Try.ntmps17 Try.results17 (by simp) fun B w0 => ?_
  cases gr
  rotate_left
  · refine pw_seq ?_; refine pw_region ?_; refine yK (cs := [_, _]) rfl rfl ?_; refine yK (cs := [_, _]) rfl rfl ?_; refine yAd rfl ?_; refine yQ ?_; refine pw_seq ?_; refine pw_seq ?_; refine pw_region ?_
    refine yLa (ys := [_, _]) rfl rfl rfl rfl ?_; refine yC (c1) rfl rfl ?_; refine yMd rfl ?_; refine yO rfl ?_; refine yO rfl ?_; refine yPd rfl rfl ?_; refine yMd rfl ?_; refine yO rfl ?_; refine yO rfl ?_; refine yO rfl ?_
    refine yPd rfl rfl ?_; refine yMd rfl ?_; refine yO rfl ?_; refine yO rfl ?_; refine yO rfl ?_; refine yPd rfl rfl ?_; refine yMd rfl ?_; refine yO rfl ?_; refine yO rfl ?_; refine yPd rfl rfl ?_; refine yMd rfl ?_; refine yO rfl ?_
    refine yO rfl ?_; refine yPd rfl rfl ?_; refine yQ ?_; refine pw_ct rfl ?_; refine pw_seq ?_; refine pw_region ?_; refine yC (p22) rfl rfl ?_; refine yAd rfl ?_; refine yQ ?_; refine pw_ret ?_; refine q_then_ret ?_
    exact q_ret _ (.tmp rfl .nil) rfl
  cases gc
  rotate_left
  · refine pw_seq ?_; refine pw_region ?_; refine yK (cs := [_, _]) rfl rfl ?_; refine yK (cs := [_, _]) rfl rfl ?_; refine yAd rfl ?_; refine yQ ?_; refine pw_seq ?_; refine pw_seq ?_; refine pw_region ?_
    refine yLa (ys := [_, _]) rfl rfl rfl rfl ?_; refine yC (c1) rfl rfl ?_; refine yMd rfl ?_; refine yLa (ys := [_, _]) rfl rfl rfl rfl ?_; refine yC (c2) rfl rfl ?_; refine yVd rfl rfl ?_; refine yMd rfl ?_; refine yO rfl ?_
    refine yO rfl ?_; refine yO rfl ?_; refine yPd rfl rfl ?_; refine yMd rfl ?_; refine yO rfl ?_; refine yO rfl ?_; refine yO rfl ?_; refine yPd rfl rfl ?_; refine yMd rfl ?_; refine yO rfl ?_; refine yO rfl ?_; refine yPd rfl rfl ?_
    refine yMd rfl ?_; refine yO rfl ?_; refine yO rfl ?_; refine yPd rfl rfl ?_; refine yQ ?_; refine pw_ct rfl ?_; refine pw_seq ?_; refine pw_region ?_; refine yC (p22) rfl rfl ?_; refine yAd rfl ?_; refine yQ ?_; refine pw_ret ?_
    refine q_then_ret ?_
    exact q_ret _ (.tmp rfl .nil) rfl
  have c3 := p24 we hs
  have c4 := p24 we' hs'
  obtain ⟨ca, hca⟩ : ∃ f, f = chk we hs := ⟨_, rfl⟩
  obtain ⟨cb, hcb⟩ : ∃ f, f = chk we' hs' := ⟨_, rfl⟩
  rw [← hca] at c3
  rw [← hcb] at c4
  by_cases h0 : ca = 0
  rotate_left
  · have t1 : (ca != 0) = true := by simpa using h0
    refine pw_seq ?_; refine pw_region ?_; refine yK (cs := [_, _]) rfl rfl ?_; refine yK (cs := [_, _]) rfl rfl ?_; refine yAd rfl ?_; refine yQ ?_; refine pw_seq ?_; refine pw_seq ?_; refine pw_region ?_
    refine yLa (ys := [_, _]) rfl rfl rfl rfl ?_; refine yC (c1) rfl rfl ?_; refine yMd rfl ?_; refine yLa (ys := [_, _]) rfl rfl rfl rfl ?_; refine yC (c2) rfl rfl ?_; refine yVd rfl rfl ?_; refine yMd rfl ?_
    refine yLa (ys := [_, _]) rfl rfl rfl rfl ?_; refine yC (c3) rfl rfl ?_; refine yB rfl rfl rfl rfl ?_; refine yVd rfl rfl ?_; refine yMd rfl ?_
    rw [t1]
    refine yO rfl ?_; refine yO rfl ?_; refine yO rfl ?_; refine yPd rfl rfl ?_; refine yMd rfl ?_; refine yO rfl ?_; refine yO rfl ?_; refine yPd rfl rfl ?_; refine yMd rfl ?_; refine yO rfl ?_; refine yO rfl ?_; refine yPd rfl rfl ?_
    refine yQ ?_; refine pw_ct rfl ?_; refine pw_seq ?_; refine pw_region ?_; refine yC (p22) rfl rfl ?_; refine yAd rfl ?_; refine yQ ?_; refine pw_ret ?_; refine q_then_ret ?_
    exact q_ret _ (.tmp rfl .nil) rfl
  subst h0
  by_cases h0 : cb = 0
  rotate_left
  · have t1 : (cb != 0) = true := by simpa using h0
    refine pw_seq ?_; refine pw_region ?_; refine yK (cs := [_, _]) rfl rfl ?_; refine yK (cs := [_, _]) rfl rfl ?_; refine yAd rfl ?_; refine yQ ?_; refine pw_seq ?_; refine pw_seq ?_; refine pw_region ?_
    refine yLa (ys := [_, _]) rfl rfl rfl rfl ?_; refine yC (c1) rfl rfl ?_; refine yMd rfl ?_; refine yLa (ys := [_, _]) rfl rfl rfl rfl ?_; refine yC (c2) rfl rfl ?_; refine yVd rfl rfl ?_; refine yMd rfl ?_
    refine yLa (ys := [_, _]) rfl rfl rfl rfl ?_; refine yC (c3) rfl rfl ?_; refine yB rfl rfl rfl rfl ?_; refine yVd rfl rfl ?_; refine yMd rfl ?_; refine yLa (ys := [_, _]) rfl rfl rfl rfl ?_; refine yC (c4) rfl rfl ?_
    refine yB rfl rfl rfl rfl ?_; refine yVd rfl rfl ?_; refine yMd rfl ?_
    rw [t1]
    refine yO rfl ?_; refine yO rfl ?_; refine yPd rfl rfl ?_; refine yMd rfl ?_; refine yO rfl ?_; refine yO rfl ?_; refine yPd rfl rfl ?_; refine yQ ?_; refine pw_ct rfl ?_; refine pw_seq ?_; refine pw_region ?_
    refine yC (p22) rfl rfl ?_; refine yAd rfl ?_; refine yQ ?_; refine pw_ret ?_; refine q_then_ret ?_
    exact q_ret _ (.tmp rfl .nil) rfl
  subst h0
  by_cases hd1 : d < -25567
  · have t1 : decide (d < -25567) = true := by simpa using hd1
    refine pw_seq ?_; refine pw_region ?_; refine yK (cs := [_, _]) rfl rfl ?_; refine yK (cs := [_, _]) rfl rfl ?_; refine yAd rfl ?_; refine yQ ?_; refine pw_seq ?_; refine pw_seq ?_; refine pw_region ?_
    refine yLa (ys := [_, _]) rfl rfl rfl rfl ?_; refine yC (c1) rfl rfl ?_; refine yMd rfl ?_; refine yLa (ys := [_, _]) rfl rfl rfl rfl ?_; refine yC (c2) rfl rfl ?_; refine yVd rfl rfl ?_; refine yMd rfl ?_
    refine yLa (ys := [_, _]) rfl rfl rfl rfl ?_; refine yC (c3) rfl rfl ?_; refine yB rfl rfl rfl rfl ?_; refine yVd rfl rfl ?_; refine yMd rfl ?_; refine yLa (ys := [_, _]) rfl rfl rfl rfl ?_; refine yC (c4) rfl rfl ?_
    refine yB rfl rfl rfl rfl ?_; refine yVd rfl rfl ?_; refine yMd rfl ?_; refine yMd rfl ?_; refine yB rfl rfl rfl rfl ?_; refine yVd rfl rfl ?_; refine yMd rfl ?_
    rw [t1]
    refine yO rfl ?_; refine yO rfl ?_; refine yPd rfl rfl ?_; refine yQ ?_; refine pw_ct rfl ?_; refine pw_seq ?_; refine pw_region ?_; refine yC (p22) rfl rfl ?_; refine yAd rfl ?_; refine yQ ?_; refine pw_ret ?_; refine q_then_ret ?_
    exact q_ret _ (.tmp rfl .nil) rfl
  have t1 : decide (d < -25567) = false := by simpa using hd1
  by_cases hd2 : d > 84005
  · have t2 : decide (d > 84005) = true := by simpa using hd2
    refine pw_seq ?_; refine pw_region ?_; refine yK (cs := [_, _]) rfl rfl ?_; refine yK (cs := [_, _]) rfl rfl ?_; refine yAd rfl ?_; refine yQ ?_; refine pw_seq ?_; refine pw_seq ?_; refine pw_region ?_
    refine yLa (ys := [_, _]) rfl rfl rfl rfl ?_; refine yC (c1) rfl rfl ?_; refine yMd rfl ?_; refine yLa (ys := [_, _]) rfl rfl rfl rfl ?_; refine yC (c2) rfl rfl ?_; refine yVd rfl rfl ?_; refine yMd rfl ?_
    refine yLa (ys := [_, _]) rfl rfl rfl rfl ?_; refine yC (c3) rfl rfl ?_; refine yB rfl rfl rfl rfl ?_; refine yVd rfl rfl ?_; refine yMd rfl ?_; refine yLa (ys := [_, _]) rfl rfl rfl rfl ?_; refine yC (c4) rfl rfl ?_
    refine yB rfl rfl rfl rfl ?_; refine yVd rfl rfl ?_; refine yMd rfl ?_; refine yMd rfl ?_; refine yB rfl rfl rfl rfl ?_; refine yVd rfl rfl ?_; refine yMd rfl ?_
    rw [t1]
    refine yMd rfl ?_; refine yB rfl rfl rfl rfl ?_; refine yVd rfl rfl ?_; refine yQ ?_; refine q_then ?_
    rw [t2]
    refine pw_ct rfl ?_; refine pw_seq ?_; refine pw_region ?_; refine yC (p22) rfl rfl ?_; refine yAd rfl ?_; refine yQ ?_; refine pw_ret ?_; refine q_then_ret ?_
    exact q_ret _ (.tmp rfl .nil) rfl
  have t2 : decide (d > 84005) = false := by simpa using hd2
  have hv : vB d = true := by simp [vB]; omega
  have d1 := p60 we hs we' hs'
  have d2 := p60 we' hs' we hs
  have d3 := p60 we hs we hs
  obtain ⟨k1, k2, k3⟩ := jn_comm we hs we' hs'
  obtain ⟨s1, s2, s3⟩ := jn_self hca.symm
  rw [k1, k2, k3] at d2
  rw [s1, s2, s3] at d3
  have hl := jn_small (we := we) (hs := hs) (we' := we') (hs' := hs')
  have hl2 := jn_small (we := we) (hs := hs) (we' := we) (hs' := hs)
  rw [s2, s3] at hl2
  have e2 := p63 we hs hl2.1 hl2.2
  have bI : ∀ x : Int, (x != x) = false := fun x => by simp
  obtain ⟨e, he⟩ : ∃ f, f = jnE we hs we' hs' := ⟨_, rfl⟩
  by_cases h0 : e = 0
  · subst h0
    obtain ⟨q1, q2, q3, q4, q5⟩ := jnE_zero he.symm
    have hj := jn_chk he.symm
    have e3 := p30 we hs d
    have e4 := p30 we' hs' d
    have e5 := p30 (uni we we') (uni hs hs') d
    have e6 := p62 (uni we we') (uni hs hs')
    have e7 := p64 (uni hs hs') (uni_spec _ _).1 (by omega)
    have ib := isB_joint (we := we) (hs := hs) (we' := we') (hs' := hs') d
    rw [chkD_k1 hca.symm hv, bizV, if_pos (chkD_k1 hca.symm hv)] at e3
    rw [chkD_k1 hcb.symm hv, bizV, if_pos (chkD_k1 hcb.symm hv)] at e4
    rw [chkD_k1 hj hv, bizV, if_pos (chkD_k1 hj hv), ib] at e5
    rw [hj] at e6
    rw [← he, q4, q5] at d1 d2
    rw [q4, q5] at hl
    have e1 := p63 _ _ hl.1 hl.2
    obtain ⟨us, hus⟩ : ∃ u, u = uni we we' := ⟨_, rfl⟩
    obtain ⟨vs, hvs⟩ : ∃ u, u = uni hs hs' := ⟨_, rfl⟩
    obtain ⟨b1, hb1⟩ : ∃ u, u = isB we hs d := ⟨_, rfl⟩
    obtain ⟨b2, hb2⟩ : ∃ u, u = isB we' hs' d := ⟨_, rfl⟩
    rw [← hus, ← hvs] at d1 d2 e1 e5 e6
    rw [← hvs] at e7
    rw [← hb1] at e3 e5
    rw [← hb2] at e4 e5
    refine pw_seq ?_; refine pw_region ?_; refine yK (cs := [_, _]) rfl rfl ?_; refine yK (cs := [_, _]) rfl rfl ?_; refine yAd rfl ?_; refine yQ ?_; refine pw_seq ?_; refine pw_seq ?_; refine pw_region ?_
    refine yLa (ys := [_, _]) rfl rfl rfl rfl ?_; refine yC (c1) rfl rfl ?_; refine yMd rfl ?_; refine yLa (ys := [_, _]) rfl rfl rfl rfl ?_; refine yC (c2) rfl rfl ?_; refine yVd rfl rfl ?_; refine yMd rfl ?_
    refine yLa (ys := [_, _]) rfl rfl rfl rfl ?_; refine yC (c3) rfl rfl ?_; refine yB rfl rfl rfl rfl ?_; refine yVd rfl rfl ?_; refine yMd rfl ?_; refine yLa (ys := [_, _]) rfl rfl rfl rfl ?_; refine yC (c4) rfl rfl ?_
    refine yB rfl rfl rfl rfl ?_; refine yVd rfl rfl ?_; refine yMd rfl ?_; refine yMd rfl ?_; refine yB rfl rfl rfl rfl ?_; refine yVd rfl rfl ?_; refine yMd rfl ?_
    rw [t1]
    refine yMd rfl ?_; refine yB rfl rfl rfl rfl ?_; refine yVd rfl rfl ?_; refine yQ ?_; refine q_then ?_
    rw [t2]
    have bB : ∀ (o1 o2 : Operand) (x : Bool) (w : World), (eqGuard .eql 4 o1 o2 (.bool x) (.bool x) >>= fun _ => binOp .eql 4 (.bool x) (.bool x)).run Try.prog w = .ok (.bool true) w := fun o1 o2 x w => by simp [eqGuard, binOp, go_sem, run_equal_bool w 4 x x Try.underlying4]
    cases b1 <;> cases b2
    · refine pw_cf rfl ?_; refine pw_skip ?_; refine pw_seq ?_; refine pw_region ?_; refine yLa (ys := [_, _]) rfl rfl rfl rfl ?_; refine yLa (ys := [_, _]) rfl rfl rfl rfl ?_; refine yC (d1) rfl rfl ?_; refine yMp rfl ?_
      refine yX rfl rfl ?_; refine yX rfl rfl ?_; refine yZ (cs := [_, _]) rfl rfl ?_; refine yS (cs' := [_, _]) rfl rfl rfl rfl rfl ?_; refine yAd rfl ?_; refine yQ ?_; refine pw_seq ?_; refine pw_region ?_
      refine yLa (ys := [_, _]) rfl rfl rfl rfl ?_; refine yLa (ys := [_, _]) rfl rfl rfl rfl ?_; refine yC (d2) rfl rfl ?_; refine yMp rfl ?_; refine yX rfl rfl ?_; refine yX rfl rfl ?_; refine yZ (cs := [_, _]) rfl rfl ?_
      refine yS (cs' := [_, _]) rfl rfl rfl rfl rfl ?_; refine yAd rfl ?_; refine yQ ?_; refine pw_seq ?_; refine pw_region ?_; refine yLa (ys := [_, _]) rfl rfl rfl rfl ?_; refine yLa (ys := [_, _]) rfl rfl rfl rfl ?_
      refine yC (d3) rfl rfl ?_; refine yMp rfl ?_; refine yX rfl rfl ?_; refine yX rfl rfl ?_; refine yZ (cs := [_, _]) rfl rfl ?_; refine yS (cs' := [_, _]) rfl rfl rfl rfl rfl ?_; refine yAd rfl ?_; refine yQ ?_; refine pw_seq ?_
      refine pw_seq ?_; refine pw_region ?_; refine yMd rfl ?_; refine yMd rfl ?_; refine yB rfl rfl rfl rfl ?_; refine yMd rfl ?_; refine yMd rfl ?_; refine yB rfl rfl rfl rfl ?_; refine yVd rfl rfl ?_; refine yMd rfl ?_
      refine yLa (ys := [_, _]) rfl rfl rfl rfl ?_; refine yLa (ys := [_, _]) rfl rfl rfl rfl ?_; refine yC (e1) rfl rfl ?_; refine yU rfl rfl rfl ?_; refine yVd rfl rfl ?_; refine yMd rfl ?_; refine yLa (ys := [_, _]) rfl rfl rfl rfl ?_
      refine yLa (ys := [_, _]) rfl rfl rfl rfl ?_; refine yC (e2) rfl rfl ?_; refine yU rfl rfl rfl ?_; refine yVd rfl rfl ?_; refine yQ ?_; refine pw_cf rfl ?_; refine pw_skip ?_; refine pw_seq ?_; refine pw_seq ?_; refine pw_region ?_
      refine yMd rfl ?_; refine yB rfl rfl rfl rfl ?_; refine yQ ?_; refine pw_cf rfl ?_; refine pw_skip ?_; refine pw_seq ?_; refine pw_region ?_; refine yLa (ys := [_, _]) rfl rfl rfl rfl ?_; refine yMd rfl ?_; refine yC (e3) rfl rfl ?_
      refine yMp rfl ?_; refine yX rfl rfl ?_; refine yX rfl rfl ?_; refine yAd rfl ?_; refine yAd rfl ?_; refine yQ ?_; refine pw_seq ?_; refine pw_region ?_; refine yLa (ys := [_, _]) rfl rfl rfl rfl ?_; refine yMd rfl ?_
      refine yC (e4) rfl rfl ?_; refine yMp rfl ?_; refine yX rfl rfl ?_; refine yX rfl rfl ?_; refine yAd rfl ?_; refine yAd rfl ?_; refine yQ ?_; refine pw_seq ?_; refine pw_region ?_; refine yLa (ys := [_, _]) rfl rfl rfl rfl ?_
      refine yMd rfl ?_; refine yC (e5) rfl rfl ?_; refine yMp rfl ?_; refine yX rfl rfl ?_; refine yX rfl rfl ?_; refine yAd rfl ?_; refine yAd rfl ?_; refine yQ ?_; refine pw_seq ?_; refine pw_region ?_; refine yMd rfl ?_
      refine yB rfl rfl rfl rfl ?_; refine yMd rfl ?_; refine yMd rfl ?_; refine yB rfl rfl rfl rfl ?_; refine yPd rfl rfl ?_; refine yMd rfl ?_; refine yMd rfl ?_; refine yB rfl rfl rfl rfl ?_; refine yPd rfl rfl ?_; refine yMd rfl ?_
      refine yLa (ys := [_, _]) rfl rfl rfl rfl ?_; refine yC (e6) rfl rfl ?_; refine yB rfl rfl rfl rfl ?_; refine yPd rfl rfl ?_; refine yMd rfl ?_; refine yMd rfl ?_; refine yMd rfl ?_; refine yMd rfl ?_; refine yO rfl ?_
      refine yVd rfl rfl ?_; refine yBr (vx := .bool false) (vy := .bool false) (u := .bool true) (bB _ _ false) rfl rfl rfl ?_; refine yPd rfl rfl ?_; refine yMd rfl ?_; refine yFb rfl ?_; refine yLd rfl rfl rfl ?_
      refine yC (e7) rfl rfl ?_; refine yPd rfl rfl ?_; refine yMd rfl ?_; refine yC (p22) rfl rfl ?_; refine yPd rfl rfl ?_; refine yAd rfl ?_; refine yQ ?_; refine pw_ret ?_
      exact q_ret _ (.tmp rfl .nil) rfl
    · refine pw_cf rfl ?_; refine pw_skip ?_; refine pw_seq ?_; refine pw_region ?_; refine yLa (ys := [_, _]) rfl rfl rfl rfl ?_; refine yLa (ys := [_, _]) rfl rfl rfl rfl ?_; refine yC (d1) rfl rfl ?_; refine yMp rfl ?_
      refine yX rfl rfl ?_; refine yX rfl rfl ?_; refine yZ (cs := [_, _]) rfl rfl ?_; refine yS (cs' := [_, _]) rfl rfl rfl rfl rfl ?_; refine yAd rfl ?_; refine yQ ?_; refine pw_seq ?_; refine pw_region ?_
      refine yLa (ys := [_, _]) rfl rfl rfl rfl ?_; refine yLa (ys := [_, _]) rfl rfl rfl rfl ?_; refine yC (d2) rfl rfl ?_; refine yMp rfl ?_; refine yX rfl rfl ?_; refine yX rfl rfl ?_; refine yZ (cs := [_, _]) rfl rfl ?_
      refine yS (cs' := [_, _]) rfl rfl rfl rfl rfl ?_; refine yAd rfl ?_; refine yQ ?_; refine pw_seq ?_; refine pw_region ?_; refine yLa (ys := [_, _]) rfl rfl rfl rfl ?_; refine yLa (ys := [_, _]) rfl rfl rfl rfl ?_
      refine yC (d3) rfl rfl ?_; refine yMp rfl ?_; refine yX rfl rfl ?_; refine yX rfl rfl ?_; refine yZ (cs := [_, _]) rfl rfl ?_; refine yS (cs' := [_, _]) rfl rfl rfl rfl rfl ?_; refine yAd rfl ?_; refine yQ ?_; refine pw_seq ?_
      refine pw_seq ?_; refine pw_region ?_; refine yMd rfl ?_; refine yMd rfl ?_; refine yB rfl rfl rfl rfl ?_; refine yMd rfl ?_; refine yMd rfl ?_; refine yB rfl rfl rfl rfl ?_; refine yVd rfl rfl ?_; refine yMd rfl ?_
      refine yLa (ys := [_, _]) rfl rfl rfl rfl ?_; refine yLa (ys := [_, _]) rfl rfl rfl rfl ?_; refine yC (e1) rfl rfl ?_; refine yU rfl rfl rfl ?_; refine yVd rfl rfl ?_; refine yMd rfl ?_; refine yLa (ys := [_, _]) rfl rfl rfl rfl ?_
      refine yLa (ys := [_, _]) rfl rfl rfl rfl ?_; refine yC (e2) rfl rfl ?_; refine yU rfl rfl rfl ?_; refine yVd rfl rfl ?_; refine yQ ?_; refine pw_cf rfl ?_; refine pw_skip ?_; refine pw_seq ?_; refine pw_seq ?_; refine pw_region ?_
      refine yMd rfl ?_; refine yB rfl rfl rfl rfl ?_; refine yQ ?_; refine pw_cf rfl ?_; refine pw_skip ?_; refine pw_seq ?_; refine pw_region ?_; refine yLa (ys := [_, _]) rfl rfl rfl rfl ?_; refine yMd rfl ?_; refine yC (e3) rfl rfl ?_
      refine yMp rfl ?_; refine yX rfl rfl ?_; refine yX rfl rfl ?_; refine yAd rfl ?_; refine yAd rfl ?_; refine yQ ?_; refine pw_seq ?_; refine pw_region ?_; refine yLa (ys := [_, _]) rfl rfl rfl rfl ?_; refine yMd rfl ?_
      refine yC (e4) rfl rfl ?_; refine yMp rfl ?_; refine yX rfl rfl ?_; refine yX rfl rfl ?_; refine yAd rfl ?_; refine yAd rfl ?_; refine yQ ?_; refine pw_seq ?_; refine pw_region ?_; refine yLa (ys := [_, _]) rfl rfl rfl rfl ?_
      refine yMd rfl ?_; refine yC (e5) rfl rfl ?_; refine yMp rfl ?_; refine yX rfl rfl ?_; refine yX rfl rfl ?_; refine yAd rfl ?_; refine yAd rfl ?_; refine yQ ?_; refine pw_seq ?_; refine pw_region ?_; refine yMd rfl ?_
      refine yB rfl rfl rfl rfl ?_; refine yMd rfl ?_; refine yMd rfl ?_; refine yB rfl rfl rfl rfl ?_; refine yPd rfl rfl ?_; refine yMd rfl ?_; refine yMd rfl ?_; refine yB rfl rfl rfl rfl ?_; refine yPd rfl rfl ?_; refine yMd rfl ?_
      refine yLa (ys := [_, _]) rfl rfl rfl rfl ?_; refine yC (e6) rfl rfl ?_; refine yB rfl rfl rfl rfl ?_; refine yPd rfl rfl ?_; refine yMd rfl ?_; refine yMd rfl ?_; refine yMd rfl ?_; refine yMd rfl ?_; refine yO rfl ?_
      refine yVd rfl rfl ?_; refine yBr (vx := .bool false) (vy := .bool false) (u := .bool true) (bB _ _ false) rfl rfl rfl ?_; refine yPd rfl rfl ?_; refine yMd rfl ?_; refine yFb rfl ?_; refine yLd rfl rfl rfl ?_
      refine yC (e7) rfl rfl ?_; refine yPd rfl rfl ?_; refine yMd rfl ?_; refine yC (p22) rfl rfl ?_; refine yPd rfl rfl ?_; refine yAd rfl ?_; refine yQ ?_; refine pw_ret ?_
      exact q_ret _ (.tmp rfl .nil) rfl
    · refine pw_cf rfl ?_; refine pw_skip ?_; refine pw_seq ?_; refine pw_region ?_; refine yLa (ys := [_, _]) rfl rfl rfl rfl ?_; refine yLa (ys := [_, _]) rfl rfl rfl rfl ?_; refine yC (d1) rfl rfl ?_; refine yMp rfl ?_
      refine yX rfl rfl ?_; refine yX rfl rfl ?_; refine yZ (cs := [_, _]) rfl rfl ?_; refine yS (cs' := [_, _]) rfl rfl rfl rfl rfl ?_; refine yAd rfl ?_; refine yQ ?_; refine pw_seq ?_; refine pw_region ?_
      refine yLa (ys := [_, _]) rfl rfl rfl rfl ?_; refine yLa (ys := [_, _]) rfl rfl rfl rfl ?_; refine yC (d2) rfl rfl ?_; refine yMp rfl ?_; refine yX rfl rfl ?_; refine yX rfl rfl ?_; refine yZ (cs := [_, _]) rfl rfl ?_
      refine yS (cs' := [_, _]) rfl rfl rfl rfl rfl ?_; refine yAd rfl ?_; refine yQ ?_; refine pw_seq ?_; refine pw_region ?_; refine yLa (ys := [_, _]) rfl rfl rfl rfl ?_; refine yLa (ys := [_, _]) rfl rfl rfl rfl ?_
      refine yC (d3) rfl rfl ?_; refine yMp rfl ?_; refine yX rfl rfl ?_; refine yX rfl rfl ?_; refine yZ (cs := [_, _]) rfl rfl ?_; refine yS (cs' := [_, _]) rfl rfl rfl rfl rfl ?_; refine yAd rfl ?_; refine yQ ?_; refine pw_seq ?_
      refine pw_seq ?_; refine pw_region ?_; refine yMd rfl ?_; refine yMd rfl ?_; refine yB rfl rfl rfl rfl ?_; refine yMd rfl ?_; refine yMd rfl ?_; refine yB rfl rfl rfl rfl ?_; refine yVd rfl rfl ?_; refine yMd rfl ?_
      refine yLa (ys := [_, _]) rfl rfl rfl rfl ?_; refine yLa (ys := [_, _]) rfl rfl rfl rfl ?_; refine yC (e1) rfl rfl ?_; refine yU rfl rfl rfl ?_; refine yVd rfl rfl ?_; refine yMd rfl ?_; refine yLa (ys := [_, _]) rfl rfl rfl rfl ?_
      refine yLa (ys := [_, _]) rfl rfl rfl rfl ?_; refine yC (e2) rfl rfl ?_; refine yU rfl rfl rfl ?_; refine yVd rfl rfl ?_; refine yQ ?_; refine pw_cf rfl ?_; refine pw_skip ?_; refine pw_seq ?_; refine pw_seq ?_; refine pw_region ?_
      refine yMd rfl ?_; refine yB rfl rfl rfl rfl ?_; refine yQ ?_; refine pw_cf rfl ?_; refine pw_skip ?_; refine pw_seq ?_; refine pw_region ?_; refine yLa (ys := [_, _]) rfl rfl rfl rfl ?_; refine yMd rfl ?_; refine yC (e3) rfl rfl ?_
      refine yMp rfl ?_; refine yX rfl rfl ?_; refine yX rfl rfl ?_; refine yAd rfl ?_; refine yAd rfl ?_; refine yQ ?_; refine pw_seq ?_; refine pw_region ?_; refine yLa (ys := [_, _]) rfl rfl rfl rfl ?_; refine yMd rfl ?_
      refine yC (e4) rfl rfl ?_; refine yMp rfl ?_; refine yX rfl rfl ?_; refine yX rfl rfl ?_; refine yAd rfl ?_; refine yAd rfl ?_; refine yQ ?_; refine pw_seq ?_; refine pw_region ?_; refine yLa (ys := [_, _]) rfl rfl rfl rfl ?_
      refine yMd rfl ?_; refine yC (e5) rfl rfl ?_; refine yMp rfl ?_; refine yX rfl rfl ?_; refine yX rfl rfl ?_; refine yAd rfl ?_; refine yAd rfl ?_; refine yQ ?_; refine pw_seq ?_; refine pw_region ?_; refine yMd rfl ?_
      refine yB rfl rfl rfl rfl ?_; refine yMd rfl ?_; refine yMd rfl ?_; refine yB rfl rfl rfl rfl ?_; refine yPd rfl rfl ?_; refine yMd rfl ?_; refine yMd rfl ?_; refine yB rfl rfl rfl rfl ?_; refine yPd rfl rfl ?_; refine yMd rfl ?_
      refine yLa (ys := [_, _]) rfl rfl rfl rfl ?_; refine yC (e6) rfl rfl ?_; refine yB rfl rfl rfl rfl ?_; refine yPd rfl rfl ?_; refine yMd rfl ?_; refine yMd rfl ?_; refine yMd rfl ?_; refine yMd rfl ?_; refine yMd rfl ?_
      refine yPd rfl rfl ?_; refine yBr (vx := .bool false) (vy := .bool false) (u := .bool true) (bB _ _ false) rfl rfl rfl ?_; refine yPd rfl rfl ?_; refine yMd rfl ?_; refine yFb rfl ?_; refine yLd rfl rfl rfl ?_
      refine yC (e7) rfl rfl ?_; refine yPd rfl rfl ?_; refine yMd rfl ?_; refine yC (p22) rfl rfl ?_; refine yPd rfl rfl ?_; refine yAd rfl ?_; refine yQ ?_; refine pw_ret ?_
      exact q_ret _ (.tmp rfl .nil) rfl
    · refine pw_cf rfl ?_; refine pw_skip ?_; refine pw_seq ?_; refine pw_region ?_; refine yLa (ys := [_, _]) rfl rfl rfl rfl ?_; refine yLa (ys := [_, _]) rfl rfl rfl rfl ?_; refine yC (d1) rfl rfl ?_; refine yMp rfl ?_
      refine yX rfl rfl ?_; refine yX rfl rfl ?_; refine yZ (cs := [_, _]) rfl rfl ?_; refine yS (cs' := [_, _]) rfl rfl rfl rfl rfl ?_; refine yAd rfl ?_; refine yQ ?_; refine pw_seq ?_; refine pw_region ?_
      refine yLa (ys := [_, _]) rfl rfl rfl rfl ?_; refine yLa (ys := [_, _]) rfl rfl rfl rfl ?_; refine yC (d2) rfl rfl ?_; refine yMp rfl ?_; refine yX rfl rfl ?_; refine yX rfl rfl ?_; refine yZ (cs := [_, _]) rfl rfl ?_
      refine yS (cs' := [_, _]) rfl rfl rfl rfl rfl ?_; refine yAd rfl ?_; refine yQ ?_; refine pw_seq ?_; refine pw_region ?_; refine yLa (ys := [_, _]) rfl rfl rfl rfl ?_; refine yLa (ys := [_, _]) rfl rfl rfl rfl ?_
      refine yC (d3) rfl rfl ?_; refine yMp rfl ?_; refine yX rfl rfl ?_; refine yX rfl rfl ?_; refine yZ (cs := [_, _]) rfl rfl ?_; refine yS (cs' := [_, _]) rfl rfl rfl rfl rfl ?_; refine yAd rfl ?_; refine yQ ?_; refine pw_seq ?_
      refine pw_seq ?_; refine pw_region ?_; refine yMd rfl ?_; refine yMd rfl ?_; refine yB rfl rfl rfl rfl ?_; refine yMd rfl ?_; refine yMd rfl ?_; refine yB rfl rfl rfl rfl ?_; refine yVd rfl rfl ?_; refine yMd rfl ?_
      refine yLa (ys := [_, _]) rfl rfl rfl rfl ?_; refine yLa (ys := [_, _]) rfl rfl rfl rfl ?_; refine yC (e1) rfl rfl ?_; refine yU rfl rfl rfl ?_; refine yVd rfl rfl ?_; refine yMd rfl ?_; refine yLa (ys := [_, _]) rfl rfl rfl rfl ?_
      refine yLa (ys := [_, _]) rfl rfl rfl rfl ?_; refine yC (e2) rfl rfl ?_; refine yU rfl rfl rfl ?_; refine yVd rfl rfl ?_; refine yQ ?_; refine pw_cf rfl ?_; refine pw_skip ?_; refine pw_seq ?_; refine pw_seq ?_; refine pw_region ?_
      refine yMd rfl ?_; refine yB rfl rfl rfl rfl ?_; refine yQ ?_; refine pw_cf rfl ?_; refine pw_skip ?_; refine pw_seq ?_; refine pw_region ?_; refine yLa (ys := [_, _]) rfl rfl rfl rfl ?_; refine yMd rfl ?_; refine yC (e3) rfl rfl ?_
      refine yMp rfl ?_; refine yX rfl rfl ?_; refine yX rfl rfl ?_; refine yAd rfl ?_; refine yAd rfl ?_; refine yQ ?_; refine pw_seq ?_; refine pw_region ?_; refine yLa (ys := [_, _]) rfl rfl rfl rfl ?_; refine yMd rfl ?_
      refine yC (e4) rfl rfl ?_; refine yMp rfl ?_; refine yX rfl rfl ?_; refine yX rfl rfl ?_; refine yAd rfl ?_; refine yAd rfl ?_; refine yQ ?_; refine pw_seq ?_; refine pw_region ?_; refine yLa (ys := [_, _]) rfl rfl rfl rfl ?_
      refine yMd rfl ?_; refine yC (e5) rfl rfl ?_; refine yMp rfl ?_; refine yX rfl rfl ?_; refine yX rfl rfl ?_; refine yAd rfl ?_; refine yAd rfl ?_; refine yQ ?_; refine pw_seq ?_; refine pw_region ?_; refine yMd rfl ?_
      refine yB rfl rfl rfl rfl ?_; refine yMd rfl ?_; refine yMd rfl ?_; refine yB rfl rfl rfl rfl ?_; refine yPd rfl rfl ?_; refine yMd rfl ?_; refine yMd rfl ?_; refine yB rfl rfl rfl rfl ?_; refine yPd rfl rfl ?_; refine yMd rfl ?_
      refine yLa (ys := [_, _]) rfl rfl rfl rfl ?_; refine yC (e6) rfl rfl ?_; refine yB rfl rfl rfl rfl ?_; refine yPd rfl rfl ?_; refine yMd rfl ?_; refine yMd rfl ?_; refine yMd rfl ?_; refine yMd rfl ?_; refine yMd rfl ?_
      refine yPd rfl rfl ?_; refine yBr (vx := .bool true) (vy := .bool true) (u := .bool true) (bB _ _ true) rfl rfl rfl ?_; refine yPd rfl rfl ?_; refine yMd rfl ?_; refine yFb rfl ?_; refine yLd rfl rfl rfl ?_
      refine yC (e7) rfl rfl ?_; refine yPd rfl rfl ?_; refine yMd rfl ?_; refine yC (p22) rfl rfl ?_; refine yPd rfl rfl ?_; refine yAd rfl ?_; refine yQ ?_; refine pw_ret ?_
      exact q_ret _ (.tmp rfl .nil) rfl
  · have he4 : e = 4 := by
      rw [he] at h0 ⊢
      unfold jnE at h0 ⊢
      rw [if_pos ⟨hca.symm, hcb.symm⟩] at h0 ⊢
      split at h0
      · rename_i h; rw [if_pos h]
      · exact absurd rfl h0
    subst he4
    have e1 := p63 _ _ hl.1 hl.2
    rw [← he] at d1 d2
    obtain ⟨us, hus⟩ : ∃ f, f = jnW we hs we' hs' := ⟨_, rfl⟩
    obtain ⟨vs, hvs⟩ : ∃ f, f = jnH we hs we' hs' := ⟨_, rfl⟩
    rw [← hus, ← hvs] at d1 d2 e1
    refine pw_seq ?_; refine pw_region ?_; refine yK (cs := [_, _]) rfl rfl ?_; refine yK (cs := [_, _]) rfl rfl ?_; refine yAd rfl ?_; refine yQ ?_; refine pw_seq ?_; refine pw_seq ?_; refine pw_region ?_
    refine yLa (ys := [_, _]) rfl rfl rfl rfl ?_; refine yC (c1) rfl rfl ?_; refine yMd rfl ?_; refine yLa (ys := [_, _]) rfl rfl rfl rfl ?_; refine yC (c2) rfl rfl ?_; refine yVd rfl rfl ?_; refine yMd rfl ?_
    refine yLa (ys := [_, _]) rfl rfl rfl rfl ?_; refine yC (c3) rfl rfl ?_; refine yB rfl rfl rfl rfl ?_; refine yVd rfl rfl ?_; refine yMd rfl ?_; refine yLa (ys := [_, _]) rfl rfl rfl rfl ?_; refine yC (c4) rfl rfl ?_
    refine yB rfl rfl rfl rfl ?_; refine yVd rfl rfl ?_; refine yMd rfl ?_; refine yMd rfl ?_; refine yB rfl rfl rfl rfl ?_; refine yVd rfl rfl ?_; refine yMd rfl ?_
    rw [t1]
    refine yMd rfl ?_; refine yB rfl rfl rfl rfl ?_; refine yVd rfl rfl ?_; refine yQ ?_; refine q_then ?_
    rw [t2]
    refine pw_cf rfl ?_; refine pw_skip ?_; refine pw_seq ?_; refine pw_region ?_; refine yLa (ys := [_, _]) rfl rfl rfl rfl ?_; refine yLa (ys := [_, _]) rfl rfl rfl rfl ?_; refine yC (d1) rfl rfl ?_; refine yMp rfl ?_
    refine yX rfl rfl ?_; refine yX rfl rfl ?_; refine yZ (cs := [_, _]) rfl rfl ?_; refine yS (cs' := [_, _]) rfl rfl rfl rfl rfl ?_; refine yAd rfl ?_; refine yQ ?_; refine pw_seq ?_; refine pw_region ?_
    refine yLa (ys := [_, _]) rfl rfl rfl rfl ?_; refine yLa (ys := [_, _]) rfl rfl rfl rfl ?_; refine yC (d2) rfl rfl ?_; refine yMp rfl ?_; refine yX rfl rfl ?_; refine yX rfl rfl ?_; refine yZ (cs := [_, _]) rfl rfl ?_
    refine yS (cs' := [_, _]) rfl rfl rfl rfl rfl ?_; refine yAd rfl ?_; refine yQ ?_; refine pw_seq ?_; refine pw_region ?_; refine yLa (ys := [_, _]) rfl rfl rfl rfl ?_; refine yLa (ys := [_, _]) rfl rfl rfl rfl ?_
    refine yC (d3) rfl rfl ?_; refine yMp rfl ?_; refine yX rfl rfl ?_; refine yX rfl rfl ?_; refine yZ (cs := [_, _]) rfl rfl ?_; refine yS (cs' := [_, _]) rfl rfl rfl rfl rfl ?_; refine yAd rfl ?_; refine yQ ?_; refine pw_seq ?_
    refine pw_seq ?_; refine pw_region ?_; refine yMd rfl ?_; refine yMd rfl ?_; refine yB rfl rfl rfl rfl ?_; refine yMd rfl ?_; refine yMd rfl ?_; refine yB rfl rfl rfl rfl ?_; refine yVd rfl rfl ?_; refine yMd rfl ?_
    refine yLa (ys := [_, _]) rfl rfl rfl rfl ?_; refine yLa (ys := [_, _]) rfl rfl rfl rfl ?_; refine yC (e1) rfl rfl ?_; refine yU rfl rfl rfl ?_; refine yVd rfl rfl ?_; refine yMd rfl ?_; refine yLa (ys := [_, _]) rfl rfl rfl rfl ?_
    refine yLa (ys := [_, _]) rfl rfl rfl rfl ?_; refine yC (e2) rfl rfl ?_; refine yU rfl rfl rfl ?_; refine yVd rfl rfl ?_; refine yQ ?_; refine pw_cf rfl ?_; refine pw_skip ?_; refine pw_seq ?_; refine pw_seq ?_; refine pw_region ?_
    refine yMd rfl ?_; refine yB rfl rfl rfl rfl ?_; refine yQ ?_; refine pw_ct rfl ?_; refine pw_seq ?_; refine pw_region ?_; refine yMd rfl ?_; refine yB rfl rfl rfl rfl ?_; refine yMd rfl ?_; refine yC (p22) rfl rfl ?_
    refine yPd rfl rfl ?_; refine yAd rfl ?_; refine yQ ?_; refine pw_ret ?_; refine q_then_ret ?_
    exact q_ret _ (.tmp rfl .nil) rfl

theorem checks_law (we hs we' hs' : List Int) (w : World) (v u : Value) (hv : DRep (fun _ _ => True) w v (.agg (dC we hs))) (hu : DRep (fun _ _ => True) w u (.agg (dC we' hs'))) : Calls Try.prog 16 #[v, u] w fun e w' => e = .returned (.bool true) ∧ Below w.heap.size w w' :=
  calls_of_true (p16 we hs we' hs') w [v, u] rfl fun i v' x hv' hx => by
    match i, hv', hx with
    | 0, hv', hx => cases hv'; cases hx; exact hv
    | 1, hv', hx => cases hv'; cases hx; exact hu
    | i + 2, hv', hx => simp at hv'
theorem joint_law (we hs we' hs' : List Int) (d : Int) (w : World) (v u : Value) (hv : DRep (fun _ _ => True) w v (.agg (dC we hs))) (hu : DRep (fun _ _ => True) w u (.agg (dC we' hs'))) : Calls Try.prog 17 #[v, u, .int .i64 d] w fun e w' => e = .returned (.bool true) ∧ Below w.heap.size w w' :=
  calls_of_true (p17 we hs we' hs' d) w [v, u, .int .i64 d] rfl fun i v' x hv' hx => by
    match i, hv', hx with
    | 0, hv', hx => cases hv'; cases hx; exact hv
    | 1, hv', hx => cases hv'; cases hx; exact hu
    | 2, hv', hx => cases hv'; cases hx; exact .val _ rfl
    | i + 3, hv', hx => simp at hv'
end Go.Proofs.Ytilbolgncpfmmaa
