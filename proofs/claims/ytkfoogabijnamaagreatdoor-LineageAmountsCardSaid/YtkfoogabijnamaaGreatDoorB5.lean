/- Hidden memory opens and closes: rows become data, a map becomes data, variables that closures hold are named; regions that draw their order. -/
import Derived.Test.YtkfoogabijnamaaGreatDoorB4
import Derived.OrdersHeld
import Derived.Test.YtkfoogabijnamaaGreatDoorB3
import Derived.Sort.Walk0
import Derived.Lib.ItoaNum
import Derived.Shelf.SlGeneric
import Derived.Shelf.SlIter.Nil
import Derived.Shelf.SortM.Plain
import Derived.Shelf.SortM.SortNone
import Derived.Shelf.Strings.SlTrimAscii
import Derived.Shelf.Strconv.ParseUint10At
import Derived.Shelf.Strconv.Itoa3
import Derived.Shelf.Strings.Repeat
import Derived.Shelf.Strings.Builder1
import Derived.Ground.GgzProg
import Derived.Ground.SlgmProg
import Derived.Ground.NamesProg
import Derived.Test.YtkfoogabijnamaaGreatDoorProg
set_option maxHeartbeats 1000000
namespace Go.Proofs.YtkfoogabijnamaaGreatDoor.Px
open Go.RowKit

def gV (l : List (List UInt8 × (Value × List (List UInt8)))) : List (List UInt8 × DV) := l.map fun q => (q.1, .val q.2.1)
def gR (l : List (List UInt8 × (Value × List (List UInt8)))) : List (Value × List (List UInt8)) := l.map (·.2)
def gD (l : List (List UInt8 × List (List UInt8))) : List (List UInt8 × DV) := l.map fun q => (q.1, .sl 1 (q.2.map fun s => [dS s]))
def gP (l : List (List UInt8 × (Value × List (List UInt8)))) : List (List UInt8 × List (List UInt8)) := l.map fun q => (q.1, q.2.2)

theorem Rep.remap {B : Nat} {w0 : Cx} {g : Gh} {st : PS} {a : Act} {w : World} (h : Rep B w0 g st a w) (i0 : Nat) {ms ms' : List (Value × DV)} (hi : st.bget i0 = some [.mc ms]) (hge : 500000 ≤ i0) (hm : ∀ b es c, g.bl i0 = some b → w.heap[b]? = some (.map es c) → MapAt g w es c ms → MapAt g w es c ms') : Rep B w0 g (st.bput i0 [.mc ms']) a w := by
  refine { h with lim := h.lim, size := h.size, slots := h.slots, boxes := fun j cs hj hlt => ?_, maps := fun j m hj hge' => ?_, dom := fun j b hj => ?_, tdom := h.tdom, tlen := h.tlen }
  · rw [bget_bput, if_neg (by omega)] at hj
    exact h.boxes j cs hj hlt
  · rw [bget_bput] at hj
    by_cases e : j = i0
    · rw [if_pos e] at hj
      subst e
      obtain rfl : ms' = m := by simpa using hj
      obtain ⟨b, es, c, q1, q2, q3⟩ := h.maps j ms hi hge
      exact ⟨b, es, c, q1, q2, hm b es c q1 q2 q3⟩
    · rw [if_neg e] at hj
      exact h.maps j m hj hge'
  · rw [bget_bput]
    by_cases e : j = i0
    · rw [if_pos e]; simp
    · rw [if_neg e]; exact h.dom j b hj
section
variable {P : Program} {rl : Option Nat} {d0 E : Nat} {p : HP} {c : Code} {Q : Exit → PS → HI → Prop} {st : PS} {i : HI}
theorem px_rc (i0 : Nat) {l : List (List UInt8 × (Value × List (List UInt8)))} (hb : st.bget i0 = some [.mc (kmap (gV l))]) (hi : i.rows = gR l) (h : PX P rl d0 (HX E p) c Q (st.bput i0 [.mc (kmap (gD (gP l)))]) { i with rows := [] }) (hge : Nat.ble 500000 i0 = true := by rfl) : PX P rl d0 (HX E p) c Q st i := fun g a w hs hX => by
  have hge' : 500000 ≤ i0 := Nat.le_of_ble_eq_true hge
  have hr := hs.2
  obtain ⟨s1, kp, hown⟩ := hs.chg (w' := w) (fun b o => g.f0 b o ∨ ∃ (j : Nat) (v : Value) (xs : List (List UInt8)), i.rows[j]? = some (v, xs) ∧ v.ownBlock = some b ∧ o < xs.length) (Nat.le_refl _) (fun b o _ hf => .inl hf) (fun b o hb => .inl (hr.f0 b o hb)) (fun _ _ _ => rfl) (fun _ _ _ _ _ => rfl) (fun _ _ _ => rfl) (fun _ _ _ => rfl)
  refine h _ a w ⟨s1.1, s1.2.remap i0 hb hge' fun bm es ck q1 q2 q3 => ?_⟩ ⟨hX.co.keep rfl rfl rfl (Nat.le_refl _) (fun _ _ _ => rfl) (fun b o hf => ?_) hown kp, ⟨fun j v xs hj => by simp at hj, fun j j' p p' b h => by simp at h⟩, hX.it.keep (fun _ _ _ _ => rfl) hown kp, hX.mp.keep (fun bo l' hi' => ⟨rfl, fun o ho => ?_⟩) hown⟩
  · obtain ⟨r1, r2, r3⟩ := q3
    refine ⟨by simpa [kmap, gV, gD, gP] using r1, r2, fun j e q he hq => ?_⟩
    have hq' : ∃ t, l[j]? = some t ∧ q = (vS t.1, DV.sl 1 (t.2.2.map fun s => [dS s])) := by
      simp only [kmap, gD, gP, List.getElem?_map, Option.map_eq_some_iff] at hq
      obtain ⟨_, ⟨_, ⟨t, h1, rfl⟩, rfl⟩, rfl⟩ := hq
      exact ⟨t, h1, rfl⟩
    obtain ⟨⟨k, v, xs⟩, h1, rfl⟩ := hq'
    obtain ⟨h2, h3⟩ := r3 j e (vS k, .val v) he (by simp only [kmap, gV, List.getElem?_map, h1]; rfl)
    refine ⟨h2, ?_⟩
    rw [DRep.val_eq h3]
    have hj : i.rows[j]? = some (v, xs) := by rw [hi]; simp only [gR, List.getElem?_map, h1]; rfl
    obtain ⟨h4, h5, h6⟩ := hX.rows.row j v xs hj
    have hlt := h5.lt
    rcases h5.2 with ⟨-, h7⟩ | ⟨gb, cap, cur, rfl, hbase, hg, hc1, hc2, -, ht⟩
    · omega
    · obtain ⟨h8, h9⟩ := h6 gb rfl
      have hm : maxLen = 9223372036854775807 := rfl
      refine .sl (fun q _ => vS (xs.getD q [])) (by simp) hc1 (by omega) (fun e he => ?_) (fun h0 => ⟨gb, 0, rfl, fun q j' hq hj' => ⟨?_, ?_⟩⟩) (fun _ _ _ _ => rfl) (fun q j' e x he hx => ?_)
      · obtain ⟨s, -, rfl⟩ := List.mem_map.1 he; rfl
      · obtain rfl : j' = 0 := by omega
        refine see_cell.2 ?_
        rw [see_cells hg]
        have h5 : cur.toList[q]? = (xs.map vS)[q]? := by rw [← ht, List.getElem?_take_of_lt (by omega)]
        rw [show 0 + q * 1 + 0 = q by omega, ← Array.getElem?_toList, h5, List.getElem?_map, List.getElem?_eq_getElem hq]
        simp [List.getD, List.getElem?_eq_getElem hq]
      · refine ⟨.inr ⟨j, _, xs, hj, rfl, by omega⟩, fun i' hi3 => h8 (.inr (.inl ⟨i', hi3⟩)), fun t T' n c' hT hv => absurd (.inr (.inr ⟨t, T', hT, by rw [hv]; rfl⟩)) h8⟩
      · rw [List.getElem?_map, Option.map_eq_some_iff] at he
        obtain ⟨s, hs1, rfl⟩ := he
        cases j' with
        | zero =>
          cases hx
          simp only [List.getD, hs1, Option.getD_some]
          exact DRep.val _ rfl
        | succ j' => simp at hx
  · rcases hf with hf | ⟨j, v, xs, h1, h2, h3⟩
    · exact hX.co.f0 b o hf
    · exact hX.co.new b o ((hX.rows.row j v xs h1).2.1.lt b h2).1
  · rcases ho with ho | ⟨j, v, xs, h1, h2, h3⟩
    · exact ho
    · obtain ⟨cur, z, h4⟩ := row_cells (hX.rows.row j v xs h1).2.1 h2
      obtain ⟨es, c, h5, -⟩ := hX.mp bo l' hi'
      rw [h4] at h5
      cases h5
theorem px_mc (s : Nat) {bo : Nat} {l : List (List UInt8 × DV)} (hex : p.ex = none) (hs : st.get s = .d (.val (.map (some bo)))) (hi : i.mp = some (bo, l)) (h : PX P rl d0 (HX E p) c Q (st.put (some s) (.d (.mp (kmap l)))) { i with mp := none }) : PX P rl d0 (HX E p) c Q st i := fun g a w hs' hX => by
  have hr := hs'.2
  obtain ⟨es, ck, h1, h2, h3, h4, h5, h6, h7⟩ := hX.mp bo l hi
  have hN : p.w.heap.size ≤ bo := by
    rcases h7 with h | h
    · exact h
    · rw [hex] at h; cases h
  obtain ⟨s1, kp, hown⟩ := hs'.chg (w' := w) (fun b o => g.f0 b o ∨ b = bo) (Nat.le_refl _) (fun b o _ hf => .inl hf) (fun b o hb => .inl (hr.f0 b o hb)) (fun _ _ _ => rfl) (fun _ _ _ _ _ => rfl) (fun _ _ _ => rfl) (fun _ _ _ => rfl)
  have hv : a.tmps.getD s undef = .map (some bo) := DRep.val_eq (by have := hr.slots s; rw [hs] at this; exact this)
  have hd : DRep (Fx { g with f0 := fun b o => g.f0 b o ∨ b = bo }) w (a.tmps.getD s undef) (.mp (kmap l)) := by
    rw [hv]
    refine .mp (es := es) (ck := ck) (by unfold see; rw [h1]) h2 ⟨.inr rfl, fun j hj => h5 (.inr (.inl ⟨j, hj⟩)), fun t T n c' hT hv => absurd (.inr (.inr ⟨t, T, hT, by rw [hv]; rfl⟩)) h5⟩ (by simpa [kmap] using h3) (fun j e q he hq => ?_) (fun j e q he hq => ?_)
    all_goals
      simp only [kmap, List.getElem?_map, Option.map_eq_some_iff] at hq
      obtain ⟨t, q1, rfl⟩ := hq
    · exact (h4 j e t (by simpa using he) q1).1
    · exact (h4 j e t (by simpa using he) q1).2 _ _
  refine h _ a w ⟨s1.1, { s1.2 with lim := s1.2.lim, size := s1.2.size, boxes := s1.2.boxes, maps := s1.2.maps, dom := s1.2.dom, tdom := s1.2.tdom, tlen := s1.2.tlen, glob := s1.2.glob, slots := fun j => ?_ }⟩ ⟨hX.co.keep rfl rfl rfl (Nat.le_refl _) (fun _ _ _ => rfl) (fun b o hf => ?_) hown kp, hX.rows.keep (fun j v xs b hj hb => ⟨rfl, fun o ho => ?_⟩) hown, hX.it.keep (fun _ _ _ _ => rfl) hown kp, fun _ _ e => by cases e⟩
  · rw [get_put]
    by_cases e : j = s
    · rw [if_pos e, e]; exact hd
    · rw [if_neg e]; exact s1.2.slots j
  · rcases hf with hf | rfl
    · exact hX.co.f0 b o hf
    · exact hX.co.new b o hN
  · rcases ho with ho | rfl
    · exact ho
    · obtain ⟨cur, z, q4⟩ := row_cells (hX.rows.row j v xs hj).2.1 hb
      rw [h1] at q4
      cases q4

theorem px_tell {ι : Type} {X : ι → Gh → World → Prop} {Q : Exit → PS → ι → Prop} {i : ι} {st' : PS} (hX : Stb (X i)) (h0 : ∀ B w0 g a w, Rep B w0 g st a w → ∃ g', Evo g w g' w ∧ Rep B w0 g' st' a w) (h : PX P rl d0 X c Q st' i) : PX P rl d0 X c Q st i := fun g a w ⟨hd, hr⟩ hx => by
  obtain ⟨g', h1, h2⟩ := h0 _ _ g a w hr
  exact h g' a w h2.self (hX _ _ _ _ hx (fun i b hi => (hr.blk i b hi).2) h1)
theorem frb_tell (s i : Nat) {cs : List SV} {ds : List DV} (hs : st.get s = .bx i 0) (hi : st.bget i = some cs) (hds : toDs cs = some ds) (hlt : Nat.blt i 500000 = true := by rfl) : ∀ B w0 g a w, Rep B w0 g st a w → ∃ g', Evo g w g' w ∧ Rep B w0 g' ((st.kill i).put (some s) (.rd ds)) a w := fun B w0 g a w hr => by
  have hlt5 : i < 500000 := Nat.le_of_ble_eq_true hlt
  clear hlt
  obtain ⟨ev, hr'⟩ := hr.kill i
  have hv := hr.slots s
  rw [hs] at hv
  obtain ⟨b, hb, h1⟩ := hv
  have hd : SRep (g.delb i) w (a.tmps.getD s undef) (.rd ds) := by
    rw [h1]
    obtain ⟨b', xs, T, q1, q2, q3, q4, q5⟩ := hr.boxes i cs hi hlt5
    rw [hb] at q1
    cases q1
    obtain ⟨t1, t2⟩ := toDs_get hds
    refine ⟨b, 0, fun j => (xs[j]?).getD undef, rfl, fun j x hj => ?_⟩
    have hjl : j < cs.length := by have := (List.getElem?_eq_some_iff.1 hj).1; omega
    obtain ⟨u, hu⟩ : ∃ u, xs[j]? = some u := ⟨_, Array.getElem?_eq_getElem (by omega)⟩
    obtain ⟨c0, t3, t4⟩ := t2 j x hj
    obtain ⟨u', t5, t6⟩ := q4 j c0 t3
    rw [hu] at t5
    cases t5
    refine ⟨?_, ⟨(hr.blk i b hb).1 _, fun k hk => ?_, fun t T n' c' hT hTv => ?_⟩, ?_, ?_⟩
    · dsimp only; rw [hu, see_cell, see_cells q2, Nat.zero_add, hu]; rfl
    · obtain ⟨h5, h6⟩ := Gh.delb_bl hk
      exact h6 (hr.inj k i b h5 hb)
    · exact absurd hb ((hr.toks t T hT).2 i b (by rw [hTv]; rfl))
    · dsimp only; rw [hu]; exact q5 j u hjl hu
    · dsimp only; rw [hu]; exact (t6.toD t4).mono ev.fx
  refine ⟨_, ev, { hr' with lim := hr'.lim, size := hr'.size, boxes := hr'.boxes, maps := hr'.maps, dom := hr'.dom, tdom := hr'.tdom, tlen := hr'.tlen, glob := hr'.glob, slots := fun j => ?_ }⟩
  rw [get_put]
  by_cases e : j = s
  · rw [if_pos e, e]; exact hd
  · rw [if_neg e]; exact hr'.slots j
end

/-! regions that draw their order, with loads from cells that are fixed -/
def CellsAt (b off : Nat) (us : List Value) (w : World) : Prop := ∀ (j : Nat) u, us[j]? = some u → w.cell? ⟨b, off + j, none⟩ = some u
section
variable {P : Program} {rl : Option Nat} {d0 E : Nat} {p : HP} {l : List Oper} {b off : Nat} {us : List Value} {K : PS → HI → Prop} {st : PS} {i : HI} {Q : Exit → PS → HI → Prop}
def PAH (P : Program) (rl : Option Nat) (d0 E : Nat) (p : HP) (l : List Oper) (b off : Nat) (us : List Value) (K : PS → HI → Prop) (fuel : Nat) (listed : List Bool) (st : PS) (i : HI) : Prop :=
  ∀ g a w, Self rl d0 g st a w → HX E p i g w → CellsAt b off us w → (∀ j, j < us.length → Fx g b (off + j)) → wpAnyH P .any l.toArray (fun e a' w' => e = .normal ∧ ∃ g' s j, Self rl d0 g' s a' w' ∧ HX E p j g' w' ∧ K s j) (CellsAt b off us) fuel listed.toArray a w
theorem pah_fin {fuel : Nat} {listed : List Bool} (hr0 : rdy listed 0 l = []) (h : K st i) : PAH P rl d0 E p l b off us K fuel listed st i := fun g a w hs hX _ _ => by
  refine wpAnyH_done ?_ ⟨rfl, g, st, i, hs, hX, h⟩ fuel
  rw [List.eq_nil_iff_forall_not_mem]
  intro j hj
  rw [rdy_ready, hr0] at hj
  cases hj
theorem pah_step {fuel : Nat} {listed : List Bool} (rs : List Nat) (hr : rdy listed 0 l = rs) (hne : rs.isEmpty = false) (h : allR rs fun i0 => ∃ o, l[i0]? = some o ∧ PL P l.toArray rl d0 (HX E p) (fun s j => PAH P rl d0 E p l b off us K fuel (listed.set i0 true) s j) [o] st i) : PAH P rl d0 E p l b off us K (fuel + 1) listed st i := fun g a w hs hX hC hF => by
  refine ⟨fun he => ?_, fun i0 hi => ?_⟩
  · exfalso
    cases rs with
    | nil => cases hne
    | cons j rs =>
      have hj : j ∈ Region.ready .any l.toArray listed.toArray := rdy_ready.2 (by rw [hr]; simp)
      rw [he] at hj
      cases hj
  · rw [rdy_ready, hr] at hi
    obtain ⟨o, ho, hy⟩ := allR_mem h hi
    have hs1 := hy g a w hs hX
    have hset : (listed.toArray.setIfInBounds i0 true) = (listed.set i0 true).toArray := by simp
    have hk : ∀ a' w', (Exit.normal = Exit.normal ∧ ∃ g' s j, Self rl d0 g' s a' w' ∧ HX E p j g' w' ∧ Kp (Fx g) w (Fx g') w' ∧ PAH P rl d0 E p l b off us K fuel (listed.set i0 true) s j) → CellsAt b off us w' ∧ wpAnyH P .any l.toArray (fun e a' w' => e = .normal ∧ ∃ g' s j, Self rl d0 g' s a' w' ∧ HX E p j g' w' ∧ K s j) (CellsAt b off us) fuel (listed.toArray.setIfInBounds i0 true) a' w' := by
      rintro a' w' ⟨-, g', s, j, h1, h2, h3, h4⟩
      have hC' : CellsAt b off us w' := fun q u hq => (h3.cell (hF q (List.getElem?_eq_some_iff.1 hq).1) (hC q u hq)).2
      have hF' : ∀ j, j < us.length → Fx g' b (off + j) := fun q hq => (h3.cell (hF q hq) (hC q _ (List.getElem?_eq_getElem hq))).1
      rw [hset]
      exact ⟨hC', h4 g' a' w' h1 h2 hC' hF'⟩
    unfold wpOp
    rw [show l.toArray[i0]? = some o by simpa using ho]
    simp only
    unfold wpList at hs1
    split
    · rename_i hw
      rw [if_pos hw] at hs1
      rcases hs1 with hs1 | ⟨hs1, a', w', hl⟩
      · exact .inl (wp_q (fun a w h => hk a w h) (fun e a w hne h => absurd h.1 hne) hs1)
      · exact absurd hl.1 (by simp)
    · rename_i hw
      rw [if_neg hw] at hs1
      exact hk _ _ hs1
def HeldO (P : Program) (rl : Option Nat) (d0 : Nat) (b off : Nat) (us : List Value) (o : Oper) (st : PS) (x : SV) : Prop :=
  dstOk o st = true ∧ o.guard = none ∧ ∀ g a w, Self rl d0 g st a w → ∃ v, SRep g w v x ∧ ∀ w', CellsAt b off us w' → (execOp a.eval o).run P w' = .ok (.value v) w'
theorem pah_take {fuel : Nat} {listed : List Bool} (i0 : Nat) {o : Oper} {x : SV} (hi : l[i0]? = some o) (hr : (rdy listed 0 l).any (Nat.beq i0) = true) (hs : noSel l = true) (hap : apartB l listed i0 o = true) (hp : HeldO P rl d0 b off us o st x) (h : PAH P rl d0 E p l b off us K fuel (listed.set i0 true) (st.put o.dst x) i) : PAH P rl d0 E p l b off us K (fuel + 1) listed st i := fun g a w hself hX hC hF => by
  obtain ⟨h1, h2, h3⟩ := hp
  obtain ⟨v, h5, h4⟩ := h3 g a w hself
  have hset : (listed.toArray.setIfInBounds i0 true) = (listed.set i0 true).toArray := by simp
  refine wpAnyH_first (v := v) (by simpa using hi) (fun j o' cs b hj e => ?_) (fun c a w h6 => absurd h6.1 (by simp)) fuel listed.toArray a w (fun j oj hj hji hun hno => ?_) ?_ (.inl ⟨by unfold Region.wanted; rw [h2], h4⟩) hC ?_
  · have hj' : o' ∈ l := by
      have : l[j]? = some o' := by simpa using hj
      exact List.mem_of_getElem? this
    have := List.all_eq_true.1 hs o' hj'
    rw [e] at this
    cases this
  · have hj' : l[j]? = some oj := by simpa using hj
    have h6 := allIx_spec hap j oj hj'
    rw [Nat.zero_add, gt_eq] at *
    simp only [Bool.or_eq_true] at h6
    rcases h6 with ((h6 | h6) | h6) | h6
    · exact absurd (Nat.eq_of_beq_eq_true h6) hji
    · rw [hun] at h6; cases h6
    · rw [List.any_eq_true] at h6
      obtain ⟨e, he, hb⟩ := h6
      rw [Bool.and_eq_true] at hb
      exact absurd (Nat.eq_of_beq_eq_true hb.2) (hno e (Array.mem_toList_iff.1 he) hb.1)
    · exact h6
  · rw [rdy_ready]
    obtain ⟨j, hj, e⟩ := List.any_eq_true.1 hr
    rw [Nat.eq_of_beq_eq_true e]
    exact hj
  · rw [hset]
    exact h g _ w (hself.put h5 _ (dstOk_spec h1)) hX hC hF
theorem held_move {d : Option Nat} {ty : TypeId} {pos : String} {af : Array Edge} {y : Operand} {x : SV} (hx : st.ev y = x) (hd : dstOk ⟨d, .move y, ty, pos, af, none⟩ st = true := by kernel_rfl) : HeldO P rl d0 b off us ⟨d, .move y, ty, pos, af, none⟩ st x :=
  ⟨hd, rfl, fun _ a _ h => ⟨a.eval y, hx ▸ h.2.eval y, fun w' _ => by simp [execOp]⟩⟩
theorem held_fa {d : Option Nat} {ty : TypeId} {pos : String} {af : Array Edge} {S f : Nat} {y : Operand} {b' o' off' T : Nat} [hF : FieldOf P S f off' T] (hx : st.ev y = .d (.val (.pointer (some ⟨b', o', none⟩)))) (hd : dstOk ⟨d, .fieldAddr S y f, ty, pos, af, none⟩ st = true := by kernel_rfl) : HeldO P rl d0 b off us ⟨d, .fieldAddr S y f, ty, pos, af, none⟩ st (.d (.val (.pointer (some ⟨b', o' + off', none⟩)))) :=
  ⟨hd, rfl, fun _ a _ h => ⟨.pointer (some ⟨b', o' + off', none⟩), DRep.val _ rfl, fun w' _ => by
    have h1 : a.eval y = .pointer (some ⟨b', o', none⟩) := DRep.val_eq (by have := h.2.eval y; rw [hx] at this; exact this)
    have h2 := ex_fieldAddr (hF := hF) (d := d) (ty := ty) (pos := pos) (af := af) (gd := none) (f := f) (w := w') h1
    rw [h2, Addr.add_lit]⟩⟩
theorem held_ld {d : Option Nat} {ty : TypeId} {pos : String} {af : Array Edge} {T : Nat} {y : Operand} {q j : Nat} {u : Value} [hT : AggOf P T false 1] (hx : st.ev y = .d (.val (.pointer (some ⟨b, q, none⟩)))) (hq : q = off + j) (hu : us[j]? = some u) (h1 : u.oneCell' = true) (hd : dstOk ⟨d, .load T y, ty, pos, af, none⟩ st = true := by kernel_rfl) : HeldO P rl d0 b off us ⟨d, .load T y, ty, pos, af, none⟩ st (.d (.val u)) :=
  ⟨hd, rfl, fun _ a _ h => ⟨u, DRep.val _ h1, fun w' hC => by
    have h1 : a.eval y = .pointer (some ⟨b, q, none⟩) := DRep.val_eq (by have := h.2.eval y; rw [hx] at this; exact this)
    refine ex_load h1 (run_loadVar1 ?_)
    rw [hq]
    exact hC j u hu⟩⟩
theorem px_anyh {id : Nat} (s : Nat) (hs : st.get s = .rd (us.map .val)) (hm : P.follows .mixedOrders = true)
    (h : ∀ b off, PAH P rl d0 E p l b off us (fun s j => Q .normal s j) l.length (List.replicate l.length false) (st.put (some s) (.d (.val (.pointer (some ⟨b, off, none⟩))))) i) (hnd : ndB l = true := by rfl) : PX P rl d0 (HX E p) (.region id l.toArray true) Q st i := fun g a w hself hX => by
  obtain ⟨s1, kp, c1, c2, c3, c4, hown⟩ := HX.put1 (w' := { w with drawn := w.drawn + 1 }) hself hX w.heap.size rfl rfl rfl (Nat.le_refl _) (fun _ _ _ => rfl) (fun h => absurd h (Nat.lt_irrefl _)) (.inl hX.co.size) (fun h => absurd h (Nat.lt_irrefl _)) (fun h => absurd h (Nat.lt_irrefl _)) (fun h => absurd h (Nat.lt_irrefl _))
  have hX' : HX E p i g { w with drawn := w.drawn + 1 } := ⟨c1, c2, c3 (fun r l dn hi e => by
    obtain ⟨bm, es, c, seen, cc, t1, -⟩ := hX.it r l dn hi
    have := (Array.getElem?_eq_some_iff.1 t1).1
    omega), c4 (fun bo l hi e => by
    obtain ⟨es, c, t1, -⟩ := hX.mp bo l hi
    have := (Array.getElem?_eq_some_iff.1 t1).1
    omega)⟩
  have hsl := s1.2.slots s
  rw [hs] at hsl
  obtain ⟨b, off, f, h1, h2⟩ := hsl
  have hf : ∀ (j : Nat) u, us[j]? = some u → World.cell? { w with drawn := w.drawn + 1 } ⟨b, off + j, none⟩ = some u ∧ Fx g b (off + j) := fun j u hj => by
    obtain ⟨q1, q2, q3, q4⟩ := h2 j (.val u) (by rw [List.getElem?_map, hj]; rfl)
    rw [DRep.val_eq q4] at q1
    exact ⟨q1, q2⟩
  have hsl2 : ∀ j, SRep g { w with drawn := w.drawn + 1 } (a.tmps.getD j undef) ((st.put (some s) (.d (.val (.pointer (some ⟨b, off, none⟩))))).get j) := fun j => by
    rw [get_put]
    by_cases e : j = s
    · rw [if_pos e, e, h1]; exact DRep.val _ rfl
    · rw [if_neg e]; exact s1.2.slots j
  have s2 : Self rl d0 g (st.put (some s) (.d (.val (.pointer (some ⟨b, off, none⟩))))) a { w with drawn := w.drawn + 1 } := ⟨s1.1, { s1.2 with lim := s1.2.lim, size := s1.2.size, boxes := s1.2.boxes, maps := s1.2.maps, dom := s1.2.dom, tdom := s1.2.tdom, tlen := s1.2.tlen, glob := s1.2.glob, slots := hsl2 }⟩
  have := h b off g a _ s2 hX' (fun j u hj => (hf j u hj).1) (fun j hj => (hf j _ (List.getElem?_eq_getElem hj)).2)
  have e : (List.replicate l.length false).toArray = Array.replicate l.toArray.size false := by simp
  rw [e] at this
  have e2 : l.length = l.toArray.size := by simp
  rw [e2] at this
  refine wpIn_mono (wpIn_region_any hm (any_in (fun a w h => absurd h.1 (by simp)) hnd (wpAny_of_held _ _ _ _ this))) fun e a' w' ⟨h0, g', s, j, q1, q2, q3⟩ => ?_
  subst h0
  exact ⟨g', s, j, q1, q2, q3⟩
end
end Go.Proofs.YtkfoogabijnamaaGreatDoor.Px
set_option maxHeartbeats 1000000
namespace Go.Proofs.YtkfoogabijnamaaGreatDoor.Px
open Go.RowKit

section
variable {P : Program} {ops : Array Oper} {rl : Option Nat} {d0 E : Nat} {p : HP} {K : PS → HI → Prop} {K' : PS → HI → Prop} {Q : Exit → PS → HI → Prop} {st : PS} {i : HI}
theorem pl1 {o : Oper} {l : List Oper} (h : YR P true ops (fun s => PL P ops rl d0 (HX E p) K l s i) [o] st) : PL P ops rl d0 (HX E p) K (o :: l) st i := pl_cons (pl_y (HX.stb i) h)
theorem px_ct {c : Operand} {x y : Code} (hc : st.ev c = .d (.val (.bool true))) (h : PX P rl d0 (HX E p) x Q st i) : PX P rl d0 (HX E p) (.cond c x y) Q st i := px_cond hc (fun _ => h) fun e => by cases e
theorem px_cf {c : Operand} {x y : Code} (hc : st.ev c = .d (.val (.bool false))) (h : PX P rl d0 (HX E p) y Q st i) : PX P rl d0 (HX E p) (.cond c x y) Q st i := px_cond hc (fun e => by cases e) fun _ => h
theorem qx_then (h : K st i) : QThenX K Q .normal st i := h
theorem qx_then_ret (h : Q .ret st i) : QThenX K Q .ret st i := h
theorem qx_then_exit {n : Nat} (h : Q (.exit n) st i) : QThenX K Q (.exit n) st i := h
theorem qx_blk {id : Nat} (h : Q .normal st i) : QBlockX id Q .normal st i := h
theorem qx_blk_ret {id : Nat} (h : Q .ret st i) : QBlockX id Q .ret st i := h
theorem qx_blk_same {id : Nat} (h : Q .normal st i) : QBlockX id Q (.exit id) st i := by simpa [QBlockX, Nat.beq_refl] using h
theorem qx_ret {rs : List ResultVar} {r : SV} {M : HI → Prop} (xs : List DV) (h : ResV P st rs xs) (hr : r = resSV xs) (hM : M i) : QRx P rs r M .ret st i := ⟨⟨xs, h, hr⟩, hM⟩
theorem qx_end {rs : List ResultVar} {r : SV} {M : HI → Prop} (xs : List DV) (h : ResV P st rs xs) (hr : r = resSV xs) (hM : M i) : QRx P rs r M .normal st i := ⟨⟨xs, h, hr⟩, hM⟩
theorem qg_ret {rs : List ResultVar} {M : SV → HI → Prop} (xs : List DV) (h : ResV P st rs xs) (hM : M (resSV xs) i) : QRg P rs M .ret st i := ⟨_, ⟨xs, h, rfl⟩, hM⟩
theorem px_lp {κ : Type} {c : Code} (J : κ → PS) (f : κ → HI) (I : κ → Prop) (μ : κ → Nat) (k0 : κ) (hI : I k0) (hf : i = f k0) (hle : Le st (J k0))
    (round : ∀ k, I k → PX P rl d0 (HX E p) c (QThenX (fun s j => ∃ k', I k' ∧ μ k' < μ k ∧ Le s (J k') ∧ j = f k') Q) (J k) (f k)) : PX P rl d0 (HX E p) (.loop c) Q st i := px_loop J f I μ k0 HX.stb hI hle hf round
theorem frzm_tell (s i : Nat) {ms : List (Value × DV)} (hs : st.get s = .mb i) (hi : st.bget i = some [.mc ms]) (hge : Nat.ble 500000 i = true := by rfl) : ∀ B w0 g a w, Rep B w0 g st a w → ∃ g', Evo g w g' w ∧ Rep B w0 g' ((st.kill i).put (some s) (.d (.mp ms))) a w := fun B w0 g a w hr => by
  obtain ⟨ev, hr'⟩ := hr.kill i
  have hv := hr.slots s
  rw [hs] at hv
  obtain ⟨b, q1, q2⟩ := hv
  obtain ⟨b', es, ck, r1, r2, r3⟩ := hr.maps i ms hi (Nat.le_of_ble_eq_true hge)
  rw [q1] at r1
  cases r1
  have hd : DRep (Fx (g.delb i)) w (a.tmps.getD s undef) (.mp ms) := by
    rw [q2]
    refine .mp (es := es) (ck := ck) ?_ r3.2.1 ⟨(hr.blk i b q1).1 0, fun j hj => ?_, fun t T n' c' hT hTv => ?_⟩ r3.1 (fun k e p he hp => (r3.2.2 k e p he hp).1) fun k e p he hp => ((r3.2.2 k e p he hp).2).mono ev.fx
    · unfold see
      rw [r2]
    · obtain ⟨h1, h2⟩ := Gh.delb_bl hj
      exact h2 (hr.inj j i b h1 q1)
    · exact absurd q1 ((hr.toks t T hT).2 i b (by rw [hTv]; rfl))
  refine ⟨_, ev, { hr' with lim := hr'.lim, size := hr'.size, boxes := hr'.boxes, maps := hr'.maps, dom := hr'.dom, tdom := hr'.tdom, tlen := hr'.tlen, glob := hr'.glob, slots := fun j => ?_ }⟩
  rw [get_put]
  by_cases e : j = s
  · rw [if_pos e, e]; exact hd
  · rw [if_neg e]; exact hr'.slots j
theorem Self.killm {g : Gh} {a : Act} {w : World} (hs : Self rl d0 g st a w) {im bo : Nat} (hb : g.bl im = some bo) (hmp : ∃ es c, w.heap[bo]? = some (.map es c)) :
    Self rl d0 { g.delb im with f0 := fun b o => g.f0 b o ∧ b ≠ bo } (st.kill im) a w ∧ Kp (Fx g) w (Fx { g.delb im with f0 := fun b o => g.f0 b o ∧ b ≠ bo }) w ∧ (∀ b, Own { g.delb im with f0 := fun b o => g.f0 b o ∧ b ≠ bo } w b → Own g w b ∧ b ≠ bo) := by
  obtain ⟨hd, h⟩ := hs
  obtain ⟨es, ck, hm⟩ := hmp
  have kp : Kp (Fx g) w (Fx { g.delb im with f0 := fun b o => g.f0 b o ∧ b ≠ bo }) w := Kp.same fun b o hf => ⟨⟨hf.1, fun e => hf.2.1 im (e ▸ hb)⟩, fun j hj => hf.2.1 j (Gh.delb_bl hj).1, hf.2.2⟩
  have hbo := (h.blk im bo hb).2
  have hown : ∀ b, Own { g.delb im with f0 := fun b o => g.f0 b o ∧ b ≠ bo } w b → Own g w b ∧ b ≠ bo := fun b ho => by
    rcases ho with ho | ⟨j, ho⟩ | ⟨t, T, ho, ho'⟩
    · exact ⟨.inl ho, by omega⟩
    · obtain ⟨h1, h2⟩ := Gh.delb_bl ho
      exact ⟨.inr (.inl ⟨j, h1⟩), fun e => h2 (h.inj j im bo (e ▸ h1) hb)⟩
    · exact ⟨.inr (.inr ⟨t, T, ho, ho'⟩), fun e => (h.toks t T ho).2 im bo (e ▸ ho') hb⟩
  have srep : ∀ v x, SRep g w v x → SRep { g.delb im with f0 := fun b o => g.f0 b o ∧ b ≠ bo } w v (x.kill im) := fun v x hx => by
    refine (hx.le (kill_le im x)).extp kp (fun j hj b hb => ?_) (fun t k es _ T' hT' => ⟨T', hT', .inl rfl⟩) fun _ _ _ _ => rfl
    simp only [Gh.delb]
    rw [if_neg (kill_ids hj).2]
    exact hb
  have hne : ∀ j b, (g.delb im).bl j = some b → b ≠ bo := fun j b hj e => by
    obtain ⟨h1, h2⟩ := Gh.delb_bl hj
    exact h2 (h.inj j im bo (e ▸ h1) hb)
  refine ⟨⟨hd, { h with evo := Evo.refl _ _, defers := ⟨h.defers.1, fun d hd' => ?_⟩, f0 := fun b o hb' => ⟨h.f0 b o hb', by omega⟩, lim := h.lim, size := h.size, slots := fun j => by rw [kill_get]; exact srep _ _ (h.slots j), glob := fun q cs hq => srep _ (.rd cs) (h.glob q cs hq), boxes := fun j cs hj hlt => ?_, maps := fun j ms hj hge => ?_, blk := fun j b hj => ⟨fun o => ⟨(h.blk j b (Gh.delb_bl hj).1).1 o, hne j b hj⟩, (h.blk j b (Gh.delb_bl hj).1).2⟩, dom := fun j b hj => ?_, inj := fun j k b hj hk => h.inj j k b (Gh.delb_bl hj).1 (Gh.delb_bl hk).1, toks := fun t T hT => ⟨(h.toks t T hT).1, fun j b hb hj => (h.toks t T hT).2 j b hb (Gh.delb_bl hj).1⟩, tf0 := fun t T b o hT hb' => ⟨h.tf0 t T b o hT hb', fun e => (h.toks t T hT).2 im bo (e ▸ hb') hb⟩, telt := h.telt, tdis := h.tdis, tdom := h.tdom, tlen := h.tlen, gown := fun q cs hq ho => h.gown q cs hq (hown q ho).1 }⟩, kp, hown⟩
  · obtain ⟨D, q1, q2, q3, q4⟩ := h.defers.2 d hd'
    exact ⟨D, q1, q2, fun ho => q3 (hown D ho).1, q4⟩
  · rw [kill_bget] at hj
    by_cases e : j = im
    · rw [if_pos e] at hj; cases hj
    · rw [if_neg e, Option.map_eq_some_iff] at hj
      obtain ⟨cs0, h1, rfl⟩ := hj
      obtain ⟨b, xs, T, h2, h3, h4, h5, h6⟩ := h.boxes j cs0 h1 hlt
      refine ⟨b, xs, T, by simp [Gh.delb, e, h2], h3, by simpa using h4, fun q c hq => ?_, fun q u hq hu => h6 q u (by simpa using hq) hu⟩
      rw [List.getElem?_map, Option.map_eq_some_iff] at hq
      obtain ⟨c0, h7, rfl⟩ := hq
      obtain ⟨x, h8, h9⟩ := h5 q c0 h7
      exact ⟨x, h8, srep _ _ h9⟩
  · rw [kill_bget] at hj
    by_cases e : j = im
    · rw [if_pos e] at hj; cases hj
    · rw [if_neg e, Option.map_eq_some_iff] at hj
      obtain ⟨cs0, h1, h2⟩ := hj
      have h3 : cs0 = [.mc ms] := kill_mc h2
      subst h3
      obtain ⟨b, es, c, h4, h5, h6⟩ := h.maps j ms h1 hge
      exact ⟨b, es, c, by simp [Gh.delb, e, h4], h5, h6.mono kp⟩
  · obtain ⟨h1, h2⟩ := Gh.delb_bl hj
    rw [kill_bget, if_neg h2]
    intro h3
    exact h.dom j b h1 (by simpa using h3)

def pv3 (i1 i2 b1 b2 b3 c : Nat) : Value := .pointer (some ⟨if c = i1 then b1 else if c = i2 then b2 else b3, 0, none⟩)
theorem px_cap {c : Code} (i1 i2 i3 im f : Nat) (caps : List Nat) {ds1 : List DV} {cs1 : List SV} {ms : List (List UInt8 × DV)} (hs1 : st.get i1 = .bx i1 0) (hs2 : st.get i2 = .bx i2 0) (hs3 : st.get i3 = .bx i3 0) (hb1 : st.bget i1 = some cs1) (hd1 : toDs cs1 = some ds1) (hb2 : st.bget i2 = some [.mb im]) (hb3 : st.bget i3 = some [.fn f caps]) (hbm : st.bget im = some [.mc (kmap ms)])
    (hms : ∀ q ∈ ms, ∃ u, q.2 = .val u ∧ u.oneCell' = true) (hi : i = ⟨[], none, none, []⟩) (hcaps : ∀ c ∈ caps, c = i1 ∨ c = i2 ∨ c = i3) (h12 : i2 ≠ i1) (h13 : i3 ≠ i1) (h23 : i3 ≠ i2) (hl1 : i1 < 500000) (hl2 : i2 < 500000) (hl3 : i3 < 500000) (hge : 500000 ≤ im)
    (h : ∀ b1 b2 b3 bo, PX P rl d0 (HX E p) c Q ((((((((st.kill im).kill i1).kill i2).kill i3).put (some i1) (.d (.val (.pointer (some ⟨b1, 0, none⟩))))).put (some i2) (.d (.val (.pointer (some ⟨b2, 0, none⟩))))).put (some i3) (.d (.val (.pointer (some ⟨b3, 0, none⟩))))))
      ⟨[], none, some (bo, ms), [(.pointer (some ⟨b1, 0, none⟩), .ref ds1), (.pointer (some ⟨b2, 0, none⟩), .ref [.val (.map (some bo))]), (.pointer (some ⟨b3, 0, none⟩), .ref [.val (.func (.func f) #[] (caps.map (pv3 i1 i2 b1 b2 b3)).toArray)])]⟩) : PX P rl d0 (HX E p) c Q st i := fun g a w hs hX => by
  subst hi
  have hr := hs.2
  obtain ⟨bo, es, ck, m1, m2, m3⟩ := hr.maps im _ hbm hge
  obtain ⟨b1, x1, T1, p1, p2, p3, p4, p5⟩ := hr.boxes i1 cs1 hb1 hl1
  obtain ⟨b2, x2, T2, r1, r2, r3, r4, r5⟩ := hr.boxes i2 _ hb2 hl2
  obtain ⟨b3, x3, T3, t1, t2, t3, t4, t5⟩ := hr.boxes i3 _ hb3 hl3
  obtain ⟨s0, kp0, own0⟩ := hs.killm m1 ⟨es, ck, m2⟩
  obtain ⟨ev1, k1⟩ := s0.2.kill i1
  obtain ⟨ev2, k2⟩ := k1.kill i2
  obtain ⟨ev3, k3⟩ := k2.kill i3
  have ev := (ev1.trans ev2).trans ev3
  have kp := kp0.trans ev.fx
  have hX0 : HX E p ⟨[], none, some (bo, ms), []⟩ { g.delb im with f0 := fun b o => g.f0 b o ∧ b ≠ bo } w := by
    refine ⟨hX.co.keep rfl rfl rfl (Nat.le_refl _) (fun _ _ _ => rfl) (fun b o hf => hX.co.f0 b o hf.1) (fun b hb => (own0 b hb).1) kp0, ⟨fun j v xs hj => by simp at hj, fun j j' p p' b h => by simp at h⟩, fun r l dn e => (by cases e), fun bo' l' e => ?_⟩
    cases e
    refine ⟨es, ck, m2, m3.2.1, by have := m3.1; simpa [kmap] using this, fun j e q he hq => ?_, fun ho => (own0 bo ho).2 rfl, fun o ho => ho.2 rfl, .inl (hX.co.own bo (.inr (.inl ⟨im, m1⟩)))⟩
    obtain ⟨u, hu, hu1⟩ := hms q (List.mem_of_getElem? hq)
    obtain ⟨h1, h2⟩ := m3.2.2 j e (vS q.1, q.2) (by simpa using he) (by rw [kmap, List.getElem?_map, hq]; rfl)
    refine ⟨h1, fun F w' => ?_⟩
    rw [hu] at h2 ⊢
    rw [DRep.val_eq h2]
    exact DRep.val u hu1
  have hX1 := HX.stb _ _ _ _ _ hX0 (fun i b hi => (s0.2.blk i b hi).2) ev
  -- the cells of the three variables
  have fxb : ∀ j b o, g.bl j = some b → (∃ xs T z, w.heap[b]? = some (.cells xs T z)) → (∀ k b', ((({ g.delb im with f0 := fun b o => g.f0 b o ∧ b ≠ bo } : Gh).delb i1).delb i2 |>.delb i3).bl k = some b' → g.bl k = some b' ∧ k ≠ j) → Fx ((({ g.delb im with f0 := fun b o => g.f0 b o ∧ b ≠ bo } : Gh).delb i1).delb i2 |>.delb i3) b o := fun j b o hj ⟨xs, T, z, hc⟩ hk => by
    refine ⟨⟨(hr.blk j b hj).1 o, fun e => ?_⟩, fun k hk' => ?_, fun t T n c' hT hv => ?_⟩
    · rw [e, m2] at hc; cases hc
    · obtain ⟨q1, q2⟩ := hk k b hk'
      exact q2 (hr.inj k j b q1 hj)
    · exact absurd hj ((hr.toks t T hT).2 j b (by rw [hv]; rfl))
  have kk : ∀ k b', ((({ g.delb im with f0 := fun b o => g.f0 b o ∧ b ≠ bo } : Gh).delb i1).delb i2 |>.delb i3).bl k = some b' → g.bl k = some b' ∧ k ≠ i1 ∧ k ≠ i2 ∧ k ≠ i3 := fun k b' hk => by
    obtain ⟨q1, q2⟩ := Gh.delb_bl hk
    obtain ⟨q3, q4⟩ := Gh.delb_bl q1
    obtain ⟨q5, q6⟩ := Gh.delb_bl q3
    obtain ⟨q7, q8⟩ := Gh.delb_bl (g := g) q5
    exact ⟨q7, q6, q4, q2⟩
  have f1 : DRep (Fx ((({ g.delb im with f0 := fun b o => g.f0 b o ∧ b ≠ bo } : Gh).delb i1).delb i2 |>.delb i3)) w (.pointer (some ⟨b1, 0, none⟩)) (.ref ds1) := by
    obtain ⟨u1, u2⟩ := toDs_get hd1
    refine .ref (fun j => (x1[j]?).getD undef) (fun j hj => ?_) fun j x hj => ?_
    · obtain ⟨u, hu⟩ : ∃ u, x1[j]? = some u := ⟨_, Array.getElem?_eq_getElem (by omega)⟩
      refine ⟨?_, fxb i1 b1 _ p1 ⟨_, _, _, p2⟩ fun k b' hk => ⟨(kk k b' hk).1, (kk k b' hk).2.1⟩, ?_⟩
      · rw [hu, see_cell, see_cells p2, Nat.zero_add, hu]; rfl
      · rw [hu]; exact p5 j u (by omega) hu
    · obtain ⟨c0, u3, u4⟩ := u2 j x hj
      obtain ⟨u, u5, u6⟩ := p4 j c0 u3
      dsimp only
      rw [u5]
      exact (u6.toD u4).mono kp
  have f2 : DRep (Fx ((({ g.delb im with f0 := fun b o => g.f0 b o ∧ b ≠ bo } : Gh).delb i1).delb i2 |>.delb i3)) w (.pointer (some ⟨b2, 0, none⟩)) (.ref [.val (.map (some bo))]) := by
    obtain ⟨u, hu, b', hb', rfl⟩ := r4 0 _ rfl
    rw [m1] at hb'
    cases hb'
    refine .ref (fun _ => .map (some bo)) (fun j hj => ?_) fun j x hj => ?_
    · obtain rfl : j = 0 := by simpa using hj
      refine ⟨?_, fxb i2 b2 _ r1 ⟨_, _, _, r2⟩ fun k b' hk => ⟨(kk k b' hk).1, (kk k b' hk).2.2.1⟩, rfl⟩
      rw [see_cell, see_cells r2, hu]; rfl
    · match j with
      | 0 => cases hj; exact DRep.val _ rfl
      | j + 1 => simp at hj
  have f3 : DRep (Fx ((({ g.delb im with f0 := fun b o => g.f0 b o ∧ b ≠ bo } : Gh).delb i1).delb i2 |>.delb i3)) w (.pointer (some ⟨b3, 0, none⟩)) (.ref [.val (.func (.func f) #[] (caps.map (pv3 i1 i2 b1 b2 b3)).toArray)]) := by
    obtain ⟨u, hu, bs, rfl, hbl, hbs⟩ := t4 0 _ rfl
    have hcl : bs.map (fun b => Value.pointer (some ⟨b, 0, none⟩)) = caps.map (pv3 i1 i2 b1 b2 b3) := by
      refine List.ext_getElem (by simpa using hbl) fun j hj hj' => ?_
      simp only [List.getElem_map]
      have hjb : j < bs.length := by simpa using hj
      have hjc : j < caps.length := by simpa using hj'
      have hbc := hbs j _ _ (List.getElem?_eq_getElem hjb) (List.getElem?_eq_getElem hjc)
      unfold pv3
      rcases hcaps _ (List.getElem_mem hjc) with e | e | e
      · rw [e] at hbc ⊢
        rw [p1] at hbc
        cases hbc
        rw [if_pos rfl]
      · rw [e] at hbc ⊢
        rw [r1] at hbc
        cases hbc
        rw [if_neg h12, if_pos rfl]
      · rw [e] at hbc ⊢
        rw [t1] at hbc
        cases hbc
        rw [if_neg h13, if_neg h23]
    refine .ref (fun _ => .func (.func f) #[] (caps.map (pv3 i1 i2 b1 b2 b3)).toArray) (fun j hj => ?_) fun j x hj => ?_
    · obtain rfl : j = 0 := by simpa using hj
      refine ⟨?_, fxb i3 b3 _ t1 ⟨_, _, _, t2⟩ fun k b' hk => ⟨(kk k b' hk).1, (kk k b' hk).2.2.2⟩, rfl⟩
      rw [see_cell, see_cells t2, hu, hcl]; rfl
    · match j with
      | 0 => cases hj; exact DRep.val _ rfl
      | j + 1 => simp at hj
  have v1 : a.tmps.getD i1 undef = .pointer (some ⟨b1, 0, none⟩) := by
    have := hr.slots i1
    rw [hs1] at this
    obtain ⟨b, q1, q2⟩ := this
    rw [p1] at q1; cases q1; exact q2
  have v2 : a.tmps.getD i2 undef = .pointer (some ⟨b2, 0, none⟩) := by
    have := hr.slots i2
    rw [hs2] at this
    obtain ⟨b, q1, q2⟩ := this
    rw [r1] at q1; cases q1; exact q2
  have v3 : a.tmps.getD i3 undef = .pointer (some ⟨b3, 0, none⟩) := by
    have := hr.slots i3
    rw [hs3] at this
    obtain ⟨b, q1, q2⟩ := this
    rw [t1] at q1; cases q1; exact q2
  have k4 := k3.self
  refine h b1 b2 b3 bo _ a w ⟨k4.1, { k4.2 with lim := k4.2.lim, size := k4.2.size, boxes := k4.2.boxes, maps := k4.2.maps, dom := k4.2.dom, tdom := k4.2.tdom, tlen := k4.2.tlen, glob := k4.2.glob, slots := fun j => ?_ }⟩ ⟨{ hX1.co with fs := fun q hq => ?_ }, hX1.rows, hX1.it, hX1.mp⟩
  · rw [get_put]
    by_cases e3 : j = i3
    · rw [if_pos e3, e3, v3]; exact DRep.val _ rfl
    · rw [if_neg e3, get_put]
      by_cases e2 : j = i2
      · rw [if_pos e2, e2, v2]; exact DRep.val _ rfl
      · rw [if_neg e2, get_put]
        by_cases e1 : j = i1
        · rw [if_pos e1, e1, v1]; exact DRep.val _ rfl
        · rw [if_neg e1]; exact k4.2.slots j
  · simp only [List.mem_cons, List.not_mem_nil, or_false] at hq
    rcases hq with rfl | rfl | rfl
    · exact f1
    · exact f2
    · exact f3
end
end Go.Proofs.YtkfoogabijnamaaGreatDoor.Px
namespace Go.Proofs.YtkfoogabijnamaaGreatDoor
open Go.RowKit Px

structure Stp where
  c : Str
  f : Str
  t : Str
  q : Str
  m : Str
  k : Str
  deriving DecidableEq
def dSp (s : Stp) : List DV := [dS s.c, dS s.f, dS s.t, dS s.q, dS s.m, dS s.k]
def dSl (l : List Stp) : DV := .sl 6 (l.map dSp)
def gAdd (k x : Str) : List (Str × List Str) → List (Str × List Str)
  | [] => [(k, [x])]
  | (k', xs) :: l => if k' = k then (k, xs ++ [x]) :: l else (k', xs) :: gAdd k x l
def parS (o : List (Str × List Str)) (s : Stp) : List (Str × List Str) := if s.f ≠ [] ∧ s.t ≠ [] then gAdd s.t s.f o else o
def parG (l : List Stp) : List (Str × List Str) := l.foldl parS []
theorem parG_next {l : List Stp} {n : Nat} {s : Stp} (h : l[n]? = some s) : parG (l.take (n + 1)) = parS (parG (l.take n)) s := by
  unfold parG
  rw [List.take_add_one, h, List.foldl_append]
  rfl
theorem g_find (k x : Str) : ∀ L : List (Str × (Value × List Str)),
    (∃ j v xs, L[j]? = some (k, (v, xs)) ∧ (gR L)[j]? = some (v, xs) ∧ (∀ z, mget z k (gV L) = .val v) ∧ ∀ u, mset k (.val u) (gV L) = gV (L.set j (k, (u, xs ++ [x]))) ∧ (gR L).set j (u, xs ++ [x]) = gR (L.set j (k, (u, xs ++ [x]))) ∧ gP (L.set j (k, (u, xs ++ [x]))) = gAdd k x (gP L)) ∨
    ((∀ z, mget z k (gV L) = z) ∧ ∀ u, mset k (.val u) (gV L) = gV (L ++ [(k, (u, [x]))]) ∧ gR L ++ [(u, [x])] = gR (L ++ [(k, (u, [x]))]) ∧ gP (L ++ [(k, (u, [x]))]) = gAdd k x (gP L))
  | [] => .inr ⟨fun _ => rfl, fun u => ⟨rfl, rfl, rfl⟩⟩
  | (k', v', xs') :: L => by
    by_cases e : k' = k
    · subst e
      refine .inl ⟨0, v', xs', rfl, rfl, fun z => ?_, fun u => ⟨?_, rfl, ?_⟩⟩
      · simp [gV, mget]
      · simp [gV, mset]
      · simp [gP, gAdd]
    · rcases g_find k x L with ⟨j, v, xs, h1, h2, h3, h4⟩ | ⟨h1, h2⟩
      · refine .inl ⟨j + 1, v, xs, h1, h2, fun z => ?_, fun u => ⟨?_, ?_, ?_⟩⟩
        · have := h3 z
          simp only [gV] at this
          simp only [gV, List.map_cons, mget, if_neg e, this]
        · have := (h4 u).1
          simp only [gV] at this
          simp only [gV, List.map_cons, mset, if_neg e, this, List.set_cons_succ]
        · have := (h4 u).2.1
          simp only [gR] at this
          simp only [gR, List.map_cons, List.set_cons_succ, this]
        · have := (h4 u).2.2
          simp only [gP] at this
          simp only [gP, List.map_cons, List.set_cons_succ, gAdd, if_neg e, this]
      · refine .inr ⟨fun z => ?_, fun u => ⟨?_, ?_, ?_⟩⟩
        · have := h1 z
          simp only [gV] at this
          simp only [gV, List.map_cons, mget, if_neg e, this]
        · have := (h2 u).1
          simp only [gV] at this
          simp only [gV, List.map_cons, mset, if_neg e, this, List.cons_append]
        · have := (h2 u).2.1
          simp only [gR] at this
          simp only [gR, List.map_cons, List.cons_append, this]
        · have := (h2 u).2.2
          simp only [gP] at this
          simp only [gP, List.map_cons, List.cons_append, gAdd, if_neg e, this]
theorem gAdd_len {k x : Str} {n : Nat} : ∀ {l : List (Str × List Str)}, (∀ q ∈ l, q.2.length ≤ n) → ∀ q ∈ gAdd k x l, q.2.length ≤ n + 1
  | [], _, q, hq => by
    rw [gAdd, List.mem_singleton] at hq
    subst hq
    simp
  | (k', xs) :: l, h, q, hq => by
    rw [gAdd] at hq
    split at hq
    · rcases List.mem_cons.1 hq with rfl | hq
      · have := h (k', xs) (by simp)
        simp; exact this
      · exact Nat.le_succ_of_le (h q (by simp [hq]))
    · rcases List.mem_cons.1 hq with rfl | hq
      · exact Nat.le_succ_of_le (h _ (by simp))
      · exact gAdd_len (fun q hq => h q (by simp [hq])) q hq
theorem parG_len {l : List Stp} {n : Nat} : ∀ q ∈ parG (l.take n), q.2.length ≤ n := by
  induction n with
  | zero => intro q hq; simp [parG] at hq
  | succ n ih =>
    cases h : l[n]? with
    | none =>
      rw [List.take_add_one, h, Option.toList_none, List.append_nil]
      exact fun q hq => Nat.le_succ_of_le (ih q hq)
    | some s =>
      rw [parG_next h, parS]
      split
      · exact gAdd_len ih
      · exact fun q hq => Nat.le_succ_of_le (ih q hq)
end Go.Proofs.YtkfoogabijnamaaGreatDoor
namespace Go.Proofs.YtkfoogabijnamaaGreatDoor
open Go.ChangeShapes Go.WideShapes Go.ChangeAt Go.RowKit Px

abbrev shP : Sh := .pr .s (.pr .s (.pr .s (.pr .s (.pr .s (.pr .s .un)))))
abbrev shL : Sh := .sl shP
theorem sts_dv (x : Dat shL) : ∃ l : List Stp, Dat.dv shL x = dSl l := by
  refine ⟨x.map fun h => ⟨h.1, h.2.1, h.2.2.1, h.2.2.2.1, h.2.2.2.2.1, h.2.2.2.2.2.1⟩, ?_⟩
  unfold dSl
  rw [List.map_map]
  rfl
section
variable {H : Type} {enc : TypeId × Value → H} {P : Program} {w : World} {base : Nat} {spare : Nat → Bool} {held : Bool}
end
end Go.Proofs.YtkfoogabijnamaaGreatDoor
namespace Go.Proofs.YtkfoogabijnamaaGreatDoor
open Go.RowKit Px

def turnR (k : Str) (o : List (Str × List Str)) (row : List Str) : List (Str × List Str) := row.foldl (fun o x => gAdd x k o) o
def turnG (m : List (Str × List Str)) : List (Str × List Str) := m.foldl (fun o q => turnR q.1 o q.2) []
theorem turnR_next {k : Str} {o : List (Str × List Str)} {row : List Str} {n : Nat} {x : Str} (h : row[n]? = some x) : turnR k o (row.take (n + 1)) = gAdd x k (turnR k o (row.take n)) := by
  unfold turnR
  rw [List.take_add_one, h, List.foldl_append]
  rfl
theorem turnG_next (m : List (Str × List Str)) (k : Str) (row : List Str) : turnG (m ++ [(k, row)]) = turnR k (turnG m) row := by
  unfold turnG
  rw [List.foldl_append]
  rfl
def totG (m : List (Str × List Str)) : Nat := (m.map (·.2.length)).sum
theorem totG_next (m : List (Str × List Str)) (k : Str) (row : List Str) : totG (m ++ [(k, row)]) = totG m + row.length := by simp [totG]
theorem totG_perm {a b : List (Str × List Str)} (h : a.Perm b) : totG a = totG b := (h.map _).sum_nat
theorem totG_le {a b m : List (Str × List Str)} (h : (a ++ b).Perm m) : totG a ≤ totG m := by
  rw [← totG_perm h]
  simp [totG]
def unRow : DV → List Str
  | .sl _ es => es.map fun e => match e with
    | [.val (.string s)] => s.data.toList
    | _ => []
  | _ => []
theorem unRow_sl (xs : List Str) : unRow (.sl 1 (xs.map fun s => [dS s])) = xs := by
  simp only [unRow, List.map_map]
  conv => rhs; rw [← List.map_id xs]
  exact List.map_congr_left fun s _ => rfl
theorem gD_un (m : List (Str × List Str)) : (gD m).map (fun q => (q.1, unRow q.2)) = m := by
  simp only [gD, List.map_map]
  conv => rhs; rw [← List.map_id m]
  exact List.map_congr_left fun q _ => by simp only [Function.comp_apply, unRow_sl, id_eq]
theorem gD_perm {a b : List (Str × List Str)} (h : (gD a).Perm (gD b)) : a.Perm b := by
  have := h.map fun q => (q.1, unRow q.2)
  rwa [gD_un, gD_un] at this
theorem gD_step {dm m : List (Str × List Str)} {k : Str} {v : DV} {rl : List (Str × DV)} (h : (gD dm ++ (k, v) :: rl).Perm (gD m)) : ∃ row rm, v = .sl 1 (row.map fun s => [dS s]) ∧ (dm ++ (k, row) :: rm).Perm m ∧ gD dm ++ [(k, v)] = gD (dm ++ [(k, row)]) := by
  have hm : (k, v) ∈ gD m := h.mem_iff.1 (by simp)
  obtain ⟨q, hq, e⟩ := List.mem_map.1 hm
  have e1 : v = .sl 1 (q.2.map fun s => [dS s]) := (congrArg Prod.snd e).symm
  have h2 := h.map fun q => (q.1, unRow q.2)
  rw [gD_un, List.map_append, gD_un, List.map_cons] at h2
  refine ⟨q.2, rl.map fun q => (q.1, unRow q.2), e1, ?_, by rw [e1]; simp [gD]⟩
  rw [e1, unRow_sl] at h2
  exact h2
theorem turnR_len {k : Str} {o : List (Str × List Str)} {N : Nat} (h : ∀ q ∈ o, q.2.length ≤ N) (row : List Str) : ∀ q ∈ turnR k o row, q.2.length ≤ N + row.length := by
  induction row generalizing o N with
  | nil => exact h
  | cons x row ih =>
    intro q hq
    have := ih (o := gAdd x k o) (N := N + 1) (gAdd_len h) q hq
    simp only [List.length_cons]
    omega
theorem turnG_len (m : List (Str × List Str)) : ∀ q ∈ turnG m, q.2.length ≤ totG m := by
  suffices ∀ (m o : List (Str × List Str)) N, (∀ q ∈ o, q.2.length ≤ N) → ∀ q ∈ m.foldl (fun o q => turnR q.1 o q.2) o, q.2.length ≤ N + totG m from fun q hq => by have := this m [] 0 (by simp) q hq; omega
  intro m
  induction m with
  | nil => intro o N h q hq; exact h q hq
  | cons p m ih =>
    intro o N h q hq
    have := ih _ _ (turnR_len (k := p.1) h p.2) q hq
    have e : totG (p :: m) = p.2.length + totG m := by simp [totG]
    rw [e]; omega
end Go.Proofs.YtkfoogabijnamaaGreatDoor
namespace Go.Proofs.YtkfoogabijnamaaGreatDoor
open Go.RowKit Px

def gGet (k : Str) : List (Str × List Str) → List Str
  | [] => []
  | (k', xs) :: l => if k' = k then xs else gGet k l
theorem mget_gD (k : Str) (m : List (Str × List Str)) : mget (.sl 1 []) k (gD m) = .sl 1 ((gGet k m).map fun s => [dS s]) := by
  induction m with
  | nil => rfl
  | cons q m ih =>
    obtain ⟨k', xs⟩ := q
    simp only [gD, List.map_cons, mget, gGet] at ih ⊢
    split
    · rfl
    · exact ih
def bS (S : List Str) : List (Str × DV) := S.map fun s => (s, dB true)
theorem mget_bS (k : Str) (S : List Str) : mget (dB false) k (bS S) = dB (S.contains k) := by
  induction S with
  | nil => rfl
  | cons s S ih =>
    simp only [bS, List.map_cons, mget, List.contains_cons] at ih ⊢
    by_cases e : s = k
    · subst e; simp
    · rw [if_neg e, ih]
      have : (k == s) = false := by simpa using fun h => e h.symm
      rw [this, Bool.false_or]
theorem mset_bS (k : Str) (S : List Str) : mset k (dB true) (bS S) = bS (if S.contains k then S else S ++ [k]) := by
  induction S with
  | nil => rfl
  | cons s S ih =>
    simp only [bS, List.map_cons, mset, List.contains_cons] at ih ⊢
    by_cases e : s = k
    · subst e; simp
    · rw [if_neg e, ih]
      have : (k == s) = false := by simpa using fun h => e h.symm
      rw [this, Bool.false_or]
      split
      · rfl
      · rfl
def vis (m : List (Str × List Str)) : Nat → Str → List Str → List Str
  | 0, _, S => S
  | n + 1, id, S => (gGet id m).foldl (fun S x => if S.contains x then S else vis m n x (S ++ [x])) S
def unm (U S : List Str) : Nat := (U.filter fun x => !S.contains x).length
def allG (m : List (Str × List Str)) : List Str := m.flatMap (·.2)
theorem gGet_mem {m : List (Str × List Str)} {k x : Str} (h : x ∈ gGet k m) : x ∈ allG m := by
  induction m with
  | nil => cases h
  | cons q m ih =>
    obtain ⟨k', xs⟩ := q
    simp only [gGet] at h
    simp only [allG, List.flatMap_cons, List.mem_append]
    split at h
    · exact .inl h
    · exact .inr (ih h)
theorem unm_mono {U S S' : List Str} (h : ∀ x ∈ S, x ∈ S') : unm U S' ≤ unm U S := by
  unfold unm
  induction U with
  | nil => exact Nat.le_refl _
  | cons u U ih =>
    simp only [List.filter_cons]
    cases h1 : S.contains u with
    | true =>
      have : S'.contains u = true := by simpa using h u (by simpa using h1)
      simp only [this, Bool.not_true, Bool.false_eq_true, if_false]
      exact ih
    | false =>
      cases h2 : S'.contains u with
      | true =>
        simp only [Bool.not_true, Bool.not_false, Bool.false_eq_true, if_true, if_false, List.length_cons]
        exact Nat.le_succ_of_le ih
      | false =>
        simp only [Bool.not_false, if_true, List.length_cons]
        exact Nat.succ_le_succ ih
theorem unm_add {U S : List Str} {x : Str} (hx : x ∈ U) (hn : S.contains x = false) : unm U (S ++ [x]) < unm U S := by
  have hmono : ∀ U : List Str, unm U (S ++ [x]) ≤ unm U S := fun U => unm_mono fun y hy => by simp [hy]
  induction U with
  | nil => cases hx
  | cons u U ih =>
    have hm := hmono U
    unfold unm at ih hm ⊢
    simp only [List.filter_cons]
    by_cases e : x = u
    · subst e
      have h1 : (S ++ [x]).contains x = true := by simp
      rw [h1, hn]
      simp only [Bool.not_true, Bool.not_false, Bool.false_eq_true, if_true, if_false, List.length_cons]
      exact Nat.lt_succ_of_le hm
    · have hx' : x ∈ U := by
        rcases List.mem_cons.1 hx with h | h
        · exact absurd h e
        · exact h
      have ih' := ih hx'
      have h1 : (S ++ [x]).contains u = S.contains u := by
        rw [Bool.eq_iff_iff]
        simp only [List.contains_iff_mem, List.mem_append, List.mem_singleton]
        constructor
        · rintro (h | h)
          · exact h
          · exact absurd h.symm e
        · exact .inl
      rw [h1]
      cases S.contains u <;> simpa using ih'
def visF (m : List (Str × List Str)) (n : Nat) (S : List Str) (x : Str) : List Str := if S.contains x then S else vis m n x (S ++ [x])
theorem vis_succ (m : List (Str × List Str)) (n : Nat) (id : Str) (S : List Str) : vis m (n + 1) id S = (gGet id m).foldl (visF m n) S := rfl
theorem vis_sub (m : List (Str × List Str)) : ∀ (n : Nat) (id : Str) (S : List Str), ∀ x ∈ S, x ∈ vis m n id S
  | 0, _, _, x, h => h
  | n + 1, id, S, x, h => by
    rw [vis_succ]
    generalize gGet id m = row
    induction row generalizing S with
    | nil => exact h
    | cons y row ih =>
      rw [List.foldl_cons]
      refine ih _ ?_
      unfold visF
      split
      · exact h
      · exact vis_sub m n y _ x (by simp [h])
theorem visF_sub (m : List (Str × List Str)) (n : Nat) (S row : List Str) : ∀ x ∈ S, x ∈ row.foldl (visF m n) S := by
  induction row generalizing S with
  | nil => exact fun x h => h
  | cons y row ih =>
    intro x h
    rw [List.foldl_cons]
    refine ih _ x ?_
    unfold visF
    split
    · exact h
    · exact vis_sub m n y _ x (by simp [h])
theorem fold_next {α β : Type} (f : α → β → α) (a : α) {l : List β} {n : Nat} {x : β} (h : l[n]? = some x) : (l.take (n + 1)).foldl f a = f ((l.take n).foldl f a) x := by
  rw [List.take_add_one, h, List.foldl_append]
  rfl
theorem gGet_len {m : List (Str × List Str)} {k : Str} {N : Nat} (h : ∀ q ∈ m, q.2.length ≤ N) : (gGet k m).length ≤ N := by
  induction m with
  | nil => simp [gGet]
  | cons q m ih =>
    obtain ⟨k', xs⟩ := q
    simp only [gGet]
    split
    · exact h (k', xs) (by simp)
    · exact ih fun q hq => h q (by simp [hq])
end Go.Proofs.YtkfoogabijnamaaGreatDoor
set_option maxHeartbeats 1000000
namespace Go.Proofs.YtkfoogabijnamaaGreatDoor.Px
open Go.RowKit Go.Maps Go.Sort Go.WideMaps

def CollectC (P : Program) (fC it k : Nat) : Prop := ∀ (a b nn : Nat) (D0 : DataW Unit) (R : Value → Option (DataW Unit × List MemPlace)) (W : World), a < W.heap.size → W.cell? ⟨a, 0, none⟩ = some (.map (some b)) → W.ownsMap P k R b nn D0 →
  Maps.size D0 ≤ maxLen → Maps.size D0 * 16 ≤ 140737488355328 → Calls P fC #[.func (.func it) #[] #[.pointer (some ⟨a, 0, none⟩)]] W fun e w' => ∃ (v : Value) (ss : List (List UInt8)), e = .returned v ∧ ss.Perm (strKeys D0) ∧
    w'.ownsRow W.heap.size k 1 v ss.length (ss.map encStr) ∧ Below W.heap.size W w'
theorem row_data {B : Nat} {w0 : Cx} {g : Gh} {st : PS} {a : Act} {w w' : World} (hr : Rep B w0 g st a w) {k : Nat} {v : Value} {ss : List (List UInt8)} (hrow : w'.ownsRow w.heap.size k 1 v ss.length (ss.map encStr)) (hl : ss.length ≤ 9223372036854775807) : DRep (Fx g) w' v (.sl 1 (ss.map fun s => [dS s])) := by
  rcases hrow.2 with ⟨rfl, h0⟩ | ⟨gb, cap, cur, rfl, hbase, hg, hc1, hc2, -, ht⟩
  · have : ss = [] := List.eq_nil_of_length_eq_zero h0
    rw [this]
    exact .nil
  · refine .sl (fun i _ => encStr (ss.getD i [])) (by simp) hc1 hl (fun e he => ?_) (fun h0 => ⟨gb, 0, rfl, fun i j hi' hj' => ⟨?_, ?_⟩⟩) (fun i j _ _ => rfl) (fun i j e x he hx' => ?_)
    · obtain ⟨s, -, rfl⟩ := List.mem_map.1 he; rfl
    · obtain rfl : j = 0 := by omega
      refine see_cell.2 ?_
      rw [see_cells hg]
      have h5 : cur.toList[i]? = (ss.map encStr)[i]? := by
        rw [← ht, List.getElem?_take_of_lt (by omega)]
      rw [show 0 + i * 1 + 0 = i by omega, ← Array.getElem?_toList, h5, List.getElem?_map, List.getElem?_eq_getElem hi']
      simp [List.getD, List.getElem?_eq_getElem hi']
    · refine ⟨hr.f0 _ _ (Nat.le_trans hr.base hbase), fun i' hi3 => ?_, fun t T' n c' hT hv => ?_⟩
      · have := (hr.blk i' gb hi3).2; omega
      · obtain ⟨⟨n', xs', h6⟩, -⟩ := hr.toks t T' hT
        have := (h6.lt gb (by rw [hv]; rfl)).2
        omega
    · rw [List.getElem?_map, Option.map_eq_some_iff] at he
      obtain ⟨s, hs1, rfl⟩ := he
      cases j with
      | zero =>
        cases hx'
        simp only [List.getD, hs1, Option.getD_some]
        exact DRep.val _ rfl
      | succ j => simp at hx'

section
variable {P : Program} {ops : Array Oper} {K : PS → Prop} {rest : List Oper} {st : PS} {d : Option Nat} {ty : TypeId} {pos : String} {af : Array Edge} {gd : Option (Nat × Bool)}
theorem yKkd {fK it T e : Nat} {l : List (List UInt8 × DV)} {x : Operand} {ts : Array TypeId} [HasBody P fK] (hK : KeysC P fK it T) (hx : st.ev x = .d (.mp (kmap l))) (hi : st.bget e = none)
    (h : YR P true ops K rest ((st.bput e [.d (.mp (kmap l))]).put (some e) (.fn it [e]))) (hin : Nat.blt e st.n = true := by rfl)
    (hw : st.want ops ⟨some e, .call { callee := .value (.func fK), args := #[x], argTypes := ts }, ty, pos, af, gd⟩ = some true := by rfl) :
    YR P true ops K (⟨some e, .call { callee := .value (.func fK), args := #[x], argTypes := ts }, ty, pos, af, gd⟩ :: rest) st := by
  refine .any rfl fun B w0 Q hQ g a w hr => ?_
  have hlt : e < st.n := Nat.le_of_ble_eq_true hin
  have h1 := hr.eval x
  rw [hx] at h1
  have h1' : DRep (Fx g) w (a.eval x) (.mp (kmap l)) := h1
  obtain ⟨b, es, c, q2, r2, -⟩ := DRep.mapd h1
  unfold wpList
  rw [if_pos (want_spec hr hw)]
  refine .inl ?_
  unfold Oper.wp
  have hrun := run_call (P := P) (f := fK) (d := some e) (l := [x]) (ts := ts) (ty := ty) (pos := pos) (af := af) (gd := gd) (a := a) (w := w)
  rw [hrun]
  show Calls P fK _ w _
  have hc := hK (some b) w
  simp only [List.map_cons, List.map_nil, q2]
  refine hc.mono ?_
  rintro e' w' ⟨rfl, rfl⟩
  have hrep := hr.newb e T hi hlt #[.map (some b)] [.d (.mp (kmap l))] (by simp) (fun j c hj => by
    cases j with
    | zero => cases hj; exact ⟨_, rfl, by rw [q2] at h1'; exact h1'⟩
    | succ j => simp at hj) (fun u hu => by simp at hu; subst hu; rfl)
  refine h.sound hQ (hrep.put (x := .fn it [e]) ⟨[w.heap.size], rfl, rfl, fun j b' c hb hc' => ?_⟩ _ fun j hj => by cases hj; exact hlt)
  cases j with
  | zero => cases hb; cases hc'; simp [Gh.addb]
  | succ j => simp at hb

theorem keys_run {j it : Nat} {l : List (List UInt8 × DV)} {x : Operand} {k : Nat} (hk : P.underlying k = some .string) (hx : st.ev x = .fn it [j]) (hj : st.bget j = some [.d (.mp (kmap l))]) (hjl : j < 500000) (hl : l.length ≤ 1000000) (hkl : ∀ p ∈ l, p.1.length ≤ 1000000) {B : Nat} {w0 : Cx} {g : Gh} {a : Act} {w : World} (hr : Rep B w0 g st a w) :
    ∃ a0 b D0, a.eval x = .func (.func it) #[] #[.pointer (some ⟨a0, 0, none⟩)] ∧ a0 < w.heap.size ∧ w.cell? ⟨a0, 0, none⟩ = some (.map (some b)) ∧ w.ownsMap P k anyR b l.length D0 ∧ Maps.size D0 = l.length ∧ (strKeys D0).Perm (l.map (·.1)) := by
  have h1 := hr.eval x
  rw [hx] at h1
  obtain ⟨bs, q1, q2, q3⟩ := h1
  obtain ⟨a0, rfl⟩ : ∃ a0, bs = [a0] := by
    match bs, q2 with
    | [a0], _ => exact ⟨a0, rfl⟩
  have q4 := q3 0 a0 j rfl rfl
  obtain ⟨b', xs, T, r1, r2, r3, r4, -⟩ := hr.boxes j _ hj hjl
  rw [q4] at r1
  cases r1
  obtain ⟨u, r5, r6⟩ := r4 0 _ rfl
  obtain ⟨b, es, c, rfl, s2, -, s4, s3, s5⟩ := DRep.mapd r6
  obtain ⟨D0, d1, d2, d3⟩ := own_of_map hk s2 (by simpa [kmap] using s3) s4 (fun i e p he hp => (s5 i e (vS p.1, p.2) (by simpa using he) (by rw [kmap, List.getElem?_map, hp]; rfl)).1) hl hkl
  exact ⟨a0, b, D0, q1, (hr.blk j a0 q4).2, see_cell.2 (by rw [see_cells r2, r5]; rfl), d1, d2, d3⟩
theorem yKsd {fS it k j : Nat} {l : List (List UInt8 × DV)} {ks : List (List UInt8)} {x : Operand} {ts : Array TypeId} [HasBody P fS] (hS : SortedC P fS it k) (hk : P.underlying k = some .string) (hx : st.ev x = .fn it [j]) (hj : st.bget j = some [.d (.mp (kmap l))])
    (hl : l.length ≤ 1000000) (hkl : ∀ p ∈ l, p.1.length ≤ 1000000) (hks : skeys l = ks)
    (h : YR P true ops K rest (st.put d (.d (.sl 1 (ks.map fun s => [dS s]))))) (hjl : Nat.blt j 500000 = true := by rfl) (hd : dstOk ⟨d, .call { callee := .value (.func fS), args := #[x], argTypes := ts }, ty, pos, af, gd⟩ st = true := by kernel_rfl)
    (hw : st.want ops ⟨d, .call { callee := .value (.func fS), args := #[x], argTypes := ts }, ty, pos, af, gd⟩ = some true := by rfl) :
    YR P true ops K (⟨d, .call { callee := .value (.func fS), args := #[x], argTypes := ts }, ty, pos, af, gd⟩ :: rest) st := by
  subst hks
  refine .any rfl fun B w0 Q hQ g a w hr => ?_
  obtain ⟨a0, b, D0, q1, q2, q3, q4, q5, q6⟩ := keys_run hk hx hj (Nat.le_of_ble_eq_true hjl) hl hkl hr
  unfold wpList
  rw [if_pos (want_spec hr hw)]
  refine .inl ?_
  unfold Oper.wp
  have hrun := run_call (P := P) (f := fS) (d := d) (l := [x]) (ts := ts) (ty := ty) (pos := pos) (af := af) (gd := gd) (a := a) (w := w)
  rw [hrun]
  show Calls P fS _ w _
  have hc := hS a0 b l.length D0 anyR w q2 q3 q4 (by rw [q5]; simp only [maxLen]; omega) (by rw [q5]; omega)
  simp only [List.map_cons, List.map_nil, q1]
  refine hc.mono ?_
  rintro e' w' ⟨v, ss, rfl, hp, hrow, -, hb⟩
  have hsort : ss.mergeSort (fun x y => decide (x ≤ y)) = skeys l := mergeSort_of_perm (hp.trans q6)
  have hlen : ss.length = (skeys l).length := by rw [← hsort, List.length_mergeSort]
  rw [hsort, hlen] at hrow
  have hlen2 : (skeys l).length = l.length := by rw [skeys, List.length_mergeSort, List.length_map]
  exact h.sound hQ ((hr.grow hb).put (x := .d (.sl 1 ((skeys l).map fun s => [dS s]))) (row_data hr hrow (by omega)) _ (dstOk_spec (st := st) hd))
theorem yKcd {fC it k j : Nat} {l : List (List UInt8 × DV)} {x : Operand} {ts : Array TypeId} [HasBody P fC] (hS : CollectC P fC it k) (hk : P.underlying k = some .string) (hx : st.ev x = .fn it [j]) (hj : st.bget j = some [.d (.mp (kmap l))])
    (hl : l.length ≤ 1000000) (hkl : ∀ p ∈ l, p.1.length ≤ 1000000)
    (h : ∀ ks : List (List UInt8), ks.Perm (l.map (·.1)) → YR P true ops K rest (st.put d (.d (.sl 1 (ks.map fun s => [dS s]))))) (hjl : Nat.blt j 500000 = true := by rfl) (hd : dstOk ⟨d, .call { callee := .value (.func fC), args := #[x], argTypes := ts }, ty, pos, af, gd⟩ st = true := by kernel_rfl)
    (hw : st.want ops ⟨d, .call { callee := .value (.func fC), args := #[x], argTypes := ts }, ty, pos, af, gd⟩ = some true := by rfl) :
    YR P true ops K (⟨d, .call { callee := .value (.func fC), args := #[x], argTypes := ts }, ty, pos, af, gd⟩ :: rest) st := by
  refine .any rfl fun B w0 Q hQ g a w hr => ?_
  obtain ⟨a0, b, D0, q1, q2, q3, q4, q5, q6⟩ := keys_run hk hx hj (Nat.le_of_ble_eq_true hjl) hl hkl hr
  unfold wpList
  rw [if_pos (want_spec hr hw)]
  refine .inl ?_
  unfold Oper.wp
  have hrun := run_call (P := P) (f := fC) (d := d) (l := [x]) (ts := ts) (ty := ty) (pos := pos) (af := af) (gd := gd) (a := a) (w := w)
  rw [hrun]
  show Calls P fC _ w _
  have hc := hS a0 b l.length D0 anyR w q2 q3 q4 (by rw [q5]; simp only [maxLen]; omega) (by rw [q5]; omega)
  simp only [List.map_cons, List.map_nil, q1]
  refine hc.mono ?_
  rintro e' w' ⟨v, ss, rfl, hp, hrow, hb⟩
  have hlen : ss.length = l.length := by rw [(hp.trans q6).length_eq, List.length_map]
  exact (h ss (hp.trans q6)).sound hQ ((hr.grow hb).put (x := .d (.sl 1 (ss.map fun s => [dS s]))) (row_data hr hrow (by omega)) _ (dstOk_spec (st := st) hd))
end
section
variable {P : Program} {rl : Option Nat} {d0 E : Nat} {p : HP} {l : List Oper} {us : List Value} {st : PS} {i : HI} {Q : Exit → PS → HI → Prop} {b off : Nat}
theorem px_anyf {id : Nat} (hfs : (Value.pointer (some ⟨b, off, none⟩), DV.ref (us.map .val)) ∈ i.fs) (hm : P.follows .mixedOrders = true)
    (h : PAH P rl d0 E p l b off us (fun s j => Q .normal s j) l.length (List.replicate l.length false) st i) (hnd : ndB l = true := by rfl) : PX P rl d0 (HX E p) (.region id l.toArray true) Q st i := fun g a w hself hX => by
  obtain ⟨s1, kp, c1, c2, c3, c4, hown⟩ := HX.put1 (w' := { w with drawn := w.drawn + 1 }) hself hX w.heap.size rfl rfl rfl (Nat.le_refl _) (fun _ _ _ => rfl) (fun h => absurd h (Nat.lt_irrefl _)) (.inl hX.co.size) (fun h => absurd h (Nat.lt_irrefl _)) (fun h => absurd h (Nat.lt_irrefl _)) (fun h => absurd h (Nat.lt_irrefl _))
  have hX' : HX E p i g { w with drawn := w.drawn + 1 } := ⟨c1, c2, c3 (fun r l dn hi e => by
    obtain ⟨bm, es, c, seen, cc, t1, -⟩ := hX.it r l dn hi
    have := (Array.getElem?_eq_some_iff.1 t1).1
    omega), c4 (fun bo l hi e => by
    obtain ⟨es, c, t1, -⟩ := hX.mp bo l hi
    have := (Array.getElem?_eq_some_iff.1 t1).1
    omega)⟩
  have hf : ∀ (j : Nat) u, us[j]? = some u → World.cell? { w with drawn := w.drawn + 1 } ⟨b, off + j, none⟩ = some u ∧ Fx g b (off + j) := fun j u hj => by
    have hd := hX.co.fs _ hfs
    cases hd with
    | ref f hc hrep =>
      have hlt : j < (us.map DV.val).length := by rw [List.length_map]; exact (List.getElem?_eq_some_iff.1 hj).1
      obtain ⟨q1, q2, q3⟩ := hc j hlt
      have q4 := hrep j (.val u) (by rw [List.getElem?_map, hj]; rfl)
      rw [DRep.val_eq q4] at q1
      exact ⟨q1, q2⟩
  have := h g a _ s1 hX' (fun j u hj => (hf j u hj).1) (fun j hj => (hf j _ (List.getElem?_eq_getElem hj)).2)
  have e : (List.replicate l.length false).toArray = Array.replicate l.toArray.size false := by simp
  rw [e] at this
  have e2 : l.length = l.toArray.size := by simp
  rw [e2] at this
  refine wpIn_mono (wpIn_region_any hm (any_in (fun a w h => absurd h.1 (by simp)) hnd (wpAny_of_held _ _ _ _ this))) fun e a' w' ⟨h0, g', s, j, q1, q2, q3⟩ => ?_
  subst h0
  exact ⟨g', s, j, q1, q2, q3⟩
end
end Go.Proofs.YtkfoogabijnamaaGreatDoor.Px
namespace Go.Proofs.YtkfoogabijnamaaGreatDoor
open Go.RowKit Px

abbrev TT := List (Str × Nat)
def tget (k : Str) : TT → Nat
  | [] => 0
  | (k', v) :: l => if k' = k then v else tget k l
def tset (k : Str) (v : Nat) : TT → TT
  | [] => [(k, v)]
  | (k', v') :: l => if k' = k then (k, v) :: l else (k', v') :: tset k v l
def tS (T : TT) : List (Str × DV) := T.map fun q => (q.1, dI (q.2 : Nat))
theorem mget_tS (k : Str) (T : TT) : mget (dI 0) k (tS T) = dI (tget k T : Nat) := by
  induction T with
  | nil => rfl
  | cons q T ih =>
    obtain ⟨k', v⟩ := q
    simp only [tS, List.map_cons, mget, tget] at ih ⊢
    split
    · rfl
    · exact ih
theorem mset_tS (k : Str) (v : Nat) (T : TT) : mset k (dI (v : Nat)) (tS T) = tS (tset k v T) := by
  induction T with
  | nil => rfl
  | cons q T ih =>
    obtain ⟨k', v'⟩ := q
    simp only [tS, List.map_cons, mset, tset] at ih ⊢
    split
    · rfl
    · rw [ih]; rfl
def cyL (f : Str → TT → Bool × TT) : List Str → TT → Bool × TT
  | [], T => (false, T)
  | x :: l, T => if (f x T).1 then (true, (f x T).2) else cyL f l (f x T).2
def cyK (f : Str → TT → Bool × TT) : Int → List Str → TT → Int
  | _, [], _ => -1
  | i, x :: l, T => if (f x T).1 then i else cyK f (i + 1) l (f x T).2
def cyV (m : List (Str × List Str)) : Nat → Str → TT → Bool × TT
  | 0, _, T => (false, T)
  | n + 1, id, T => if tget id T ≠ 0 then (tget id T == 1, T) else
      if (cyL (cyV m n) (gGet id m) (tset id 1 T)).1 then (true, (cyL (cyV m n) (gGet id m) (tset id 1 T)).2) else (false, tset id 2 (cyL (cyV m n) (gGet id m) (tset id 1 T)).2)
theorem cyK_sign (f : Str → TT → Bool × TT) : ∀ (l : List Str) (T : TT) (i : Int), 0 ≤ i → (decide (cyK f i l T ≥ 0)) = (cyL f l T).1
  | [], T, i, hi => rfl
  | x :: l, T, i, hi => by
    rw [cyK, cyL]
    cases (f x T).1 with
    | true => simpa using hi
    | false => exact cyK_sign f l _ (i + 1) (by omega)
def cyAt (f : Str → TT → Bool × TT) (l : List Str) (T0 : TT) (n : Nat) (T : TT) : Prop := n ≤ l.length ∧ cyL f l T0 = cyL f (l.drop n) T ∧ cyK f 0 l T0 = cyK f n (l.drop n) T
theorem cyAt_start (f : Str → TT → Bool × TT) (l : List Str) (T0 : TT) : cyAt f l T0 0 T0 := ⟨Nat.zero_le _, rfl, rfl⟩
theorem cyAt_step {f : Str → TT → Bool × TT} {l : List Str} {T0 T : TT} {n : Nat} {x : Str} (h : cyAt f l T0 n T) (hx : l[n]? = some x) :
    ((f x T).1 = false → cyAt f l T0 (n + 1) (f x T).2) ∧ ((f x T).1 = true → cyL f l T0 = (true, (f x T).2) ∧ cyK f 0 l T0 = n) := by
  obtain ⟨hn, hx'⟩ := List.getElem?_eq_some_iff.1 hx
  obtain ⟨h1, h2, h3⟩ := h
  rw [List.drop_eq_getElem_cons hn, hx'] at h2 h3
  refine ⟨fun e => ⟨hn, ?_, ?_⟩, fun e => ⟨?_, ?_⟩⟩
  · rw [h2, cyL, e]; rfl
  · rw [h3, cyK, e]; rfl
  · rw [h2, cyL, e]; rfl
  · rw [h3, cyK, e]; rfl
theorem cyAt_end {f : Str → TT → Bool × TT} {l : List Str} {T0 T : TT} {n : Nat} (h : cyAt f l T0 n T) (hn : l.length ≤ n) : cyL f l T0 = (false, T) ∧ cyK f 0 l T0 = -1 := by
  obtain ⟨h1, h2, h3⟩ := h
  rw [List.drop_of_length_le hn] at h2 h3
  exact ⟨h2, h3⟩
theorem tget_tset (k k' : Str) (v : Nat) (T : TT) : tget k' (tset k v T) = if k' = k then v else tget k' T := by
  induction T with
  | nil =>
    simp only [tset, tget]
    by_cases e : k = k'
    · rw [if_pos e, if_pos e.symm]
    · rw [if_neg e, if_neg (Ne.symm e)]
  | cons q T ih =>
    obtain ⟨a, b⟩ := q
    simp only [tset]
    split
    · rename_i e
      subst e
      simp only [tget]
      by_cases e : a = k'
      · rw [if_pos e, if_pos e.symm]
      · rw [if_neg e, if_neg (Ne.symm e), if_neg e]
    · rename_i e
      simp only [tget, ih]
      by_cases e2 : k' = k
      · subst e2; rw [if_neg e, if_pos rfl, if_pos rfl]
      · rw [if_neg e2, if_neg e2]
def unT (U : List Str) (T : TT) : Nat := (U.filter fun x => tget x T == 0).length
theorem unT_mono {U : List Str} {T T' : TT} (h : ∀ x, tget x T ≠ 0 → tget x T' ≠ 0) : unT U T' ≤ unT U T := by
  unfold unT
  induction U with
  | nil => exact Nat.le_refl _
  | cons u U ih =>
    simp only [List.filter_cons]
    by_cases h1 : tget u T = 0
    · rw [h1]
      by_cases h2 : tget u T' = 0
      · rw [h2]; simpa using ih
      · have : (tget u T' == 0) = false := by simpa using h2
        rw [this]
        simp only [Bool.false_eq_true, if_false, BEq.rfl, if_true, List.length_cons]
        exact Nat.le_succ_of_le ih
    · have h1' : (tget u T == 0) = false := by simpa using h1
      have h2' : (tget u T' == 0) = false := by simpa using h u h1
      rw [h1', h2']
      simpa using ih
theorem unT_add {U : List Str} {T : TT} {x : Str} {v : Nat} (hv : v ≠ 0) (hx : x ∈ U) (h0 : tget x T = 0) : unT U (tset x v T) < unT U T := by
  have hm : ∀ y, tget y T ≠ 0 → tget y (tset x v T) ≠ 0 := fun y hy => by
    rw [tget_tset]
    split
    · exact hv
    · exact hy
  induction U with
  | nil => cases hx
  | cons u U ih =>
    have hmU := unT_mono (U := U) hm
    unfold unT at ih hmU ⊢
    simp only [List.filter_cons]
    by_cases e : u = x
    · subst e
      have h1 : (tget u (tset u v T) == 0) = false := by rw [tget_tset, if_pos rfl]; simpa using hv
      rw [h1, h0]
      simp only [Bool.false_eq_true, if_false, BEq.rfl, if_true, List.length_cons]
      exact Nat.lt_succ_of_le hmU
    · have hx' : x ∈ U := by
        rcases List.mem_cons.1 hx with h | h
        · exact absurd h.symm e
        · exact h
      have ih' := ih hx'
      have h1 : tget u (tset x v T) = tget u T := by rw [tget_tset, if_neg e]
      rw [h1]
      split
      · simp only [List.length_cons]; omega
      · exact ih'
end Go.Proofs.YtkfoogabijnamaaGreatDoor
namespace Go.Proofs.YtkfoogabijnamaaGreatDoor
open Go.RowKit Px

def Mk (T T' : TT) : Prop := ∀ y, tget y T ≠ 0 → tget y T' ≠ 0
theorem Mk.refl (T : TT) : Mk T T := fun _ h => h
theorem Mk.trans {a b c : TT} (h : Mk a b) (k : Mk b c) : Mk a c := fun y hy => k y (h y hy)
theorem Mk.set (k : Str) {v : Nat} (hv : v ≠ 0) (T : TT) : Mk T (tset k v T) := fun y hy => by
  rw [tget_tset]
  split
  · exact hv
  · exact hy
theorem cyL_mk {f : Str → TT → Bool × TT} (hf : ∀ x T, Mk T (f x T).2) : ∀ (l : List Str) (T : TT), Mk T (cyL f l T).2
  | [], T => Mk.refl T
  | x :: l, T => by
    rw [cyL]
    split
    · exact hf x T
    · exact (hf x T).trans (cyL_mk hf l _)
theorem cyV_mk (m : List (Str × List Str)) : ∀ (n : Nat) (id : Str) (T : TT), Mk T (cyV m n id T).2
  | 0, _, T => Mk.refl T
  | n + 1, id, T => by
    rw [cyV]
    have h1 := (Mk.set id (v := 1) (by decide) T).trans (cyL_mk (cyV_mk m n) (gGet id m) _)
    split
    · exact Mk.refl T
    · split
      · exact h1
      · exact h1.trans (Mk.set id (by decide) _)
end Go.Proofs.YtkfoogabijnamaaGreatDoor
namespace Go.Proofs.YtkfoogabijnamaaGreatDoor
open Go.RowKit Px

inductive Rch (m : List (Str × List Str)) : Str → Str → Prop
  | one {a b : Str} (h : b ∈ gGet a m) : Rch m a b
  | cons {a b c : Str} (h : b ∈ gGet a m) (t : Rch m b c) : Rch m a c
theorem Rch.trans {m : List (Str × List Str)} {a b c : Str} (h : Rch m a b) (k : Rch m b c) : Rch m a c := by
  induction h with
  | one h => exact .cons h k
  | cons h _ ih => exact .cons h (ih k)
theorem Rch.last {m : List (Str × List Str)} {a b : Str} (h : Rch m a b) : ∃ c, b ∈ gGet c m ∧ (c = a ∨ Rch m a c) := by
  induction h with
  | one h => exact ⟨_, h, .inl rfl⟩
  | cons h _ ih =>
    obtain ⟨c, h1, h2⟩ := ih
    rcases h2 with rfl | h2
    · exact ⟨_, h1, .inr (.one h)⟩
    · exact ⟨c, h1, .inr (.cons h h2)⟩
theorem Rch.mem {m : List (Str × List Str)} {a b : Str} (h : Rch m a b) : b ∈ allG m := by
  obtain ⟨c, h1, -⟩ := h.last
  exact gGet_mem h1

theorem vis_sound (m : List (Str × List Str)) : ∀ (n : Nat) (id : Str) (S : List Str), ∀ x ∈ vis m n id S, x ∈ S ∨ Rch m id x
  | 0, _, _, x, h => .inl h
  | n + 1, id, S, x, h => by
    rw [vis_succ] at h
    suffices ∀ (row S : List Str), (∀ y ∈ row, y ∈ gGet id m) → ∀ x ∈ row.foldl (visF m n) S, x ∈ S ∨ Rch m id x from this _ S (fun _ h => h) x h
    intro row
    induction row with
    | nil => exact fun S _ x h => .inl h
    | cons y row ih =>
      intro S hr x h
      rw [List.foldl_cons] at h
      rcases ih _ (fun z hz => hr z (by simp [hz])) x h with h | h
      · unfold visF at h
        split at h
        · exact .inl h
        · have hy := hr y (by simp)
          rcases vis_sound m n y _ x h with h | h
          · rcases List.mem_append.1 h with h | h
            · exact .inl h
            · rw [List.mem_singleton.1 h]; exact .inr (.one hy)
          · exact .inr (.cons hy h)
      · exact .inr h
theorem vis_full (m : List (Str × List Str)) : ∀ (n : Nat) (id : Str) (S : List Str), unm (allG m) S < n → (∀ y ∈ gGet id m, y ∈ vis m n id S) ∧ ∀ x ∈ vis m n id S, x ∈ S ∨ ∀ y ∈ gGet x m, y ∈ vis m n id S
  | 0, _, _, h => absurd h (Nat.not_lt_zero _)
  | n + 1, id, S, hu => by
    rw [vis_succ]
    suffices ∀ (row S : List Str), (∀ y ∈ row, y ∈ allG m) → unm (allG m) S ≤ n → (∀ y ∈ row, y ∈ row.foldl (visF m n) S) ∧ ∀ x ∈ row.foldl (visF m n) S, x ∈ S ∨ ∀ y ∈ gGet x m, y ∈ row.foldl (visF m n) S from this _ S (fun y hy => gGet_mem hy) (by omega)
    intro row
    induction row with
    | nil => exact fun S _ _ => ⟨fun y hy => (by cases hy), fun x hx => .inl hx⟩
    | cons y row ih =>
      intro S hr hu
      rw [List.foldl_cons]
      have hsub : ∀ x ∈ S, x ∈ visF m n S y := fun x hx => by
        unfold visF
        split
        · exact hx
        · exact vis_sub m n y _ x (by simp [hx])
      have hy1 : y ∈ visF m n S y ∧ ∀ x ∈ visF m n S y, x ∈ S ∨ ∀ z ∈ gGet x m, z ∈ visF m n S y := by
        unfold visF
        split
        · rename_i hc
          exact ⟨by simpa using hc, fun x hx => .inl hx⟩
        · rename_i hc
          have hc' : S.contains y = false := by simpa using hc
          have hlt := unm_add (hr y (by simp)) hc'
          obtain ⟨h1, h2⟩ := vis_full m n y (S ++ [y]) (by omega)
          refine ⟨vis_sub m n y _ y (by simp), fun x hx => ?_⟩
          rcases h2 x hx with h | h
          · rcases List.mem_append.1 h with h | h
            · exact .inl h
            · rw [List.mem_singleton.1 h]; exact .inr h1
          · exact .inr h
      obtain ⟨h1, h2⟩ := ih (visF m n S y) (fun z hz => hr z (by simp [hz])) (Nat.le_trans (unm_mono hsub) hu)
      have hkeep := visF_sub m n (visF m n S y) row
      refine ⟨fun z hz => ?_, fun x hx => ?_⟩
      · rcases List.mem_cons.1 hz with rfl | hz
        · exact hkeep _ hy1.1
        · exact h1 z hz
      · rcases h2 x hx with h | h
        · rcases hy1.2 x h with h | h
          · exact .inl h
          · exact .inr fun z hz => hkeep z (h z hz)
        · exact .inr h
def reach (m : List (Str × List Str)) (id : Str) : List Str := vis m ((allG m).length + 1) id []
theorem reach_iff (m : List (Str × List Str)) (id x : Str) : x ∈ reach m id ↔ Rch m id x := by
  constructor
  · intro h
    rcases vis_sound m _ id [] x h with h | h
    · cases h
    · exact h
  · have hu : unm (allG m) [] < (allG m).length + 1 := Nat.lt_succ_of_le (List.length_filter_le _ _)
    obtain ⟨h1, h2⟩ := vis_full m _ id [] hu
    have step : ∀ {a b : Str}, Rch m a b → (∀ y ∈ gGet a m, y ∈ reach m id) → b ∈ reach m id := fun {a b} h => by
      induction h with
      | one h => exact fun hh => hh _ h
      | @cons a b c h _ ih =>
        intro hh
        refine ih fun y hy => ?_
        rcases h2 b (hh b h) with h | h
        · cases h
        · exact h y hy
    exact fun h => step h h1
theorem vis_nodup (m : List (Str × List Str)) : ∀ (n : Nat) (id : Str) (S : List Str), S.Nodup → (vis m n id S).Nodup
  | 0, _, _, h => h
  | n + 1, id, S, h => by
    rw [vis_succ]
    generalize gGet id m = row
    induction row generalizing S with
    | nil => exact h
    | cons y row ih =>
      rw [List.foldl_cons]
      refine ih _ ?_
      unfold visF
      split
      · exact h
      · rename_i hc
        refine vis_nodup m n y _ ?_
        rw [List.nodup_append]
        exact ⟨h, by simp, fun a ha b hb e => hc (by rw [List.mem_singleton.1 hb] at e; rw [← e]; simpa using ha)⟩
theorem reach_nodup (m : List (Str × List Str)) (id : Str) : (reach m id).Nodup := vis_nodup m _ id [] List.nodup_nil
theorem nodup_sub : ∀ {l U : List Str}, l.Nodup → (∀ x ∈ l, x ∈ U) → l.length ≤ U.length
  | [], _, _, _ => Nat.zero_le _
  | a :: l, U, hn, h => by
    have ha := h a (by simp)
    have h1 := nodup_sub (l := l) (U := U.erase a) (List.nodup_cons.1 hn).2 fun x hx => (List.mem_erase_of_ne (fun (e : x = a) => (List.nodup_cons.1 hn).1 (by rw [← e]; exact hx))).2 (h x (by simp [hx]))
    rw [List.length_erase_of_mem ha] at h1
    have := List.length_pos_of_mem ha
    simp only [List.length_cons]
    omega
theorem reach_len (m : List (Str × List Str)) (id : Str) : (reach m id).length ≤ (allG m).length :=
  nodup_sub (reach_nodup m id) fun x hx => ((reach_iff m id x).1 hx).mem

/-! three colours -/
def Cyc (m : List (Str × List Str)) : Prop := ∃ x, Rch m x x
def Dn (T : TT) (x : Str) : Prop := tget x T ≠ 0 ∧ tget x T ≠ 1
structure InvT (m : List (Str × List Str)) (T : TT) : Prop where
  cl : ∀ x, Dn T x → ∀ y ∈ gGet x m, Dn T y
  ac : ∀ x, Dn T x → ¬ Rch m x x
theorem InvT.rch {m : List (Str × List Str)} {T : TT} (h : InvT m T) {a b : Str} (hr : Rch m a b) : Dn T a → Dn T b := by
  induction hr with
  | one e => exact fun ha => h.cl _ ha _ e
  | cons e _ ih => exact fun ha => ih (h.cl _ ha _ e)
structure PostT (m : List (Str × List Str)) (T T' : TT) : Prop where
  inv : InvT m T'
  opn : ∀ x, tget x T' = 1 ↔ tget x T = 1
  dn : ∀ x, Dn T x → Dn T' x
theorem cyL_post {m : List (Str × List Str)} {U : List Str} {n : Nat} (V : ∀ id T, id ∈ U → unT U T < n → InvT m T → (∀ x, tget x T = 1 → Rch m x id) → ((cyV m n id T).1 = true → Cyc m) ∧ ((cyV m n id T).1 = false → PostT m T (cyV m n id T).2 ∧ Dn (cyV m n id T).2 id)) :
    ∀ (row : List Str) (T : TT), (∀ y ∈ row, y ∈ U) → unT U T < n → InvT m T → (∀ y ∈ row, ∀ x, tget x T = 1 → Rch m x y) →
      ((cyL (cyV m n) row T).1 = true → Cyc m) ∧ ((cyL (cyV m n) row T).1 = false → PostT m T (cyL (cyV m n) row T).2 ∧ ∀ y ∈ row, Dn (cyL (cyV m n) row T).2 y)
  | [], T, _, _, hi, _ => ⟨fun e => (by cases e), fun _ => ⟨⟨hi, fun _ => Iff.rfl, fun _ h => h⟩, fun y hy => (by cases hy)⟩⟩
  | y :: row, T, hU, hu, hi, ho => by
    obtain ⟨v1, v2⟩ := V y T (hU y (by simp)) hu hi (ho y (by simp))
    rw [cyL]
    cases hc : (cyV m n y T).1 with
    | true => exact ⟨fun _ => v1 hc, fun e => (by cases e)⟩
    | false =>
      obtain ⟨⟨i1, o1, d1⟩, d2⟩ := v2 hc
      obtain ⟨l1, l2⟩ := cyL_post V row (cyV m n y T).2 (fun z hz => hU z (by simp [hz])) (Nat.lt_of_le_of_lt (unT_mono (cyV_mk m n y T)) hu) i1 fun z hz x hx => ho z (by simp [hz]) x ((o1 x).1 hx)
      refine ⟨l1, fun e => ?_⟩
      obtain ⟨⟨i2, o2, d3⟩, d4⟩ := l2 e
      refine ⟨⟨i2, fun x => (o2 x).trans (o1 x), fun x hx => d3 x (d1 x hx)⟩, fun z hz => ?_⟩
      rcases List.mem_cons.1 hz with rfl | hz
      · exact d3 _ d2
      · exact d4 z hz
theorem cyV_post (m : List (Str × List Str)) (U : List Str) (hU : ∀ x ∈ allG m, x ∈ U) : ∀ (n : Nat) (id : Str) (T : TT), id ∈ U → unT U T < n → InvT m T → (∀ x, tget x T = 1 → Rch m x id) →
    ((cyV m n id T).1 = true → Cyc m) ∧ ((cyV m n id T).1 = false → PostT m T (cyV m n id T).2 ∧ Dn (cyV m n id T).2 id)
  | 0, _, _, _, h, _, _ => absurd h (Nat.not_lt_zero _)
  | n + 1, id, T, hid, hu, hi, ho => by
    rw [cyV]
    by_cases h0 : tget id T = 0
    rotate_left
    · rw [if_pos h0]
      refine ⟨fun e => ⟨id, ho id (by simpa using e)⟩, fun e => ⟨⟨hi, fun _ => Iff.rfl, fun _ h => h⟩, h0, by simpa using e⟩⟩
    rw [if_neg (fun h => h h0)]
    have hlt := unT_add (v := 1) (by decide) hid h0
    have g1 : ∀ x, tget x (tset id 1 T) = if x = id then 1 else tget x T := fun x => tget_tset id x 1 T
    have dn1 : ∀ x, Dn (tset id 1 T) x ↔ Dn T x := fun x => by
      unfold Dn
      rw [g1]
      by_cases e : x = id
      · subst e; simp [h0]
      · rw [if_neg e]
    obtain ⟨l1, l2⟩ := cyL_post (fun id T => cyV_post m U hU n id T) (gGet id m) (tset id 1 T) (fun y hy => hU y (gGet_mem hy)) (by omega) ⟨fun x hx y hy => (dn1 y).2 (hi.cl x ((dn1 x).1 hx) y hy), fun x hx => hi.ac x ((dn1 x).1 hx)⟩ fun y hy x hx => by
      rw [g1] at hx
      by_cases e : x = id
      · subst e; exact .one hy
      · rw [if_neg e] at hx; exact (ho x hx).trans (.one hy)
    cases hc : (cyL (cyV m n) (gGet id m) (tset id 1 T)).1 with
    | true => exact ⟨fun _ => l1 hc, fun e => by rw [if_pos rfl] at e; cases e⟩
    | false =>
      obtain ⟨⟨i2, o2, d2⟩, d3⟩ := l2 hc
      rw [if_neg (by simp)]
      generalize (cyL (cyV m n) (gGet id m) (tset id 1 T)).2 = T2 at *
      have g2 : ∀ x, tget x (tset id 2 T2) = if x = id then 2 else tget x T2 := fun x => tget_tset id x 2 T2
      have hid1 : tget id T2 = 1 := (o2 id).2 (by rw [g1, if_pos rfl])
      have dnT : ∀ x, Dn (tset id 2 T2) x ↔ x = id ∨ Dn T2 x := fun x => by
        unfold Dn
        rw [g2]
        by_cases e : x = id
        · simp [e]
        · rw [if_neg e]; simp [e]
      have hno : ∀ x, Rch m id x → Dn T2 x := fun x hr => by
        cases hr with
        | one h => exact d3 x h
        | cons h t => exact i2.rch t (d3 _ h)
      refine ⟨fun e => (by cases e), fun _ => ⟨⟨⟨fun x hx y hy => ?_, fun x hx => ?_⟩, fun x => ?_, fun x hx => ?_⟩, (dnT id).2 (.inl rfl)⟩⟩
      · rw [dnT] at hx ⊢
        rcases hx with rfl | hx
        · exact .inr (d3 y hy)
        · exact .inr (i2.cl x hx y hy)
      · rw [dnT] at hx
        rcases hx with rfl | hx
        · exact fun hr => (hno x hr).2 hid1
        · exact i2.ac x hx
      · rw [g2]
        by_cases e : x = id
        · subst e; simp [h0]
        · rw [if_neg e, o2, g1, if_neg e]
      · rw [dnT]
        exact .inr (d2 x ((dn1 x).2 hx))
def cycB (m : List (Str × List Str)) : Bool := (allG m).any fun x => (reach m x).contains x
theorem cycB_iff (m : List (Str × List Str)) : cycB m = true ↔ Cyc m := by
  unfold cycB
  rw [List.any_eq_true]
  constructor
  · rintro ⟨x, -, h⟩
    exact ⟨x, (reach_iff m x x).1 (by simpa using h)⟩
  · rintro ⟨x, h⟩
    exact ⟨x, h.mem, by simpa using (reach_iff m x x).2 h⟩
theorem gGet_key {m : List (Str × List Str)} {k x : Str} (h : x ∈ gGet k m) : k ∈ m.map (·.1) := by
  induction m with
  | nil => cases h
  | cons q m ih =>
    obtain ⟨k', xs⟩ := q
    simp only [gGet] at h
    rw [List.map_cons]
    split at h
    · rename_i e; rw [← e]; exact .head _
    · exact .tail _ (ih h)
theorem cyc_root (m : List (Str × List Str)) (ks : List Str) (h : ks.Perm (m.map (·.1))) : (cyL (cyV m ((m.map (·.1) ++ allG m).length + 1)) ks []).1 = cycB m := by
  have hinv : InvT m [] := ⟨fun x hx => absurd rfl hx.1, fun x hx => absurd rfl hx.1⟩
  obtain ⟨l1, l2⟩ := cyL_post (U := m.map (·.1) ++ allG m) (fun id T => cyV_post m _ (fun x hx => List.mem_append_right _ hx) ((m.map (·.1) ++ allG m).length + 1) id T) ks [] (fun y hy => List.mem_append_left _ (h.mem_iff.1 hy)) (Nat.lt_succ_of_le (List.length_filter_le _ _)) hinv fun y _ x hx => by cases hx
  cases hc : (cyL (cyV m ((m.map (·.1) ++ allG m).length + 1)) ks []).1 with
  | true => exact ((cycB_iff m).2 (l1 hc)).symm
  | false =>
    symm
    rw [← Bool.not_eq_true, cycB_iff]
    rintro ⟨x, hr⟩
    obtain ⟨⟨i2, -, -⟩, d2⟩ := l2 hc
    have hk : x ∈ ks := by
      refine h.mem_iff.2 ?_
      cases hr with
      | one h => exact gGet_key h
      | cons h _ => exact gGet_key h
    exact i2.ac x (d2 x hk) hr
end Go.Proofs.YtkfoogabijnamaaGreatDoor
namespace Go.Proofs.YtkfoogabijnamaaGreatDoor
open Go.RowKit Px

theorem gGet_gAdd (k x k' : Str) (o : List (Str × List Str)) : gGet k' (gAdd k x o) = if k' = k then gGet k o ++ [x] else gGet k' o := by
  induction o with
  | nil =>
    simp only [gAdd, gGet]
    by_cases e : k = k'
    · rw [if_pos e, if_pos e.symm]; rfl
    · rw [if_neg e, if_neg (Ne.symm e)]
  | cons q o ih =>
    obtain ⟨a, xs⟩ := q
    simp only [gAdd]
    by_cases e : a = k
    · subst e
      rw [if_pos rfl]
      simp only [gGet]
      by_cases e2 : a = k'
      · rw [if_pos e2, if_pos e2.symm, if_pos trivial]
      · rw [if_neg e2, if_neg (Ne.symm e2), if_neg e2]
    · rw [if_neg e]
      simp only [gGet, ih]
      by_cases e2 : k' = k
      · subst e2; rw [if_neg e, if_pos rfl, if_pos rfl, if_neg e]
      · rw [if_neg e2, if_neg e2]
theorem gAdd_keys (k x : Str) (o : List (Str × List Str)) : (gAdd k x o).map (·.1) = if k ∈ o.map (·.1) then o.map (·.1) else o.map (·.1) ++ [k] := by
  induction o with
  | nil => simp [gAdd]
  | cons q o ih =>
    obtain ⟨a, xs⟩ := q
    simp only [gAdd]
    by_cases e : a = k
    · subst e; simp
    · rw [if_neg e, List.map_cons, ih, List.map_cons]
      by_cases h : k ∈ o.map (·.1)
      · rw [if_pos h, if_pos (.tail _ h)]
      · rw [if_neg h, if_neg (fun h2 => by
          rcases List.mem_cons.1 h2 with h2 | h2
          · exact e h2.symm
          · exact h h2)]
        rfl
theorem gAdd_nodup {k x : Str} {o : List (Str × List Str)} (h : (o.map (·.1)).Nodup) : ((gAdd k x o).map (·.1)).Nodup := by
  rw [gAdd_keys]
  split
  · exact h
  · rename_i hk
    rw [List.nodup_append]
    exact ⟨h, by simp, fun a ha b hb e => hk (by rw [← List.mem_singleton.1 hb, ← e]; exact ha)⟩
theorem gAdd_tot (k x : Str) (o : List (Str × List Str)) : totG (gAdd k x o) = totG o + 1 := by
  induction o with
  | nil => simp [gAdd, totG]
  | cons q o ih =>
    obtain ⟨a, xs⟩ := q
    simp only [gAdd]
    split
    · simp [totG]; omega
    · simp only [totG, List.map_cons, List.sum_cons] at ih ⊢; omega
theorem allG_len (m : List (Str × List Str)) : (allG m).length = totG m := by
  induction m with
  | nil => rfl
  | cons q m ih =>
    simp only [allG, totG, List.flatMap_cons, List.length_append, List.map_cons, List.sum_cons] at ih ⊢
    omega
theorem parG_snoc (l : List Stp) (s : Stp) : parG (l ++ [s]) = parS (parG l) s := by
  unfold parG
  rw [List.foldl_append]
  rfl
theorem list_snoc {α : Type} {p : List α → Prop} (h0 : p []) (h1 : ∀ l x, p l → p (l ++ [x])) : ∀ l, p l := by
  intro l
  rw [← List.reverse_reverse l]
  generalize l.reverse = r
  induction r with
  | nil => exact h0
  | cons x r ih => rw [List.reverse_cons]; exact h1 _ x ih
def Par (l : List Stp) (id x : Str) : Prop := ∃ s ∈ l, s.t = id ∧ s.f = x ∧ s.f ≠ [] ∧ s.t ≠ []
theorem par_iff (l : List Stp) (id x : Str) : x ∈ gGet id (parG l) ↔ Par l id x := by
  induction l using list_snoc with
  | h0 => exact ⟨fun h => (by cases h), fun ⟨s, h, _⟩ => (by cases h)⟩
  | h1 l s ih =>
    rw [parG_snoc, parS]
    have hs : Par (l ++ [s]) id x ↔ Par l id x ∨ (s.t = id ∧ s.f = x ∧ s.f ≠ [] ∧ s.t ≠ []) := by
      constructor
      · rintro ⟨s', h, h2⟩
        rcases List.mem_append.1 h with h | h
        · exact .inl ⟨s', h, h2⟩
        · rw [List.mem_singleton.1 h] at h2; exact .inr h2
      · rintro (⟨s', h, h2⟩ | h2)
        · exact ⟨s', List.mem_append_left _ h, h2⟩
        · exact ⟨s, by simp, h2⟩
    rw [hs]
    split
    · rename_i h
      rw [gGet_gAdd]
      by_cases e : id = s.t
      · subst e
        rw [if_pos rfl, List.mem_append, List.mem_singleton, ih]
        constructor
        · rintro (h1 | h1)
          · exact .inl h1
          · exact .inr ⟨rfl, h1.symm, h.1, h.2⟩
        · rintro (h1 | h1)
          · exact .inl h1
          · exact .inr h1.2.1.symm
      · rw [if_neg e, ih]
        constructor
        · exact .inl
        · rintro (h1 | h1)
          · exact h1
          · exact absurd h1.1.symm e
    · rename_i h
      rw [ih]
      constructor
      · exact .inl
      · rintro (h1 | h1)
        · exact h1
        · exact absurd ⟨h1.2.2.1, h1.2.2.2⟩ h
theorem parG_nodup (l : List Stp) : ((parG l).map (·.1)).Nodup := by
  induction l using list_snoc with
  | h0 => exact List.nodup_nil
  | h1 l s ih =>
    rw [parG_snoc, parS]
    split
    · exact gAdd_nodup ih
    · exact ih
theorem parG_tot (l : List Stp) : totG (parG l) ≤ l.length := by
  induction l using list_snoc with
  | h0 => exact Nat.le_refl _
  | h1 l s ih =>
    rw [parG_snoc, parS]
    split
    · rw [gAdd_tot]; simp; exact ih
    · simp; omega
theorem parG_rows (l : List Stp) : ∀ q ∈ parG l, q.2.length ≤ l.length := by
  have := parG_len (l := l) (n := l.length)
  rwa [List.take_of_length_le (Nat.le_refl _)] at this
theorem parG_keys (l : List Stp) : ∀ k ∈ (parG l).map (·.1), ∃ s ∈ l, s.t = k ∧ s.f ≠ [] ∧ s.t ≠ [] := by
  induction l using list_snoc with
  | h0 => intro k hk; cases hk
  | h1 l s ih =>
    intro k hk
    rw [parG_snoc, parS] at hk
    have keep : k ∈ (parG l).map (·.1) → ∃ s' ∈ l ++ [s], s'.t = k ∧ s'.f ≠ [] ∧ s'.t ≠ [] := fun h => by
      obtain ⟨s', h1, h2⟩ := ih k h
      exact ⟨s', List.mem_append_left _ h1, h2⟩
    split at hk
    · rename_i h
      rw [gAdd_keys] at hk
      split at hk
      · exact keep hk
      · rcases List.mem_append.1 hk with hk | hk
        · exact keep hk
        · rw [List.mem_singleton.1 hk]; exact ⟨s, by simp, rfl, h.1, h.2⟩
    · exact keep hk
theorem parG_count (l : List Stp) : (parG l).length ≤ l.length := by
  induction l using list_snoc with
  | h0 => exact Nat.le_refl _
  | h1 l s ih =>
    rw [parG_snoc, parS]
    split
    · have := congrArg List.length (gAdd_keys s.t s.f (parG l))
      rw [List.length_map] at this
      rw [this]
      split <;> simp <;> omega
    · simp; omega
theorem allG_par (l : List Stp) (x : Str) (h : x ∈ allG (parG l)) : ∃ s ∈ l, s.f = x ∧ s.f ≠ [] ∧ s.t ≠ [] := by
  obtain ⟨q, hq, hx⟩ := List.mem_flatMap.1 h
  have hnd := parG_nodup l
  have hg : x ∈ gGet q.1 (parG l) := by
    generalize parG l = m at hq hnd
    induction m with
    | nil => cases hq
    | cons p m ih =>
      obtain ⟨k', xs⟩ := p
      rw [List.map_cons, List.nodup_cons] at hnd
      simp only [gGet]
      rcases List.mem_cons.1 hq with rfl | hq
      · rw [if_pos rfl]; exact hx
      · split
        · rename_i e
          exact absurd (by rw [e]; exact List.mem_map.2 ⟨q, hq, rfl⟩) hnd.1
        · exact ih hq hnd.2
  obtain ⟨s, h1, h2, h3, h4⟩ := (par_iff l q.1 x).1 hg
  exact ⟨s, h1, h3, h4⟩
/-! the links turned round -/
theorem turnR_mem {k a b : Str} {o : List (Str × List Str)} {row : List Str} : b ∈ gGet a (turnR k o row) ↔ b ∈ gGet a o ∨ (b = k ∧ a ∈ row) := by
  induction row generalizing o with
  | nil => exact ⟨.inl, fun h => h.elim id fun h => (by cases h.2)⟩
  | cons x row ih =>
    show b ∈ gGet a (turnR k (gAdd x k o) row) ↔ _
    rw [ih, gGet_gAdd]
    by_cases e : a = x
    · subst e
      rw [if_pos rfl, List.mem_append, List.mem_singleton]
      constructor
      · rintro ((h | h) | h)
        · exact .inl h
        · exact .inr ⟨h, by simp⟩
        · exact .inr ⟨h.1, by simp [h.2]⟩
      · rintro (h | h)
        · exact .inl (.inl h)
        · exact .inl (.inr h.1)
    · rw [if_neg e]
      constructor
      · rintro (h | h)
        · exact .inl h
        · exact .inr ⟨h.1, by simp [h.2]⟩
      · rintro (h | h)
        · exact .inl h
        · rcases List.mem_cons.1 h.2 with h2 | h2
          · exact absurd h2 e
          · exact .inr ⟨h.1, h2⟩
theorem turnG_mem {a b : Str} {ms : List (Str × List Str)} : b ∈ gGet a (turnG ms) ↔ ∃ row, (b, row) ∈ ms ∧ a ∈ row := by
  induction ms using list_snoc with
  | h0 => exact ⟨fun h => (by cases h), fun ⟨_, h, _⟩ => (by cases h)⟩
  | h1 ms q ih =>
    obtain ⟨k, row⟩ := q
    rw [turnG_next, turnR_mem, ih]
    constructor
    · rintro (⟨r, h1, h2⟩ | ⟨rfl, h⟩)
      · exact ⟨r, List.mem_append_left _ h1, h2⟩
      · exact ⟨row, by simp, h⟩
    · rintro ⟨r, h1, h2⟩
      rcases List.mem_append.1 h1 with h1 | h1
      · exact .inl ⟨r, h1, h2⟩
      · cases List.mem_singleton.1 h1
        exact .inr ⟨rfl, h2⟩
theorem gGet_of_mem {m : List (Str × List Str)} (hn : (m.map (·.1)).Nodup) {k : Str} {row : List Str} (h : (k, row) ∈ m) : gGet k m = row := by
  induction m with
  | nil => cases h
  | cons p m ih =>
    obtain ⟨k', xs⟩ := p
    rw [List.map_cons, List.nodup_cons] at hn
    simp only [gGet]
    rcases List.mem_cons.1 h with e | h
    · cases e; rw [if_pos rfl]
    · rw [if_neg fun e => hn.1 (by rw [e]; exact List.mem_map.2 ⟨_, h, rfl⟩)]
      exact ih hn.2 h
theorem mem_of_gGet {m : List (Str × List Str)} {k x : Str} (h : x ∈ gGet k m) : (k, gGet k m) ∈ m := by
  induction m with
  | nil => cases h
  | cons p m ih =>
    obtain ⟨k', xs⟩ := p
    simp only [gGet] at h ⊢
    split at h
    · rename_i e; rw [if_pos e, e]; exact .head _
    · rename_i e; rw [if_neg e]; exact .tail _ (ih h)
theorem turn_mem {m o : List (Str × List Str)} (hn : (m.map (·.1)).Nodup) (ms : List (Str × List Str)) (hp : ms.Perm m) (ho : o = turnG ms) {a b : Str} : b ∈ gGet a o ↔ a ∈ gGet b m := by
  subst ho
  rw [turnG_mem]
  constructor
  · rintro ⟨row, h1, h2⟩
    rw [gGet_of_mem hn (hp.mem_iff.1 h1)]
    exact h2
  · intro h
    exact ⟨gGet b m, hp.mem_iff.2 (mem_of_gGet h), h⟩
theorem turn_rch {m o : List (Str × List Str)} (h : ∀ a b, b ∈ gGet a o ↔ a ∈ gGet b m) {a b : Str} : Rch o a b ↔ Rch m b a := by
  constructor
  · intro hr
    induction hr with
    | one e => exact .one ((h _ _).1 e)
    | cons e _ ih => exact ih.trans (.one ((h _ _).1 e))
  · intro hr
    induction hr with
    | one e => exact .one ((h _ _).2 e)
    | cons e _ ih => exact ih.trans (.one ((h _ _).2 e))
/-! sorted sets -/
theorem leB_ltS (a b : Str) : leB a b = !ltS b a := by
  have : ltS b a = decide (b < a) := Go.Proofs.bytesLess_eq b a
  rw [this, Bool.eq_iff_iff]
  simp [leB]
theorem sort_up (ss : List Str) : (ss.mergeSort leB).Pairwise fun x y => ltS y x = false := by
  have h := List.pairwise_mergeSort (le := leB) (fun a b c h1 h2 => by
    rw [leB_ltS, Bool.not_eq_true'] at h1 h2 ⊢
    rcases ltS_total a b with e | e | e
    · rcases ltS_total b c with e2 | e2 | e2
      · exact ltS_asymm (ltS_trans e e2)
      · subst e2; exact ltS_asymm e
      · rw [h2] at e2; cases e2
    · subst e; exact h2
    · rw [h1] at e; cases e) (fun a b => by
    rw [leB_ltS, leB_ltS]
    rcases ltS_total a b with e | e | e
    · rw [ltS_asymm e]; rfl
    · subst e; rw [ltS_irrefl]; rfl
    · rw [ltS_asymm e]; simp) ss
  refine h.imp fun h => ?_
  rw [leB_ltS] at h
  simpa using h
theorem asc_of_sorted : ∀ {l : List Str}, l.Pairwise (fun x y => ltS y x = false) → l.Nodup → ascS l
  | [], _, _ => trivial
  | x :: l, h, hn => by
    rw [List.pairwise_cons] at h
    rw [List.nodup_cons] at hn
    refine ascS_append (l := [x]) (r := l) |>.2 ⟨⟨fun y hy => (by cases hy), trivial⟩, asc_of_sorted h.2 hn.2, fun a ha y hy => ?_⟩
    rw [List.mem_singleton.1 ha]
    rcases ltS_total x y with e | e | e
    · exact e
    · exact absurd (e ▸ hy) hn.1
    · rw [h.1 y hy] at e; cases e
theorem sort_uni {S : List Str} (h : S.Nodup) : S.mergeSort leB = uniS S :=
  uniS_of (asc_of_sorted (sort_up S) ((List.mergeSort_perm S leB).nodup_iff.2 h)) fun _ => (List.mergeSort_perm S leB).mem_iff
end Go.Proofs.YtkfoogabijnamaaGreatDoor
namespace Go.Proofs.YtkfoogabijnamaaGreatDoor
open Go.RowKit Px

def numB (n : Str) : Bool := isC n && decide (0 ≤ val n)
def nmE (s : Stp) : Int := if numB s.q && (numB s.m && numB s.k) then (if (s.f = [] ∧ s.q ≠ []) ∨ (s.t = [] ∧ s.m ≠ []) then 1 else 0) else 1
def stE (s : Stp) : Int := if s.c = [] ∨ (s.f = [] ∧ s.t = []) then 11 else if s.f = s.t then 18 else nmE s
def firstE : List Stp → Int
  | [] => 0
  | s :: l => if stE s = 0 then firstE l else stE s
def chkE (l : List Stp) : Int := if 4000 < l.length then 4 else if firstE l = 0 then (if cycB (parG l) then 18 else 0) else firstE l
theorem firstE_at {l : List Stp} {n : Nat} {s : Stp} (h : l[n]? = some s) (h0 : ∀ j x, j < n → l[j]? = some x → stE x = 0) (hs : stE s ≠ 0) : firstE l = stE s := by
  induction l generalizing n with
  | nil => cases h
  | cons x l ih =>
    rw [firstE]
    cases n with
    | zero => cases h; rw [if_neg hs]
    | succ n =>
      rw [if_pos (h0 0 x (Nat.succ_pos n) rfl)]
      exact ih h fun j y hj hy => h0 (j + 1) y (by omega) hy
theorem firstE_ok {l : List Stp} (h0 : ∀ (j : Nat) x, l[j]? = some x → stE x = 0) : firstE l = 0 := by
  induction l with
  | nil => rfl
  | cons x l ih => rw [firstE, if_pos (h0 0 x rfl)]; exact ih fun j y hy => h0 (j + 1) y hy
def bdS (B : Nat) (s : Stp) : Prop := s.c.length ≤ B ∧ s.f.length ≤ B ∧ s.t.length ≤ B ∧ s.q.length ≤ B ∧ s.m.length ≤ B ∧ s.k.length ≤ B
def bdL (B : Nat) (l : List Stp) : Prop := l.length ≤ 5000 ∧ ∀ s ∈ l, bdS B s

/-! what is told -/
def parR (l : List Stp) (id : Str) : List Str := uniS (gGet id (parG l))
def srcB (l : List Stp) (id x : Str) : Bool := (reach (parG l) id).contains x || x == id
def orgF (l : List Stp) (id : Str) (s : Stp) : Bool := s.f == [] && srcB l id s.t
def orgR (l : List Stp) (id : Str) : List Str := uniS ((l.filter (orgF l id)).map (·.t))
def cauF (l : List Stp) (id : Str) (s : Stp) : Bool := (!(s.t == [])) && srcB l id s.t
def cauR (l : List Stp) (id : Str) : List Str := uniS ((l.filter (cauF l id)).map (·.c))
def lotS (s : Stp) : List Str := (if s.f = [] then [] else [s.f]) ++ (if s.t = [] then [] else [s.t])
def lotL (l : List Stp) : List Str := l.flatMap lotS
def heiR (l : List Stp) (id : Str) : List Str := (uniS (lotL l)).filter fun x => (reach (parG l) x).contains id
theorem asc_filter {p : Str → Bool} : ∀ {l : List Str}, ascS l → ascS (l.filter p)
  | [], _ => trivial
  | x :: l, h => by
    rw [List.filter_cons]
    split
    · exact ⟨fun y hy => h.1 y (List.mem_filter.1 hy).1, asc_filter h.2⟩
    · exact asc_filter h.2
theorem heiR_asc (l : List Stp) (id : Str) : ascS (heiR l id) := asc_filter (uniS_spec _).1
theorem mem_lotL {l : List Stp} {x : Str} : x ∈ lotL l ↔ x ≠ [] ∧ ∃ s ∈ l, s.f = x ∨ s.t = x := by
  unfold lotL lotS
  rw [List.mem_flatMap]
  constructor
  · rintro ⟨s, hs, h⟩
    rcases List.mem_append.1 h with h | h
    · split at h
      · cases h
      · rename_i h0; rw [List.mem_singleton.1 h]; exact ⟨h0, s, hs, .inl rfl⟩
    · split at h
      · cases h
      · rename_i h0; rw [List.mem_singleton.1 h]; exact ⟨h0, s, hs, .inr rfl⟩
  · rintro ⟨h0, s, hs, h⟩
    refine ⟨s, hs, List.mem_append.2 ?_⟩
    rcases h with h | h
    · exact .inl (by rw [if_neg (by rw [h]; exact h0), h]; simp)
    · exact .inr (by rw [if_neg (by rw [h]; exact h0), h]; simp)
theorem rch_lot {l : List Stp} {a b : Str} (h : Rch (parG l) a b) : a ∈ lotL l := by
  have key : ∀ {y}, y ∈ gGet a (parG l) → a ∈ lotL l := fun {y} hy => by
    obtain ⟨s, h1, h2, h3, h4, h5⟩ := (par_iff l a y).1 hy
    exact mem_lotL.2 ⟨by rw [← h2]; exact h5, s, h1, .inr h2⟩
  cases h with
  | one h => exact key h
  | cons h _ => exact key h
theorem mem_heiR {l : List Stp} {id x : Str} : x ∈ heiR l id ↔ Rch (parG l) x id := by
  unfold heiR
  rw [List.mem_filter, (uniS_spec _).2, List.contains_iff_mem, reach_iff]
  exact ⟨fun h => h.2, fun h => ⟨rch_lot h, h⟩⟩
theorem allG_bd {B : Nat} {l : List Stp} (h : ∀ s ∈ l, bdS B s) : ∀ x ∈ allG (parG l), x.length ≤ B := fun x hx => by
  obtain ⟨s, h1, h2, -⟩ := allG_par l x hx
  rw [← h2]
  exact (h s h1).2.1
theorem reach_le (l : List Stp) (id : Str) : (reach (parG l) id).length ≤ l.length := by
  have h1 := reach_len (parG l) id
  rw [allG_len] at h1
  exact Nat.le_trans h1 (parG_tot l)
def addB (S : List Str) (x : Str) : List Str := if S.contains x then S else S ++ [x]
theorem addB_mem {S : List Str} {x y : Str} : y ∈ addB S x ↔ y ∈ S ∨ y = x := by
  unfold addB
  split
  · rename_i h
    exact ⟨.inl, fun h2 => h2.elim id fun e => by rw [e]; simpa using h⟩
  · simp
theorem addB_nodup {S : List Str} {x : Str} (h : S.Nodup) : (addB S x).Nodup := by
  unfold addB
  split
  · exact h
  · rename_i hx
    rw [List.nodup_append]
    exact ⟨h, by simp, fun a ha b hb e => hx (by rw [← List.mem_singleton.1 hb, ← e]; simpa using ha)⟩
theorem addB_len (S : List Str) (x : Str) : (addB S x).length ≤ S.length + 1 := by
  unfold addB
  split <;> simp
theorem fold_addB (l S : List Str) : (∀ y, y ∈ l.foldl addB S ↔ y ∈ S ∨ y ∈ l) ∧ (S.Nodup → (l.foldl addB S).Nodup) ∧ (l.foldl addB S).length ≤ S.length + l.length := by
  induction l generalizing S with
  | nil => exact ⟨fun y => ⟨.inl, fun h => h.elim id fun h => (by cases h)⟩, id, Nat.le_refl _⟩
  | cons x l ih =>
    obtain ⟨h1, h2, h3⟩ := ih (addB S x)
    refine ⟨fun y => ?_, fun h => h2 (addB_nodup h), ?_⟩
    · rw [List.foldl_cons, h1, addB_mem, List.mem_cons]
      constructor
      · rintro ((h | h) | h)
        · exact .inl h
        · exact .inr (.inl h)
        · exact .inr (.inr h)
      · rintro (h | h | h)
        · exact .inl (.inl h)
        · exact .inl (.inr h)
        · exact .inr h
    · have := addB_len S x
      simp only [List.length_cons, List.foldl_cons]
      omega
theorem fold_uni (l : List Str) : uniS (l.foldl addB []) = uniS l := uniS_congr fun x => by rw [(fold_addB l []).1]; simp
end Go.Proofs.YtkfoogabijnamaaGreatDoor
namespace Go.Proofs.YtkfoogabijnamaaGreatDoor
open Go.RowKit Px

theorem foldl_ins (l : List Str) : ∀ r : List Str, ascS r → ascS (l.foldl (fun out x => insS x out) r) ∧ ∀ x, x ∈ l.foldl (fun out x => insS x out) r ↔ x ∈ r ∨ x ∈ l := by
  induction l with
  | nil => intro r h; exact ⟨h, fun x => by simp⟩
  | cons y l ih =>
    intro r h
    obtain ⟨h1, h2⟩ := ih (insS y r) (insS_asc h)
    refine ⟨h1, fun x => ?_⟩
    rw [List.foldl_cons, h2, insS_mem, List.mem_cons]
    constructor
    · rintro ((h | h) | h) <;> simp [h]
    · rintro (h | h | h) <;> simp [h]
theorem foldl_uni (l : List Str) : l.foldl (fun out x => insS x out) [] = uniS l := by
  obtain ⟨h1, h2⟩ := foldl_ins l [] trivial
  exact uniS_of h1 fun x => by rw [h2]; simp
def ltN (x : Str) : List Str → Nat
  | [] => 0
  | y :: l => if ltS y x then ltN x l + 1 else 0
theorem ltN_le (x : Str) (l : List Str) : ltN x l ≤ l.length := by
  induction l with
  | nil => exact Nat.le_refl _
  | cons y l ih => unfold ltN; split <;> simp; omega
theorem ltN_lt {x : Str} {l : List Str} {i : Nat} {y : Str} (h : i < ltN x l) (hy : l[i]? = some y) : ltS y x = true := by
  induction l generalizing i with
  | nil => cases hy
  | cons z l ih =>
    unfold ltN at h
    split at h
    · rename_i hz
      cases i with
      | zero => cases hy; exact hz
      | succ i => exact ih (by omega) hy
    · omega
theorem ltN_at {x : Str} {l : List Str} {y : Str} (hy : l[ltN x l]? = some y) : ltS y x = false := by
  induction l with
  | nil => cases hy
  | cons z l ih =>
    unfold ltN at hy
    split at hy
    · exact ih hy
    · rename_i hz; cases hy; simpa using hz
theorem insS_ltN (x : Str) (l : List Str) : insS x l = if l[ltN x l]? = some x then l else l.take (ltN x l) ++ (x :: l.drop (ltN x l)) := by
  induction l with
  | nil => rfl
  | cons y l ih =>
    unfold insS ltN
    by_cases h : ltS y x = true
    · rw [if_pos h, if_pos h, ih]
      simp only [List.getElem?_cons_succ, List.take_succ_cons, List.drop_succ_cons]
      split <;> simp
    · rw [if_neg h, if_neg h]
      simp only [List.getElem?_cons_zero, Option.some.injEq, List.take_zero, List.drop_zero, List.nil_append]
theorem uniS_snoc (L : List Str) (x : Str) : uniS (L ++ [x]) = insS x (uniS L) := by
  rw [← foldl_uni, List.foldl_append, foldl_uni]
  rfl
theorem uniS_mem {L : List Str} {x : Str} : x ∈ uniS L ↔ x ∈ L := (uniS_spec L).2 x
theorem uniS_contains (L : List Str) (x : Str) : (uniS L).contains x = L.contains x := by
  rw [Bool.eq_iff_iff]
  simp only [List.contains_iff_mem, uniS_mem]
theorem filt_next {f : Stp → Bool} {g : Stp → Str} {l : List Stp} {n : Nat} {s : Stp} (h : l[n]? = some s) : uniS (((l.take (n + 1)).filter f).map g) = if f s then insS (g s) (uniS (((l.take n).filter f).map g)) else uniS (((l.take n).filter f).map g) := by
  rw [List.take_add_one, h, Option.toList, List.filter_append, List.map_append]
  cases hf : f s with
  | true =>
    have : [s].filter f = [s] := by simp [hf]
    rw [this, if_pos rfl]
    exact uniS_snoc _ _
  | false =>
    have : [s].filter f = [] := by simp [hf]
    rw [this, if_neg (by simp), List.map_nil, List.append_nil]
def parF (id : Str) (s : Stp) : Bool := (s.t == id && !(id == [])) && !(s.f == [])
theorem par_uni (l : List Stp) (id : Str) : uniS ((l.filter (parF id)).map (·.f)) = parR l id := uniS_congr fun x => by
  rw [par_iff]
  constructor
  · intro h
    obtain ⟨s, h1, h2⟩ := List.mem_map.1 h
    obtain ⟨h3, h4⟩ := List.mem_filter.1 h1
    simp only [parF, Bool.and_eq_true, Bool.not_eq_true', beq_eq_false_iff_ne, beq_iff_eq] at h4
    exact ⟨s, h3, h4.1.1, h2, h4.2, by rw [h4.1.1]; exact h4.1.2⟩
  · rintro ⟨s, h1, h2, h3, h4, h5⟩
    refine List.mem_map.2 ⟨s, List.mem_filter.2 ⟨h1, ?_⟩, h3⟩
    simp only [parF, Bool.and_eq_true, Bool.not_eq_true', beq_eq_false_iff_ne, beq_iff_eq]
    exact ⟨⟨h2, by rw [← h2]; exact h5⟩, h4⟩
theorem lotL_next {l : List Stp} {n : Nat} {s : Stp} (h : l[n]? = some s) : lotL (l.take (n + 1)) = lotL (l.take n) ++ lotS s := by
  unfold lotL
  rw [List.take_add_one, h, Option.toList, List.flatMap_append]
  simp
theorem filt_len (f : Stp → Bool) (g : Stp → Str) (l : List Stp) : (uniS ((l.filter f).map g)).length ≤ l.length := by
  refine Nat.le_trans (uniS_length _) ?_
  rw [List.length_map]
  exact List.length_filter_le _ _
theorem lotU_len (l : List Stp) : (uniS (lotL l)).length ≤ 2 * l.length := by
  refine Nat.le_trans (uniS_length _) ?_
  induction l with
  | nil => exact Nat.le_refl _
  | cons s l ih =>
    have h1 : (lotS s).length ≤ 2 := by unfold lotS; rw [List.length_append]; split <;> split <;> simp
    have h3 : lotL (s :: l) = lotS s ++ lotL l := rfl
    rw [h3, List.length_append, List.length_cons]
    omega
theorem parR_len (l : List Stp) (id : Str) : (parR l id).length ≤ l.length := by rw [← par_uni]; exact filt_len _ _ _
structure Wid (m : List (Str × List Str)) (id : Str) (T : List Str) : Prop where
  nd : T.Nodup
  rc : ∀ x ∈ T, Rch m id x
theorem Wid.len {m : List (Str × List Str)} {id : Str} {T : List Str} (h : Wid m id T) : T.length ≤ (allG m).length := nodup_sub h.nd fun x hx => (h.rc x hx).mem
theorem Wid.add {m : List (Str × List Str)} {id : Str} {T : List Str} (h : Wid m id T) {x y : Str} (hy : y = id ∨ y ∈ T) (hx : x ∈ gGet y m) (hn : T.contains x = false) : Wid m id (T ++ [x]) := by
  refine ⟨?_, fun z hz => ?_⟩
  · rw [List.nodup_append]
    exact ⟨h.nd, by simp, fun a ha b hb e => by
      rw [List.mem_singleton.1 hb] at e
      have : T.contains x = true := by rw [← e]; simpa using ha
      rw [hn] at this; cases this⟩
  · rcases List.mem_append.1 hz with hz | hz
    · exact h.rc z hz
    · rw [List.mem_singleton.1 hz]
      rcases hy with rfl | hy
      · exact .one hx
      · exact (h.rc y hy).trans (.one hx)
theorem Wid.full {m : List (Str × List Str)} {id : Str} {T : List Str} (h : Wid m id T) (hc : ∀ y ∈ id :: T, ∀ x ∈ gGet y m, x ∈ T) : uniS T = uniS (reach m id) := uniS_congr fun x => by
  rw [reach_iff]
  refine ⟨h.rc x, fun hr => ?_⟩
  have step : ∀ {a b : Str}, Rch m a b → a ∈ id :: T → b ∈ T := fun {a b} hr => by
    induction hr with
    | one e => exact fun ha => hc _ ha _ e
    | cons e _ ih => exact fun ha => ih (.tail _ (hc _ ha _ e))
  exact step hr (.head _)
end Go.Proofs.YtkfoogabijnamaaGreatDoor
set_option maxHeartbeats 1000000
namespace Go.Proofs.YtkfoogabijnamaaGreatDoor
open Go.RowKit

theorem decDigits_dec {n : Nat} (h : n ≠ 0) : Lib.decDigits n = dec n := by
  induction n using Nat.strongRecOn with
  | _ n ih =>
    rw [Lib.decDigits, dec_pos h]
    by_cases h2 : n < 10
    · rw [dif_pos h2, show n / 10 = 0 by omega, dec_zero, show n % 10 = n by omega]
      rfl
    · rw [dif_neg h2, ih (n / 10) (by omega) (by omega)]
      rfl
theorem decDigits_small (n k : Nat) (h : n < 10 ^ k) (hk : 0 < k) : (Lib.decDigits n).length ≤ k := by
  induction k generalizing n with
  | zero => omega
  | succ k ih =>
    rw [Lib.decDigits]
    by_cases h2 : n < 10
    · rw [dif_pos h2]; simp
    · rw [dif_neg h2]
      have h3 : 0 < k := by
        by_cases e : k = 0
        · subst e; simp at h; omega
        · omega
      have := ih (n / 10) (by rw [Nat.pow_succ] at h; omega) h3
      simp; omega
theorem dec_len20 {n : Nat} (h : n ≤ 9223372036854775808) : (dec n).length ≤ 20 := by
  by_cases e : n = 0
  · subst e; rw [dec_zero]; simp
  · rw [← decDigits_dec e]
    exact decDigits_small n 20 (by omega) (by omega)
def sg (b : Bool) (m : Nat) : Int := if b then -(m : Int) else m
theorem sg_quo (b : Bool) (m : Nat) : Int.tdiv (sg b m) 10 = sg b (m / 10) := by
  unfold sg
  cases b
  · simp
  · simp [Int.neg_tdiv]
theorem sg_rem (b : Bool) (m : Nat) : Int.tmod (sg b m) 10 = sg b (m % 10) := by
  unfold sg
  cases b
  · simp [Int.tmod_eq_emod_of_nonneg]
  · simp [Int.neg_tmod, Int.tmod_eq_emod_of_nonneg]
theorem sg_zero (b : Bool) (m : Nat) : sg b m = 0 ↔ m = 0 := by
  unfold sg
  cases b <;> simp
theorem sg_of (n : Int) : n = sg (decide (n < 0)) n.natAbs := by
  unfold sg
  by_cases h : n < 0
  · simp [h]; omega
  · simp [h]; omega
end Go.Proofs.YtkfoogabijnamaaGreatDoor
set_option maxHeartbeats 1000000
namespace Go.Proofs.YtkfoogabijnamaaGreatDoor

def grp (n : Nat) : List Nat := if h : n = 0 then [] else (n % 1000000000) :: grp (n / 1000000000)
termination_by n
decreasing_by exact Nat.div_lt_self (by omega) (by omega)
def gval : List Nat → Nat
  | [] => 0
  | x :: l => x + 1000000000 * gval l
def gok (l : List Nat) : Prop := ∀ x ∈ l, x < 1000000000
theorem grp_zero : grp 0 = [] := by rw [grp]; simp
theorem grp_pos {n : Nat} (h : n ≠ 0) : grp n = (n % 1000000000) :: grp (n / 1000000000) := by rw [grp]; simp [h]
theorem gval_grp (n : Nat) : gval (grp n) = n := by
  induction n using Nat.strongRecOn with
  | _ n ih =>
    by_cases h : n = 0
    · subst h; rw [grp_zero]; rfl
    · rw [grp_pos h, gval, ih (n / 1000000000) (Nat.div_lt_self (by omega) (by omega))]
      omega
theorem gok_grp (n : Nat) : gok (grp n) := by
  induction n using Nat.strongRecOn with
  | _ n ih =>
    by_cases h : n = 0
    · subst h; rw [grp_zero]; intro x hx; simp at hx
    · rw [grp_pos h]
      intro x hx
      rcases List.mem_cons.1 hx with e | e
      · omega
      · exact ih (n / 1000000000) (Nat.div_lt_self (by omega) (by omega)) x e
theorem grp_nil {n : Nat} : grp n = [] ↔ n = 0 := by
  constructor
  · intro h; have := gval_grp n; rw [h] at this; exact this.symm
  · rintro rfl; exact grp_zero
theorem gok_cons {x : Nat} {l : List Nat} : gok (x :: l) ↔ x < 1000000000 ∧ gok l := by simp [gok]
theorem gok_append {l r : List Nat} : gok (l ++ r) ↔ gok l ∧ gok r := by
  simp only [gok, List.mem_append]
  exact ⟨fun h => ⟨fun x hx => h x (.inl hx), fun x hx => h x (.inr hx)⟩, fun h x hx => hx.elim (h.1 x) (h.2 x)⟩
theorem gval_append (l r : List Nat) : gval (l ++ r) = gval l + 1000000000 ^ l.length * gval r := by
  induction l with
  | nil => simp [gval]
  | cons x l ih =>
    rw [List.cons_append, gval, ih, gval, List.length_cons, Nat.pow_succ, Nat.mul_add, ← Nat.mul_assoc, Nat.mul_comm (1000000000 ^ l.length) 1000000000]
    omega
theorem gval_lt {l : List Nat} (h : gok l) : gval l < 1000000000 ^ l.length := by
  induction l with
  | nil => simp [gval]
  | cons x l ih =>
    obtain ⟨h1, h2⟩ := gok_cons.1 h
    have := ih h2
    rw [gval, List.length_cons, Nat.pow_succ]
    omega
theorem gval_grp_of {l : List Nat} (h : gok l) (hl : l.getLast? ≠ some 0) : grp (gval l) = l := by
  induction l with
  | nil => exact grp_zero
  | cons x l ih =>
    obtain ⟨h1, h2⟩ := gok_cons.1 h
    by_cases he : l = []
    · subst he
      have hx : x ≠ 0 := by simpa using hl
      have e1 : gval [x] = x := by simp [gval]
      rw [e1, grp_pos hx, Nat.mod_eq_of_lt h1, Nat.div_eq_of_lt h1, grp_zero]
    · have hl' : l.getLast? ≠ some 0 := by
        match l, he with
        | y :: l, _ => simpa using hl
      have ih' := ih h2 hl'
      have hne : gval l ≠ 0 := fun e => by rw [e, grp_zero] at ih'; exact he ih'.symm
      rw [gval, grp_pos (by omega)]
      have e1 : (x + 1000000000 * gval l) % 1000000000 = x := by omega
      have e2 : (x + 1000000000 * gval l) / 1000000000 = gval l := by omega
      rw [e1, e2, ih']
def cutG : List Nat → List Nat
  | [] => []
  | x :: l => if cutG l = [] ∧ x = 0 then [] else x :: cutG l
theorem cutG_gval (l : List Nat) : gval (cutG l) = gval l := by
  induction l with
  | nil => rfl
  | cons x l ih =>
    rw [cutG]
    split
    · rename_i h
      rw [h.1] at ih
      rw [gval, gval, ← ih, h.2]
      simp [gval]
    · rw [gval, gval, ih]
theorem cutG_gok {l : List Nat} (h : gok l) : gok (cutG l) := by
  induction l with
  | nil => exact h
  | cons x l ih =>
    obtain ⟨h1, h2⟩ := gok_cons.1 h
    rw [cutG]
    split
    · intro x hx; simp at hx
    · exact gok_cons.2 ⟨h1, ih h2⟩
theorem cutG_last (l : List Nat) : (cutG l).getLast? ≠ some 0 := by
  induction l with
  | nil => simp [cutG]
  | cons x l ih =>
    rw [cutG]
    split
    · simp
    · rename_i h
      by_cases he : cutG l = []
      · rw [he]
        simp
        intro e
        exact h ⟨he, e⟩
      · match hd : cutG l, he, ih with
        | y :: r, _, ih => simpa using ih
theorem cutG_grp {l : List Nat} (h : gok l) : cutG l = grp (gval l) := by
  have := gval_grp_of (cutG_gok h) (cutG_last l)
  rw [cutG_gval] at this
  exact this.symm
theorem cutG_snoc (l : List Nat) (x : Nat) : cutG (l ++ [x]) = if x = 0 then cutG l else l ++ [x] := by
  induction l with
  | nil => simp [cutG]
  | cons y l ih =>
    rw [List.cons_append, cutG, ih]
    by_cases h : x = 0
    · simp only [h, if_true]
      rw [cutG]
    · simp only [h, if_false]
      rw [if_neg (by simp)]
def rdG (t : Str) : List Nat := if h : t = [] then [] else natOf (t.drop (t.length - 9)) :: rdG (t.take (t.length - 9))
termination_by t.length
decreasing_by
  rw [List.length_take]
  have : 0 < t.length := List.length_pos_iff.2 h
  omega
theorem rdG_nil : rdG [] = [] := by rw [rdG]; simp
theorem rdG_pos {t : Str} (h : t ≠ []) : rdG t = natOf (t.drop (t.length - 9)) :: rdG (t.take (t.length - 9)) := by rw [rdG]; simp [h]
theorem natOf_lt {t : Str} (h : t.all isD = true) : natOf t < 10 ^ t.length := by
  induction t using snoc_ind with
  | h0 => simp [natOf]
  | h1 l b ih =>
    rw [List.all_append, Bool.and_eq_true] at h
    have hb := dv_lt (b := b) (by simpa using h.2)
    have := ih h.1
    rw [natOf_snoc, List.length_append, List.length_singleton, Nat.pow_succ]
    omega
theorem natOf_pos {t : Str} (h : t.all isD = true) (h0 : t.head? ≠ some 48) (hn : t ≠ []) : natOf t ≠ 0 := fun e => by
  have := dec_natOf h h0
  rw [e, dec_zero] at this
  exact hn this.symm
theorem rdG_grp {t : Str} (h : t.all isD = true) (h0 : t.head? ≠ some 48) : rdG t = grp (natOf t) := by
  obtain ⟨n, hn⟩ : ∃ n, n = t.length := ⟨_, rfl⟩
  induction n using Nat.strongRecOn generalizing t with
  | _ n ih =>
    by_cases he : t = []
    · subst he; rw [rdG_nil]; exact grp_zero.symm
    · have hpos : 0 < t.length := List.length_pos_iff.2 he
      have hne := natOf_pos h h0 he
      have hall : (t.take (t.length - 9)).all isD = true ∧ (t.drop (t.length - 9)).all isD = true := by
        rw [← Bool.and_eq_true, ← List.all_append, List.take_append_drop]; exact h
      have hhead : (t.take (t.length - 9)).head? ≠ some 48 := by
        match t, h0 with
        | x :: l, h0 =>
          cases hk : (x :: l).length - 9 with
          | zero => simp
          | succ k => simpa using h0
      have hsplit := natOf_append (t.take (t.length - 9)) (t.drop (t.length - 9))
      rw [List.take_append_drop] at hsplit
      have hdl : (t.drop (t.length - 9)).length = min 9 t.length := by rw [List.length_drop]; omega
      have hlt := natOf_lt hall.2
      rw [hdl] at hsplit hlt
      rw [rdG_pos he, ih (t.take (t.length - 9)).length (by rw [List.length_take]; omega) hall.1 hhead rfl, grp_pos hne]
      by_cases h9 : 9 ≤ t.length
      · rw [Nat.min_eq_left h9] at hsplit hlt
        have e1 : natOf t % 1000000000 = natOf (t.drop (t.length - 9)) := by omega
        have e2 : natOf t / 1000000000 = natOf (t.take (t.length - 9)) := by omega
        rw [e1, e2]
      · rw [Nat.min_eq_right (by omega)] at hsplit hlt
        have e0 : t.length - 9 = 0 := by omega
        have hle : 10 ^ t.length ≤ 10 ^ 9 := Nat.pow_le_pow_right (by omega) (by omega)
        simp only [e0, List.take_zero, List.drop_zero] at hsplit hlt ⊢
        have e3 : natOf ([] : Str) = 0 := rfl
        have e1 : natOf t % 1000000000 = natOf t := Nat.mod_eq_of_lt (by omega)
        have e2 : natOf t / 1000000000 = 0 := Nat.div_eq_of_lt (by omega)
        rw [e1, e2, e3]
def padk : Nat → Nat → Str
  | 0, _ => []
  | k + 1, b => padk k (b / 10) ++ [dig (b % 10)]
theorem padk_length (k b : Nat) : (padk k b).length = k := by
  induction k generalizing b with
  | zero => rfl
  | succ k ih => rw [padk, List.length_append, ih]; rfl
theorem padk_all (k b : Nat) : (padk k b).all isD = true := by
  induction k generalizing b with
  | zero => rfl
  | succ k ih => rw [padk, List.all_append, ih]; simp [isD_dig (Nat.mod_lt b (by omega : 0 < 10))]
theorem natOf_padk {k b : Nat} (h : b < 10 ^ k) : natOf (padk k b) = b := by
  induction k generalizing b with
  | zero => simp at h; subst h; rfl
  | succ k ih =>
    rw [Nat.pow_succ] at h
    rw [padk, natOf_snoc, ih (by omega), dv_dig (Nat.mod_lt _ (by omega))]
    omega
theorem dec_split {a : Nat} (ha : a ≠ 0) (k b : Nat) (hb : b < 10 ^ k) : dec (a * 10 ^ k + b) = dec a ++ padk k b := by
  induction k generalizing b with
  | zero => simp at hb; subst hb; simp [padk]
  | succ k ih =>
    rw [Nat.pow_succ] at hb
    have hp : 0 < 10 ^ k := Nat.pow_pos (by omega)
    have hap : 0 < a * 10 ^ k := Nat.mul_pos (by omega) hp
    have e0 : a * 10 ^ (k + 1) = 10 * (a * 10 ^ k) := by rw [Nat.pow_succ, ← Nat.mul_assoc]; omega
    have e1 : (10 * (a * 10 ^ k) + b) / 10 = a * 10 ^ k + b / 10 := by omega
    have e2 : (10 * (a * 10 ^ k) + b) % 10 = b % 10 := by omega
    rw [e0, dec_pos (by omega), e1, e2, ih (b / 10) (by omega), padk, List.append_assoc]
def fmt (n : Nat) : Str := if n = 0 then [48] else dec n
theorem fmt_pad {k n : Nat} (h : n < 10 ^ k) (hk : 0 < k) : List.replicate (k - (fmt n).length) 48 ++ fmt n = padk k n := by
  have key : ∀ (k n : Nat), n < 10 ^ k → (dec n).length ≤ k ∧ List.replicate (k - (dec n).length) 48 ++ dec n = padk k n := by
    intro k
    induction k with
    | zero => intro n h; simp at h; subst h; simp [dec_zero, padk]
    | succ k ih =>
      intro n h
      rw [Nat.pow_succ] at h
      obtain ⟨h1, h2⟩ := ih (n / 10) (by omega)
      by_cases hn : n = 0
      · subst hn
        rw [dec_zero] at h2 ⊢
        simp only [List.length_nil, Nat.sub_zero, List.append_nil] at h2 ⊢
        refine ⟨by omega, ?_⟩
        rw [padk, ← h2, show (0 : Nat) % 10 = 0 from rfl, List.replicate_succ']
        rfl
      · rw [dec_pos hn, padk, List.length_append, List.length_singleton]
        refine ⟨by omega, ?_⟩
        rw [← h2, show k + 1 - ((dec (n / 10)).length + 1) = k - (dec (n / 10)).length by omega, List.append_assoc]
  by_cases hn : n = 0
  · subst hn
    have := (key k 0 h).2
    rw [dec_zero] at this
    simp only [List.length_nil, Nat.sub_zero, List.append_nil] at this
    rw [fmt, if_pos rfl, ← this]
    obtain ⟨j, rfl⟩ : ∃ j, k = j + 1 := ⟨k - 1, by omega⟩
    rw [List.replicate_succ']
    simp
  · rw [fmt, if_neg hn]; exact (key k n h).2
theorem fmt_len {k n : Nat} (h : n < 10 ^ k) (hk : 0 < k) : (fmt n).length ≤ k := by
  have := congrArg List.length (fmt_pad h hk)
  rw [List.length_append, List.length_replicate, padk_length] at this
  omega
def pads : List Nat → Str
  | [] => []
  | x :: l => pads l ++ padk 9 x
theorem pads_all (l : List Nat) : (pads l).all isD = true := by
  induction l with
  | nil => rfl
  | cons x l ih => rw [pads, List.all_append, ih, padk_all]; rfl
theorem pads_length (l : List Nat) : (pads l).length = 9 * l.length := by
  induction l with
  | nil => rfl
  | cons x l ih => rw [pads, List.length_append, ih, padk_length, List.length_cons]; omega
theorem natOf_pads {l : List Nat} (h : gok l) : natOf (pads l) = gval l := by
  induction l with
  | nil => rfl
  | cons x l ih =>
    obtain ⟨h1, h2⟩ := gok_cons.1 h
    rw [pads, natOf_append, ih h2, padk_length, natOf_padk h1, gval]
    omega
theorem dec_groups {l : List Nat} {x : Nat} (h : gok l) (hx : x ≠ 0) : dec (gval (l ++ [x])) = dec x ++ pads l := by
  induction l with
  | nil => simp [gval, pads]
  | cons y l ih =>
    obtain ⟨h1, h2⟩ := gok_cons.1 h
    have hne : gval (l ++ [x]) ≠ 0 := by
      rw [gval_append]
      have : 0 < 1000000000 ^ l.length := Nat.pow_pos (by omega)
      simp only [gval, Nat.mul_zero, Nat.add_zero]
      have : 0 < 1000000000 ^ l.length * x := Nat.mul_pos this (by omega)
      omega
    rw [List.cons_append, gval, Nat.add_comm, Nat.mul_comm, show (1000000000 : Nat) = 10 ^ 9 from rfl, dec_split hne 9 y h1, ih h2, pads, List.append_assoc]
end Go.Proofs.YtkfoogabijnamaaGreatDoor
namespace Go.Proofs.YtkfoogabijnamaaGreatDoor
open Go.RowKit Px

def getS (k : Str) : List (Str × Str) → Str
  | [] => []
  | (k', v) :: l => if k' = k then v else getS k l
def setS (k v : Str) : List (Str × Str) → List (Str × Str)
  | [] => [(k, v)]
  | (k', v') :: l => if k' = k then (k, v) :: l else (k', v') :: setS k v l
def mapD (l : List (Str × Str)) : List (Str × DV) := l.map fun p => (p.1, dS p.2)
theorem mget_D (k : Str) (l : List (Str × Str)) : mget (dS []) k (mapD l) = dS (getS k l) := by
  induction l with
  | nil => rfl
  | cons p l ih =>
    show (if p.1 = k then dS p.2 else mget (dS []) k (mapD l)) = dS (if p.1 = k then p.2 else getS k l)
    split
    · rfl
    · exact ih
theorem mset_D (k v : Str) (l : List (Str × Str)) : mset k (dS v) (mapD l) = mapD (setS k v l) := by
  induction l with
  | nil => rfl
  | cons p l ih =>
    show (if p.1 = k then (k, dS v) :: mapD l else (p.1, dS p.2) :: mset k (dS v) (mapD l)) = mapD (if p.1 = k then (k, v) :: l else (p.1, p.2) :: setS k v l)
    split
    · rfl
    · rw [ih]; rfl
theorem getS_set (k v j : Str) (l : List (Str × Str)) : getS j (setS k v l) = if j = k then v else getS j l := by
  induction l with
  | nil =>
    show (if k = j then v else []) = if j = k then v else []
    by_cases h : j = k
    · rw [if_pos h, if_pos h.symm]
    · rw [if_neg h, if_neg (fun e => h e.symm)]
  | cons p l ih =>
    show getS j (if p.1 = k then (k, v) :: l else (p.1, p.2) :: setS k v l) = if j = k then v else (if p.1 = j then p.2 else getS j l)
    by_cases hp : p.1 = k
    · rw [if_pos hp]
      show (if k = j then v else getS j l) = _
      by_cases h : j = k
      · rw [if_pos h, if_pos h.symm]
      · rw [if_neg h, if_neg (fun e => h e.symm), if_neg (fun e => h (e.symm.trans hp))]
    · rw [if_neg hp]
      show (if p.1 = j then p.2 else getS j (setS k v l)) = _
      by_cases hj : p.1 = j
      · rw [if_pos hj, if_pos hj, if_neg (fun e => hp (hj.trans e))]
      · rw [if_neg hj, if_neg hj, ih]
abbrev addI (a b : Str) : Str := canon (val a + val b)
abbrev subI (a b : Str) : Str := canon (val a - val b)
theorem dec_le {n k : Nat} (h : n < 10 ^ k) : (dec n).length ≤ k := by
  by_cases h0 : n = 0
  · rw [h0, dec_zero]; simp
  · rw [← decDigits_dec h0]
    refine decDigits_small n k h ?_
    rcases Nat.eq_zero_or_pos k with rfl | hk
    · simp at h; omega
    · exact hk
theorem canon_le {z : Int} {k : Nat} (h : z.natAbs < 10 ^ k) : (canon z).length ≤ k + 1 := by
  have := dec_le h
  unfold canon
  split <;> simp <;> omega
theorem val_lt {a : Str} {k : Nat} (h : a.length ≤ k) : (val a).natAbs < 10 ^ k := by
  rw [← natOf_dgs]
  have h1 := natOf_lt (dgs_all a)
  have hb : (bod a).length ≤ a.length := by unfold bod; split <;> simp
  have h2 : (dgs a).1.length ≤ a.length := by
    unfold dgs
    split
    · exact Nat.le_trans (List.dropWhile_suffix _).length_le hb
    · simp
  exact Nat.lt_of_lt_of_le h1 (Nat.pow_le_pow_right (by decide) (Nat.le_trans h2 h))
theorem addI_len {a b : Str} {k : Nat} (ha : a.length ≤ k) (hb : b.length ≤ k) : (addI a b).length ≤ k + 2 := by
  have h1 := val_lt ha
  have h2 := val_lt hb
  refine canon_le (k := k + 1) ?_
  rw [Nat.pow_succ]
  omega
end Go.Proofs.YtkfoogabijnamaaGreatDoor
namespace Go.Proofs.YtkfoogabijnamaaGreatDoor
open Go.RowKit Px

def sumF (g : Stp → Int) (l : List Stp) : Int := (l.map g).sum
theorem sumF_next {g : Stp → Int} {l : List Stp} {n : Nat} {s : Stp} (h : l[n]? = some s) : sumF g (l.take (n + 1)) = sumF g (l.take n) + g s := by
  unfold sumF
  rw [List.take_add_one, h, Option.toList, List.map_append, List.sum_append]
  simp
theorem pow_step (k n : Nat) : (10 : Nat) ^ (k + 2 * n) + 10 ^ k + 10 ^ k ≤ 10 ^ (k + 2 * (n + 1)) := by
  have h1 : (10 : Nat) ^ k ≤ 10 ^ (k + 2 * n) := Nat.pow_le_pow_right (by omega) (by omega)
  have h2 : (10 : Nat) ^ (k + 2 * (n + 1)) = 10 ^ (k + 2 * n) * 100 := by
    rw [show k + 2 * (n + 1) = k + 2 * n + 2 by omega, Nat.pow_add]
  rw [h2]
  omega
theorem sumF_lt {k : Nat} {g : Stp → Int} {l : List Stp} (h : ∀ s ∈ l, (g s).natAbs ≤ 10 ^ k + 10 ^ k) (n : Nat) : (sumF g (l.take n)).natAbs < 10 ^ (k + 2 * n) := by
  induction n with
  | zero => simp only [List.take_zero, sumF, List.map_nil, List.sum_nil, Int.natAbs_zero]; exact Nat.pow_pos (by omega)
  | succ n ih =>
    have hp := pow_step k n
    have hp0 : 0 < 10 ^ k := Nat.pow_pos (by omega)
    cases hx : l[n]? with
    | none =>
      rw [List.take_add_one, hx, Option.toList_none, List.append_nil]
      omega
    | some s =>
      rw [sumF_next hx]
      have := h s (List.mem_of_getElem? hx)
      omega
theorem sumF_len {k : Nat} {g : Stp → Int} {l : List Stp} (h : ∀ s ∈ l, (g s).natAbs ≤ 10 ^ k + 10 ^ k) (n : Nat) : (canon (sumF g (l.take n))).length ≤ k + 1 + 2 * n := by
  have := canon_le (sumF_lt h n)
  omega
theorem val_le {k : Nat} {a : Str} (h : a.length ≤ k) : (val a).natAbs ≤ 10 ^ k := Nat.le_of_lt (val_lt h)
def inF (id : Str) (s : Stp) : Int := if s.t = id then val s.k else 0
def ouF (id : Str) (s : Stp) : Int := if s.f = id then val s.k else 0
def thI (l : List Stp) (id : Str) : Str := if chkE l = 0 ∧ id ≠ [] then canon (sumF (inF id) l) else []
def thO (l : List Stp) (id : Str) : Str := if chkE l = 0 ∧ id ≠ [] then canon (sumF (ouF id) l) else []
theorem inF_le {k : Nat} {id : Str} {l : List Stp} (h : ∀ s ∈ l, bdS k s) : ∀ s ∈ l, (inF id s).natAbs ≤ 10 ^ k + 10 ^ k := fun s hs => by
  have := val_le (h s hs).2.2.2.2.2
  unfold inF
  split
  · omega
  · simp
theorem ouF_le {k : Nat} {id : Str} {l : List Stp} (h : ∀ s ∈ l, bdS k s) : ∀ s ∈ l, (ouF id s).natAbs ≤ 10 ^ k + 10 ^ k := fun s hs => by
  have := val_le (h s hs).2.2.2.2.2
  unfold ouF
  split
  · omega
  · simp
theorem firstE_all {l : List Stp} (h : firstE l = 0) : ∀ s ∈ l, stE s = 0 := by
  induction l with
  | nil => intro s hs; cases hs
  | cons x l ih =>
    intro s hs
    rw [firstE] at h
    by_cases e : stE x = 0
    · rw [if_pos e] at h
      rcases List.mem_cons.1 hs with rfl | hs
      · exact e
      · exact ih h s hs
    · rw [if_neg e] at h; exact absurd h e
theorem chk_first {l : List Stp} (h : chkE l = 0) : firstE l = 0 ∧ l.length ≤ 4000 ∧ cycB (parG l) = false := by
  unfold chkE at h
  by_cases h1 : 4000 < l.length
  · rw [if_pos h1] at h; cases h
  · rw [if_neg h1] at h
    by_cases h2 : firstE l = 0
    · rw [if_pos h2] at h
      cases hc : cycB (parG l) with
      | true => rw [hc] at h; cases h
      | false => exact ⟨h2, by omega, rfl⟩
    · rw [if_neg h2] at h; exact absurd h h2
structure StOk (s : Stp) : Prop where
  c : s.c ≠ []
  ft : s.f ≠ s.t
  q : isC s.q = true ∧ 0 ≤ val s.q
  m : isC s.m = true ∧ 0 ≤ val s.m
  k : isC s.k = true ∧ 0 ≤ val s.k
  fq : s.f = [] → s.q = []
  tm : s.t = [] → s.m = []
theorem stE_ok {s : Stp} (h : stE s = 0) : StOk s := by
  unfold stE at h
  split at h
  · cases h
  · rename_i h1
    split at h
    · cases h
    · rename_i h2
      unfold nmE at h
      split at h
      · rename_i h3
        split at h
        · cases h
        · rename_i h4
          simp only [numB, Bool.and_eq_true, decide_eq_true_eq] at h3
          refine ⟨fun e => h1 (.inl e), h2, h3.1, h3.2.1, h3.2.2, fun e => Decidable.byContradiction fun e2 => h4 (.inl ⟨e, e2⟩), fun e => Decidable.byContradiction fun e2 => h4 (.inr ⟨e, e2⟩)⟩
      · cases h
theorem chk_ok {l : List Stp} (h : chkE l = 0) : ∀ s ∈ l, StOk s := fun s hs => stE_ok (firstE_all (chk_first h).1 s hs)
def neF (id : Str) (s : Stp) : Int := (if s.t = id then val s.m else 0) - (if s.f = id then val s.q else 0)
def net (l : List Stp) (id : Str) : Int := sumF (neF id) l
theorem neF_le {k : Nat} {id : Str} {l : List Stp} (h : ∀ s ∈ l, bdS k s) : ∀ s ∈ l, (neF id s).natAbs ≤ 10 ^ k + 10 ^ k := fun s hs => by
  have h1 := val_le (h s hs).2.2.2.2.1
  have h2 := val_le (h s hs).2.2.2.1
  unfold neF
  split <;> split <;> omega
def lefP (l : List Stp) : List (Str × Str) := ((uniS (lotL l)).filter fun x => decide (net l x ≠ 0)).map fun x => (x, canon (net l x))
def shoB (l : List Stp) : Bool := (uniS (lotL l)).any fun x => decide (net l x < 0)
def lefE (l : List Stp) : Int := if chkE l = 0 then (if shoB l then 15 else 0) else 1
def lefR (l : List Stp) : List (Str × Str) := if lefE l = 0 then lefP l else []
def dPk (p : Str × Str) : List DV := [dS p.1, dS p.2]
end Go.Proofs.YtkfoogabijnamaaGreatDoor
namespace Go.Proofs.YtkfoogabijnamaaGreatDoor
open Go.RowKit Px

def lefT (M : List (Str × Str)) (s : Stp) : List (Str × Str) := if s.t = [] then M else setS s.t (canon (val (getS s.t M) + val s.m)) M
def lefS (M : List (Str × Str)) (s : Stp) : List (Str × Str) := if s.f = [] then lefT M s else setS s.f (canon (val (getS s.f (lefT M s)) - val s.q)) (lefT M s)
def lefM (l : List Stp) : List (Str × Str) := l.foldl lefS []
theorem lefM_next {l : List Stp} {n : Nat} {s : Stp} (h : l[n]? = some s) : lefM (l.take (n + 1)) = lefS (lefM (l.take n)) s := fold_next lefS [] h
theorem setS_keys (k v : Str) (M : List (Str × Str)) : (setS k v M).map (·.1) = if k ∈ M.map (·.1) then M.map (·.1) else M.map (·.1) ++ [k] := by
  induction M with
  | nil => simp [setS]
  | cons q M ih =>
    obtain ⟨a, b⟩ := q
    simp only [setS]
    by_cases e : a = k
    · subst e; simp
    · rw [if_neg e, List.map_cons, ih, List.map_cons]
      by_cases h : k ∈ M.map (·.1)
      · rw [if_pos h, if_pos (.tail _ h)]
      · rw [if_neg h, if_neg (fun h2 => by
          rcases List.mem_cons.1 h2 with h2 | h2
          · exact e h2.symm
          · exact h h2)]
        rfl
theorem setS_mem {k v x : Str} {M : List (Str × Str)} : x ∈ (setS k v M).map (·.1) ↔ x ∈ M.map (·.1) ∨ x = k := by
  rw [setS_keys]
  split
  · rename_i h
    exact ⟨.inl, fun h2 => h2.elim id fun e => e ▸ h⟩
  · rw [List.mem_append, List.mem_singleton]
theorem setS_nodup {k v : Str} {M : List (Str × Str)} (h : (M.map (·.1)).Nodup) : ((setS k v M).map (·.1)).Nodup := by
  rw [setS_keys]
  split
  · exact h
  · rename_i hk
    rw [List.nodup_append]
    exact ⟨h, by simp, fun a ha b hb e => hk (by rw [← List.mem_singleton.1 hb, ← e]; exact ha)⟩
structure LefI (l : List Stp) (M : List (Str × Str)) : Prop where
  val : ∀ x, x ≠ [] → getS x M = canon (net l x)
  nd : (M.map (·.1)).Nodup
  mem : ∀ x, x ∈ M.map (·.1) ↔ x ∈ lotL l
theorem net_next (l : List Stp) (s : Stp) (x : Str) : net (l ++ [s]) x = net l x + neF x s := by
  unfold net sumF
  rw [List.map_append, List.sum_append]
  simp
theorem lotL_snoc (l : List Stp) (s : Stp) : lotL (l ++ [s]) = lotL l ++ lotS s := by
  unfold lotL
  rw [List.flatMap_append]
  simp
theorem lefI (l : List Stp) : LefI l (lefM l) := by
  induction l using list_snoc with
  | h0 => exact ⟨fun x _ => by show ([] : Str) = canon (net [] x); rw [show net [] x = 0 from rfl, canon_zero], List.nodup_nil, fun x => Iff.rfl⟩
  | h1 l s ih =>
    have hM : lefM (l ++ [s]) = lefS (lefM l) s := by unfold lefM; rw [List.foldl_append]; rfl
    rw [hM]
    generalize lefM l = M at ih
    have t1 : ∀ x, x ≠ [] → getS x (lefT M s) = canon (net l x + if s.t = x then Go.Proofs.YtkfoogabijnamaaGreatDoor.val s.m else 0) := fun x hx => by
      unfold lefT
      by_cases e : s.t = []
      · rw [if_pos e, if_neg (fun e2 => hx (by rw [← e2, e])), Int.add_zero]
        exact ih.val x hx
      · rw [if_neg e, getS_set]
        by_cases e2 : x = s.t
        · rw [if_pos e2, if_pos e2.symm, e2, ih.val _ e, val_canon]
        · rw [if_neg e2, if_neg (Ne.symm e2), Int.add_zero]
          exact ih.val x hx
    have t2 : ∀ x, x ∈ (lefT M s).map (·.1) ↔ x ∈ lotL l ∨ (s.t ≠ [] ∧ x = s.t) := fun x => by
      unfold lefT
      by_cases e : s.t = []
      · rw [if_pos e, ih.mem]
        exact ⟨.inl, fun h => h.elim id fun h => absurd e h.1⟩
      · rw [if_neg e, setS_mem, ih.mem]
        exact ⟨fun h => h.imp id fun h => ⟨e, h⟩, fun h => h.imp id fun h => h.2⟩
    have t3 : ((lefT M s).map (·.1)).Nodup := by
      unfold lefT
      split
      · exact ih.nd
      · exact setS_nodup ih.nd
    refine ⟨fun x hx => ?_, ?_, fun x => ?_⟩
    · rw [net_next]
      unfold lefS neF
      by_cases e : s.f = []
      · rw [if_pos e, t1 x hx, if_neg (c := s.f = x) (fun e2 => hx (by rw [← e2, e])), Int.sub_zero]
      · rw [if_neg e, getS_set]
        by_cases e2 : x = s.f
        · rw [if_pos e2, if_pos (c := s.f = x) e2.symm, t1 s.f e, val_canon, e2]
          congr 1
          omega
        · rw [if_neg e2, if_neg (c := s.f = x) (Ne.symm e2), Int.sub_zero, t1 x hx]
    · unfold lefS
      split
      · exact t3
      · exact setS_nodup t3
    · rw [lotL_snoc, List.mem_append]
      unfold lefS lotS
      by_cases e : s.f = []
      · rw [if_pos e, if_pos e, t2]
        by_cases e2 : s.t = []
        · simp [e2]
        · simp [e2]
      · rw [if_neg e, if_neg e, setS_mem, t2]
        by_cases e2 : s.t = []
        · simp [e2]
        · simp [e2, or_comm, or_left_comm, or_assoc]
def lefK (l : List Stp) (ks : List Str) : List (Str × Str) := (ks.filter fun x => decide (net l x ≠ 0)).map fun x => (x, canon (net l x))
theorem lefK_next {l : List Stp} {ks : List Str} {n : Nat} {x : Str} (h : ks[n]? = some x) : lefK l (ks.take (n + 1)) = if net l x ≠ 0 then lefK l (ks.take n) ++ [(x, canon (net l x))] else lefK l (ks.take n) := by
  unfold lefK
  rw [List.take_add_one, h, Option.toList, List.filter_append, List.map_append]
  have e : [x].filter (fun x => decide (net l x ≠ 0)) = if net l x ≠ 0 then [x] else [] := by
    rw [List.filter_cons]
    by_cases e : net l x ≠ 0
    · rw [if_pos e, if_pos (decide_eq_true e)]; rfl
    · rw [if_neg e, if_neg (by simpa using e)]; rfl
  rw [e]
  split
  · rfl
  · exact List.append_nil _
theorem lefK_len (l : List Stp) (ks : List Str) : (lefK l ks).length ≤ ks.length := by
  unfold lefK
  rw [List.length_map]
  exact List.length_filter_le _ _
end Go.Proofs.YtkfoogabijnamaaGreatDoor
namespace Go.Proofs.YtkfoogabijnamaaGreatDoor
open Go.RowKit Px

def bigS (s : Stp) : Bool := decide (60 < s.c.length) || decide (60 < s.f.length) || decide (60 < s.t.length) || decide (60 < s.q.length) || decide (60 < s.m.length) || decide (60 < s.k.length)
def bigL (l : List Stp) : Bool := l.any bigS || (decide (16 < l.length) && decide (l.length ≤ 4000)) || decide (4003 < l.length)
theorem bigS_small {s : Stp} (h : bigS s = false) : bdS 60 s := by
  simp only [bigS, Bool.or_eq_false_iff, decide_eq_false_iff_not] at h
  obtain ⟨⟨⟨⟨⟨h1, h2⟩, h3⟩, h4⟩, h5⟩, h6⟩ := h
  exact ⟨by omega, by omega, by omega, by omega, by omega, by omega⟩
theorem bdS_mono {A B : Nat} (h : A ≤ B) {s : Stp} (hs : bdS A s) : bdS B s := by
  obtain ⟨h1, h2, h3, h4, h5, h6⟩ := hs
  exact ⟨by omega, by omega, by omega, by omega, by omega, by omega⟩
theorem bigL_small {l : List Stp} (h : bigL l = false) : (l.length ≤ 16 ∨ 4000 < l.length) ∧ l.length ≤ 4003 ∧ ∀ s ∈ l, bdS 60 s := by
  simp only [bigL, Bool.or_eq_false_iff, Bool.and_eq_false_iff, decide_eq_false_iff_not, List.any_eq_false, Bool.not_eq_true] at h
  obtain ⟨⟨h1, h2⟩, h3⟩ := h
  refine ⟨?_, by omega, fun s hs => bigS_small (h1 s hs)⟩
  rcases h2 with h2 | h2
  · exact .inl (by omega)
  · exact .inr (by omega)
theorem bigL_bd {l : List Stp} (h : bigL l = false) : bdL 1000 l := by
  obtain ⟨-, h2, h3⟩ := bigL_small h
  exact ⟨by omega, fun s hs => bdS_mono (by omega) (h3 s hs)⟩

/-! heirs -/
/-! origins -/
def Src (l : List Stp) (id x : Str) : Prop := x = id ∨ Rch (parG l) id x
def buyB (x : Str) (s : Stp) : Bool := s.f == [] && s.t == x
def noB (R : List Str) (x : Str) : Bool := !R.contains x
/-! more steps, other orders -/
def turL (l : List Stp) (k : Nat) : List Stp := l.reverse.drop k ++ l.reverse.take k
end Go.Proofs.YtkfoogabijnamaaGreatDoor
namespace Go.Proofs.YtkfoogabijnamaaGreatDoor
open Go.RowKit Px

def lotN (l : List Stp) : List Str := (lotL l).foldl addB []
/-! costs -/
def cosF (l : List Stp) (x : Str) : Int := sumF (inF x) l - sumF (ouF x) l
def cosA (l : List Stp) (L : List Str) : Int := (L.map (cosF l)).sum
def cosB (s : Stp) : Int := (if s.t = [] then val s.k else 0) - (if s.f = [] then val s.k else 0)
/-! what is left -/
def lefQ (L : List (Str × Str)) : Int := (L.map fun p => val p.2).sum
def qmF (s : Stp) : Int := val s.q - val s.m
def maF (id : Str) (s : Stp) : Int := if s.t = id then val s.m else 0
def frB (x : Str) (s : Stp) : Bool := s.f == x
theorem lefP_len (l : List Stp) : (lefP l).length ≤ 2 * l.length := by
  unfold lefP
  rw [List.length_map]
  exact Nat.le_trans (List.length_filter_le _ _) (lotU_len l)
end Go.Proofs.YtkfoogabijnamaaGreatDoor
namespace Go.Proofs.YtkfoogabijnamaaGreatDoor
open Go.RowKit Px

theorem hMl : MapOf Tryz.prog 62 (.val (.slice none 0 0)) := ⟨⟨9, 25, by kernel_rfl, by kernel_rfl, fun w => ⟨.slice none 0 0, by kernel_rfl, fun F w' => DRep.val _ rfl⟩⟩⟩
theorem hMl2 : MapOf Tryz.prog 62 (.sl 1 []) := ⟨⟨9, 25, by kernel_rfl, by kernel_rfl, fun w => ⟨.slice none 0 0, by kernel_rfl, fun F w' => DRep.nil⟩⟩⟩
def dLk (o : List (Str × List Str)) : DV := .mp (kmap (gD o))
set_option maxRecDepth 20000 in
set_option maxHeartbeats 4000000 in
theorem wPars (l : List Stp) (hl : l.length ≤ 100000) : PCalls Tryz.prog 48 [dSl l] (.d (dLk (parG l))) := by
  refine pcalls_of_px 9 Tryz.func48 rfl Tryz.ntmps48 Tryz.results48 (by simp) fun p d0 hex => ?_
  refine px_seq ?_; refine px_rs ?_; refine pl1 ?_; refine yAd rfl (yQ ?_); refine pl_nil ?_; refine px_seq ?_; refine px_rs ?_; refine pl1 ?_; refine yKm rfl (yQ ?_); refine pl1 ?_; refine yAm rfl (yQ ?_)
  refine pl_nil ?_; refine px_seq ?_; refine px_seq ?_; refine px_rs ?_; refine pl1 ?_; refine yMd rfl (yQ ?_); refine pl1 ?_; refine yN rfl (yQ ?_); refine pl1 ?_; refine yMd rfl (yQ ?_); refine pl_nil ?_
  refine px_block ?_
  refine px_lp (fun k : Nat × List (Str × (Value × List Str)) => ⟨34, [(7, .d (dSl l)), (8, .d (dI l.length)), (9, .d (dI k.1)), (3, .mb 500006)], [(500006, [.mc (kmap (gV k.2))])], []⟩) (fun k => ⟨gR k.2, none, none, []⟩) (fun k => k.1 ≤ l.length ∧ gP k.2 = parG (l.take k.1)) (fun k => l.length - k.1) (0, []) ⟨Nat.zero_le _, rfl⟩ rfl ⟨rfl, ⟨.refl _, .of_eq (congrArg (fun n : Nat => SV.d (dI n)) (by simp)), .refl _, .refl _, trivial⟩, ⟨⟨_, rfl, lesC_refl _⟩, trivial⟩, trivial, rfl⟩ ?_
  rintro ⟨n, L⟩ ⟨hn, hL⟩
  rcases Nat.lt_or_ge n l.length with h | h
  · have u1 : decide ((n : Int) < (l.length : Int)) = true := decide_eq_true (by omega)
    obtain ⟨s, hx⟩ : ∃ a, l[n]? = some a := ⟨_, List.getElem?_eq_getElem h⟩
    have ex := ix dSp l n n s rfl hx
    have hw := wrapI ((n : Int) + 1) (by omega)
    have hnx := parG_next hx
    by_cases hf : s.f = []
    · have t1 : (!s.f == []) = false := by simp [hf]
      have hnx : parG (l.take (n + 1)) = parG (l.take n) := by rw [hnx, parS, if_neg (by simp [hf])]
      refine px_seq ?_; refine px_rs ?_; refine pl1 ?_; refine yB rfl rfl rfl rfl (yQ ?_); refine pl_nil ?_; refine px_seq ?_; rw [u1]; refine px_ct rfl ?_; refine px_skip ?_; refine px_seq ?_; refine px_block ?_
      refine px_seq ?_; refine px_rs ?_; refine pl1 ?_; refine yW ex (by omega) rfl rfl ?_; refine yQ ?_; refine pl1 ?_; refine yLs (ys := [_, _, _, _, _, _]) rfl rfl rfl (yQ ?_); refine pl1 ?_
      refine yZ (cs := [_, _, _, _, _, _]) rfl rfl (yQ ?_); refine pl1 ?_; refine yS (cs' := [_, _, _, _, _, _]) rfl rfl rfl rfl rfl (yQ ?_); refine pl_nil ?_; refine px_tell (HX.stb _) (frb_tell 5 5 rfl rfl rfl) ?_
      refine px_seq ?_; refine px_rs ?_; refine pl1 ?_; refine yFr rfl rfl (yQ ?_); refine pl1 ?_; refine yLr rfl rfl (yQ ?_); refine pl1 ?_; refine yBsn rfl rfl (yQ ?_); refine pl1 ?_; refine yMd rfl ?_
      refine yQ ?_; refine pl1 ?_; rw [t1]; refine yO rfl (yQ ?_); refine pl1 ?_; refine yO rfl (yQ ?_); refine pl1 ?_; refine yO rfl (yQ ?_); refine pl1 ?_; refine yVd rfl rfl (yQ ?_); refine pl_nil ?_
      refine px_cf rfl ?_; refine px_skip ?_; refine px_rs ?_; refine pl1 ?_; refine yB rfl rfl rfl rfl (yQ ?_); refine pl1 ?_; refine yMd rfl (yQ ?_); refine pl_nil ?_; refine qx_then ?_
      exact ⟨(n + 1, L), ⟨h, hL.trans hnx.symm⟩, by show l.length - (n + 1) < l.length - n; omega, ⟨rfl, ⟨.refl _, .refl _, .of_eq (congrArg (fun n => SV.d (dI n)) hw), .refl _, trivial⟩, ⟨⟨_, rfl, lesC_refl _⟩, trivial⟩, trivial, rfl⟩, rfl⟩
    have t1 : (!s.f == []) = true := by simp [hf]
    by_cases ht : s.t = []
    · have t2 : (!s.t == []) = false := by simp [ht]
      have hnx : parG (l.take (n + 1)) = parG (l.take n) := by rw [hnx, parS, if_neg (by simp [ht])]
      refine px_seq ?_; refine px_rs ?_; refine pl1 ?_; refine yB rfl rfl rfl rfl (yQ ?_); refine pl_nil ?_; refine px_seq ?_; rw [u1]; refine px_ct rfl ?_; refine px_skip ?_; refine px_seq ?_; refine px_block ?_
      refine px_seq ?_; refine px_rs ?_; refine pl1 ?_; refine yW ex (by omega) rfl rfl ?_; refine yQ ?_; refine pl1 ?_; refine yLs (ys := [_, _, _, _, _, _]) rfl rfl rfl (yQ ?_); refine pl1 ?_
      refine yZ (cs := [_, _, _, _, _, _]) rfl rfl (yQ ?_); refine pl1 ?_; refine yS (cs' := [_, _, _, _, _, _]) rfl rfl rfl rfl rfl (yQ ?_); refine pl_nil ?_; refine px_tell (HX.stb _) (frb_tell 5 5 rfl rfl rfl) ?_
      refine px_seq ?_; refine px_rs ?_; refine pl1 ?_; refine yFr rfl rfl (yQ ?_); refine pl1 ?_; refine yLr rfl rfl (yQ ?_); refine pl1 ?_; refine yBsn rfl rfl (yQ ?_); refine pl1 ?_; refine yMd rfl ?_
      refine yQ ?_; refine pl1 ?_; rw [t1]; refine yFr rfl rfl (yQ ?_); refine pl1 ?_; refine yLr rfl rfl (yQ ?_); refine pl1 ?_; refine yBsn rfl rfl (yQ ?_); refine pl1 ?_; refine yPd rfl rfl (yQ ?_)
      refine pl_nil ?_; refine qx_then ?_; rw [t2]; refine px_cf rfl ?_; refine px_skip ?_; refine px_rs ?_; refine pl1 ?_; refine yB rfl rfl rfl rfl (yQ ?_); refine pl1 ?_; refine yMd rfl (yQ ?_); refine pl_nil ?_
      refine qx_then ?_
      exact ⟨(n + 1, L), ⟨h, hL.trans hnx.symm⟩, by show l.length - (n + 1) < l.length - n; omega, ⟨rfl, ⟨.refl _, .refl _, .of_eq (congrArg (fun n => SV.d (dI n)) hw), .refl _, trivial⟩, ⟨⟨_, rfl, lesC_refl _⟩, trivial⟩, trivial, rfl⟩, rfl⟩
    have t2 : (!s.t == []) = true := by simp [ht]
    rw [parS, if_pos ⟨hf, ht⟩] at hnx
    have hlen := parG_len (l := l) (n := n)
    rw [← show gP L = parG (l.take n) from hL] at hlen hnx
    rcases g_find s.t s.f L with ⟨j, v, xs, h1, h2, h3, h4⟩ | ⟨h3, h4⟩
    · have hv := h3 (.val (.slice none 0 0))
      have hxl : xs.length ≤ n := hlen (s.t, xs) (List.mem_iff_getElem?.2 ⟨j, by simp only [gP, List.getElem?_map, h1]; rfl⟩)
      refine px_seq ?_; refine px_rs ?_; refine pl1 ?_; refine yB rfl rfl rfl rfl (yQ ?_); refine pl_nil ?_; refine px_seq ?_; rw [u1]; refine px_ct rfl ?_; refine px_skip ?_; refine px_seq ?_; refine px_block ?_
      refine px_seq ?_; refine px_rs ?_; refine pl1 ?_; refine yW ex (by omega) rfl rfl ?_; refine yQ ?_; refine pl1 ?_; refine yLs (ys := [_, _, _, _, _, _]) rfl rfl rfl (yQ ?_); refine pl1 ?_
      refine yZ (cs := [_, _, _, _, _, _]) rfl rfl (yQ ?_); refine pl1 ?_; refine yS (cs' := [_, _, _, _, _, _]) rfl rfl rfl rfl rfl (yQ ?_); refine pl_nil ?_; refine px_tell (HX.stb _) (frb_tell 5 5 rfl rfl rfl) ?_
      refine px_seq ?_; refine px_rs ?_; refine pl1 ?_; refine yFr rfl rfl (yQ ?_); refine pl1 ?_; refine yLr rfl rfl (yQ ?_); refine pl1 ?_; refine yBsn rfl rfl (yQ ?_); refine pl1 ?_; refine yMd rfl ?_
      refine yQ ?_; refine pl1 ?_; rw [t1]; refine yFr rfl rfl (yQ ?_); refine pl1 ?_; refine yLr rfl rfl (yQ ?_); refine pl1 ?_; refine yBsn rfl rfl (yQ ?_); refine pl1 ?_; refine yPd rfl rfl (yQ ?_)
      refine pl_nil ?_; refine qx_then ?_; rw [t2]; refine px_ct rfl ?_
      refine px_anyh (us := [vS s.c, vS s.f, vS s.t, vS s.q, vS s.m, vS s.k]) 5 rfl Tryz.mixed fun b off => ?_
      refine pah_take 0 rfl rfl rfl (by kernel_rfl) (held_move rfl) ?_
      refine pah_take 1 rfl rfl rfl (by kernel_rfl) (held_fa rfl) ?_
      refine pah_take 2 rfl rfl rfl (by kernel_rfl) (held_ld (j := 2) rfl rfl rfl rfl) ?_
      refine pah_take 3 rfl rfl rfl (by kernel_rfl) (held_move rfl) ?_
      refine pah_take 4 rfl rfl rfl (by kernel_rfl) (held_fa rfl) ?_
      refine pah_take 5 rfl rfl rfl (by kernel_rfl) (held_ld (j := 2) rfl rfl rfl rfl) ?_
      refine pah_take 7 rfl rfl rfl (by kernel_rfl) (held_fa rfl) ?_
      refine pah_take 8 rfl rfl rfl (by kernel_rfl) (held_ld (j := 1) rfl rfl rfl rfl) ?_
      refine pah_step [6, 9] rfl rfl ⟨⟨_, rfl, ?_⟩, ⟨_, rfl, ?_⟩, trivial⟩
      · refine pl1 ?_; refine yKl (hM := hMl) rfl rfl rfl hv (yQ ?_); refine pl_nil ?_; refine pah_step [_] rfl rfl ⟨⟨_, rfl, ?_⟩, trivial⟩; refine pl1 ?_; refine yR (es := [[_]]) rfl rfl rfl rfl rfl ?_; refine yQ ?_
        refine pl_nil ?_; refine pah_step [_] rfl rfl ⟨⟨_, rfl, ?_⟩, trivial⟩; refine pl_cons (pl_ra h2 rfl rfl (by omega) (by omega) fun v' => ?_); refine pl_nil ?_; refine pah_step [_] rfl rfl ⟨⟨_, rfl, ?_⟩, trivial⟩; refine pl1 ?_
        refine yKu (hM := hMl) rfl rfl rfl rfl (h4 v').1 (yQ ?_); refine pl_nil ?_; refine pah_fin rfl ?_; refine px_rs ?_; refine pl1 ?_; refine yB rfl rfl rfl rfl (yQ ?_); refine pl1 ?_; refine yMd rfl (yQ ?_)
        refine pl_nil ?_; refine qx_then ?_
        exact ⟨(n + 1, L.set j (s.t, (v', xs ++ [s.f]))), ⟨h, (h4 v').2.2.trans hnx.symm⟩, by show l.length - (n + 1) < l.length - n; omega, ⟨rfl, ⟨.refl _, .refl _, .of_eq (congrArg (fun n => SV.d (dI n)) hw), .refl _, trivial⟩, ⟨⟨_, rfl, lesC_refl _⟩, trivial⟩, trivial, rfl⟩, congrArg (fun r => (⟨r, none, none, []⟩ : HI)) (h4 v').2.1⟩
      · refine pl1 ?_; refine yR (es := [[_]]) rfl rfl rfl rfl rfl ?_; refine yQ ?_; refine pl_nil ?_; refine pah_step [_] rfl rfl ⟨⟨_, rfl, ?_⟩, trivial⟩; refine pl1 ?_; refine yKl (hM := hMl) rfl rfl rfl hv (yQ ?_)
        refine pl_nil ?_; refine pah_step [_] rfl rfl ⟨⟨_, rfl, ?_⟩, trivial⟩; refine pl_cons (pl_ra h2 rfl rfl (by omega) (by omega) fun v' => ?_); refine pl_nil ?_; refine pah_step [_] rfl rfl ⟨⟨_, rfl, ?_⟩, trivial⟩; refine pl1 ?_
        refine yKu (hM := hMl) rfl rfl rfl rfl (h4 v').1 (yQ ?_); refine pl_nil ?_; refine pah_fin rfl ?_; refine px_rs ?_; refine pl1 ?_; refine yB rfl rfl rfl rfl (yQ ?_); refine pl1 ?_; refine yMd rfl (yQ ?_)
        refine pl_nil ?_; refine qx_then ?_
        exact ⟨(n + 1, L.set j (s.t, (v', xs ++ [s.f]))), ⟨h, (h4 v').2.2.trans hnx.symm⟩, by show l.length - (n + 1) < l.length - n; omega, ⟨rfl, ⟨.refl _, .refl _, .of_eq (congrArg (fun n => SV.d (dI n)) hw), .refl _, trivial⟩, ⟨⟨_, rfl, lesC_refl _⟩, trivial⟩, trivial, rfl⟩, congrArg (fun r => (⟨r, none, none, []⟩ : HI)) (h4 v').2.1⟩
    · have hv := h3 (.val (.slice none 0 0))
      refine px_seq ?_; refine px_rs ?_; refine pl1 ?_; refine yB rfl rfl rfl rfl (yQ ?_); refine pl_nil ?_; refine px_seq ?_; rw [u1]; refine px_ct rfl ?_; refine px_skip ?_; refine px_seq ?_; refine px_block ?_
      refine px_seq ?_; refine px_rs ?_; refine pl1 ?_; refine yW ex (by omega) rfl rfl ?_; refine yQ ?_; refine pl1 ?_; refine yLs (ys := [_, _, _, _, _, _]) rfl rfl rfl (yQ ?_); refine pl1 ?_
      refine yZ (cs := [_, _, _, _, _, _]) rfl rfl (yQ ?_); refine pl1 ?_; refine yS (cs' := [_, _, _, _, _, _]) rfl rfl rfl rfl rfl (yQ ?_); refine pl_nil ?_; refine px_tell (HX.stb _) (frb_tell 5 5 rfl rfl rfl) ?_
      refine px_seq ?_; refine px_rs ?_; refine pl1 ?_; refine yFr rfl rfl (yQ ?_); refine pl1 ?_; refine yLr rfl rfl (yQ ?_); refine pl1 ?_; refine yBsn rfl rfl (yQ ?_); refine pl1 ?_; refine yMd rfl ?_
      refine yQ ?_; refine pl1 ?_; rw [t1]; refine yFr rfl rfl (yQ ?_); refine pl1 ?_; refine yLr rfl rfl (yQ ?_); refine pl1 ?_; refine yBsn rfl rfl (yQ ?_); refine pl1 ?_; refine yPd rfl rfl (yQ ?_)
      refine pl_nil ?_; refine qx_then ?_; rw [t2]; refine px_ct rfl ?_
      refine px_anyh (us := [vS s.c, vS s.f, vS s.t, vS s.q, vS s.m, vS s.k]) 5 rfl Tryz.mixed fun b off => ?_
      refine pah_take 0 rfl rfl rfl (by kernel_rfl) (held_move rfl) ?_
      refine pah_take 1 rfl rfl rfl (by kernel_rfl) (held_fa rfl) ?_
      refine pah_take 2 rfl rfl rfl (by kernel_rfl) (held_ld (j := 2) rfl rfl rfl rfl) ?_
      refine pah_take 3 rfl rfl rfl (by kernel_rfl) (held_move rfl) ?_
      refine pah_take 4 rfl rfl rfl (by kernel_rfl) (held_fa rfl) ?_
      refine pah_take 5 rfl rfl rfl (by kernel_rfl) (held_ld (j := 2) rfl rfl rfl rfl) ?_
      refine pah_take 7 rfl rfl rfl (by kernel_rfl) (held_fa rfl) ?_
      refine pah_take 8 rfl rfl rfl (by kernel_rfl) (held_ld (j := 1) rfl rfl rfl rfl) ?_
      refine pah_step [6, 9] rfl rfl ⟨⟨_, rfl, ?_⟩, ⟨_, rfl, ?_⟩, trivial⟩
      · refine pl1 ?_; refine yKl (hM := hMl) rfl rfl rfl hv (yQ ?_); refine pl_nil ?_; refine pah_step [_] rfl rfl ⟨⟨_, rfl, ?_⟩, trivial⟩; refine pl1 ?_; refine yR (es := [[_]]) rfl rfl rfl rfl rfl ?_; refine yQ ?_
        refine pl_nil ?_; refine pah_step [_] rfl rfl ⟨⟨_, rfl, ?_⟩, trivial⟩; refine pl_cons (pl_rn rfl rfl (by omega) fun v' => ?_); refine pl_nil ?_; refine pah_step [_] rfl rfl ⟨⟨_, rfl, ?_⟩, trivial⟩; refine pl1 ?_
        refine yKu (hM := hMl) rfl rfl rfl rfl (h4 v').1 (yQ ?_); refine pl_nil ?_; refine pah_fin rfl ?_; refine px_rs ?_; refine pl1 ?_; refine yB rfl rfl rfl rfl (yQ ?_); refine pl1 ?_; refine yMd rfl (yQ ?_)
        refine pl_nil ?_; refine qx_then ?_
        exact ⟨(n + 1, L ++ [(s.t, (v', [s.f]))]), ⟨h, (h4 v').2.2.trans hnx.symm⟩, by show l.length - (n + 1) < l.length - n; omega, ⟨rfl, ⟨.refl _, .refl _, .of_eq (congrArg (fun n => SV.d (dI n)) hw), .refl _, trivial⟩, ⟨⟨_, rfl, lesC_refl _⟩, trivial⟩, trivial, rfl⟩, congrArg (fun r => (⟨r, none, none, []⟩ : HI)) (h4 v').2.1⟩
      · refine pl1 ?_; refine yR (es := [[_]]) rfl rfl rfl rfl rfl ?_; refine yQ ?_; refine pl_nil ?_; refine pah_step [_] rfl rfl ⟨⟨_, rfl, ?_⟩, trivial⟩; refine pl1 ?_; refine yKl (hM := hMl) rfl rfl rfl hv (yQ ?_)
        refine pl_nil ?_; refine pah_step [_] rfl rfl ⟨⟨_, rfl, ?_⟩, trivial⟩; refine pl_cons (pl_rn rfl rfl (by omega) fun v' => ?_); refine pl_nil ?_; refine pah_step [_] rfl rfl ⟨⟨_, rfl, ?_⟩, trivial⟩; refine pl1 ?_
        refine yKu (hM := hMl) rfl rfl rfl rfl (h4 v').1 (yQ ?_); refine pl_nil ?_; refine pah_fin rfl ?_; refine px_rs ?_; refine pl1 ?_; refine yB rfl rfl rfl rfl (yQ ?_); refine pl1 ?_; refine yMd rfl (yQ ?_)
        refine pl_nil ?_; refine qx_then ?_
        exact ⟨(n + 1, L ++ [(s.t, (v', [s.f]))]), ⟨h, (h4 v').2.2.trans hnx.symm⟩, by show l.length - (n + 1) < l.length - n; omega, ⟨rfl, ⟨.refl _, .refl _, .of_eq (congrArg (fun n => SV.d (dI n)) hw), .refl _, trivial⟩, ⟨⟨_, rfl, lesC_refl _⟩, trivial⟩, trivial, rfl⟩, congrArg (fun r => (⟨r, none, none, []⟩ : HI)) (h4 v').2.1⟩
  · have u1 : decide ((n : Int) < (l.length : Int)) = false := decide_eq_false (by omega)
    rw [List.take_of_length_le h] at hL
    refine px_rc 500006 (l := L) rfl rfl ?_
    refine px_tell (HX.stb _) (frzm_tell 3 500006 rfl rfl) ?_
    refine px_seq ?_; refine px_rs ?_; refine pl1 ?_; refine yB rfl rfl rfl rfl (yQ ?_); refine pl_nil ?_; refine px_seq ?_; rw [u1]; refine px_cf rfl ?_; refine px_exit ?_; refine px_seq ?_; refine px_rs ?_; refine pl1 ?_
    refine yMd rfl (yQ ?_); refine pl1 ?_; refine yAd rfl (yQ ?_); refine pl_nil ?_; refine px_ret ?_
    refine qx_ret _ (.tmp rfl .nil) ?_ trivial
    rw [← show gP L = parG l from hL]
    rfl
end Go.Proofs.YtkfoogabijnamaaGreatDoor
namespace Go.Proofs.YtkfoogabijnamaaGreatDoor
open Go.RowKit Px

def Turned (m o : List (Str × List Str)) : Prop := ∃ ms : List (Str × List Str), ms.Perm m ∧ o = turnG ms
def dTn (m : List (Str × List Str)) : DV := .abs fun F w v => ∃ o, Turned m o ∧ DRep F w v (dLk o)
theorem DRep.tn {F : Nat → Nat → Prop} {w : World} {v : Value} {m o : List (Str × List Str)} (ho : Turned m o) (h : DRep F w v (dLk o)) : DRep F w v (dTn m) := by
  refine .abs (fun F F' w w' v ⟨o, h1, h2⟩ k => ⟨o, h1, h2.mono k⟩) ?_ ⟨o, ho, h⟩
  obtain ⟨b, es, c, rfl, -⟩ := DRep.mapd h
  rfl
theorem tn_tell {st : PS} (s : Nat) {m o : List (Str × List Str)} (hs : st.get s = .d (dLk o)) (ho : Turned m o) : ∀ B w0 g a w, Rep B w0 g st a w → ∃ g', Evo g w g' w ∧ Rep B w0 g' (st.put (some s) (.d (dTn m))) a w := fun B w0 g a w hr => by
  refine ⟨g, Evo.refl _ _, { hr with lim := hr.lim, size := hr.size, boxes := hr.boxes, maps := hr.maps, dom := hr.dom, tdom := hr.tdom, tlen := hr.tlen, glob := hr.glob, slots := fun j => ?_ }⟩
  rw [get_put]
  by_cases e : j = s
  · rw [if_pos e, e]
    have := hr.slots s
    rw [hs] at this
    exact DRep.tn ho this
  · rw [if_neg e]; exact hr.slots j
set_option maxRecDepth 20000 in
set_option maxHeartbeats 4000000 in
theorem wTurn (m : List (Str × List Str)) (hm : totG m ≤ 100000) : PCalls Tryz.prog 55 [dLk m] (.d (dTn m)) := by
  refine pcalls_of_px 9 Tryz.func55 rfl Tryz.ntmps55 Tryz.results55 (by simp) fun p d0 hex => ?_
  refine px_seq ?_; refine px_rs ?_; refine pl1 ?_; refine yAd rfl (yQ ?_); refine pl_nil ?_; refine px_seq ?_; refine px_rs ?_; refine pl1 ?_; refine yKm rfl (yQ ?_); refine pl1 ?_; refine yAm rfl (yQ ?_)
  refine pl_nil ?_; refine px_seq ?_; refine px_seq ?_; refine px_rs ?_; refine pl1 ?_; refine yMd rfl (yQ ?_); refine pl_cons (pl_rg (hM := hMl2) (l := gD m) rfl fun r => ?_); refine pl_nil ?_; refine px_block ?_
  refine px_lp (fun k : List (Str × List Str) × List (Str × (Value × List Str)) => ⟨32, [(10, .d (.val (.pointer (some ⟨r, 0, none⟩)))), (3, .mb 500008)], [(500008, [.mc (kmap (gV k.2))])], []⟩) (fun k => ⟨gR k.2, some (r, gD m, gD k.1), none, []⟩) (fun k => (∃ rm, (k.1 ++ rm).Perm m) ∧ gP k.2 = turnG k.1) (fun k => m.length - k.1.length) ([], []) ⟨⟨m, .refl _⟩, rfl⟩ rfl ⟨rfl, ⟨.refl _, .refl _, trivial⟩, ⟨⟨_, rfl, lesC_refl _⟩, trivial⟩, trivial, rfl⟩ ?_
  rintro ⟨dm, L⟩ ⟨⟨rm, hdm⟩, hL⟩
  have hle := hdm.length_eq
  rw [List.length_append] at hle
  have htot := totG_le hdm
  refine px_seq ?_; refine px_rs ?_; refine pl_cons (pl_nx (l := gD m) (dn := gD dm) rfl rfl (fun hp => ?_) (fun k v rl hp => ?_))
  · have hT : Turned m (gP L) := ⟨dm, gD_perm hp, hL⟩
    refine pl1 ?_; refine yX rfl rfl (yQ ?_); refine pl_nil ?_; refine px_rc 500008 (l := L) rfl rfl ?_; refine px_tell (HX.stb _) (frzm_tell 3 500008 rfl rfl) ?_; refine px_tell (HX.stb _) (tn_tell 3 rfl hT) ?_
    refine px_seq ?_; refine px_cf rfl ?_; refine px_exit ?_; refine px_seq ?_; refine px_rs ?_; refine pl1 ?_; refine yMd rfl (yQ ?_); refine pl1 ?_; refine yAd rfl (yQ ?_); refine pl_nil ?_; refine px_ret ?_
    exact qx_ret _ (.tmp rfl .nil) rfl trivial
  · obtain ⟨row, rm2, rfl, hp2, hp3⟩ := gD_step hp
    have hle2 := hp2.length_eq
    rw [List.length_append, List.length_cons] at hle2
    have htot2 := totG_le (m := m) (a := dm ++ [(k, row)]) (b := rm2) (by rw [List.append_assoc]; exact hp2)
    rw [totG_next] at htot2
    refine pl1 ?_; refine yX rfl rfl (yQ ?_); refine pl_nil ?_; refine px_seq ?_; refine px_ct rfl ?_; refine px_skip ?_; refine px_block ?_; refine px_seq ?_; refine px_rs ?_
    refine pl_cons (pl_en (l := gD m) (k := k) rfl List.getLast?_concat rfl ?_); refine pl1 ?_; refine yX rfl rfl (yQ ?_); refine pl1 ?_; refine yX rfl rfl (yQ ?_); refine pl1 ?_; refine yAd rfl (yQ ?_)
    refine pl1 ?_; refine yAd rfl (yQ ?_); refine pl_nil ?_; refine px_seq ?_; refine px_rs ?_; refine pl1 ?_; refine yMd rfl (yQ ?_); refine pl1 ?_; refine yN rfl (yQ ?_); refine pl1 ?_; refine yMd rfl ?_
    refine yQ ?_; refine pl_nil ?_; refine px_block ?_
    refine px_lp (fun q : Nat × List (Str × (Value × List Str)) => ⟨32, [(10, .d (.val (.pointer (some ⟨r, 0, none⟩)))), (3, .mb 500008), (4, .d (dS k)), (16, .d (.sl 1 (row.map fun s => [dS s]))), (17, .d (dI row.length)), (18, .d (dI q.1))], [(500008, [.mc (kmap (gV q.2))])], []⟩) (fun q => ⟨gR q.2, some (r, gD m, gD (dm ++ [(k, row)])), none, []⟩) (fun q => q.1 ≤ row.length ∧ gP q.2 = turnR k (turnG dm) (row.take q.1)) (fun q => row.length - q.1) (0, L) ⟨Nat.zero_le _, hL⟩ (congrArg (fun x => (⟨gR L, some (r, gD m, x), none, []⟩ : HI)) hp3) ⟨rfl, ⟨.refl _, .refl _, .refl _, .refl _, .of_eq (congrArg (fun n : Nat => SV.d (dI n)) (by simp)), .refl _, trivial⟩, ⟨⟨_, rfl, lesC_refl _⟩, trivial⟩, trivial, rfl⟩ ?_
    rintro ⟨n, L2⟩ ⟨hn, hL2⟩
    rcases Nat.lt_or_ge n row.length with h | h
    · have u1 : decide ((n : Int) < (row.length : Int)) = true := decide_eq_true (by omega)
      obtain ⟨s, hx⟩ : ∃ a, row[n]? = some a := ⟨_, List.getElem?_eq_getElem h⟩
      have ex := ix (fun s => [dS s]) row n n s rfl hx
      have hw := wrapI ((n : Int) + 1) (by omega)
      have hnx := turnR_next (k := k) (o := turnG dm) hx
      have hlen : ∀ q ∈ gP L2, q.2.length ≤ totG dm + n := fun q hq => by
        have := turnR_len (k := k) (turnG_len dm) (row.take n) q (by rw [← show gP L2 = _ from hL2]; exact hq)
        rw [List.length_take] at this
        omega
      rw [← show gP L2 = _ from hL2] at hnx
      rcases g_find s k L2 with ⟨j, v, xs, h1, h2, h3, h4⟩ | ⟨h3, h4⟩
      · have hv := h3 (.val (.slice none 0 0))
        have hxl : xs.length ≤ totG dm + n := hlen (s, xs) (List.mem_iff_getElem?.2 ⟨j, by simp only [gP, List.getElem?_map, h1]; rfl⟩)
        refine px_seq ?_; refine px_rs ?_; refine pl1 ?_; refine yB rfl rfl rfl rfl (yQ ?_); refine pl_nil ?_; refine px_seq ?_; rw [u1]; refine px_ct rfl ?_; refine px_skip ?_; refine px_seq ?_; refine px_block ?_
        refine px_seq ?_; refine px_rs ?_; refine pl1 ?_; refine yW ex (by omega) rfl rfl ?_; refine yQ ?_; refine pl1 ?_; refine yLr rfl rfl (yQ ?_); refine pl1 ?_; refine yAd rfl (yQ ?_); refine pl_nil ?_
        refine px_rs ?_; refine pl1 ?_; refine yMm rfl (yQ ?_); refine pl1 ?_; refine yMd rfl (yQ ?_); refine pl1 ?_; refine yMm rfl (yQ ?_); refine pl1 ?_; refine yMd rfl (yQ ?_); refine pl1 ?_
        refine yKl (hM := hMl) rfl rfl rfl hv (yQ ?_); refine pl1 ?_; refine yMd rfl (yQ ?_); refine pl1 ?_; refine yR (es := [[_]]) rfl rfl rfl rfl rfl ?_; refine yQ ?_
        refine pl_cons (pl_ra h2 rfl rfl (by omega) (by omega) fun v' => ?_); refine pl1 ?_; refine yKu (hM := hMl) rfl rfl rfl rfl (h4 v').1 (yQ ?_); refine pl_nil ?_; refine px_rs ?_; refine pl1 ?_; refine yB rfl rfl rfl rfl ?_
        refine yQ ?_; refine pl1 ?_; refine yMd rfl (yQ ?_); refine pl_nil ?_; refine qx_then ?_
        exact ⟨(n + 1, L2.set j (s, (v', xs ++ [k]))), ⟨h, (h4 v').2.2.trans hnx.symm⟩, by show row.length - (n + 1) < row.length - n; omega, ⟨rfl, ⟨.refl _, .refl _, .refl _, .refl _, .refl _, .of_eq (congrArg (fun n => SV.d (dI n)) hw), trivial⟩, ⟨⟨_, rfl, lesC_refl _⟩, trivial⟩, trivial, rfl⟩, congrArg (fun x => (⟨x, some (r, gD m, gD (dm ++ [(k, row)])), none, []⟩ : HI)) (h4 v').2.1⟩
      · have hv := h3 (.val (.slice none 0 0))
        refine px_seq ?_; refine px_rs ?_; refine pl1 ?_; refine yB rfl rfl rfl rfl (yQ ?_); refine pl_nil ?_; refine px_seq ?_; rw [u1]; refine px_ct rfl ?_; refine px_skip ?_; refine px_seq ?_; refine px_block ?_
        refine px_seq ?_; refine px_rs ?_; refine pl1 ?_; refine yW ex (by omega) rfl rfl ?_; refine yQ ?_; refine pl1 ?_; refine yLr rfl rfl (yQ ?_); refine pl1 ?_; refine yAd rfl (yQ ?_); refine pl_nil ?_
        refine px_rs ?_; refine pl1 ?_; refine yMm rfl (yQ ?_); refine pl1 ?_; refine yMd rfl (yQ ?_); refine pl1 ?_; refine yMm rfl (yQ ?_); refine pl1 ?_; refine yMd rfl (yQ ?_); refine pl1 ?_
        refine yKl (hM := hMl) rfl rfl rfl hv (yQ ?_); refine pl1 ?_; refine yMd rfl (yQ ?_); refine pl1 ?_; refine yR (es := [[_]]) rfl rfl rfl rfl rfl ?_; refine yQ ?_
        refine pl_cons (pl_rn rfl rfl (by omega) fun v' => ?_); refine pl1 ?_; refine yKu (hM := hMl) rfl rfl rfl rfl (h4 v').1 (yQ ?_); refine pl_nil ?_; refine px_rs ?_; refine pl1 ?_; refine yB rfl rfl rfl rfl (yQ ?_)
        refine pl1 ?_; refine yMd rfl (yQ ?_); refine pl_nil ?_; refine qx_then ?_
        exact ⟨(n + 1, L2 ++ [(s, (v', [k]))]), ⟨h, (h4 v').2.2.trans hnx.symm⟩, by show row.length - (n + 1) < row.length - n; omega, ⟨rfl, ⟨.refl _, .refl _, .refl _, .refl _, .refl _, .of_eq (congrArg (fun n => SV.d (dI n)) hw), trivial⟩, ⟨⟨_, rfl, lesC_refl _⟩, trivial⟩, trivial, rfl⟩, congrArg (fun x => (⟨x, some (r, gD m, gD (dm ++ [(k, row)])), none, []⟩ : HI)) (h4 v').2.1⟩
    · have u1 : decide ((n : Int) < (row.length : Int)) = false := decide_eq_false (by omega)
      rw [List.take_of_length_le h] at hL2
      refine px_seq ?_; refine px_rs ?_; refine pl1 ?_; refine yB rfl rfl rfl rfl (yQ ?_); refine pl_nil ?_; refine px_seq ?_; rw [u1]; refine px_cf rfl ?_; refine px_exit ?_; refine qx_then_exit ?_; refine qx_then_exit ?_
      refine qx_blk_same ?_; refine qx_blk ?_; refine qx_then ?_
      exact ⟨(dm ++ [(k, row)], L2), ⟨⟨rm2, by rw [List.append_assoc]; exact hp2⟩, hL2.trans (turnG_next dm k row).symm⟩, by show m.length - (dm ++ [(k, row)]).length < m.length - dm.length; rw [List.length_append, List.length_singleton]; omega, ⟨rfl, ⟨.refl _, .refl _, trivial⟩, ⟨⟨_, rfl, lesC_refl _⟩, trivial⟩, trivial, rfl⟩, rfl⟩
end Go.Proofs.YtkfoogabijnamaaGreatDoor
namespace Go.Proofs.YtkfoogabijnamaaGreatDoor
open Go.RowKit Px

instance hMb : MapOf Tryz.prog 60 (dB false) := ⟨⟨9, 4, by kernel_rfl, by kernel_rfl, fun w => ⟨.bool false, by kernel_rfl, fun F w' => DRep.val _ rfl⟩⟩⟩
def dSet (S : List Str) : DV := .mp (kmap (bS S))
set_option maxRecDepth 20000 in
set_option maxHeartbeats 4000000 in
theorem wVis (m : List (Str × List Str)) (hm : ∀ q ∈ m, q.2.length ≤ 100000) (b1 b2 b3 bo : Nat) : ∀ (n : Nat) (S : List Str) (id : Str), unm (allG m) S ≤ n →
    HC Tryz.prog 76 [(.pointer (some ⟨b1, 0, none⟩), .ref [dLk m]), (.pointer (some ⟨b2, 0, none⟩), .ref [.val (.map (some bo))]), (.pointer (some ⟨b3, 0, none⟩), .ref [.val (.func (.func 76) #[] [.pointer (some ⟨b1, 0, none⟩), .pointer (some ⟨b2, 0, none⟩), .pointer (some ⟨b3, 0, none⟩)].toArray)])]
      [dS id, .val (.pointer (some ⟨b1, 0, none⟩)), .val (.pointer (some ⟨b2, 0, none⟩)), .val (.pointer (some ⟨b3, 0, none⟩))] bo (bS S) (bS (vis m (n + 1) id S)) (.tup []) := by
  intro n
  induction n using Nat.strongRecOn with
  | ind n ih =>
  intro S id hu
  have hrow := gGet_len (k := id) hm
  have hg := mget_gD id m
  obtain ⟨row, hr⟩ : ∃ r, r = gGet id m := ⟨_, rfl⟩
  rw [← hr] at hrow hg
  have hin : ∀ x ∈ row, x ∈ allG m := fun x hx => gGet_mem (k := id) (by rw [← hr]; exact hx)
  rw [vis_succ, ← hr]
  obtain ⟨fs, hfs⟩ : ∃ fs : List (Value × DV), fs = [(.pointer (some ⟨b1, 0, none⟩), .ref [dLk m]), (.pointer (some ⟨b2, 0, none⟩), .ref [.val (.map (some bo))]), (.pointer (some ⟨b3, 0, none⟩), .ref [.val (.func (.func 76) #[] [.pointer (some ⟨b1, 0, none⟩), .pointer (some ⟨b2, 0, none⟩), .pointer (some ⟨b3, 0, none⟩)].toArray)])] := ⟨_, rfl⟩
  rw [← hfs] at ih ⊢
  have m1 : ((Value.pointer (some ⟨b1, 0, none⟩)), DV.ref [dLk m]) ∈ fs := by rw [hfs]; exact .head _
  have m2 : ((Value.pointer (some ⟨b2, 0, none⟩)), DV.ref [.val (.map (some bo))]) ∈ fs := by rw [hfs]; exact .tail _ (.head _)
  have m3 : ((Value.pointer (some ⟨b3, 0, none⟩)), DV.ref [.val (.func (.func 76) #[] [.pointer (some ⟨b1, 0, none⟩), .pointer (some ⟨b2, 0, none⟩), .pointer (some ⟨b3, 0, none⟩)].toArray)]) ∈ fs := by rw [hfs]; exact .tail _ (.tail _ (.head _))
  refine hc_of_px 0 Tryz.func76 rfl Tryz.ntmps76 Tryz.results76 (by simp) fun p d0 => ?_
  refine px_seq ?_; refine px_rs ?_; refine pl_cons (pl_ld m1 rfl rfl ?_); refine pl1 ?_; refine yMd rfl (yQ ?_); refine pl1 ?_; refine yKe (hM := hMl2) (l := gD m) rfl rfl hg (yQ ?_); refine pl1 ?_; refine yN rfl ?_
  refine yQ ?_; refine pl1 ?_; refine yMd rfl (yQ ?_); refine pl_nil ?_; refine px_block ?_
  refine px_lp (fun i : Nat => ⟨25, [(1, .d (.val (.pointer (some ⟨b1, 0, none⟩)))), (2, .d (.val (.pointer (some ⟨b2, 0, none⟩)))), (3, .d (.val (.pointer (some ⟨b3, 0, none⟩)))), (9, .d (.sl 1 (row.map fun s => [dS s]))), (10, .d (dI row.length)), (11, .d (dI i))], [], []⟩) (fun i => ⟨[], none, some (bo, bS ((row.take i).foldl (visF m n) S)), fs⟩) (fun i => i ≤ row.length) (fun i => row.length - i) 0 (Nat.zero_le _) rfl ⟨rfl, ⟨.refl _, .refl _, .refl _, .refl _, .of_eq (congrArg (fun n : Nat => SV.d (dI n)) (by simp)), .refl _, trivial⟩, trivial, trivial, rfl⟩ ?_
  intro i hi
  rcases Nat.lt_or_ge i row.length with h | h
  · have u1 : decide ((i : Int) < (row.length : Int)) = true := decide_eq_true (by omega)
    obtain ⟨x, hx⟩ : ∃ a, row[i]? = some a := ⟨_, List.getElem?_eq_getElem h⟩
    have ex := ix (fun s => [dS s]) row i i x rfl hx
    have hw := wrapI ((i : Int) + 1) (by omega)
    have hnx := fold_next (visF m n) S hx
    obtain ⟨Si, hSi⟩ : ∃ Si, Si = (row.take i).foldl (visF m n) S := ⟨_, rfl⟩
    rw [← hSi] at hnx ⊢
    have hsub : ∀ y ∈ S, y ∈ Si := fun y hy => by rw [hSi]; exact visF_sub m n S _ y hy
    have hui := Nat.le_trans (unm_mono (U := allG m) hsub) hu
    have hgs := mget_bS x Si
    cases hc : Si.contains x with
    | true =>
      rw [hc] at hgs
      have hnx : (row.take (i + 1)).foldl (visF m n) S = Si := by rw [hnx, visF, if_pos hc]
      refine px_seq ?_; refine px_rs ?_; refine pl1 ?_; refine yB rfl rfl rfl rfl (yQ ?_); refine pl_nil ?_; refine px_seq ?_; rw [u1]; refine px_ct rfl ?_; refine px_skip ?_; refine px_seq ?_; refine px_block ?_
      refine px_seq ?_; refine px_rs ?_; refine pl1 ?_; refine yW ex (by omega) rfl rfl ?_; refine yQ ?_; refine pl1 ?_; refine yLr rfl rfl (yQ ?_); refine pl1 ?_; refine yAd rfl (yQ ?_); refine pl_nil ?_
      refine px_seq ?_; refine px_rs ?_; refine pl_cons (pl_ld m2 rfl rfl ?_); refine pl1 ?_; refine yMd rfl (yQ ?_); refine pl_cons (pl_hl rfl rfl rfl hgs ?_); refine pl1 ?_; refine yU rfl rfl rfl (yQ ?_)
      refine pl_nil ?_; refine px_cf rfl ?_; refine px_skip ?_; refine px_rs ?_; refine pl1 ?_; refine yB rfl rfl rfl rfl (yQ ?_); refine pl1 ?_; refine yMd rfl (yQ ?_); refine pl_nil ?_; refine qx_then ?_
      exact ⟨i + 1, h, by omega, ⟨rfl, ⟨.refl _, .refl _, .refl _, .refl _, .refl _, .of_eq (congrArg (fun n => SV.d (dI n)) hw), trivial⟩, trivial, trivial, rfl⟩, by rw [hnx]⟩
    | false =>
      rw [hc] at hgs
      have hlt := Nat.lt_of_lt_of_le (unm_add (hin x (List.mem_of_getElem? hx)) hc) hui
      obtain ⟨k, rfl⟩ : ∃ k, n = k + 1 := ⟨n - 1, by omega⟩
      have c1 := ih k (Nat.lt_succ_self k) (Si ++ [x]) x (by omega)
      have hms := mset_bS x Si
      rw [hc, if_neg (by simp)] at hms
      have hnx : (row.take (i + 1)).foldl (visF m (k + 1)) S = vis m (k + 1) x (Si ++ [x]) := by rw [hnx, visF, if_neg (by rw [hc]; simp)]
      refine px_seq ?_; refine px_rs ?_; refine pl1 ?_; refine yB rfl rfl rfl rfl (yQ ?_); refine pl_nil ?_; refine px_seq ?_; rw [u1]; refine px_ct rfl ?_; refine px_skip ?_; refine px_seq ?_; refine px_block ?_
      refine px_seq ?_; refine px_rs ?_; refine pl1 ?_; refine yW ex (by omega) rfl rfl ?_; refine yQ ?_; refine pl1 ?_; refine yLr rfl rfl (yQ ?_); refine pl1 ?_; refine yAd rfl (yQ ?_); refine pl_nil ?_
      refine px_seq ?_; refine px_rs ?_; refine pl_cons (pl_ld m2 rfl rfl ?_); refine pl1 ?_; refine yMd rfl (yQ ?_); refine pl_cons (pl_hl rfl rfl rfl hgs ?_); refine pl1 ?_; refine yU rfl rfl rfl (yQ ?_)
      refine pl_nil ?_; refine px_ct rfl ?_; refine px_seq ?_; refine px_rs ?_; refine pl_cons (pl_ld m2 rfl rfl ?_); refine pl1 ?_; refine yMd rfl (yQ ?_); refine pl_cons (pl_hu rfl rfl rfl rfl hms ?_); refine pl_nil ?_
      refine px_rs ?_; refine pl_cons (pl_ld m3 rfl rfl ?_); refine pl1 ?_; refine yMd rfl (yQ ?_)
      refine pl_cons (pl_hv (caps := [.pointer (some ⟨b1, 0, none⟩), .pointer (some ⟨b2, 0, none⟩), .pointer (some ⟨b3, 0, none⟩)]) c1 rfl rfl (by simp [Value.oneCell']) rfl (fun q hq => hq) rfl ?_); refine pl_nil ?_; refine px_rs ?_
      refine pl1 ?_; refine yB rfl rfl rfl rfl (yQ ?_); refine pl1 ?_; refine yMd rfl (yQ ?_); refine pl_nil ?_; refine qx_then ?_
      exact ⟨i + 1, h, by omega, ⟨rfl, ⟨.refl _, .refl _, .refl _, .refl _, .refl _, .of_eq (congrArg (fun n => SV.d (dI n)) hw), trivial⟩, trivial, trivial, rfl⟩, by rw [hnx]⟩
  · have u1 : decide ((i : Int) < (row.length : Int)) = false := decide_eq_false (by omega)
    rw [List.take_of_length_le h]
    refine px_seq ?_; refine px_rs ?_; refine pl1 ?_; refine yB rfl rfl rfl rfl (yQ ?_); refine pl_nil ?_; refine px_seq ?_; rw [u1]; refine px_cf rfl ?_; refine px_exit ?_; refine qx_then_exit ?_; refine qx_then_exit ?_
    refine qx_blk_same ?_
    exact qx_end _ .nil rfl rfl
set_option maxRecDepth 20000 in
set_option maxHeartbeats 4000000 in
theorem wReach (m : List (Str × List Str)) (id : Str) (hm : ∀ q ∈ m, q.2.length ≤ 100000) : PCalls Tryz.prog 56 [dLk m, dS id] (.d (dSet (reach m id))) := by
  have hu : unm (allG m) [] ≤ (allG m).length := List.length_filter_le _ _
  refine pcalls_of_px 9 Tryz.func56 rfl Tryz.ntmps56 Tryz.results56 (by simp) fun p d0 hex => ?_
  refine px_seq ?_; refine px_rs ?_; refine pl1 ?_; refine yK (cs := [_]) rfl rfl (yQ ?_); refine pl1 ?_; refine yAd rfl (yQ ?_); refine pl_nil ?_; refine px_seq ?_; refine px_rs ?_; refine pl1 ?_; refine yKm rfl ?_
  refine yQ ?_; refine pl1 ?_; refine yZ (cs := [_]) rfl rfl (yQ ?_); refine pl1 ?_; refine ySm (cs' := [_]) rfl rfl rfl rfl (yQ ?_); refine pl_nil ?_; refine px_seq ?_; refine px_rs ?_; refine pl1 ?_
  refine yZ (cs := [_]) rfl rfl (yQ ?_); refine pl_nil ?_; refine px_seq ?_; refine px_rs ?_; refine pl1 ?_; refine yCm rfl (yQ ?_); refine pl1 ?_; refine ySf (cs' := [_]) rfl rfl rfl rfl (yQ ?_)
  refine pl_nil ?_
  refine px_cap 2 5 6 500007 76 [2, 5, 6] (cs1 := [.d (dLk m)]) (ds1 := [dLk m]) (ms := bS []) rfl rfl rfl rfl rfl rfl rfl rfl (by simp [bS]) rfl (by simp) (by simp) (by simp) (by simp) (by omega) (by omega) (by omega) (by omega) fun b1 b2 b3 bo => ?_
  refine px_seq ?_; refine px_rs ?_; refine pl_cons (pl_ld (.tail _ (.tail _ (.head _))) rfl rfl ?_); refine pl1 ?_; refine yMd rfl (yQ ?_)
  refine pl_cons (pl_hv (caps := [.pointer (some ⟨b1, 0, none⟩), .pointer (some ⟨b2, 0, none⟩), .pointer (some ⟨b3, 0, none⟩)]) (wVis m hm b1 b2 b3 bo _ [] id hu) rfl rfl (by simp [Value.oneCell']) rfl (fun q hq => hq) rfl ?_)
  refine pl_nil ?_; refine px_seq ?_; refine px_rs ?_; refine pl_cons (pl_ld (.tail _ (.head _)) rfl rfl ?_); refine pl1 ?_; refine yAd rfl (yQ ?_); refine pl_nil ?_; refine px_mc 4 (l := bS (reach m id)) hex rfl rfl ?_
  refine px_ret ?_
  exact qx_ret _ (.tmp rfl .nil) rfl trivial
set_option maxRecDepth 20000 in
set_option maxHeartbeats 4000000 in
theorem wReachM (m : List (Str × List Str)) (id : Str) (hm : ∀ q ∈ m, q.2.length ≤ 100000) : PMap Tryz.prog 56 [dLk m, dS id] (bS (reach m id)) := by
  have hu : unm (allG m) [] ≤ (allG m).length := List.length_filter_le _ _
  refine pmap_of_px 0 Tryz.func56 rfl Tryz.ntmps56 Tryz.results56 (by simp) fun p d0 hex => ?_
  refine px_seq ?_; refine px_rs ?_; refine pl1 ?_; refine yK (cs := [_]) rfl rfl (yQ ?_); refine pl1 ?_; refine yAd rfl (yQ ?_); refine pl_nil ?_; refine px_seq ?_; refine px_rs ?_; refine pl1 ?_; refine yKm rfl ?_
  refine yQ ?_; refine pl1 ?_; refine yZ (cs := [_]) rfl rfl (yQ ?_); refine pl1 ?_; refine ySm (cs' := [_]) rfl rfl rfl rfl (yQ ?_); refine pl_nil ?_; refine px_seq ?_; refine px_rs ?_; refine pl1 ?_
  refine yZ (cs := [_]) rfl rfl (yQ ?_); refine pl_nil ?_; refine px_seq ?_; refine px_rs ?_; refine pl1 ?_; refine yCm rfl (yQ ?_); refine pl1 ?_; refine ySf (cs' := [_]) rfl rfl rfl rfl (yQ ?_)
  refine pl_nil ?_
  refine px_cap 2 5 6 500007 76 [2, 5, 6] (cs1 := [.d (dLk m)]) (ds1 := [dLk m]) (ms := bS []) rfl rfl rfl rfl rfl rfl rfl rfl (by simp [bS]) rfl (by simp) (by simp) (by simp) (by simp) (by omega) (by omega) (by omega) (by omega) fun b1 b2 b3 bo => ?_
  refine px_seq ?_; refine px_rs ?_; refine pl_cons (pl_ld (.tail _ (.tail _ (.head _))) rfl rfl ?_); refine pl1 ?_; refine yMd rfl (yQ ?_)
  refine pl_cons (pl_hv (caps := [.pointer (some ⟨b1, 0, none⟩), .pointer (some ⟨b2, 0, none⟩), .pointer (some ⟨b3, 0, none⟩)]) (wVis m hm b1 b2 b3 bo _ [] id hu) rfl rfl (by simp [Value.oneCell']) rfl (fun q hq => hq) rfl ?_)
  refine pl_nil ?_; refine px_seq ?_; refine px_rs ?_; refine pl_cons (pl_ld (.tail _ (.head _)) rfl rfl ?_); refine pl1 ?_; refine yAd rfl (yQ ?_); refine pl_nil ?_; refine px_ret ?_
  exact qg_ret _ (.tmp rfl .nil) ⟨bo, rfl, rfl⟩
end Go.Proofs.YtkfoogabijnamaaGreatDoor
namespace Go.Proofs.YtkfoogabijnamaaGreatDoor
open Go.RowKit Px

instance hMi : MapOf Tryz.prog 93 (dI 0) := ⟨⟨9, 3, by kernel_rfl, by kernel_rfl, fun w => ⟨.int .i64 0, by kernel_rfl, fun F w' => DRep.val _ rfl⟩⟩⟩
section
variable (fs : List (Value × DV)) (f : Nat) [hB : HasBody Tryz.prog f] (caps : List Value) (hcap : ∀ v ∈ caps, v.oneCell' = true) (bo : Nat) (g : Str → TT → Bool × TT) (row : List Str) (hrow : row.length ≤ 100000) (T0 : TT) (J : TT → Prop) (hJ0 : J T0) (hJ : ∀ x T, J T → J (g x T).2)
  (h : ∀ x T, x ∈ row → J T → HC Tryz.prog f fs ([dS x] ++ caps.map .val) bo (tS T) (tS (g x T).2) (.d (dB (g x T).1)))
include hcap hrow hJ0 hJ h
set_option maxRecDepth 20000 in
set_option maxHeartbeats 4000000 in
theorem wIdxC : HC Tryz.prog 71 fs [.sl 1 (row.map fun s => [dS s]), .val (.func (.func f) #[] caps.toArray)] bo (tS T0) (tS (cyL g row T0).2) (.d (dI (cyK g 0 row T0))) := by
  obtain ⟨L, hL⟩ : ∃ L, L = cyL g row T0 := ⟨_, rfl⟩
  obtain ⟨k, hk⟩ : ∃ k, k = cyK g 0 row T0 := ⟨_, rfl⟩
  rw [← hL, ← hk]
  refine hc_of_px 0 Tryz.func71 rfl Tryz.ntmps71 Tryz.results71 (by simp) fun p d0 => ?_
  refine px_seq ?_; refine px_rs ?_; refine pl1 ?_; refine yAd rfl (yQ ?_); refine pl_nil ?_; refine px_seq ?_; refine px_seq ?_; refine px_rs ?_; refine pl1 ?_; refine yMd rfl (yQ ?_); refine pl1 ?_
  refine yN rfl (yQ ?_); refine pl1 ?_; refine yMd rfl (yQ ?_); refine pl_nil ?_; refine px_block ?_
  refine px_lp (fun q : Nat × TT => ⟨19, [(0, .d (.sl 1 (row.map fun s => [dS s]))), (1, .d (.val (.func (.func f) #[] caps.toArray))), (7, .d (dI row.length)), (8, .d (dI q.1))], [], []⟩) (fun q => ⟨[], none, some (bo, tS q.2), fs⟩) (fun q => cyAt g row T0 q.1 q.2 ∧ J q.2) (fun q => row.length - q.1) (0, T0) ⟨cyAt_start g row T0, hJ0⟩ rfl ⟨rfl, ⟨.refl _, .refl _, .of_eq (congrArg (fun n : Nat => SV.d (dI n)) (by simp)), .refl _, trivial⟩, trivial, trivial, rfl⟩ ?_
  rintro ⟨n, T⟩ ⟨hA, hJT⟩
  rcases Nat.lt_or_ge n row.length with hn | hn
  · have u1 : decide ((n : Int) < (row.length : Int)) = true := decide_eq_true (by omega)
    obtain ⟨x, hx⟩ : ∃ a, row[n]? = some a := ⟨_, List.getElem?_eq_getElem hn⟩
    have ex := ix (fun s => [dS s]) row n n x rfl hx
    have hw := wrapI ((n : Int) + 1) (by omega)
    have c1 := h x T (List.mem_of_getElem? hx) hJT
    obtain ⟨s1, s2⟩ := cyAt_step hA hx
    cases hg : (g x T).1 with
    | true =>
      obtain ⟨e1, e2⟩ := s2 hg
      rw [← hL] at e1
      rw [← hk] at e2
      subst e1 e2
      rw [hg] at c1
      refine px_seq ?_; refine px_rs ?_; refine pl1 ?_; refine yB rfl rfl rfl rfl (yQ ?_); refine pl_nil ?_; refine px_seq ?_; rw [u1]; refine px_ct rfl ?_; refine px_skip ?_; refine px_seq ?_; refine px_block ?_
      refine px_seq ?_; refine px_rs ?_; refine pl1 ?_; refine yMd rfl (yQ ?_); refine pl1 ?_; refine yAd rfl (yQ ?_); refine pl_nil ?_; refine px_seq ?_; refine px_rs ?_; refine pl1 ?_; refine yMd rfl (yQ ?_)
      refine pl1 ?_; refine yMd rfl (yQ ?_); refine pl1 ?_; refine yMd rfl (yQ ?_); refine pl1 ?_; refine yW ex (by omega) rfl rfl ?_; refine yQ ?_; refine pl1 ?_; refine yLr rfl rfl (yQ ?_)
      refine pl_cons (pl_hv (caps := caps) c1 rfl rfl hcap rfl (fun q hq => hq) rfl ?_); refine pl_nil ?_; refine px_ct rfl ?_; refine px_seq ?_; refine px_rs ?_; refine pl1 ?_; refine yMd rfl (yQ ?_); refine pl1 ?_
      refine yAd rfl (yQ ?_); refine pl_nil ?_; refine px_ret ?_; refine qx_blk_ret ?_; refine qx_then_ret ?_; refine qx_then_ret ?_; refine qx_blk_ret ?_; refine qx_then_ret ?_
      exact qx_ret _ (.tmp rfl .nil) rfl rfl
    | false =>
      rw [hg] at c1
      refine px_seq ?_; refine px_rs ?_; refine pl1 ?_; refine yB rfl rfl rfl rfl (yQ ?_); refine pl_nil ?_; refine px_seq ?_; rw [u1]; refine px_ct rfl ?_; refine px_skip ?_; refine px_seq ?_; refine px_block ?_
      refine px_seq ?_; refine px_rs ?_; refine pl1 ?_; refine yMd rfl (yQ ?_); refine pl1 ?_; refine yAd rfl (yQ ?_); refine pl_nil ?_; refine px_seq ?_; refine px_rs ?_; refine pl1 ?_; refine yMd rfl (yQ ?_)
      refine pl1 ?_; refine yMd rfl (yQ ?_); refine pl1 ?_; refine yMd rfl (yQ ?_); refine pl1 ?_; refine yW ex (by omega) rfl rfl ?_; refine yQ ?_; refine pl1 ?_; refine yLr rfl rfl (yQ ?_)
      refine pl_cons (pl_hv (caps := caps) c1 rfl rfl hcap rfl (fun q hq => hq) rfl ?_); refine pl_nil ?_; refine px_cf rfl ?_; refine px_skip ?_; refine px_rs ?_; refine pl1 ?_; refine yB rfl rfl rfl rfl (yQ ?_); refine pl1 ?_
      refine yMd rfl (yQ ?_); refine pl_nil ?_; refine qx_then ?_
      exact ⟨(n + 1, (g x T).2), ⟨s1 hg, hJ x T hJT⟩, by show row.length - (n + 1) < row.length - n; omega, ⟨rfl, ⟨.refl _, .refl _, .refl _, .of_eq (congrArg (fun n => SV.d (dI n)) hw), trivial⟩, trivial, trivial, rfl⟩, rfl⟩
  · have u1 : decide ((n : Int) < (row.length : Int)) = false := decide_eq_false (by omega)
    obtain ⟨e1, e2⟩ := cyAt_end hA hn
    rw [← hL] at e1
    rw [← hk] at e2
    subst e1 e2
    refine px_seq ?_; refine px_rs ?_; refine pl1 ?_; refine yB rfl rfl rfl rfl (yQ ?_); refine pl_nil ?_; refine px_seq ?_; rw [u1]; refine px_cf rfl ?_; refine px_exit ?_; refine px_seq ?_; refine px_rs ?_; refine pl1 ?_
    refine yAd rfl (yQ ?_); refine pl_nil ?_; refine px_ret ?_
    exact qx_ret _ (.tmp rfl .nil) rfl rfl
set_option maxRecDepth 20000 in
set_option maxHeartbeats 4000000 in
theorem wConC : HC Tryz.prog 36 fs [.sl 1 (row.map fun s => [dS s]), .val (.func (.func f) #[] caps.toArray)] bo (tS T0) (tS (cyL g row T0).2) (.d (dB (cyL g row T0).1)) := by
  have c1 := wIdxC fs f caps hcap bo g row hrow T0 J hJ0 hJ h
  have t1 := cyK_sign g row T0 0 (Int.le_refl _)
  obtain ⟨b, hb⟩ : ∃ b, b = (cyL g row T0).1 := ⟨_, rfl⟩
  rw [← hb] at t1 ⊢
  refine hc_of_px 0 Tryz.func36 rfl Tryz.ntmps36 Tryz.results36 (by simp) fun p d0 => ?_
  refine px_seq ?_; refine px_rs ?_; refine pl1 ?_; refine yAd rfl (yQ ?_); refine pl_nil ?_; refine px_seq ?_; refine px_rs ?_; refine pl1 ?_; refine yMd rfl (yQ ?_); refine pl1 ?_; refine yMd rfl (yQ ?_)
  refine pl_cons (pl_hs c1 rfl (fun q hq => hq) rfl ?_); refine pl1 ?_; refine yB rfl rfl rfl rfl (yQ ?_); refine pl1 ?_; refine yAd rfl (yQ ?_); refine pl_nil ?_; refine px_ret ?_; rw [t1]
  exact qx_ret _ (.tmp rfl .nil) rfl rfl
end
end Go.Proofs.YtkfoogabijnamaaGreatDoor
namespace Go.Proofs
open Go.Shelf
def Tryz.trim_ren : Go.Shelf.Ren := ⟨fun | 160 => 114 | 232 => 140 | 231 => 139 | 227 => 141 | 234 => 143 | 233 => 142 | 236 => 145 | 235 => 144 | 228 => 166 | 271 => 169 | 151 => 168 | 197 => 167 | 120 => 181 | 152 => 180 | 260 => 179 | 137 => 185 | 119 => 186 | 224 => 187 | 225 => 188 | 217 => 190 | 266 => 191 | n => n, fun | 9 => 9 | 4 => 4 | 3 => 3 | 5 => 5 | 117 => 156 | 116 => 155 | 0 => 0 | 124 => 159 | 21 => 21 | 105 => 183 | 46 => 132 | 119 => 203 | 139 => 206 | 138 => 205 | n => n, fun | 3 => 4 | 4 => 5 | n => n⟩
theorem Tryz.trim : Go.Proofs.Lays.n160 Tryz.prog Tryz.trim_ren := {
  mixed := by kernel_rfl
  f119 := Tryz.func186.trans (congrArg some (by kernel_rfl))
  f120 := Tryz.func181.trans (congrArg some (by kernel_rfl))
  f137 := Tryz.func185.trans (congrArg some (by kernel_rfl))
  f151 := Tryz.func168.trans (congrArg some (by kernel_rfl))
  f152 := Tryz.func180.trans (congrArg some (by kernel_rfl))
  f160 := Tryz.func114.trans (congrArg some (by kernel_rfl))
  f197 := Tryz.func167.trans (congrArg some (by kernel_rfl))
  f217 := Tryz.func190.trans (congrArg some (by kernel_rfl))
  f224 := Tryz.func187.trans (congrArg some (by kernel_rfl))
  f225 := Tryz.func188.trans (congrArg some (by kernel_rfl))
  f227 := Tryz.func141.trans (congrArg some (by kernel_rfl))
  f228 := Tryz.func166.trans (congrArg some (by kernel_rfl))
  f231 := Tryz.func139.trans (congrArg some (by kernel_rfl))
  f232 := Tryz.func140.trans (congrArg some (by kernel_rfl))
  f233 := Tryz.func142.trans (congrArg some (by kernel_rfl))
  f234 := Tryz.func143.trans (congrArg some (by kernel_rfl))
  f235 := Tryz.func144.trans (congrArg some (by kernel_rfl))
  f236 := Tryz.func145.trans (congrArg some (by kernel_rfl))
  f260 := Tryz.func179.trans (congrArg some (by kernel_rfl))
  f266 := Tryz.func191.trans (congrArg some (by kernel_rfl))
  f271 := Tryz.func169.trans (congrArg some (by kernel_rfl))
  t0 := Tryz.underlying0
  a0 := Tryz.isAgg0
  z0 := Tryz.sizeOf0
  v0 := Tryz.zeroValue0
  t3 := Tryz.underlying3
  a3 := Tryz.isAgg3
  z3 := Tryz.sizeOf3
  v3 := Tryz.zeroValue3
  t4 := Tryz.underlying4
  a4 := Tryz.isAgg4
  z4 := Tryz.sizeOf4
  v4 := Tryz.zeroValue4
  t5 := Tryz.underlying5
  a5 := Tryz.isAgg5
  z5 := Tryz.sizeOf5
  v5 := Tryz.zeroValue5
  t9 := Tryz.underlying9
  a9 := Tryz.isAgg9
  z9 := Tryz.sizeOf9
  v9 := Tryz.zeroValue9
  t21 := Tryz.underlying21
  a21 := Tryz.isAgg21
  z21 := Tryz.sizeOf21
  v21 := Tryz.zeroValue21
  t46 := Tryz.underlying132
  a46 := Tryz.isAgg132
  z46 := Tryz.sizeOf132
  v46 := Tryz.zeroValue132
  t105 := Tryz.underlying183
  a105 := Tryz.isAgg183
  z105 := Tryz.sizeOf183
  v105 := Tryz.zeroValue183
  t116 := Tryz.underlying155
  a116 := Tryz.isAgg155
  z116 := Tryz.sizeOf155
  t117 := Tryz.underlying156
  a117 := Tryz.isAgg156
  z117 := Tryz.sizeOf156
  v117 := Tryz.zeroValue156
  t119 := Tryz.underlying203
  a119 := Tryz.isAgg203
  z119 := Tryz.sizeOf203
  t124 := Tryz.underlying159
  a124 := Tryz.isAgg159
  z124 := Tryz.sizeOf159
  v124 := Tryz.zeroValue159
  t138 := Tryz.underlying205
  a138 := Tryz.isAgg205
  z138 := Tryz.sizeOf205
  v138 := Tryz.zeroValue205
  t139 := Tryz.underlying206
  a139 := Tryz.isAgg206
  z139 := Tryz.sizeOf206
  v139 := Tryz.zeroValue206
  g3 := by kernel_rfl
  g4 := by kernel_rfl }
def Tryz.trimLeft_ren : Go.Shelf.Ren := ⟨fun | 161 => 115 | 231 => 139 | 227 => 141 | 233 => 142 | 235 => 144 | 228 => 166 | 197 => 167 | 151 => 168 | 260 => 179 | 152 => 180 | 137 => 185 | 119 => 186 | 224 => 187 | 225 => 188 | 217 => 190 | 266 => 191 | n => n, fun | 9 => 9 | 4 => 4 | 3 => 3 | 5 => 5 | 117 => 156 | 116 => 155 | 0 => 0 | 124 => 159 | 105 => 183 | 21 => 21 | 119 => 203 | 46 => 132 | 139 => 206 | 138 => 205 | n => n, fun | 3 => 4 | 4 => 5 | n => n⟩
theorem Tryz.trimLeft : Go.Proofs.Lays.n161 Tryz.prog Tryz.trimLeft_ren := {
  mixed := by kernel_rfl
  f119 := Tryz.func186.trans (congrArg some (by kernel_rfl))
  f137 := Tryz.func185.trans (congrArg some (by kernel_rfl))
  f151 := Tryz.func168.trans (congrArg some (by kernel_rfl))
  f152 := Tryz.func180.trans (congrArg some (by kernel_rfl))
  f161 := Tryz.func115.trans (congrArg some (by kernel_rfl))
  f197 := Tryz.func167.trans (congrArg some (by kernel_rfl))
  f217 := Tryz.func190.trans (congrArg some (by kernel_rfl))
  f224 := Tryz.func187.trans (congrArg some (by kernel_rfl))
  f225 := Tryz.func188.trans (congrArg some (by kernel_rfl))
  f227 := Tryz.func141.trans (congrArg some (by kernel_rfl))
  f228 := Tryz.func166.trans (congrArg some (by kernel_rfl))
  f231 := Tryz.func139.trans (congrArg some (by kernel_rfl))
  f233 := Tryz.func142.trans (congrArg some (by kernel_rfl))
  f235 := Tryz.func144.trans (congrArg some (by kernel_rfl))
  f260 := Tryz.func179.trans (congrArg some (by kernel_rfl))
  f266 := Tryz.func191.trans (congrArg some (by kernel_rfl))
  t0 := Tryz.underlying0
  a0 := Tryz.isAgg0
  z0 := Tryz.sizeOf0
  v0 := Tryz.zeroValue0
  t3 := Tryz.underlying3
  a3 := Tryz.isAgg3
  z3 := Tryz.sizeOf3
  v3 := Tryz.zeroValue3
  t4 := Tryz.underlying4
  a4 := Tryz.isAgg4
  z4 := Tryz.sizeOf4
  v4 := Tryz.zeroValue4
  t5 := Tryz.underlying5
  a5 := Tryz.isAgg5
  z5 := Tryz.sizeOf5
  v5 := Tryz.zeroValue5
  t9 := Tryz.underlying9
  a9 := Tryz.isAgg9
  z9 := Tryz.sizeOf9
  v9 := Tryz.zeroValue9
  t21 := Tryz.underlying21
  a21 := Tryz.isAgg21
  z21 := Tryz.sizeOf21
  v21 := Tryz.zeroValue21
  t46 := Tryz.underlying132
  a46 := Tryz.isAgg132
  z46 := Tryz.sizeOf132
  v46 := Tryz.zeroValue132
  t105 := Tryz.underlying183
  a105 := Tryz.isAgg183
  z105 := Tryz.sizeOf183
  v105 := Tryz.zeroValue183
  t116 := Tryz.underlying155
  a116 := Tryz.isAgg155
  z116 := Tryz.sizeOf155
  t117 := Tryz.underlying156
  a117 := Tryz.isAgg156
  z117 := Tryz.sizeOf156
  v117 := Tryz.zeroValue156
  t119 := Tryz.underlying203
  a119 := Tryz.isAgg203
  z119 := Tryz.sizeOf203
  t124 := Tryz.underlying159
  a124 := Tryz.isAgg159
  z124 := Tryz.sizeOf159
  v124 := Tryz.zeroValue159
  t138 := Tryz.underlying205
  a138 := Tryz.isAgg205
  z138 := Tryz.sizeOf205
  v138 := Tryz.zeroValue205
  t139 := Tryz.underlying206
  a139 := Tryz.isAgg206
  z139 := Tryz.sizeOf206
  v139 := Tryz.zeroValue206
  g3 := by kernel_rfl
  g4 := by kernel_rfl }
def Tryz.small_ren : Go.Shelf.Ren := ⟨fun | 283 => 153 | n => n, fun | 3 => 3 | 9 => 9 | 4 => 4 | n => n, fun | n => n⟩
theorem Tryz.small : Go.Proofs.Lays.n283 Tryz.prog Tryz.small_ren := {
  mixed := by kernel_rfl
  f283 := Tryz.func153.trans (congrArg some (by kernel_rfl))
  t3 := Tryz.underlying3
  a3 := Tryz.isAgg3
  z3 := Tryz.sizeOf3
  v3 := Tryz.zeroValue3
  t4 := Tryz.underlying4
  a4 := Tryz.isAgg4
  z4 := Tryz.sizeOf4
  v4 := Tryz.zeroValue4
  t9 := Tryz.underlying9
  a9 := Tryz.isAgg9
  z9 := Tryz.sizeOf9
  v9 := Tryz.zeroValue9 }
def Tryz.nd_ren : Go.Shelf.Ren := ⟨fun | 284 => 154 | 129 => 137 | 317 => 173 | 318 => 174 | n => n, fun | 53 => 109 | 3 => 3 | 212 => 192 | 0 => 0 | 4 => 4 | 46 => 132 | 5 => 5 | 9 => 9 | n => n, fun | 17 => 2 | n => n⟩
theorem Tryz.nd : Go.Proofs.LaysM.n284 Tryz.prog Tryz.nd_ren := {
  mixed := by kernel_rfl
  f129 := Tryz.func137.trans (congrArg some (by kernel_rfl))
  f284 := Tryz.func154.trans (congrArg some (by kernel_rfl))
  f317 := Tryz.func173.trans (congrArg some (by kernel_rfl))
  f318 := Tryz.func174.trans (congrArg some (by kernel_rfl))
  t0 := Tryz.underlying0
  a0 := Tryz.isAgg0
  z0 := Tryz.sizeOf0
  v0 := Tryz.zeroValue0
  t3 := Tryz.underlying3
  a3 := Tryz.isAgg3
  z3 := Tryz.sizeOf3
  v3 := Tryz.zeroValue3
  t4 := Tryz.underlying4
  a4 := Tryz.isAgg4
  z4 := Tryz.sizeOf4
  v4 := Tryz.zeroValue4
  t5 := Tryz.underlying5
  a5 := Tryz.isAgg5
  z5 := Tryz.sizeOf5
  v5 := Tryz.zeroValue5
  t9 := Tryz.underlying9
  a9 := Tryz.isAgg9
  z9 := Tryz.sizeOf9
  v9 := Tryz.zeroValue9
  t46 := Tryz.underlying132
  a46 := Tryz.isAgg132
  z46 := Tryz.sizeOf132
  v46 := Tryz.zeroValue132
  t53 := Tryz.underlying109
  a53 := Tryz.isAgg109
  z53 := Tryz.sizeOf109
  v53 := Tryz.zeroValue109
  t212 := Tryz.underlying192
  a212 := Tryz.isAgg192
  z212 := Tryz.sizeOf192
  v212 := Tryz.zeroValue192
  g17 := by kernel_rfl
  i0 := by kernel_rfl
  i3 := by kernel_rfl
  i4 := by kernel_rfl
  i5 := by kernel_rfl
  i9 := by kernel_rfl
  i46 := by kernel_rfl
  i53 := by kernel_rfl
  i212 := by kernel_rfl
  m17 := by kernel_rfl }
def Tryz.fb_ren : Go.Shelf.Ren := ⟨fun | 285 => 155 | n => n, fun | 37 => 117 | 53 => 109 | 3 => 3 | 4 => 4 | 51 => 151 | 9 => 9 | 5 => 5 | 0 => 0 | n => n, fun | n => n⟩
theorem Tryz.fb : Go.Proofs.Lays.n285 Tryz.prog Tryz.fb_ren := {
  mixed := by kernel_rfl
  f285 := Tryz.func155.trans (congrArg some (by kernel_rfl))
  t0 := Tryz.underlying0
  a0 := Tryz.isAgg0
  z0 := Tryz.sizeOf0
  v0 := Tryz.zeroValue0
  t3 := Tryz.underlying3
  a3 := Tryz.isAgg3
  z3 := Tryz.sizeOf3
  v3 := Tryz.zeroValue3
  t4 := Tryz.underlying4
  a4 := Tryz.isAgg4
  z4 := Tryz.sizeOf4
  v4 := Tryz.zeroValue4
  t5 := Tryz.underlying5
  a5 := Tryz.isAgg5
  z5 := Tryz.sizeOf5
  v5 := Tryz.zeroValue5
  t9 := Tryz.underlying9
  a9 := Tryz.isAgg9
  z9 := Tryz.sizeOf9
  v9 := Tryz.zeroValue9
  t37 := Tryz.underlying117
  a37 := Tryz.isAgg117
  z37 := Tryz.sizeOf117
  v37 := Tryz.zeroValue117
  t51 := Tryz.underlying151
  a51 := Tryz.isAgg151
  z51 := Tryz.sizeOf151
  v51 := Tryz.zeroValue151
  t53 := Tryz.underlying109
  a53 := Tryz.isAgg109
  z53 := Tryz.sizeOf109
  v53 := Tryz.zeroValue109 }
def Tryz.pu_ren : Go.Shelf.Ren := ⟨fun | 287 => 116 | 321 => 146 | 322 => 147 | n => n, fun | 9 => 9 | 3 => 3 | 53 => 109 | 75 => 111 | 4 => 4 | 167 => 160 | 5 => 5 | 46 => 132 | 37 => 117 | 0 => 0 | 21 => 21 | 80 => 125 | n => n, fun | n => n⟩
theorem Tryz.pu : Go.Proofs.Lays.n287 Tryz.prog Tryz.pu_ren := {
  mixed := by kernel_rfl
  f287 := Tryz.func116.trans (congrArg some (by kernel_rfl))
  f321 := Tryz.func146.trans (congrArg some (by kernel_rfl))
  f322 := Tryz.func147.trans (congrArg some (by kernel_rfl))
  t0 := Tryz.underlying0
  a0 := Tryz.isAgg0
  z0 := Tryz.sizeOf0
  v0 := Tryz.zeroValue0
  t3 := Tryz.underlying3
  a3 := Tryz.isAgg3
  z3 := Tryz.sizeOf3
  v3 := Tryz.zeroValue3
  t4 := Tryz.underlying4
  a4 := Tryz.isAgg4
  z4 := Tryz.sizeOf4
  v4 := Tryz.zeroValue4
  t5 := Tryz.underlying5
  a5 := Tryz.isAgg5
  z5 := Tryz.sizeOf5
  v5 := Tryz.zeroValue5
  t9 := Tryz.underlying9
  a9 := Tryz.isAgg9
  z9 := Tryz.sizeOf9
  v9 := Tryz.zeroValue9
  t21 := Tryz.underlying21
  a21 := Tryz.isAgg21
  z21 := Tryz.sizeOf21
  v21 := Tryz.zeroValue21
  t37 := Tryz.underlying117
  a37 := Tryz.isAgg117
  z37 := Tryz.sizeOf117
  v37 := Tryz.zeroValue117
  t46 := Tryz.underlying132
  a46 := Tryz.isAgg132
  z46 := Tryz.sizeOf132
  v46 := Tryz.zeroValue132
  t53 := Tryz.underlying109
  a53 := Tryz.isAgg109
  z53 := Tryz.sizeOf109
  v53 := Tryz.zeroValue109
  t75 := Tryz.underlying111
  a75 := Tryz.isAgg111
  z75 := Tryz.sizeOf111
  v75 := Tryz.zeroValue111
  t167 := Tryz.underlying160
  a167 := Tryz.isAgg160
  z167 := Tryz.sizeOf160
  v167 := Tryz.zeroValue160 }
def Tryz.repeat_ren : Go.Shelf.Ren := ⟨fun | 105 => 99 | 212 => 121 | 99 => 122 | 165 => 123 | 166 => 97 | 170 => 124 | 169 => 100 | 263 => 157 | 264 => 158 | 206 => 159 | 240 => 119 | 241 => 160 | 276 => 152 | 277 => 177 | n => n, fun | 9 => 9 | 3 => 3 | 4 => 4 | 20 => 20 | 0 => 0 | 46 => 132 | 109 => 136 | 5 => 5 | 72 => 119 | 76 => 121 | 51 => 151 | 146 => 172 | 53 => 109 | 148 => 174 | 70 => 116 | 37 => 117 | 75 => 111 | 127 => 140 | 164 => 165 | 80 => 125 | n => n, fun | n => n⟩
theorem Tryz.repeat : Go.Proofs.Lays.n105 Tryz.prog Tryz.repeat_ren := {
  mixed := by kernel_rfl
  f99 := Tryz.func122.trans (congrArg some (by kernel_rfl))
  f105 := Tryz.func99.trans (congrArg some (by kernel_rfl))
  f165 := Tryz.func123.trans (congrArg some (by kernel_rfl))
  f166 := Tryz.func97.trans (congrArg some (by kernel_rfl))
  f169 := Tryz.func100.trans (congrArg some (by kernel_rfl))
  f170 := Tryz.func124.trans (congrArg some (by kernel_rfl))
  f206 := Tryz.func159.trans (congrArg some (by kernel_rfl))
  f212 := Tryz.func121.trans (congrArg some (by kernel_rfl))
  f240 := Tryz.func119.trans (congrArg some (by kernel_rfl))
  f241 := Tryz.func160.trans (congrArg some (by kernel_rfl))
  f263 := Tryz.func157.trans (congrArg some (by kernel_rfl))
  f264 := Tryz.func158.trans (congrArg some (by kernel_rfl))
  f276 := Tryz.func152.trans (congrArg some (by kernel_rfl))
  f277 := Tryz.func177.trans (congrArg some (by kernel_rfl))
  t0 := Tryz.underlying0
  a0 := Tryz.isAgg0
  z0 := Tryz.sizeOf0
  v0 := Tryz.zeroValue0
  t3 := Tryz.underlying3
  a3 := Tryz.isAgg3
  z3 := Tryz.sizeOf3
  v3 := Tryz.zeroValue3
  t4 := Tryz.underlying4
  a4 := Tryz.isAgg4
  z4 := Tryz.sizeOf4
  v4 := Tryz.zeroValue4
  t5 := Tryz.underlying5
  a5 := Tryz.isAgg5
  z5 := Tryz.sizeOf5
  v5 := Tryz.zeroValue5
  t9 := Tryz.underlying9
  a9 := Tryz.isAgg9
  z9 := Tryz.sizeOf9
  v9 := Tryz.zeroValue9
  t20 := Tryz.underlying20
  a20 := Tryz.isAgg20
  z20 := Tryz.sizeOf20
  v20 := Tryz.zeroValue20
  t37 := Tryz.underlying117
  a37 := Tryz.isAgg117
  z37 := Tryz.sizeOf117
  v37 := Tryz.zeroValue117
  t46 := Tryz.underlying132
  a46 := Tryz.isAgg132
  z46 := Tryz.sizeOf132
  v46 := Tryz.zeroValue132
  t51 := Tryz.underlying151
  a51 := Tryz.isAgg151
  z51 := Tryz.sizeOf151
  v51 := Tryz.zeroValue151
  t53 := Tryz.underlying109
  a53 := Tryz.isAgg109
  z53 := Tryz.sizeOf109
  v53 := Tryz.zeroValue109
  t70 := Tryz.underlying116
  a70 := Tryz.isAgg116
  z70 := Tryz.sizeOf116
  v70 := Tryz.zeroValue116
  t72 := Tryz.underlying119
  a72 := Tryz.isAgg119
  z72 := Tryz.sizeOf119
  v72 := Tryz.zeroValue119
  t75 := Tryz.underlying111
  a75 := Tryz.isAgg111
  z75 := Tryz.sizeOf111
  v75 := Tryz.zeroValue111
  t76 := Tryz.underlying121
  a76 := Tryz.isAgg121
  z76 := Tryz.sizeOf121
  v76 := Tryz.zeroValue121
  t109 := Tryz.underlying136
  a109 := Tryz.isAgg136
  z109 := Tryz.sizeOf136
  v109 := Tryz.zeroValue136
  t127 := Tryz.underlying140
  a127 := Tryz.isAgg140
  z127 := Tryz.sizeOf140
  v127 := Tryz.zeroValue140
  t146 := Tryz.underlying172
  a146 := Tryz.isAgg172
  z146 := Tryz.sizeOf172
  v146 := Tryz.zeroValue172
  t148 := Tryz.underlying174
  a148 := Tryz.isAgg174
  z148 := Tryz.sizeOf174
  v148 := Tryz.zeroValue174
  t164 := Tryz.underlying165
  a164 := Tryz.isAgg165
  z164 := Tryz.sizeOf165
  v164 := Tryz.zeroValue165 }
def Tryz.bst_ren : Go.Shelf.Ren := ⟨fun | 169 => 100 | n => n, fun | 70 => 116 | 9 => 9 | 0 => 0 | 72 => 119 | 37 => 117 | 127 => 140 | 3 => 3 | 5 => 5 | n => n, fun | n => n⟩
theorem Tryz.bst : Go.Proofs.Lays.n169 Tryz.prog Tryz.bst_ren := {
  mixed := by kernel_rfl
  f169 := Tryz.func100.trans (congrArg some (by kernel_rfl))
  t0 := Tryz.underlying0
  a0 := Tryz.isAgg0
  z0 := Tryz.sizeOf0
  v0 := Tryz.zeroValue0
  t3 := Tryz.underlying3
  a3 := Tryz.isAgg3
  z3 := Tryz.sizeOf3
  v3 := Tryz.zeroValue3
  t9 := Tryz.underlying9
  a9 := Tryz.isAgg9
  z9 := Tryz.sizeOf9
  v9 := Tryz.zeroValue9
  t37 := Tryz.underlying117
  a37 := Tryz.isAgg117
  z37 := Tryz.sizeOf117
  v37 := Tryz.zeroValue117
  t70 := Tryz.underlying116
  a70 := Tryz.isAgg116
  z70 := Tryz.sizeOf116
  v70 := Tryz.zeroValue116
  t72 := Tryz.underlying119
  a72 := Tryz.isAgg119
  z72 := Tryz.sizeOf119
  v72 := Tryz.zeroValue119
  t127 := Tryz.underlying140
  a127 := Tryz.isAgg140
  z127 := Tryz.sizeOf140
  v127 := Tryz.zeroValue140 }
def Tryz.keys_ren : Go.Shelf.Ren := ⟨fun | 7 => 63 | 10 => 88 | n => n, fun | 23 => 71 | 26 => 9 | 3 => 32 | 28 => 74 | 0 => 0 | 27 => 73 | 33 => 52 | 4 => 4 | n => n, fun | n => n⟩
theorem Tryz.keys : Go.Proofs.SlLaysZ.n7 Tryz.prog Tryz.keys_ren := {
  mixed := by kernel_rfl
  f7 := ⟨Tryz.f63.name, by decide, Tryz.func63.trans (congrArg some (by kernel_rfl))⟩
  f10 := ⟨Tryz.f88.name, by decide, Tryz.func88.trans (congrArg some (by kernel_rfl))⟩
  t0 := Tryz.underlying0
  a0 := Tryz.isAgg0
  z0 := Tryz.sizeOf0
  v0 := Tryz.zeroValue0
  t4 := Tryz.underlying4
  a4 := Tryz.isAgg4
  z4 := Tryz.sizeOf4
  v4 := Tryz.zeroValue4
  t23 := Tryz.underlying71
  a23 := Tryz.isAgg71
  z23 := Tryz.sizeOf71
  v23 := Tryz.zeroValue71
  t26 := Tryz.underlying9
  a26 := Tryz.isAgg9
  z26 := Tryz.sizeOf9
  v26 := Tryz.zeroValue9
  t27 := Tryz.underlying73
  a27 := Tryz.isAgg73
  z27 := Tryz.sizeOf73
  v27 := Tryz.zeroValue73
  t28 := Tryz.underlying74
  a28 := Tryz.isAgg74
  z28 := Tryz.sizeOf74
  v28 := Tryz.zeroValue74
  t33 := Tryz.underlying52
  a33 := Tryz.isAgg52
  z33 := Tryz.sizeOf52
  v33 := Tryz.zeroValue52 }
def Tryz.keysB_ren : Go.Shelf.Ren := ⟨fun | 7 => 75 | 10 => 102 | n => n, fun | 23 => 60 | 26 => 9 | 3 => 4 | 28 => 74 | 0 => 0 | 27 => 73 | 33 => 52 | 4 => 4 | n => n, fun | n => n⟩
theorem Tryz.keysB : Go.Proofs.SlLaysZ.n7 Tryz.prog Tryz.keysB_ren := {
  mixed := by kernel_rfl
  f7 := ⟨Tryz.f75.name, by decide, Tryz.func75.trans (congrArg some (by kernel_rfl))⟩
  f10 := ⟨Tryz.f102.name, by decide, Tryz.func102.trans (congrArg some (by kernel_rfl))⟩
  t0 := Tryz.underlying0
  a0 := Tryz.isAgg0
  z0 := Tryz.sizeOf0
  v0 := Tryz.zeroValue0
  t4 := Tryz.underlying4
  a4 := Tryz.isAgg4
  z4 := Tryz.sizeOf4
  v4 := Tryz.zeroValue4
  t23 := Tryz.underlying60
  a23 := Tryz.isAgg60
  z23 := Tryz.sizeOf60
  v23 := Tryz.zeroValue60
  t26 := Tryz.underlying9
  a26 := Tryz.isAgg9
  z26 := Tryz.sizeOf9
  v26 := Tryz.zeroValue9
  t27 := Tryz.underlying73
  a27 := Tryz.isAgg73
  z27 := Tryz.sizeOf73
  v27 := Tryz.zeroValue73
  t28 := Tryz.underlying74
  a28 := Tryz.isAgg74
  z28 := Tryz.sizeOf74
  v28 := Tryz.zeroValue74
  t33 := Tryz.underlying52
  a33 := Tryz.isAgg52
  z33 := Tryz.sizeOf52
  v33 := Tryz.zeroValue52 }
def Tryz.keysL_ren : Go.Shelf.Ren := ⟨fun | 7 => 80 | 10 => 105 | n => n, fun | 23 => 62 | 26 => 9 | 3 => 25 | 28 => 74 | 0 => 0 | 27 => 73 | 33 => 52 | 4 => 4 | n => n, fun | n => n⟩
theorem Tryz.keysL : Go.Proofs.SlLaysZ.n7 Tryz.prog Tryz.keysL_ren := {
  mixed := by kernel_rfl
  f7 := ⟨Tryz.f80.name, by decide, Tryz.func80.trans (congrArg some (by kernel_rfl))⟩
  f10 := ⟨Tryz.f105.name, by decide, Tryz.func105.trans (congrArg some (by kernel_rfl))⟩
  t0 := Tryz.underlying0
  a0 := Tryz.isAgg0
  z0 := Tryz.sizeOf0
  v0 := Tryz.zeroValue0
  t4 := Tryz.underlying4
  a4 := Tryz.isAgg4
  z4 := Tryz.sizeOf4
  v4 := Tryz.zeroValue4
  t23 := Tryz.underlying62
  a23 := Tryz.isAgg62
  z23 := Tryz.sizeOf62
  v23 := Tryz.zeroValue62
  t26 := Tryz.underlying9
  a26 := Tryz.isAgg9
  z26 := Tryz.sizeOf9
  v26 := Tryz.zeroValue9
  t27 := Tryz.underlying73
  a27 := Tryz.isAgg73
  z27 := Tryz.sizeOf73
  v27 := Tryz.zeroValue73
  t28 := Tryz.underlying74
  a28 := Tryz.isAgg74
  z28 := Tryz.sizeOf74
  v28 := Tryz.zeroValue74
  t33 := Tryz.underlying52
  a33 := Tryz.isAgg52
  z33 := Tryz.sizeOf52
  v33 := Tryz.zeroValue52 }
def Tryz.collect_ren : Go.Shelf.Ren := ⟨fun | 8 => 79 | 11 => 104 | n => n, fun | 26 => 9 | 28 => 74 | 24 => 25 | 0 => 0 | 33 => 52 | 4 => 4 | n => n, fun | n => n⟩
theorem Tryz.collect : Go.Proofs.SlLaysZ.n8 Tryz.prog Tryz.collect_ren := {
  mixed := by kernel_rfl
  f8 := ⟨Tryz.f79.name, by decide, Tryz.func79.trans (congrArg some (by kernel_rfl))⟩
  f11 := ⟨Tryz.f104.name, by decide, Tryz.func104.trans (congrArg some (by kernel_rfl))⟩
  t0 := Tryz.underlying0
  a0 := Tryz.isAgg0
  z0 := Tryz.sizeOf0
  v0 := Tryz.zeroValue0
  t24 := Tryz.underlying25
  a24 := Tryz.isAgg25
  z24 := Tryz.sizeOf25
  v24 := Tryz.zeroValue25
  t26 := Tryz.underlying9
  a26 := Tryz.isAgg9
  z26 := Tryz.sizeOf9
  v26 := Tryz.zeroValue9
  t28 := Tryz.underlying74
  a28 := Tryz.isAgg74
  z28 := Tryz.sizeOf74
  v28 := Tryz.zeroValue74
  i26 := by kernel_rfl }
def Tryz.sorted_ren : Go.Shelf.Ren := ⟨fun | 6 => 62 | 8 => 79 | 9 => 87 | 11 => 104 | 13 => 112 | 12 => 111 | 23 => 136 | 24 => 137 | 14 => 128 | 15 => 129 | 16 => 130 | 17 => 131 | 18 => 132 | 19 => 133 | 20 => 73 | 21 => 134 | 22 => 135 | 25 => 161 | 26 => 162 | 27 => 163 | 28 => 164 | 29 => 165 | 30 => 101 | 31 => 178 | n => n, fun | 26 => 9 | 28 => 74 | 24 => 25 | 0 => 0 | 3 => 3 | 37 => 132 | 48 => 151 | 50 => 109 | 4 => 4 | 40 => 145 | 39 => 144 | 45 => 96 | 5 => 5 | 9 => 9 | 51 => 176 | 55 => 180 | 57 => 196 | 58 => 197 | 33 => 52 | n => n, fun | n => n⟩
theorem Tryz.sorted : Go.Proofs.SlLaysZ.n6 Tryz.prog Tryz.sorted_ren := {
  mixed := by kernel_rfl
  f6 := ⟨Tryz.f62.name, by decide, Tryz.func62.trans (congrArg some (by kernel_rfl))⟩
  f8 := ⟨Tryz.f79.name, by decide, Tryz.func79.trans (congrArg some (by kernel_rfl))⟩
  f11 := ⟨Tryz.f104.name, by decide, Tryz.func104.trans (congrArg some (by kernel_rfl))⟩
  t0 := Tryz.underlying0
  a0 := Tryz.isAgg0
  z0 := Tryz.sizeOf0
  v0 := Tryz.zeroValue0
  t24 := Tryz.underlying25
  a24 := Tryz.isAgg25
  z24 := Tryz.sizeOf25
  v24 := Tryz.zeroValue25
  t26 := Tryz.underlying9
  a26 := Tryz.isAgg9
  z26 := Tryz.sizeOf9
  v26 := Tryz.zeroValue9
  t28 := Tryz.underlying74
  a28 := Tryz.isAgg74
  z28 := Tryz.sizeOf74
  v28 := Tryz.zeroValue74
  i26 := by kernel_rfl }
def Tryz.sortStr_ren : Go.Shelf.Ren := ⟨fun | 6 => 87 | 8 => 112 | 9 => 111 | 19 => 136 | 20 => 137 | 21 => 128 | 22 => 129 | 23 => 130 | 24 => 131 | 25 => 132 | 26 => 133 | 27 => 73 | 28 => 134 | 29 => 135 | 36 => 161 | 31 => 162 | 32 => 163 | 37 => 164 | 38 => 165 | 39 => 101 | 41 => 178 | n => n, fun | 27 => 25 | 29 => 9 | 3 => 3 | 32 => 132 | 26 => 25 | 0 => 0 | 44 => 151 | 46 => 109 | 4 => 4 | 36 => 145 | 35 => 144 | 41 => 96 | 5 => 5 | 9 => 9 | 53 => 176 | 57 => 180 | 63 => 196 | 64 => 197 | n => n, fun | n => n⟩
theorem Tryz.sortStr : Go.Proofs.SlLaysM.n6 Tryz.prog Tryz.sortStr_ren := {
  mixed := by kernel_rfl
  f6 := ⟨Tryz.f87.name, by decide, Tryz.func87.trans (congrArg some (by kernel_rfl))⟩
  f8 := Tryz.func112.trans (congrArg some (by kernel_rfl))
  f9 := ⟨Tryz.f111.name, by decide, Tryz.func111.trans (congrArg some (by kernel_rfl))⟩
  f19 := Tryz.func136.trans (congrArg some (by kernel_rfl))
  f20 := Tryz.func137.trans (congrArg some (by kernel_rfl))
  f21 := ⟨Tryz.f128.name, by decide, Tryz.func128.trans (congrArg some (by kernel_rfl))⟩
  f22 := ⟨Tryz.f129.name, by decide, Tryz.func129.trans (congrArg some (by kernel_rfl))⟩
  f23 := ⟨Tryz.f130.name, by decide, Tryz.func130.trans (congrArg some (by kernel_rfl))⟩
  f24 := ⟨Tryz.f131.name, by decide, Tryz.func131.trans (congrArg some (by kernel_rfl))⟩
  f25 := ⟨Tryz.f132.name, by decide, Tryz.func132.trans (congrArg some (by kernel_rfl))⟩
  f26 := ⟨Tryz.f133.name, by decide, Tryz.func133.trans (congrArg some (by kernel_rfl))⟩
  f27 := ⟨Tryz.f73.name, by decide, Tryz.func73.trans (congrArg some (by kernel_rfl))⟩
  f28 := ⟨Tryz.f134.name, by decide, Tryz.func134.trans (congrArg some (by kernel_rfl))⟩
  f29 := ⟨Tryz.f135.name, by decide, Tryz.func135.trans (congrArg some (by kernel_rfl))⟩
  f31 := Tryz.func162.trans (congrArg some (by kernel_rfl))
  f32 := Tryz.func163.trans (congrArg some (by kernel_rfl))
  f36 := ⟨Tryz.f161.name, by decide, Tryz.func161.trans (congrArg some (by kernel_rfl))⟩
  f37 := ⟨Tryz.f164.name, by decide, Tryz.func164.trans (congrArg some (by kernel_rfl))⟩
  f38 := ⟨Tryz.f165.name, by decide, Tryz.func165.trans (congrArg some (by kernel_rfl))⟩
  f39 := ⟨Tryz.f101.name, by decide, Tryz.func101.trans (congrArg some (by kernel_rfl))⟩
  f41 := ⟨Tryz.f178.name, by decide, Tryz.func178.trans (congrArg some (by kernel_rfl))⟩
  t0 := Tryz.underlying0
  a0 := Tryz.isAgg0
  z0 := Tryz.sizeOf0
  v0 := Tryz.zeroValue0
  t3 := Tryz.underlying3
  a3 := Tryz.isAgg3
  z3 := Tryz.sizeOf3
  v3 := Tryz.zeroValue3
  t4 := Tryz.underlying4
  a4 := Tryz.isAgg4
  z4 := Tryz.sizeOf4
  v4 := Tryz.zeroValue4
  t5 := Tryz.underlying5
  a5 := Tryz.isAgg5
  z5 := Tryz.sizeOf5
  v5 := Tryz.zeroValue5
  t9 := Tryz.underlying9
  a9 := Tryz.isAgg9
  z9 := Tryz.sizeOf9
  v9 := Tryz.zeroValue9
  t26 := Tryz.underlying25
  a26 := Tryz.isAgg25
  z26 := Tryz.sizeOf25
  v26 := Tryz.zeroValue25
  t27 := Tryz.underlying25
  a27 := Tryz.isAgg25
  z27 := Tryz.sizeOf25
  v27 := Tryz.zeroValue25
  t29 := Tryz.underlying9
  a29 := Tryz.isAgg9
  z29 := Tryz.sizeOf9
  v29 := Tryz.zeroValue9
  t32 := Tryz.underlying132
  a32 := Tryz.isAgg132
  z32 := Tryz.sizeOf132
  v32 := Tryz.zeroValue132
  t35 := Tryz.underlying144
  a35 := Tryz.isAgg144
  z35 := Tryz.sizeOf144
  v35 := Tryz.zeroValue144
  t36 := Tryz.underlying145
  a36 := Tryz.isAgg145
  z36 := Tryz.sizeOf145
  v36 := Tryz.zeroValue145
  t41 := Tryz.underlying96
  a41 := Tryz.isAgg96
  z41 := Tryz.sizeOf96
  v41 := Tryz.zeroValue96
  t44 := Tryz.underlying151
  a44 := Tryz.isAgg151
  z44 := Tryz.sizeOf151
  v44 := Tryz.zeroValue151
  t46 := Tryz.underlying109
  a46 := Tryz.isAgg109
  z46 := Tryz.sizeOf109
  v46 := Tryz.zeroValue109
  t53 := Tryz.underlying176
  a53 := Tryz.isAgg176
  z53 := Tryz.sizeOf176
  v53 := Tryz.zeroValue176
  t57 := Tryz.underlying180
  a57 := Tryz.isAgg180
  z57 := Tryz.sizeOf180
  v57 := Tryz.zeroValue180
  t63 := Tryz.underlying196
  a63 := Tryz.isAgg196
  z63 := Tryz.sizeOf196
  v63 := Tryz.zeroValue196
  t64 := Tryz.underlying197
  a64 := Tryz.isAgg197
  z64 := Tryz.sizeOf197
  v64 := Tryz.zeroValue197 }
end Go.Proofs
namespace Go.Proofs.YtkfoogabijnamaaGreatDoor
open Go.RowKit Px

set_option maxRecDepth 20000 in
set_option maxHeartbeats 4000000 in
theorem wCyV (m : List (Str × List Str)) (hm : ∀ q ∈ m, q.2.length ≤ 100000) (U : List Str) (hU : ∀ x ∈ allG m, x ∈ U) (b1 b2 b3 bo : Nat) : ∀ (n : Nat) (T : TT) (id : Str), id ∈ U → unT U T ≤ n →
    HC Tryz.prog 78 [(.pointer (some ⟨b1, 0, none⟩), .ref [dLk m]), (.pointer (some ⟨b2, 0, none⟩), .ref [.val (.map (some bo))]), (.pointer (some ⟨b3, 0, none⟩), .ref [.val (.func (.func 78) #[] [.pointer (some ⟨b2, 0, none⟩), .pointer (some ⟨b1, 0, none⟩), .pointer (some ⟨b3, 0, none⟩)].toArray)])]
      ([dS id] ++ [.pointer (some ⟨b2, 0, none⟩), .pointer (some ⟨b1, 0, none⟩), .pointer (some ⟨b3, 0, none⟩)].map .val) bo (tS T) (tS (cyV m (n + 1) id T).2) (.d (dB (cyV m (n + 1) id T).1)) := by
  intro n
  induction n using Nat.strongRecOn with
  | ind n ih =>
  intro T id hid hu
  have hrow := gGet_len (k := id) hm
  have hg := mget_gD id m
  obtain ⟨row, hr⟩ : ∃ r, r = gGet id m := ⟨_, rfl⟩
  rw [← hr] at hrow hg
  have hin : ∀ x ∈ row, x ∈ U := fun x hx => hU x (gGet_mem (k := id) (by rw [← hr]; exact hx))
  rw [cyV, ← hr]
  obtain ⟨fs, hfs⟩ : ∃ fs : List (Value × DV), fs = [(.pointer (some ⟨b1, 0, none⟩), .ref [dLk m]), (.pointer (some ⟨b2, 0, none⟩), .ref [.val (.map (some bo))]), (.pointer (some ⟨b3, 0, none⟩), .ref [.val (.func (.func 78) #[] [.pointer (some ⟨b2, 0, none⟩), .pointer (some ⟨b1, 0, none⟩), .pointer (some ⟨b3, 0, none⟩)].toArray)])] := ⟨_, rfl⟩
  rw [← hfs] at ih ⊢
  have m1 : ((Value.pointer (some ⟨b1, 0, none⟩)), DV.ref [dLk m]) ∈ fs := by rw [hfs]; exact .head _
  have m2 : ((Value.pointer (some ⟨b2, 0, none⟩)), DV.ref [.val (.map (some bo))]) ∈ fs := by rw [hfs]; exact .tail _ (.head _)
  have m3 : ((Value.pointer (some ⟨b3, 0, none⟩)), DV.ref [.val (.func (.func 78) #[] [.pointer (some ⟨b2, 0, none⟩), .pointer (some ⟨b1, 0, none⟩), .pointer (some ⟨b3, 0, none⟩)].toArray)]) ∈ fs := by rw [hfs]; exact .tail _ (.tail _ (.head _))
  have hgt := mget_tS id T
  by_cases h0 : tget id T = 0
  rotate_left
  · rw [if_pos h0]
    have t1 : ((tget id T : Int) != 0) = true := by simpa using h0
    have t2 : ((tget id T : Int) == 1) = (tget id T == 1) := by rw [Bool.eq_iff_iff]; simp; omega
    refine hc_of_px 0 Tryz.func78 rfl Tryz.ntmps78 Tryz.results78 (by simp) fun p d0 => ?_
    refine px_seq ?_; refine px_rs ?_; refine pl1 ?_; refine yAd rfl (yQ ?_); refine pl_nil ?_; refine px_seq ?_; refine px_seq ?_; refine px_rs ?_; refine pl_cons (pl_ld m2 rfl rfl ?_); refine pl1 ?_; refine yMd rfl ?_
    refine yQ ?_; refine pl_cons (pl_hl rfl rfl rfl hgt ?_); refine pl1 ?_; refine yB rfl rfl rfl rfl (yQ ?_); refine pl_nil ?_; refine qx_then ?_; rw [t1]; refine px_ct rfl ?_; refine px_seq ?_; refine px_rs ?_
    refine pl_cons (pl_ld m2 rfl rfl ?_); refine pl1 ?_; refine yMd rfl (yQ ?_); refine pl_cons (pl_hl rfl rfl rfl hgt ?_); refine pl1 ?_; refine yB rfl rfl rfl rfl (yQ ?_); refine pl1 ?_; refine yAd rfl ?_
    refine yQ ?_; refine pl_nil ?_; refine px_ret ?_; refine qx_then_ret ?_; rw [t2]
    exact qx_ret _ (.tmp rfl .nil) rfl rfl
  rw [if_neg (fun h => h h0)]
  rw [h0] at hgt
  have hms := mset_tS id 1 T
  obtain ⟨T1, hT1⟩ : ∃ T1, T1 = tset id 1 T := ⟨_, rfl⟩
  have hlt := unT_add (v := 1) (by decide) hid h0
  rw [← hT1] at hms hlt ⊢
  obtain ⟨k, rfl⟩ : ∃ k, n = k + 1 := ⟨n - 1, by omega⟩
  have c1 := wConC fs 78 [.pointer (some ⟨b2, 0, none⟩), .pointer (some ⟨b1, 0, none⟩), .pointer (some ⟨b3, 0, none⟩)] (by simp [Value.oneCell']) bo (cyV m (k + 1)) row hrow T1 (fun T => Mk T1 T) (Mk.refl _) (fun x T h => h.trans (cyV_mk m _ x T)) fun x T hx hJ => ih k (Nat.lt_succ_self k) T x (hin x hx) (by have := unT_mono (U := U) hJ; omega)
  cases hb : (cyL (cyV m (k + 1)) row T1).1 with
  | true =>
    rw [if_pos rfl]
    rw [hb] at c1
    refine hc_of_px 0 Tryz.func78 rfl Tryz.ntmps78 Tryz.results78 (by simp) fun p d0 => ?_
    refine px_seq ?_; refine px_rs ?_; refine pl1 ?_; refine yAd rfl (yQ ?_); refine pl_nil ?_; refine px_seq ?_; refine px_seq ?_; refine px_rs ?_; refine pl_cons (pl_ld m2 rfl rfl ?_); refine pl1 ?_; refine yMd rfl ?_
    refine yQ ?_; refine pl_cons (pl_hl rfl rfl rfl hgt ?_); refine pl1 ?_; refine yB rfl rfl rfl rfl (yQ ?_); refine pl_nil ?_; refine px_cf rfl ?_; refine px_skip ?_; refine px_seq ?_; refine px_rs ?_
    refine pl_cons (pl_ld m2 rfl rfl ?_); refine pl1 ?_; refine yMd rfl (yQ ?_); refine pl_cons (pl_hu rfl rfl rfl rfl hms ?_); refine pl_nil ?_; refine px_seq ?_; refine px_seq ?_; refine px_rs ?_
    refine pl_cons (pl_ld m1 rfl rfl ?_); refine pl1 ?_; refine yMd rfl (yQ ?_); refine pl1 ?_; refine yKe (hM := hMl2) (l := gD m) rfl rfl hg (yQ ?_); refine pl_cons (pl_ld m3 rfl rfl ?_)
    refine pl_cons (pl_hs c1 rfl (fun q hq => hq) rfl ?_); refine pl_nil ?_; refine px_ct rfl ?_; refine px_seq ?_; refine px_rs ?_; refine pl1 ?_; refine yAd rfl (yQ ?_); refine pl_nil ?_; refine px_ret ?_
    refine qx_then_ret ?_
    exact qx_ret _ (.tmp rfl .nil) rfl rfl
  | false =>
    rw [if_neg (by simp)]
    rw [hb] at c1
    have hms2 := mset_tS id 2 (cyL (cyV m (k + 1)) row T1).2
    refine hc_of_px 0 Tryz.func78 rfl Tryz.ntmps78 Tryz.results78 (by simp) fun p d0 => ?_
    refine px_seq ?_; refine px_rs ?_; refine pl1 ?_; refine yAd rfl (yQ ?_); refine pl_nil ?_; refine px_seq ?_; refine px_seq ?_; refine px_rs ?_; refine pl_cons (pl_ld m2 rfl rfl ?_); refine pl1 ?_; refine yMd rfl ?_
    refine yQ ?_; refine pl_cons (pl_hl rfl rfl rfl hgt ?_); refine pl1 ?_; refine yB rfl rfl rfl rfl (yQ ?_); refine pl_nil ?_; refine px_cf rfl ?_; refine px_skip ?_; refine px_seq ?_; refine px_rs ?_
    refine pl_cons (pl_ld m2 rfl rfl ?_); refine pl1 ?_; refine yMd rfl (yQ ?_); refine pl_cons (pl_hu rfl rfl rfl rfl hms ?_); refine pl_nil ?_; refine px_seq ?_; refine px_seq ?_; refine px_rs ?_
    refine pl_cons (pl_ld m1 rfl rfl ?_); refine pl1 ?_; refine yMd rfl (yQ ?_); refine pl1 ?_; refine yKe (hM := hMl2) (l := gD m) rfl rfl hg (yQ ?_); refine pl_cons (pl_ld m3 rfl rfl ?_)
    refine pl_cons (pl_hs c1 rfl (fun q hq => hq) rfl ?_); refine pl_nil ?_; refine px_cf rfl ?_; refine px_skip ?_; refine px_seq ?_; refine px_rs ?_; refine pl_cons (pl_ld m2 rfl rfl ?_); refine pl1 ?_; refine yMd rfl (yQ ?_)
    refine pl_cons (pl_hu rfl rfl rfl rfl hms2 ?_); refine pl_nil ?_; refine px_seq ?_; refine px_rs ?_; refine pl1 ?_; refine yAd rfl (yQ ?_); refine pl_nil ?_; refine px_ret ?_
    exact qx_ret _ (.tmp rfl .nil) rfl rfl
end Go.Proofs.YtkfoogabijnamaaGreatDoor
