/- The walks of the iterator days and of first, Add, Count, for this seat. -/
import Derived.RangeFuncNested
import Derived.RangeFuncBound
import Derived.RangeFuncCalls
import Derived.RangeFuncLeaves
import Derived.Shelf.Abstract
import Derived.Shelf.RegionOpen
import Derived.WalkKit
import Derived.OwnWalkIn
import Derived.TacticsInMore
import Derived.LoopNIn
import Derived.LoopIn
import Derived.Test.YtilbolgncpfmmaaRef
import Derived.Test.YtilbolgncpfmmaaRange
namespace Go.Proofs.Ytilbolgncpfmmaa
open Go.RowKit Go.Shelf
attribute [local go_sem] Oper.semAt_some

def Box (w : World) (g : Nat) (t : TypeId) (cs : Array Value) : Prop := w.heap[g]? = some (.cells cs t (0, 0))
theorem Box.lt {w : World} {g : Nat} {t : TypeId} {cs : Array Value} (h : Box w g t cs) : g < w.heap.size := (Array.getElem?_eq_some_iff.1 h).1
theorem Box.cell {w : World} {g : Nat} {t : TypeId} {cs : Array Value} (h : Box w g t cs) (i : Nat) : w.cell? ⟨g, i, none⟩ = cs[i]? := cell_of_row w g i cs t (0, 0) h
theorem Box.frozen {w : World} {g : Nat} {t : TypeId} {cs : Array Value} (h : Box w g t cs) (i : Nat) : w.frozen? ⟨g, i, none⟩ = false := by
  unfold Box at h
  simp [World.frozen?, h]
theorem Box.alloc {w : World} {g : Nat} {t : TypeId} {cs : Array Value} (h : Box w g t cs) (o : Obj) : Box (w.alloc o) g t cs := (Below.heap_alloc w o g h.lt).trans h
theorem Box.new (w : World) (t : TypeId) (cs : Array Value) : Box (w.alloc (.cells cs t)) w.heap.size t cs := heap_alloc_new w _
theorem Box.same {w w' : World} {g : Nat} {t : TypeId} {cs : Array Value} (h : Box w g t cs) (e : w'.heap[g]? = w.heap[g]?) : Box w' g t cs := e.trans h
theorem Box.set {w : World} {g : Nat} {t : TypeId} {cs : Array Value} (h : Box w g t cs) (i : Nat) (u : Value) : Box (w.setCell ⟨g, i, none⟩ u) g t (cs.setIfInBounds i u) := by
  unfold Box at h ⊢
  simp [World.setCell, Array.getElem?_modify, h]
theorem Box.far {w : World} {g : Nat} {t : TypeId} {cs : Array Value} (h : Box w g t cs) {p : Addr} (hp : g ≠ p.block) (u : Value) : Box (w.setCell p u) g t cs := (Below.heap_setCell w p u g hp).trans h
theorem Box.below {w w' : World} {B g : Nat} {t : TypeId} {cs : Array Value} (h : Box w g t cs) (hb : Below B w w') (hg : g < B) : Box w' g t cs := (hb.block g hg).trans h

/-- the number in a cell -/
def cellI (w : World) (b : Nat) : Int := match w.cell? ⟨b, 0, none⟩ with | some (.int _ n) => n | _ => 0
theorem cellI_box {w : World} {b : Nat} {t : TypeId} {k : IntKind} {n : Int} (h : Box w b t #[.int k n]) : cellI w b = n := by
  unfold cellI; rw [h.cell 0]; rfl

/-- what the iterator days has in memory -/
structure DaysAt (w : World) (B0 Bc Bd Bs : Nat) (v0 v1 : Value) (we hs : List Int) (s x : Int) : Prop where
  bd : Box w Bd 26 #[.int .i64 x]
  bs : Box w Bs 26 #[.int .i64 s]
  bc : Box w Bc 25 #[v0, v1]
  i0 : IntsAt w B0 v0 we
  i1 : IntsAt w B0 v1 hs
  le : B0 ≤ w.heap.size
  ne : Bd ≠ Bs ∧ Bd ≠ Bc ∧ B0 ≤ Bd

def daysS (B0 Bc Bd Bs : Nat) (b : Nat) : Prop := b < B0 ∨ b = Bd ∨ b = Bs ∨ b = Bc

theorem IntsAt.same {w w' : World} {B : Nat} {v : Value} {zs : List Int} (h : IntsAt w B v zs) (hb : ∀ b, b < B → w'.heap[b]? = w.heap[b]?) : IntsAt w' B v zs := by
  obtain ⟨A, c, hv, hl, hc⟩ := h
  refine ⟨A, c, hv, hl, fun h0 => ?_⟩
  obtain ⟨b, off, hA, hlt, hcell⟩ := hc h0
  exact ⟨b, off, hA, hlt, fun i hi => (World.cell?_of_block (hb b hlt)).trans (hcell i hi)⟩

variable {w w' : World} {B0 Bc Bd Bs : Nat} {v0 v1 : Value} {we hs : List Int} {s x y : Int}
theorem DaysAt.alloc (h : DaysAt w B0 Bc Bd Bs v0 v1 we hs s x) (o : Obj) : DaysAt (w.alloc o) B0 Bc Bd Bs v0 v1 we hs s x :=
  ⟨h.bd.alloc o, h.bs.alloc o, h.bc.alloc o, h.i0.same fun b hb => Below.heap_alloc w o b (Nat.lt_of_lt_of_le hb h.le), h.i1.same fun b hb => Below.heap_alloc w o b (Nat.lt_of_lt_of_le hb h.le), by have := h.le; simp; omega, h.ne⟩
theorem DaysAt.kept (h : DaysAt w B0 Bc Bd Bs v0 v1 we hs s x) (k : KeptS (daysS B0 Bc Bd Bs) w w') : DaysAt w' B0 Bc Bd Bs v0 v1 we hs s x :=
  ⟨h.bd.same (k.block _ h.bd.lt (.inr (.inl rfl))), h.bs.same (k.block _ h.bs.lt (.inr (.inr (.inl rfl)))), h.bc.same (k.block _ h.bc.lt (.inr (.inr (.inr rfl)))),
    h.i0.same fun b hb => k.block b (Nat.lt_of_lt_of_le hb h.le) (.inl hb), h.i1.same fun b hb => k.block b (Nat.lt_of_lt_of_le hb h.le) (.inl hb), Nat.le_trans h.le k.size, h.ne⟩
theorem DaysAt.step (h : DaysAt w B0 Bc Bd Bs v0 v1 we hs s x) (y : Int) : DaysAt (w.setCell ⟨Bd, 0, none⟩ (.int .i64 y)) B0 Bc Bd Bs v0 v1 we hs s y :=
  ⟨h.bd.set 0 _, h.bs.far (by have := h.ne; exact fun e => this.1 e.symm) _, h.bc.far (by have := h.ne; exact fun e => this.2.1 e.symm) _,
    h.i0.same fun b hb => Below.heap_setCell w _ _ b (by have := h.ne; simp; omega), h.i1.same fun b hb => Below.heap_setCell w _ _ b (by have := h.ne; simp; omega), by have := h.le; simpa [World.setCell] using this, h.ne⟩

theorem grown_alloc (w : World) (o : Obj) (r : Option Nat) : w.grownBy (w.alloc o) r := ⟨rfl, rfl, rfl, by simp, fun i hi _ => Below.heap_alloc w o i hi⟩
theorem grown_set (w : World) (b : Nat) (v : Value) : w.grownBy (w.setCell ⟨b, 0, none⟩ v) (some b) :=
  ⟨rfl, rfl, rfl, by simp [World.setCell], fun i _ hne => Below.heap_setCell w _ _ i (fun e => hne (by rw [e]))⟩

set_option maxHeartbeats 1000000 in
theorem days1_seq (n : Nat) (hn : 3 ≤ n) (d : Int) (w : World) (hst : Start s d) (hc : chk we hs = 0) (hD : DaysAt w B0 Bc Bd Bs v0 v1 we hs s d) :
    SeqSt Fence.wide n Try.prog 101 #[.pointer (some ⟨Bd, 0, none⟩), .pointer (some ⟨Bs, 0, none⟩), .pointer (some ⟨Bc, 0, none⟩)] (fun x : Int => #[.int .i64 x]) (blR (isB we hs) s d) (daysS B0 Bc Bd Bs) Bd w := by
  intro l J Jx W hb hJ hJx hY h0
  refine callsIn_of_wp Try.func101 rfl trivial ?_ rfl
  simp only [Try.ntmps101, List.size_toArray, List.length_cons, List.length_nil, Nat.reduceAdd, Nat.reduceSub, Array.replicate_succ, Array.replicate_zero, List.push_toArray, List.append_toArray, List.nil_append, List.cons_append]
  have hDW : DaysAt W B0 Bc Bd Bs v0 v1 we hs s d :=
    ⟨hD.bd.below hb hD.bd.lt, hD.bs.below hb hD.bs.lt, hD.bc.below hb hD.bc.lt, (hD.i0.below (hb.mono hD.le)), (hD.i1.below (hb.mono hD.le)), Nat.le_trans hD.le hb.size, hD.ne⟩
  obtain ⟨-, -, sb3, sb4⟩ := hst.bounds
  have HJ := Lib.hid hJ
  have HJX := Lib.hid hJx
  have HY := Lib.hid hY
  clear hJ hJx hY hD
  gi_wp2
  gi_loopw [5] (fun _ wr => ∃ (pre : List Int) (x : Int), J pre wr ∧ Hid (blR (isB we hs) s d = pre ++ blR (isB we hs) s x) ∧ Hid (Start s x) ∧ Hid (DaysAt wr B0 Bc Bd Bs v0 v1 we hs s x))
    (fun _ wr => room s (cellI wr Bd))
  case atStart => exact ⟨[], d, h0, Lib.hid rfl, Lib.hid hst, Lib.hid hDW⟩
  case round =>
    obtain ⟨pre, x, hJp, HX, HS, HD⟩ := hrel
    obtain ⟨x1, x2, -, -⟩ := HS.out.bounds
    have c0 : wr.cell? ⟨Bd, 0, none⟩ = some (.int .i64 x) := HD.out.bd.cell 0
    have c1 : wr.cell? ⟨Bs, 0, none⟩ = some (.int .i64 s) := HD.out.bs.cell 0
    have c2 : wr.cell? ⟨Bc, 0, none⟩ = some v0 := HD.out.bc.cell 0
    have c3 : wr.cell? ⟨Bc, 1, none⟩ = some v1 := HD.out.bc.cell 1
    have f0 : wr.frozen? ⟨Bd, 0, none⟩ = false := HD.out.bd.frozen 0
    have I0 := Lib.hid (HD.out.i0.more (B' := wr.heap.size) HD.out.le)
    have I1 := Lib.hid (HD.out.i1.more (B' := wr.heap.size) HD.out.le)
    cases hv : vB x
    · gi_wp2_with (refine ⟨trivial, fun _ => (by omega), ?_⟩; gi_at_call 99; refine (callsIn_wide.2 (valid_any _ _)).mono ?_; rintro e w' ⟨rfl, rfl⟩)
      go_end0
      exact ⟨⟨_, rfl⟩, .inl (by rw [HX.out, blR_out HS.out hv, List.append_nil]; exact hJp)⟩
    · have hJa : J pre (wr.alloc (.cells #[v0, v1] 25)) := HJ.out _ _ _ hJp (grown_alloc _ _ _)
      have HDa := Lib.hid (HD.out.alloc (.cells #[v0, v1] 25))
      have a0 : (wr.alloc (.cells #[v0, v1] 25)).cell? ⟨Bd, 0, none⟩ = some (.int .i64 x) := HDa.out.bd.cell 0
      have a1 : (wr.alloc (.cells #[v0, v1] 25)).cell? ⟨Bs, 0, none⟩ = some (.int .i64 s) := HDa.out.bs.cell 0
      have a2 : (wr.alloc (.cells #[v0, v1] 25)).frozen? ⟨Bd, 0, none⟩ = false := HDa.out.bd.frozen 0
      cases hp : isB we hs x
      · gi_wp2_with (first | (refine ⟨trivial, fun _ => (by omega), ?_⟩; gi_at_call 99; refine (callsIn_wide.2 (valid_any _ _)).mono ?_; rintro e w' ⟨rfl, rfl⟩) | (refine ⟨trivial, fun _ => (by omega), ?_⟩; gi_at_call 76; refine (callsIn_wide.2 (business_any _ _ we hs _ _ I0.out I1.out hc)).mono ?_; rintro e w' ⟨rfl, rfl⟩))
        refine ⟨fun _ h => (by cases h), ?_⟩
        gi_wp2
        go_roundw
        case rel => exact ⟨pre, x + s, HJ.out _ _ _ hJa (grown_set _ _ _), Lib.hid (by rw [HX.out, blR_no HS.out hv hp]), Lib.hid (HS.out.next hv), Lib.hid (HDa.out.step _)⟩
        case measure => rw [cellI_box (HDa.out.step (x + s)).bd, cellI_box HD.out.bd, room_in HS.out hv]; omega
      · obtain ⟨fn, tmps, assign, body, hy, hR⟩ := HY.out pre x _ hJa (by rw [HX.out, blR_yes HS.out hv hp]; exact ⟨blR (isB we hs) s (x + s), by simp⟩)
        have HR := Lib.hid hR
        clear hR
        gi_wp2_with (first | (refine ⟨trivial, fun _ => (by omega), ?_⟩; gi_at_call 99; refine (callsIn_wide.2 (valid_any _ _)).mono ?_; rintro e w' ⟨rfl, rfl⟩) | (refine ⟨trivial, fun _ => (by omega), ?_⟩; gi_at_call 76; refine (callsIn_wide.2 (business_any _ _ we hs _ _ I0.out I1.out hc)).mono ?_; rintro e w' ⟨rfl, rfl⟩))
        refine ⟨fun _ => (by omega), ?_⟩
        refine HR.out.mono ?_
        rintro e W3 (⟨rfl, hJ3, hk3⟩ | ⟨rfl, hJx3⟩)
        · have HD3 := Lib.hid (HDa.out.kept hk3)
          have b0 : W3.cell? ⟨Bd, 0, none⟩ = some (.int .i64 x) := HD3.out.bd.cell 0
          have b1 : W3.cell? ⟨Bs, 0, none⟩ = some (.int .i64 s) := HD3.out.bs.cell 0
          have b2 : W3.frozen? ⟨Bd, 0, none⟩ = false := HD3.out.bd.frozen 0
          gi_wp2
          go_roundw
          case rel => exact ⟨pre ++ [x], x + s, HJ.out _ _ _ hJ3 (grown_set _ _ _), Lib.hid (by rw [HX.out, blR_yes HS.out hv hp]; simp), Lib.hid (HS.out.next hv), Lib.hid (HD3.out.step _)⟩
          case measure => rw [cellI_box (HD3.out.step (x + s)).bd, cellI_box HD.out.bd, room_in HS.out hv]; omega
        · gi_wp2
          refine bodyPost_ret (results_none rfl _ _ _) rfl ?_
          exact ⟨⟨_, rfl⟩, .inr ⟨pre ++ [x], by rw [HX.out, blR_yes HS.out hv hp]; exact ⟨blR (isB we hs) s (x + s), by simp⟩, hJx3⟩⟩

theorem below_chg {n0 B Bd : Nat} {w A A' : World} (h : Below n0 w A) (k : Chg B Bd A A') (h1 : n0 ≤ B) (h2 : n0 ≤ Bd) : Below n0 w A' :=
  ⟨k.os.trans h.os, k.tape.trans h.tape, k.output.trans h.output, Nat.le_trans h.size k.size, fun b hb => (k.block b (by omega) (by omega)).trans (h.block b hb)⟩

theorem kept_set {B b : Nat} {S : Nat → Prop} {W : World} (h : b < B) (hS : ¬ S b) (v : Value) : Kept B S W (W.setCell ⟨b, 0, none⟩ v) :=
  ⟨by simp [World.setCell], fun k _ hk => Below.heap_setCell W _ _ k (by
    rintro rfl
    rcases hk with hk | hk
    · exact absurd hk (by simpa using h)
    · exact hS hk)⟩
theorem Kept.trans {B : Nat} {S : Nat → Prop} {U V W : World} (h : Kept B S U V) (k : Kept B S V W) : Kept B S U W :=
  ⟨Nat.le_trans h.size k.size, fun b hb hs => (k.block b (Nat.lt_of_lt_of_le hb h.size) hs).trans (h.block b hb hs)⟩

theorem days_any (v0 v1 : Value) (d s : Int) (w : World) :
    Calls Try.prog 71 #[.agg #[v0, v1], .int .i64 d, .int .i64 s] w fun e w' =>
      e = .returned (.func (.func 101) #[] #[.pointer (some ⟨w.heap.size + 1, 0, none⟩), .pointer (some ⟨w.heap.size + 1 + 1, 0, none⟩), .pointer (some ⟨w.heap.size, 0, none⟩)]) ∧
        ((w.alloc (.cells #[v0, v1] 25)).alloc (.cells #[.int .i64 d] 26)).alloc (.cells #[.int .i64 s] 26) = w' := by
  go_enter Try.func71, Try.ntmps71
  go_wp2
  go_ret
  exact ⟨rfl, rfl⟩

set_option maxHeartbeats 1000000 in
theorem first_any (v0 v1 : Value) (we hs : List Int) (d s : Int) (w : World) (h0 : IntsAt w w.heap.size v0 we) (h1 : IntsAt w w.heap.size v1 hs) (hst : Start s d) (hc : chk we hs = 0) :
    Calls Try.prog 70 #[.agg #[v0, v1], .int .i64 d, .int .i64 s] w fun e w' => e = .returned (.tuple #[.int .i64 (oV (firstO we hs s d)), .int .i64 (oE (firstO we hs s d))]) ∧ Below w.heap.size w w' := by
  refine (callsIn_wide (n := 8)).1 ?_
  refine callsIn_of_wp_marks Try.func70 rfl trivial ?_ rfl
  simp only [Try.ntmps70, List.size_toArray, List.length_cons, List.length_nil, Nat.reduceAdd, Nat.reduceSub, Array.replicate_succ, Array.replicate_zero, List.push_toArray, List.append_toArray, List.nil_append, List.cons_append]
  gi_wp2_with fail
  refine ⟨trivial, ?_⟩
  refine (callsIn_wide.2 (days_any _ _ _ _ _)).mono ?_
  rintro e w' ⟨rfl, rfl⟩
  gi_wp2
  have hgB : ∀ o1 o2 o3 o4 o5 o6, Below w.heap.size w ((((((w.alloc o1).alloc o2).alloc o3).alloc o4).alloc o5).alloc o6) := fun o1 o2 o3 o4 o5 o6 =>
    ((((((Below.refl _ _).alloc (Nat.le_refl _) o1).alloc (by simp) o2).alloc (by simp; omega) o3).alloc (by simp; omega) o4).alloc (by simp; omega) o5).alloc (by simp; omega) o6
  obtain ⟨W0, hW0⟩ : ∃ W0, ((((((w.alloc (.cells #[v0, v1] 25)).alloc (.cells #[.int .i64 0] 26)).alloc (.cells #[.int .i64 0] 32)).alloc (.cells #[v0, v1] 25)).alloc (.cells #[.int .i64 d] 26)).alloc (.cells #[.int .i64 s] 26)) = W0 := ⟨_, rfl⟩
  rw [hW0]
  have hsz : W0.heap.size = w.heap.size + 6 := by rw [← hW0]; simp
  have hBW : Below w.heap.size w W0 := by rw [← hW0]; exact hgB _ _ _ _ _ _
  have b1 : Box W0 (w.heap.size + 1) 26 #[.int .i64 0] := by
    rw [← hW0]; have := Box.new (w.alloc (.cells #[v0, v1] 25)) 26 #[.int .i64 0]; rw [World.size_alloc] at this; exact (((this.alloc _).alloc _).alloc _).alloc _
  have b2 : Box W0 (w.heap.size + 1 + 1) 32 #[.int .i64 0] := by
    rw [← hW0]; have := Box.new ((w.alloc (.cells #[v0, v1] 25)).alloc (.cells #[.int .i64 0] 26)) 32 #[.int .i64 0]; simp only [World.size_alloc] at this; exact ((this.alloc _).alloc _).alloc _
  have b3 : Box W0 (w.heap.size + 1 + 1 + 1) 25 #[v0, v1] := by
    rw [← hW0]; have := Box.new (((w.alloc (.cells #[v0, v1] 25)).alloc (.cells #[.int .i64 0] 26)).alloc (.cells #[.int .i64 0] 32)) 25 #[v0, v1]; simp only [World.size_alloc] at this; exact (this.alloc _).alloc _
  have b4 : Box W0 (w.heap.size + 1 + 1 + 1 + 1) 26 #[.int .i64 d] := by
    rw [← hW0]; have := Box.new ((((w.alloc (.cells #[v0, v1] 25)).alloc (.cells #[.int .i64 0] 26)).alloc (.cells #[.int .i64 0] 32)).alloc (.cells #[v0, v1] 25)) 26 #[.int .i64 d]; simp only [World.size_alloc] at this; exact this.alloc _
  have b5 : Box W0 (w.heap.size + 1 + 1 + 1 + 1 + 1) 26 #[.int .i64 s] := by
    rw [← hW0]; have := Box.new (((((w.alloc (.cells #[v0, v1] 25)).alloc (.cells #[.int .i64 0] 26)).alloc (.cells #[.int .i64 0] 32)).alloc (.cells #[v0, v1] 25)).alloc (.cells #[.int .i64 d] 26)) 26 #[.int .i64 s]; simp only [World.size_alloc] at this; exact this
  clear hW0 hgB
  have hD : DaysAt W0 w.heap.size (w.heap.size + 1 + 1 + 1) (w.heap.size + 1 + 1 + 1 + 1) (w.heap.size + 1 + 1 + 1 + 1 + 1) v0 v1 we hs s d :=
    ⟨b4, b5, b3, h0.below hBW, h1.below hBW, by omega, by omega⟩
  refine wpIn_range_st (xs := blR (isB we hs) s d) rfl (by omega) (gf := 101) (lb := #[.pointer (some ⟨w.heap.size + 1 + 1 + 1 + 1, 0, none⟩), .pointer (some ⟨w.heap.size + 1 + 1 + 1 + 1 + 1, 0, none⟩), .pointer (some ⟨w.heap.size + 1 + 1 + 1, 0, none⟩)]) rfl trivial (enters_of Try.func101 (by kernel_rfl) rfl)
    (Bd := w.heap.size + 1 + 1 + 1 + 1) (by omega) (fun b hb => by unfold daysS at hb; omega) (days1_seq 7 (by omega) d W0 hst hc hD) (fun _ => rfl)
    (fun pre W => pre = [] ∧ Below w.heap.size w W ∧ Box W (w.heap.size + 1) 26 #[.int .i64 0] ∧ Box W (w.heap.size + 1 + 1) 32 #[.int .i64 0])
    (fun c pre W => c = .ret ∧ ∃ x, pre = [x] ∧ Below w.heap.size w W ∧ Box W (w.heap.size + 1) 26 #[.int .i64 x] ∧ Box W (w.heap.size + 1 + 1) 32 #[.int .i64 0])
    (fun pre A B hs' hg' => ⟨hs'.1, below_chg hs'.2.1 hg' (by omega) (by omega), hs'.2.2.1.same (hg'.block _ (by omega) (by omega)), hs'.2.2.2.same (hg'.block _ (by omega) (by omega))⟩)
    (fun c pre A B hs' hg' => by
      obtain ⟨rfl, x, rfl, h1, h2, h3⟩ := hs'
      exact ⟨rfl, x, rfl, below_chg h1 hg' (by omega) (by omega), h2.same (hg'.block _ (by omega) (by omega)), h3.same (hg'.block _ (by omega) (by omega))⟩)
    ⟨rfl, hBW, b1, b2⟩
    (fun x => { tmps := #[.agg #[v0, v1], .int .i64 d, .int .i64 s, .pointer (some ⟨w.heap.size, 0, none⟩), undef, undef, .pointer (some ⟨w.heap.size + 1, 0, none⟩), .pointer (some ⟨w.heap.size + 1 + 1, 0, none⟩), .int .i64 x, .agg #[v0, v1], .int .i64 d, .int .i64 s, .func (.func 101) #[] #[.pointer (some ⟨w.heap.size + 1 + 1 + 1 + 1, 0, none⟩), .pointer (some ⟨w.heap.size + 1 + 1 + 1 + 1 + 1, 0, none⟩), .pointer (some ⟨w.heap.size + 1 + 1 + 1, 0, none⟩)], .int .i64 x, undef], defers := [] }) ?assign ?body ?done ?stop
  case assign =>
    intro l x W K hK
    gi_wp2
    exact hK
  case body =>
    rintro l pre x W hWs ⟨rfl, hB, q1, q2⟩ hpre
    have c1 := q1.cell 0
    have c2 := q2.cell 0
    have f1 := q1.frozen 0
    have f2 := q2.frozen 0
    simp only [List.getElem?_toArray, List.getElem?_cons_zero] at c1 c2
    gi_wp2
    exact ⟨(kept_set (by omega) (by unfold daysS; omega) _).trans (kept_set (by omega) (by unfold daysS; omega) _), rfl, x, rfl, (hB.setCell (p := ⟨w.heap.size + 1, 0, none⟩) (by simp) _).setCell (p := ⟨w.heap.size + 1 + 1, 0, none⟩) (by simp; omega) _,
      (q1.set 0 _).far (p := ⟨w.heap.size + 1 + 1, 0, none⟩) (by simp) _, (q2.far (p := ⟨w.heap.size + 1, 0, none⟩) (by simp) _).set 0 _⟩
  case done =>
    rintro D W hD' ⟨hx, hB, q1, q2⟩ hK
    have c1 := q1.cell 0
    have c2 := q2.cell 0
    have f1 := q1.frozen 0
    have f2 := q2.frozen 0
    simp only [List.getElem?_toArray, List.getElem?_cons_zero] at c1 c2
    gi_wp2
    have hf : firstO we hs s d = none := by rw [firstO, hx]; rfl
    have r1 := ((q1.set 0 (.int .i64 0)).far (p := ⟨w.heap.size + 1 + 1, 0, none⟩) (by simp) (.int .i64 13))
    have r2 := ((q2.far (p := ⟨w.heap.size + 1, 0, none⟩) (by simp) (.int .i64 0)).set 0 (.int .i64 13))
    have hB2 := (hB.setCell (p := ⟨w.heap.size + 1, 0, none⟩) (by simp) (.int .i64 0)).setCell (p := ⟨w.heap.size + 1 + 1, 0, none⟩) (by simp; omega) (.int .i64 13)
    have hK2 : ((W.setCell ⟨w.heap.size + 1, 0, none⟩ (.int .i64 0)).setCell ⟨w.heap.size + 1 + 1, 0, none⟩ (.int .i64 13)).heap[D]? = some (.deferred (some [])) :=
      (Below.heap_setCell _ _ _ D (by simp; omega)).trans ((Below.heap_setCell _ _ _ D (by simp; omega)).trans hK)
    clear c1 c2 f1 f2
    generalize (W.setCell ⟨w.heap.size + 1, 0, none⟩ (.int .i64 0)).setCell ⟨w.heap.size + 1 + 1, 0, none⟩ (.int .i64 13) = W2 at *
    refine ⟨by simp, .inl ⟨_, _, rfl, run_takeDeferred hK2, ?_⟩⟩
    have s1 := (r1.same (w' := W2.putObj D (.deferred none)) (World.putObj_heap_other (by omega))).cell 0
    have s2 := (r2.same (w' := W2.putObj D (.deferred none)) (World.putObj_heap_other (by omega))).cell 0
    refine ⟨_, (by simp [results, Try.results70, go_sem, s1, s2]; rfl), by rw [hf]; rfl, ?_⟩
    exact hB2.trans (belowK_b (w := w) (Nat.le_refl _) W2 D _ _ (by omega) hK2 rfl rfl)
  case stop =>
    rintro D c pre W hD' hpre ⟨rfl, x, rfl, hB, q1, q2⟩ hK
    gi_wp2
    have hf : firstO we hs s d = some x := by
      obtain ⟨t, ht⟩ := hpre
      rw [firstO, ← ht]; rfl
    refine ⟨by simp, .inl ⟨_, _, rfl, run_takeDeferred hK, ?_⟩⟩
    have s1 := (q1.same (w' := W.putObj D (.deferred none)) (World.putObj_heap_other (by omega))).cell 0
    have s2 := (q2.same (w' := W.putObj D (.deferred none)) (World.putObj_heap_other (by omega))).cell 0
    refine ⟨_, (by simp [results, Try.results70, go_sem, s1, s2]; rfl), by rw [hf]; rfl, ?_⟩
    exact hB.trans (belowK_b (w := w) (Nat.le_refl _) W D _ _ (by omega) hK rfl rfl)

theorem ints_one {b : Nat} (w : World) (d : Int) (t : TypeId) (hb : b = w.heap.size) : IntsAt (w.alloc (.cells #[.int .i64 d] t)) (w.alloc (.cells #[.int .i64 d] t)).heap.size (.slice (some ⟨b, 0, none⟩) 1 1) [d] := by
  subst hb
  exact ⟨_, _, rfl, by simp, fun _ => ⟨w.heap.size, 0, rfl, by simp, fun i hi => by
    obtain rfl : i = 0 := by simpa using hi
    simp⟩⟩
theorem ints_two {b : Nat} (w : World) (d e : Int) (t : TypeId) (hb : b = w.heap.size) : IntsAt (w.alloc (.cells #[.int .i64 d, .int .i64 e] t)) (w.alloc (.cells #[.int .i64 d, .int .i64 e] t)).heap.size (.slice (some ⟨b, 0, none⟩) 2 2) [d, e] := by
  subst hb
  exact ⟨_, _, rfl, by simp, fun _ => ⟨w.heap.size, 0, rfl, by simp, fun i hi => by
    have : i < 2 := by simpa using hi
    rcases (show i = 0 ∨ i = 1 by omega) with rfl | rfl <;> simp⟩⟩

def nextV (we hs : List Int) (s d : Int) : Int := if chkD we hs [d] = 0 then oV (firstO we hs s d) else 0
def nextE (we hs : List Int) (s d : Int) : Int := if chkD we hs [d] = 0 then oE (firstO we hs s d) else chkD we hs [d]

set_option maxHeartbeats 400000 in
theorem Next_any (v0 v1 : Value) (we hs : List Int) (d : Int) (w : World) (h0 : IntsAt w w.heap.size v0 we) (h1 : IntsAt w w.heap.size v1 hs) :
    Calls Try.prog 29 #[.agg #[v0, v1], .int .i64 d] w fun e w' => e = .returned (.tuple #[.int .i64 (nextV we hs 1 d), .int .i64 (nextE we hs 1 d)]) ∧ Below w.heap.size w w' := by
  have HBA := Lib.hid (show ∀ o o', Below w.heap.size w ((w.alloc o).alloc o') from fun o o' => ((Below.refl _ _).alloc (Nat.le_refl _) o).alloc (by simp) o')
  have H0 := Lib.hid h0
  have H1 := Lib.hid h1
  clear h0 h1
  go_enter Try.func29, Try.ntmps29
  go_wp2_with fail
  refine (check_any _ _ _ we hs [d] _ (ints_alloc (ints_alloc H0.out _) _) (ints_alloc (ints_alloc H1.out _) _) (ints_one _ _ _ (by simp))).mono ?_
  rintro e w1 ⟨rfl, hb⟩
  have hz1 : w.heap.size + 1 + 1 ≤ w1.heap.size := by have := hb.size; simpa using this
  have c0 : w1.cell? ⟨w.heap.size, 0, none⟩ = some v0 := cell_of_below hb (by simp; omega) (by simp)
  have c1 : w1.cell? ⟨w.heap.size, 1, none⟩ = some v1 := cell_of_below hb (by simp; omega) (by simp)
  have HBW := Lib.hid ((HBA.out _ _).trans (hb.mono (by simp; omega)))
  clear hb
  by_cases hc : chkD we hs [d] = 0
  · have e1 : (chkD we hs [d] != 0) = false := by simp [hc]
    obtain ⟨hck, hv⟩ := chkD_one hc
    have HC := Lib.hid hc
    have HK := Lib.hid hck
    have HV := Lib.hid hv
    clear hc hck hv
    go_wp2_with fail
    refine (first_any _ _ we hs d 1 _ (ints_later H0.out HBW.out (Nat.le_refl _)) (ints_later H1.out HBW.out (Nat.le_refl _)) (Start.of_valid (.inl rfl) HV.out) HK.out).mono ?_
    rintro e w2 ⟨rfl, hb2⟩
    have HB2 := Lib.hid hb2
    clear hb2
    go_wp2
    go_ret2
    exact ⟨ret_two (by rw [nextV, if_pos HC.out]) (by rw [nextE, if_pos HC.out]), HBW.out.trans (HB2.out.mono (by omega))⟩
  · have e1 : (chkD we hs [d] != 0) = true := by simp [hc]
    have HC := Lib.hid hc
    clear hc
    go_wp2
    go_ret2
    exact ⟨ret_two (by rw [nextV, if_neg HC.out]) (by rw [nextE, if_neg HC.out]), HBW.out⟩
end Go.Proofs.Ytilbolgncpfmmaa
