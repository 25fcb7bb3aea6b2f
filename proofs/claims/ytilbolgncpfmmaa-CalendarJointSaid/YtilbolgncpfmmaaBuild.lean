/- The walk of schedule's Build, for this seat. -/
import Derived.Test.YtilbolgncpfmmaaInner
import Derived.Test.YtilbolgncpfmmaaSchA
import Derived.Test.YtilbolgncpfmmaaSortDay
import Derived.Test.YtilbolgncpfmmaaRangeG
import Derived.Deep.RegionHeld3
import Derived.Deep.AppendLies
import Derived.Maps.OwnIn
import Derived.Maps.AppendAt
import Derived.Sort.OwnSortedInts
namespace Go.Proofs.Ytilbolgncpfmmaa
open Go.RowKit Go.Shelf
attribute [local go_sem] Oper.semAt_some

def prs : List Int → List (Int × Int)
  | x :: y :: t => (x, y) :: prs (y :: t)
  | _ => []
def sRight (a b : Int) : Bool := vB a && vB b && decide (a < b)
/-- Build's error -/
def bE (a b m s : Int) : Int := if sck (sRight a b) m s = 0 then (if 399 < (inR a b m s m).length then 4 else 0) else sck (sRight a b) m s
/-- all ends, in order -/
def ends (a b m s : Int) : List Int := (a :: b :: inR a b m s m).mergeSort (fun x y => decide (x ≤ y))
def bL (a b m s : Int) : List (Int × Int) := if bE a b m s = 0 then prs (ends a b m s) else []

/-- the slice value v reads as the periods ps; its row lies below B -/
def PersAt (w : World) (B : Nat) (v : Value) (ps : List (Int × Int)) : Prop :=
  ∃ A c, v = .slice A ps.length c ∧ ps.length ≤ c ∧ ps.length ≤ 9223372036854775807 ∧ (0 < ps.length → ∃ b off, A = some ⟨b, off, none⟩ ∧ b < B ∧ ∀ i, i < ps.length → w.cell? ⟨b, off + i * 2, none⟩ = some (.int .i64 (ps[i]?.getD (0, 0)).1) ∧ w.cell? ⟨b, off + i * 2 + 1, none⟩ = some (.int .i64 (ps[i]?.getD (0, 0)).2))

def BPost (a b m s : Int) (w : World) (e : Ending) (w' : World) : Prop :=
  ∃ v, e = .returned (.tuple #[v, .int .i64 (bE a b m s)]) ∧ PersAt w' w'.heap.size v (bL a b m s) ∧ (∀ q, v.ownBlock = some q → w.heap.size ≤ q) ∧ Below w.heap.size w w'

theorem pers_nil (w : World) (B : Nat) : PersAt w B (.slice none 0 0) [] := ⟨none, 0, rfl, by simp, by simp, fun h => by simp at h⟩

theorem sck_zero {m s : Int} (h : sck true m s = 0) : 1 ≤ m ∧ m ≤ 4800 ∧ (s = 1 ∨ s = 2) := by
  rw [sck, if_pos rfl] at h
  split at h
  · omega
  · split at h
    · omega
    · omega
theorem bpost_err {a b m s x : Int} {w w' : World} (h : sck (sRight a b) m s ≠ 0) (hx : sck (sRight a b) m s = x) (hb : Below w.heap.size w w') :
    BPost a b m s w (.returned (.tuple #[.slice none 0 0, .int .i64 x])) w' := by
  have he : bE a b m s = x := by rw [bE, if_neg h, hx]
  refine ⟨_, by rw [he], ?_, fun q hq => by simp [Value.ownBlock] at hq, hb⟩
  rw [bL, he, if_neg (by rw [← hx]; exact h)]
  exact pers_nil _ _

theorem Try.info26 : (Try.prog.info? 26).map (fun i => (i.zero, i.size, i.bytes)) = some (some (.int .i64 0), 1, 8) := by kernel_rfl
theorem Try.info28 : (Try.prog.info? 28).map (fun i => (i.zero, i.size, i.bytes)) = some (some (.agg #[.int .i64 0, .int .i64 0]), 2, 16) := by kernel_rfl

/-- what Build has in memory between the rounds -/
structure BI (N : Nat) (w : World) (a b : Int) (pre : List Int) (W : World) (g c : Nat) : Prop where
  bel : Below N w W
  r1 : Box W (N + 1) 50 #[.slice none 0 0]
  r2 : Box W (N + 1 + 1) 32 #[.int .i64 0]
  cell : Box W (N + 1 + 1 + 1 + 1 + 1) 23 #[.slice (some ⟨g, 0, none⟩) (pre.length + 2) c]
  own : W.ownsRow N 26 1 (.slice (some ⟨g, 0, none⟩) (pre.length + 2) c) (pre.length + 2) ((a :: b :: pre).map (Value.int .i64))
  far : g = N + 4 ∨ N + 11 ≤ g
  len : pre.length ≤ 399
def BIe (N : Nat) (w : World) (a b : Int) (pre : List Int) (W : World) : Prop := ∃ g c, BI N w a b pre W g c
def BX (N : Nat) (w : World) (pre : List Int) (W : World) : Prop :=
  Below N w W ∧ Box W (N + 1) 50 #[.slice none 0 0] ∧ Box W (N + 1 + 1) 32 #[.int .i64 4] ∧ 400 ≤ pre.length

theorem own_same {W W' : World} {N e z g c n : Nat} {xs : List Value} (h : W.ownsRow N e z (.slice (some ⟨g, 0, none⟩) n c) n xs) (hb : W'.heap[g]? = W.heap[g]?) : W'.ownsRow N e z (.slice (some ⟨g, 0, none⟩) n c) n xs := by
  obtain ⟨h1, h2⟩ := h
  refine ⟨h1, ?_⟩
  rcases h2 with ⟨h2, -⟩ | ⟨g', cap, cur, hv, h3, h4, h5⟩
  · simp at h2
  · obtain ⟨rfl, rfl⟩ : g' = g ∧ cap = c := by simp at hv; exact ⟨hv.1.symm, hv.2.symm⟩
    exact .inr ⟨g', cap, cur, rfl, h3, hb.trans h4, h5⟩
theorem own_lt {W : World} {N e z g c n : Nat} {xs : List Value} (h : W.ownsRow N e z (.slice (some ⟨g, 0, none⟩) n c) n xs) : N ≤ g ∧ g < W.heap.size := h.lt g rfl
theorem own_shape {W : World} {N e z n : Nat} {v : Value} {xs : List Value} (h : W.ownsRow N e z v n xs) (hn : 0 < n) : ∃ g c, v = .slice (some ⟨g, 0, none⟩) n c := by
  rcases h.2 with ⟨-, h2⟩ | ⟨g, c, cur, hv, -⟩
  · omega
  · exact ⟨g, c, hv⟩

theorem below_chgG {N B Bd : Nat} {w A A' : World} (h : Below N w A) (k : ChgG B Bd A A') (h1 : N ≤ B) (h2 : N ≤ Bd) (h3 : N ≤ A.heap.size) : Below N w A' :=
  ⟨k.os.trans h.os, k.tape.trans h.tape, k.output.trans h.output, Nat.le_trans h.size k.size, fun b hb => (k.block b (by omega) (by omega) (by omega) (by omega)).trans (h.block b hb)⟩
theorem BI.chg {N g c : Nat} {w A A' : World} {a b : Int} {pre : List Int} (h : BI N w a b pre A g c) (k : ChgG (N + 9) (N + 8) A A') : BI N w a b pre A' g c := by
  have s1 := h.r2.lt
  have s2 := h.cell.lt
  have s3 := h.far
  exact ⟨below_chgG h.bel k (by omega) (by omega) (by omega), h.r1.same (k.block _ (by omega) (by omega) (by omega) (by omega)), h.r2.same (k.block _ (by omega) (by omega) (by omega) (by omega)), h.cell.same (k.block _ (by omega) (by omega) (by omega) (by omega)),
    own_same h.own (k.block _ (own_lt h.own).2 (by omega) (by omega) (by omega)), h.far, h.len⟩
theorem BX.chg {N : Nat} {w A A' : World} {pre : List Int} (h : BX N w pre A) (k : ChgG (N + 9) (N + 8) A A') : BX N w pre A' := by
  obtain ⟨h1, h2, h3, h4⟩ := h
  have s1 := h3.lt
  exact ⟨below_chgG h1 k (by omega) (by omega) (by omega), h2.same (k.block _ (by omega) (by omega) (by omega) (by omega)), h3.same (k.block _ (by omega) (by omega) (by omega) (by omega)), h4⟩

theorem KeptG.trans {B : Nat} {S : Nat → Prop} {U V W : World} (h : KeptG B S U V) (k : KeptG B S V W) : KeptG B S U W :=
  ⟨Nat.le_trans h.size k.size, fun b hb hs => (k.block b (Nat.lt_of_lt_of_le hb h.size) hs).trans (h.block b hb hs)⟩
theorem keptG_set {B b : Nat} {S : Nat → Prop} {W : World} (h : b ≠ B) (h' : b ≠ B + 1) (hS : ¬ S b) (v : Value) : KeptG B S W (W.setCell ⟨b, 0, none⟩ v) :=
  ⟨by simp [World.setCell], fun k _ hk => Below.heap_setCell W _ _ k (by
    intro e
    obtain rfl : k = b := e
    rcases hk with hk | hk | hk
    · exact h hk
    · exact h' hk
    · exact hS hk)⟩

theorem sort_own {N g c L : Nat} {zs : List Int} {W : World} (hown : W.ownsRow N 26 1 (.slice (some ⟨g, 0, none⟩) L c) L (zs.map (Value.int .i64))) (hL : L = zs.length) (hs : zs.length ≤ 1000) :
    Calls Try.prog 85 #[.slice (some ⟨g, 0, none⟩) L c] W fun e w' => e = .returned (.tuple #[]) ∧ w'.ownsRow N 26 1 (.slice (some ⟨g, 0, none⟩) L c) L ((zs.mergeSort fun x y => decide (x ≤ y)).map (Value.int .i64)) ∧ W.grownBy w' (some g) := by
  subst hL
  rcases hown.2 with ⟨h0, _⟩ | ⟨g', cap', cur, hv, hg, hb, hn, hcap, hsz, ht⟩
  · cases h0
  obtain ⟨rfl, rfl⟩ : g = g' ∧ c = cap' := by simpa using hv
  refine (AnyG.slices_Sort_int Try.sortDay g 0 c zs W (holds_of_blockI hb (by simpa using ht)) (Array.getElem?_eq_some_iff.1 hb).1 (by omega)).mono ?_
  rintro e w' ⟨rfl, n, os, rfl⟩
  exact ⟨rfl, ownsRow_sortedI (by simp) hg hb hn hcap hsz, grownBy_sortedI _⟩

def flat (ps : List (Int × Int)) : List Value := ps.flatMap fun p => [.int .i64 p.1, .int .i64 p.2]
theorem flat_length (ps : List (Int × Int)) : (flat ps).length = 2 * ps.length := by
  induction ps with
  | nil => rfl
  | cons p t ih => simp [flat] at ih ⊢; omega
theorem flat_get (ps : List (Int × Int)) (i : Nat) (hi : i < ps.length) : (flat ps)[2 * i]? = some (.int .i64 (ps[i]?.getD (0, 0)).1) ∧ (flat ps)[2 * i + 1]? = some (.int .i64 (ps[i]?.getD (0, 0)).2) := by
  induction ps generalizing i with
  | nil => simp at hi
  | cons p t ih =>
    cases i with
    | zero => simp [flat]
    | succ i =>
      have := ih i (by simpa using hi)
      have e : flat (p :: t) = [.int .i64 p.1, .int .i64 p.2] ++ flat t := rfl
      rw [e, List.getElem?_append_right (by simp; omega), List.getElem?_append_right (by simp; omega)]
      simp only [List.length_cons, List.length_nil, List.getElem?_cons_succ]
      rw [show 2 * (i + 1) - (0 + 1 + 1) = 2 * i by omega, show 2 * (i + 1) + 1 - (0 + 1 + 1) = 2 * i + 1 by omega]
      exact this
theorem pers_own {w : World} {B n : Nat} {v : Value} {ps : List (Int × Int)} (h : w.ownsRow B 28 2 v n (flat ps)) (hs : ps.length ≤ 100000) : PersAt w w.heap.size v ps := by
  have hn : n = ps.length := by have := h.1; rw [flat_length] at this; omega
  subst hn
  rcases h.2 with ⟨rfl, h0⟩ | ⟨g, c, cur, rfl, hg, hb, hc, -, -, -⟩
  · have : ps = [] := List.length_eq_zero_iff.1 h0
    subst this
    exact pers_nil _ _
  · refine ⟨_, _, rfl, hc, by omega, fun _ => ⟨g, 0, rfl, (Array.getElem?_eq_some_iff.1 hb).1, fun i hi => ?_⟩⟩
    have := flat_get ps i hi
    have q1 := h.cellAt (2 * i) (by omega)
    have q2 := h.cellAt (2 * i + 1) (by omega)
    rw [show 0 + i * 2 = 2 * i by omega, q1, q2]
    exact this
theorem prs_length (zs : List Int) : (prs zs).length = zs.length - 1 := by
  induction zs with
  | nil => rfl
  | cons x t ih =>
    cases t with
    | nil => rfl
    | cons y t => simp only [prs, List.length_cons] at ih ⊢; omega
theorem prs_get (zs : List Int) (i : Nat) (hi : i + 1 < zs.length) : (prs zs)[i]? = some (zs[i]?.getD 0, zs[i + 1]?.getD 0) := by
  induction zs generalizing i with
  | nil => simp at hi
  | cons x t ih =>
    cases t with
    | nil => simp at hi
    | cons y t =>
      cases i with
      | zero => simp [prs]
      | succ i =>
        have := ih i (by simpa using hi)
        simp only [prs, List.getElem?_cons_succ] at this ⊢
        exact this
theorem flat_snoc (ps : List (Int × Int)) (x y : Int) : flat (ps ++ [(x, y)]) = flat ps ++ [.int .i64 x, .int .i64 y] := by simp [flat]
theorem prs_take (zs : List Int) (i : Nat) (hi : i + 1 < zs.length) : (prs zs).take (i + 1) = (prs zs).take i ++ [(zs[i]?.getD 0, zs[i + 1]?.getD 0)] := by
  rw [List.take_add_one, prs_get zs i hi]; rfl

theorem build_world (a b m s : Int) (w W0 : World) (h : W0 = (((((((((w.alloc (.cells #[.int .i64 a, .int .i64 b] 28)).alloc (.cells #[.slice none 0 0] 50)).alloc (.cells #[.int .i64 0] 32)).alloc (.cells #[.int .i64 a, .int .i64 b] 26)).alloc (.cells #[.int .i64 a, .int .i64 b] 26)).alloc
      (.cells #[.slice (some ⟨w.heap.size + 1 + 1 + 1 + 1, 0, none⟩) 2 2] 23)).alloc (.cells #[.int .i64 a, .int .i64 b] 28)).alloc (.cells #[.int .i64 m] 3)).alloc (.cells #[.int .i64 s] 3))) :
    W0.heap.size = w.heap.size + 9 ∧ BI w.heap.size w a b [] W0 (w.heap.size + 1 + 1 + 1 + 1) 2 ∧ InAt W0 (w.heap.size + 1 + 1 + 1 + 1 + 1 + 1) (w.heap.size + 1 + 1 + 1 + 1 + 1 + 1 + 1 + 1) (w.heap.size + 1 + 1 + 1 + 1 + 1 + 1 + 1) a b s m := by
  subst h
  refine ⟨by simp, ?_, ?_⟩
  · refine ⟨?_, ?_, ?_, ?_, ?_, .inl rfl, by simp⟩
    · exact (((((((((Below.refl _ _).alloc (Nat.le_refl _) _).alloc (by simp) _).alloc (by simp; omega) _).alloc (by simp; omega) _).alloc (by simp; omega) _).alloc (by simp; omega) _).alloc (by simp; omega) _).alloc (by simp; omega) _).alloc (by simp; omega) _
    · have := Box.new (w.alloc (.cells #[.int .i64 a, .int .i64 b] 28)) 50 #[.slice none 0 0]
      simp only [World.size_alloc] at this
      exact ((((((this.alloc _).alloc _).alloc _).alloc _).alloc _).alloc _).alloc _
    · have := Box.new ((w.alloc (.cells #[.int .i64 a, .int .i64 b] 28)).alloc (.cells #[.slice none 0 0] 50)) 32 #[.int .i64 0]
      simp only [World.size_alloc] at this
      exact (((((this.alloc _).alloc _).alloc _).alloc _).alloc _).alloc _
    · have := Box.new (((((w.alloc (.cells #[.int .i64 a, .int .i64 b] 28)).alloc (.cells #[.slice none 0 0] 50)).alloc (.cells #[.int .i64 0] 32)).alloc (.cells #[.int .i64 a, .int .i64 b] 26)).alloc (.cells #[.int .i64 a, .int .i64 b] 26)) 23 #[.slice (some ⟨w.heap.size + 1 + 1 + 1 + 1, 0, none⟩) 2 2]
      simp only [World.size_alloc] at this
      exact ((this.alloc _).alloc _).alloc _
    · have := Box.new ((((w.alloc (.cells #[.int .i64 a, .int .i64 b] 28)).alloc (.cells #[.slice none 0 0] 50)).alloc (.cells #[.int .i64 0] 32)).alloc (.cells #[.int .i64 a, .int .i64 b] 26)) 26 #[.int .i64 a, .int .i64 b]
      simp only [World.size_alloc] at this
      exact ⟨rfl, .inr ⟨_, 2, #[.int .i64 a, .int .i64 b], rfl, by omega, ((((this.alloc _).alloc _).alloc _).alloc _), by simp, by simp [maxLen], rfl, rfl⟩⟩
  · refine ⟨?_, ?_, ?_⟩
    · have := Box.new ((((((w.alloc (.cells #[.int .i64 a, .int .i64 b] 28)).alloc (.cells #[.slice none 0 0] 50)).alloc (.cells #[.int .i64 0] 32)).alloc (.cells #[.int .i64 a, .int .i64 b] 26)).alloc (.cells #[.int .i64 a, .int .i64 b] 26)).alloc
        (.cells #[.slice (some ⟨w.heap.size + 1 + 1 + 1 + 1, 0, none⟩) 2 2] 23)) 28 #[.int .i64 a, .int .i64 b]
      simp only [World.size_alloc] at this
      exact (this.alloc _).alloc _
    · have := Box.new ((((((((w.alloc (.cells #[.int .i64 a, .int .i64 b] 28)).alloc (.cells #[.slice none 0 0] 50)).alloc (.cells #[.int .i64 0] 32)).alloc (.cells #[.int .i64 a, .int .i64 b] 26)).alloc (.cells #[.int .i64 a, .int .i64 b] 26)).alloc
        (.cells #[.slice (some ⟨w.heap.size + 1 + 1 + 1 + 1, 0, none⟩) 2 2] 23)).alloc (.cells #[.int .i64 a, .int .i64 b] 28)).alloc (.cells #[.int .i64 m] 3)) 3 #[.int .i64 s]
      simp only [World.size_alloc] at this
      exact this
    · have := Box.new (((((((w.alloc (.cells #[.int .i64 a, .int .i64 b] 28)).alloc (.cells #[.slice none 0 0] 50)).alloc (.cells #[.int .i64 0] 32)).alloc (.cells #[.int .i64 a, .int .i64 b] 26)).alloc (.cells #[.int .i64 a, .int .i64 b] 26)).alloc
        (.cells #[.slice (some ⟨w.heap.size + 1 + 1 + 1 + 1, 0, none⟩) 2 2] 23)).alloc (.cells #[.int .i64 a, .int .i64 b] 28)) 3 #[.int .i64 m]
      simp only [World.size_alloc] at this
      exact this.alloc _

set_option maxRecDepth 4000 in
set_option maxHeartbeats 2000000 in
theorem Build_any (a b m s : Int) (w : World) : Calls Try.prog 40 #[.agg #[.int .i64 a, .int .i64 b], .int .i64 m, .int .i64 s] w (BPost a b m s w) := by
  refine (callsIn_wide (n := 8)).1 ?_
  refine callsIn_of_wp_marks Try.func40 rfl trivial ?_ rfl
  refine wpIn_wide.2 ?_
  simp only [Try.ntmps40, List.size_toArray, List.length_cons, List.length_nil, Nat.reduceAdd, Nat.reduceSub, Array.replicate_succ, Array.replicate_zero, List.push_toArray, List.append_toArray, List.nil_append, List.cons_append]
  go_wp2_with fail
  refine (svalid_any _ [a, b] _ (ints_two _ _ _ _ (by simp))).mono ?_
  rintro e w' ⟨rfl, rfl⟩
  have hrt : sRight a b = ([a, b].all vB && decide (a < b)) := by simp [sRight]
  have HB4 := Lib.hid (show ∀ o1 o2 o3 o4, Below w.heap.size w ((((w.alloc o1).alloc o2).alloc o3).alloc o4) from fun o1 o2 o3 o4 => ((((Below.refl _ _).alloc (Nat.le_refl _) o1).alloc (by simp) o2).alloc (by simp; omega) o3).alloc (by simp; omega) o4)
  have b1 : Box ((((w.alloc (.cells #[.int .i64 a, .int .i64 b] 28)).alloc (.cells #[.slice none 0 0] 50)).alloc (.cells #[.int .i64 0] 32)).alloc (.cells #[.int .i64 a, .int .i64 b] 26)) (w.heap.size + 1) 50 #[.slice none 0 0] := by
    have := Box.new (w.alloc (.cells #[.int .i64 a, .int .i64 b] 28)) 50 #[.slice none 0 0]
    simp only [World.size_alloc] at this
    exact (this.alloc _).alloc _
  have b2 : Box ((((w.alloc (.cells #[.int .i64 a, .int .i64 b] 28)).alloc (.cells #[.slice none 0 0] 50)).alloc (.cells #[.int .i64 0] 32)).alloc (.cells #[.int .i64 a, .int .i64 b] 26)) (w.heap.size + 1 + 1) 32 #[.int .i64 0] := by
    have := Box.new ((w.alloc (.cells #[.int .i64 a, .int .i64 b] 28)).alloc (.cells #[.slice none 0 0] 50)) 32 #[.int .i64 0]
    simp only [World.size_alloc] at this
    exact this.alloc _
  have HX1 := Lib.hid b1
  have HX2 := Lib.hid b2
  clear b1 b2
  cases hv : [a, b].all vB
  · rw [hv] at hrt
    have hr : sRight a b = false := hrt
    have HR := Lib.hid hr
    clear hrt hr hv
    go_wp2_with fail
    refine (scheck_any _ _ _ _).mono ?_
    rintro e w' ⟨rfl, rfl⟩
    have hne : (sck false m s != 0) = true := rfl
    go_wp2
    refine ⟨_, (by simp [results, Try.results40, go_sem]; rfl), ?_⟩
    exact bpost_err (by rw [HR.out]; exact (by decide : (1 : Int) ≠ 0)) (by rw [HR.out]) (HB4.out _ _ _ _)
  · cases hlt : decide (a < b)
    · rw [hv, hlt] at hrt
      have hr : sRight a b = false := hrt
      have HR := Lib.hid hr
      clear hrt hr hv
      go_wp2_with fail
      refine (scheck_any _ _ _ _).mono ?_
      rintro e w' ⟨rfl, rfl⟩
      have hne : (sck false m s != 0) = true := rfl
      go_wp2
      refine ⟨_, (by simp [results, Try.results40, go_sem]; rfl), ?_⟩
      exact bpost_err (by rw [HR.out]; exact (by decide : (1 : Int) ≠ 0)) (by rw [HR.out]) (HB4.out _ _ _ _)
    · rw [hv, hlt] at hrt
      have hr : sRight a b = true := hrt
      have HR := Lib.hid hr
      clear hrt hr hv
      go_wp2_with fail
      refine (scheck_any _ _ _ _).mono ?_
      rintro e w' ⟨rfl, rfl⟩
      cases hne : (sck true m s != 0)
      · have h0 : sck true m s = 0 := by simpa using hne
        obtain ⟨m1, m2, hs⟩ := sck_zero h0
        have H0 := Lib.hid (show sck (sRight a b) m s = 0 by rw [HR.out]; exact h0)
        clear h0
        go_wp2_with fail
        refine (inner_any _ _ _ _ _).mono ?_
        rintro e w' ⟨rfl, rfl⟩
        go_wp2
        generalize hW0 : World.alloc _ (Obj.cells #[Value.int .i64 s] 3) = W0
        obtain ⟨hsz, hbi, hin⟩ := build_world a b m s w W0 hW0.symm
        clear hW0 HB4 HX1 HX2
        have HM := Lib.hid (And.intro m1 m2)
        have HSS := Lib.hid hs
        clear m1 m2 hs
        refine (wpIn_wide (n := 8)).1 ?_
        refine wpIn_range_g (n := 8) (xs := inR a b m s m) rfl (by omega) (gf := 112) (lb := #[.pointer (some ⟨w.heap.size + 1 + 1 + 1 + 1 + 1 + 1, 0, none⟩), .pointer (some ⟨w.heap.size + 1 + 1 + 1 + 1 + 1 + 1 + 1 + 1, 0, none⟩), .pointer (some ⟨w.heap.size + 1 + 1 + 1 + 1 + 1 + 1 + 1, 0, none⟩)]) rfl trivial (enters_of Try.func112 (by kernel_rfl) rfl)
          (Bd := w.heap.size + 8) (by omega) (fun b hb => by unfold inS at hb; omega) (inner1_seq 7 (by omega) W0 HM.out.1 HM.out.2 hin) (fun _ => rfl)
          (fun pre W => BIe w.heap.size w a b pre W) (fun c pre W => c = .ret ∧ BX w.heap.size w pre W)
          (fun pre A B hs' hg' => by
            obtain ⟨g, c, h⟩ := hs'
            rw [hsz] at hg'
            exact ⟨g, c, h.chg hg'⟩)
          (fun c pre A B hs' hg' => by
            rw [hsz] at hg'
            exact ⟨hs'.1, hs'.2.chg hg'⟩)
          ⟨_, _, hbi⟩
          (fun x => { tmps := #[.agg #[.int .i64 a, .int .i64 b], .int .i64 m, .int .i64 s, .pointer (some ⟨w.heap.size, 0, none⟩), undef, undef, .pointer (some ⟨w.heap.size + 1, 0, none⟩), .pointer (some ⟨w.heap.size + 1 + 1, 0, none⟩), .int .i64 (sck true m s), .pointer (some ⟨w.heap.size + 1 + 1 + 1 + 1 + 1, 0, none⟩), .int .i64 x, undef, undef, .pointer (some ⟨w.heap.size, 0, none⟩), .int .i64 a, .pointer (some ⟨w.heap.size, 1, none⟩), .int .i64 b, .slice (some ⟨w.heap.size + 1 + 1 + 1, 0, none⟩) 2 2, .bool true, .bool true, .pointer (some ⟨w.heap.size, 0, none⟩), .int .i64 a, .pointer (some ⟨w.heap.size, 1, none⟩), .int .i64 b, .bool true, .bool true, .int .i64 m, .int .i64 s, .int .i64 (sck true m s), .int .i64 (sck true m s), .bool false, undef, .pointer (some ⟨w.heap.size, 0, none⟩), .int .i64 a, .pointer (some ⟨w.heap.size, 1, none⟩), .int .i64 b, .slice (some ⟨w.heap.size + 1 + 1 + 1 + 1, 0, none⟩) 2 2, .agg #[.int .i64 a, .int .i64 b], .int .i64 m, .int .i64 s, .func (.func 112) #[] #[.pointer (some ⟨w.heap.size + 1 + 1 + 1 + 1 + 1 + 1, 0, none⟩), .pointer (some ⟨w.heap.size + 1 + 1 + 1 + 1 + 1 + 1 + 1 + 1, 0, none⟩), .pointer (some ⟨w.heap.size + 1 + 1 + 1 + 1 + 1 + 1 + 1, 0, none⟩)], .int .i64 x, undef, undef, undef, undef, undef, undef, undef, undef, undef, undef, undef, undef, undef, undef, undef, undef, undef, undef, undef, undef, undef, undef, undef, undef, undef, undef, undef, undef, undef, undef], defers := [] }) ?assign ?body ?done ?stop
        case assign =>
          intro l x W K hK
          gi_wp2
          exact hK
        case body =>
          rintro l pre x W hWs ⟨g, c, hB⟩ hpre
          have HB := Lib.hid hB
          obtain ⟨L, hL⟩ : ∃ L, L = pre.length + 2 := ⟨_, rfl⟩
          have HOWN := Lib.hid (hL ▸ hB.own : W.ownsRow w.heap.size 26 1 (.slice (some ⟨g, 0, none⟩) L c) L ((a :: b :: pre).map (Value.int .i64)))
          have HCELL := Lib.hid (hL ▸ hB.cell : Box W (w.heap.size + 1 + 1 + 1 + 1 + 1) 23 #[.slice (some ⟨g, 0, none⟩) L c])
          have c0 : W.cell? ⟨w.heap.size + 1 + 1 + 1 + 1 + 1, 0, none⟩ = some (.slice (some ⟨g, 0, none⟩) L c) := HCELL.out.cell 0
          have f0 : W.frozen? ⟨w.heap.size + 1 + 1 + 1 + 1 + 1, 0, none⟩ = false := HCELL.out.frozen 0
          obtain ⟨i0, hi, hz0, hz1, hz2⟩ := info_parts Try.info26
          have HI := Lib.hid (And.intro hi (And.intro hz0 (And.intro hz1 hz2)))
          have hl1 : 2 ≤ L := by omega
          have hl9 : L ≤ 401 := by have := hB.len; omega
          have HL := Lib.hid hL
          clear hL
          have hsz2 := hB.bel.size
          clear hi hz0 hz1 hz2 hB
          gi_wp2_with (gi_at_builtin; refine wpListIn_append_own_at _ rfl _ _ 23 rfl w.heap.size 26 i0 (.int .i64 0) 1 8 Try.underlying23 HI.out.1 HI.out.2.1 HI.out.2.2.1 HI.out.2.2.2 rfl (by decide) _ _ _ rfl (HOWN.out.alloc _) ⟨W.heap.size, 0, none⟩ 1 1 [.int .i64 x] rfl rfl ?c1 ?c2 ?c3 ?c4 ?c5 ?_)
          case c1 =>
            intro j u hj
            match j, hj with
            | 0, hj => simp at hj; subst hj; simp [Addr.add]
          case c2 => intro u hu; simp at hu; subst hu; rfl
          case c3 => unfold maxLen; omega
          case c4 => omega
          case c5 => simp; omega
          intro v' w1 hown' hgrow hnil hat
          obtain ⟨g', c', rfl⟩ := own_shape hown' (by omega)
          have hg1 := (own_lt HB.out.own).1
          have hg2 := (own_lt HB.out.own).2
          have hgf := HB.out.far
          have hs1 := hgrow.size
          simp only [World.size_alloc] at hs1
          have hne : ∀ k, k < W.heap.size → k ≠ g → w1.heap[k]? = W.heap[k]? := fun k hk hkg => (hgrow.block k (by simp; omega) (by simp [Value.ownBlock]; omega)).trans (Below.heap_alloc W _ k hk)
          have q5 := HCELL.out.same (hne _ HCELL.out.lt (by omega))
          have q1 := HB.out.r1.same (hne _ HB.out.r1.lt (by omega))
          have q2 := HB.out.r2.same (hne _ HB.out.r2.lt (by omega))
          have hg' : g' = g ∨ g' = W.heap.size + 1 := by
            simp only [Value.ownBlock, Option.some.injEq] at hat
            exact hat
          have d0 : w1.cell? ⟨w.heap.size + 1 + 1 + 1 + 1 + 1, 0, none⟩ = some (.slice (some ⟨g, 0, none⟩) L c) := q5.cell 0
          have e0 : w1.frozen? ⟨w.heap.size + 1 + 1 + 1 + 1 + 1, 0, none⟩ = false := q5.frozen 0
          have hbel1 : Below w.heap.size w w1 := HB.out.bel.trans ⟨hgrow.os, hgrow.tape, hgrow.output, by omega, fun k hk => hne k (by omega) (by omega)⟩
          have q5' := q5.set 0 (.slice (some ⟨g', 0, none⟩) (L + 1) c')
          have q1' := q1.far (p := ⟨w.heap.size + 1 + 1 + 1 + 1 + 1, 0, none⟩) (by simp) (.slice (some ⟨g', 0, none⟩) (L + 1) c')
          have q2' := q2.far (p := ⟨w.heap.size + 1 + 1 + 1 + 1 + 1, 0, none⟩) (by simp) (.slice (some ⟨g', 0, none⟩) (L + 1) c')
          have hbel2 : Below w.heap.size w (w1.setCell ⟨w.heap.size + 1 + 1 + 1 + 1 + 1, 0, none⟩ (.slice (some ⟨g', 0, none⟩) (L + 1) c')) := hbel1.setCell (p := ⟨w.heap.size + 1 + 1 + 1 + 1 + 1, 0, none⟩) (by simp; omega) _
          have hown2 : (w1.setCell ⟨w.heap.size + 1 + 1 + 1 + 1 + 1, 0, none⟩ (.slice (some ⟨g', 0, none⟩) (L + 1) c')).ownsRow w.heap.size 26 1 (.slice (some ⟨g', 0, none⟩) (L + 1) c') (L + 1) ((a :: b :: (pre ++ [x])).map (Value.int .i64)) := by
            refine own_same (W := w1) ?_ (Below.heap_setCell _ _ _ _ (by simp; omega))
            simpa using hown'
          have kept1 : KeptG W0.heap.size (inS (w.heap.size + 1 + 1 + 1 + 1 + 1 + 1) (w.heap.size + 1 + 1 + 1 + 1 + 1 + 1 + 1 + 1) (w.heap.size + 1 + 1 + 1 + 1 + 1 + 1 + 1)) W (w1.setCell ⟨w.heap.size + 1 + 1 + 1 + 1 + 1, 0, none⟩ (.slice (some ⟨g', 0, none⟩) (L + 1) c')) :=
            ⟨by simp [World.setCell]; omega, fun k hk hh => by
              have hk2 : k ≠ w.heap.size + 1 + 1 + 1 + 1 + 1 ∧ k ≠ g := by unfold inS at hh; omega
              exact (Below.heap_setCell _ _ _ k (by simp; omega)).trans (hne k hk hk2.2)⟩
          have HQ := Lib.hid (And.intro hbel2 (And.intro hown2 kept1))
          have HQ2 := Lib.hid (And.intro q1' (And.intro q2' q5'))
          clear hown' hgrow hnil hat hbel1 hbel2 hown2 kept1 hne q5 q1 q2 q1' q2' q5' c0 f0
          have p0 : (w1.setCell ⟨w.heap.size + 1 + 1 + 1 + 1 + 1, 0, none⟩ (.slice (some ⟨g', 0, none⟩) (L + 1) c')).cell? ⟨w.heap.size + 1 + 1 + 1 + 1 + 1, 0, none⟩ = some (.slice (some ⟨g', 0, none⟩) (L + 1) c') := HQ2.out.2.2.cell 0
          have p1 : (w1.setCell ⟨w.heap.size + 1 + 1 + 1 + 1 + 1, 0, none⟩ (.slice (some ⟨g', 0, none⟩) (L + 1) c')).cell? ⟨w.heap.size + 1, 0, none⟩ = some (.slice none 0 0) := HQ2.out.1.cell 0
          have p2 : (w1.setCell ⟨w.heap.size + 1 + 1 + 1 + 1 + 1, 0, none⟩ (.slice (some ⟨g', 0, none⟩) (L + 1) c')).cell? ⟨w.heap.size + 1 + 1, 0, none⟩ = some (.int .i64 0) := HQ2.out.2.1.cell 0
          have p3 : (w1.setCell ⟨w.heap.size + 1 + 1 + 1 + 1 + 1, 0, none⟩ (.slice (some ⟨g', 0, none⟩) (L + 1) c')).frozen? ⟨w.heap.size + 1, 0, none⟩ = false := HQ2.out.1.frozen 0
          have p4 : (w1.setCell ⟨w.heap.size + 1 + 1 + 1 + 1 + 1, 0, none⟩ (.slice (some ⟨g', 0, none⟩) (L + 1) c')).frozen? ⟨w.heap.size + 1 + 1, 0, none⟩ = false := HQ2.out.2.1.frozen 0
          have HG := Lib.hid (And.intro hg1 (And.intro hg2 (And.intro hgf (And.intro hs1 (And.intro hg' (And.intro hsz2 (And.intro hWs hsz)))))))
          clear hg1 hg2 hgf hs1 hg' hsz2 hWs hsz
          by_cases h399 : 401 ≤ L
          · gi_wp2
            obtain ⟨hg1, hg2, hgf, hs1, hg', hsz2, hWs, hsz⟩ := HG.out
            have r1 := (HQ2.out.1.set 0 (.slice none 0 0)).far (p := ⟨w.heap.size + 1 + 1, 0, none⟩) (by simp) (.int .i64 4)
            have r2 := (HQ2.out.2.1.far (p := ⟨w.heap.size + 1, 0, none⟩) (by simp) (.slice none 0 0)).set 0 (.int .i64 4)
            refine ⟨(HQ.out.2.2.trans (keptG_set (by omega) (by omega) (by unfold inS; omega) _)).trans (keptG_set (by omega) (by omega) (by unfold inS; omega) _), rfl, ?_, r1, r2, ?_⟩
            · exact (HQ.out.1.setCell (p := ⟨w.heap.size + 1, 0, none⟩) (by simp) _).setCell (p := ⟨w.heap.size + 1 + 1, 0, none⟩) (by simp; omega) _
            · have := HL.out; simp; omega
          · gi_wp2
            obtain ⟨hg1, hg2, hgf, hs1, hg', hsz2, hWs, hsz⟩ := HG.out
            have hLL := HL.out
            refine ⟨HQ.out.2.2, g', c', HQ.out.1, HQ2.out.1, HQ2.out.2.1, ?_, ?_, by omega, by simp; omega⟩
            · have := HQ2.out.2.2
              rw [show (pre ++ [x]).length + 2 = L + 1 by simp; omega]
              exact this
            · rw [show (pre ++ [x]).length + 2 = L + 1 by simp; omega]
              exact HQ.out.2.1
        case stop =>
          rintro D c pre W hD' hpre ⟨rfl, hB, q1, q2, h4⟩ hK
          gi_wp2
          refine ⟨by simp, .inl ⟨_, _, rfl, run_takeDeferred hK, ?_⟩⟩
          have s1 := (q1.same (w' := W.putObj D (.deferred none)) (World.putObj_heap_other (by omega))).cell 0
          have s2 := (q2.same (w' := W.putObj D (.deferred none)) (World.putObj_heap_other (by omega))).cell 0
          have he : bE a b m s = 4 := by rw [bE, if_pos H0.out, if_pos (by have := hpre.length_le; omega)]
          refine ⟨_, (by simp [results, Try.results40, go_sem, s1, s2]; rfl), _, by rw [he], ?_, fun q hq => by simp [Value.ownBlock] at hq, hB.trans (belowK_b (w := w) (Nat.le_refl _) W D _ _ (by omega) hK rfl rfl)⟩
          rw [bL, he, if_neg (by omega)]
          exact pers_nil _ _
        case done =>
          rintro D W hD' ⟨g, c, hB⟩ hK
          obtain ⟨L, hL⟩ : ∃ L, L = (inR a b m s m).length + 2 := ⟨_, rfl⟩
          have HOWN := Lib.hid (hL ▸ hB.own : W.ownsRow w.heap.size 26 1 (.slice (some ⟨g, 0, none⟩) L c) L ((a :: b :: inR a b m s m).map (Value.int .i64)))
          have hcell : Box W (w.heap.size + 1 + 1 + 1 + 1 + 1) 23 #[.slice (some ⟨g, 0, none⟩) L c] := hL ▸ hB.cell
          have c0 : W.cell? ⟨w.heap.size + 1 + 1 + 1 + 1 + 1, 0, none⟩ = some (.slice (some ⟨g, 0, none⟩) L c) := hcell.cell 0
          have hl1 : 2 ≤ L := by omega
          have hl9 : L ≤ 401 := by have := hB.len; omega
          have HL := Lib.hid hL
          have HB := Lib.hid hB
          have HC := Lib.hid hcell
          have HK := Lib.hid hK
          have HSZ := Lib.hid hsz
          have HD := Lib.hid hD'
          clear hL hB hcell hK hbi hin hsz hD'
          go_wp2_with fail
          refine (sort_own HOWN.out (by simp; exact HL.out) (by have := HL.out; simp; omega)).mono ?_
          rintro e w2 ⟨rfl, hown2, hgr⟩
          obtain ⟨hcL, hgN⟩ : L ≤ c ∧ w.heap.size ≤ g ∧ g < w2.heap.size := by
            refine ⟨?_, own_lt hown2⟩
            rcases hown2.2 with ⟨h0, _⟩ | ⟨g', c', cur, hv, -, -, h, -⟩
            · cases h0
            · obtain ⟨rfl, rfl⟩ : g = g' ∧ c = c' := by simpa using hv
              exact h
          have hgne : ∀ k, k < W.heap.size → k ≠ g → w2.heap[k]? = W.heap[k]? := fun k hk hkg => hgr.block k hk (by simp; omega)
          have hgf := HB.out.far
          have q5 := HC.out.same (hgne _ HC.out.lt (by omega))
          have q1 := HB.out.r1.same (hgne _ HB.out.r1.lt (by omega))
          have q2 := HB.out.r2.same (hgne _ HB.out.r2.lt (by omega))
          have hDW : D < W.heap.size := (Array.getElem?_eq_some_iff.1 HK.out).1
          have HSS2 := HSZ.out
          have HDD := HD.out
          have hDg : D ≠ g := by
            intro e
            rcases HOWN.out.2 with ⟨h0, _⟩ | ⟨g', c', cur, hv, -, hb, -⟩
            · cases h0
            · obtain ⟨rfl, rfl⟩ : g = g' ∧ c = c' := by simpa using hv
              have := HK.out
              rw [e, hb] at this
              cases this
          have qD := (hgne D hDW hDg).trans HK.out
          have hbel2 : Below w.heap.size w w2 := HB.out.bel.trans ⟨hgr.os, hgr.tape, hgr.output, by have := HB.out.bel.size; have := hgr.size; omega, fun k hk => hgne k (by have := HB.out.bel.size; omega) (by omega)⟩
          obtain ⟨zs, hzs⟩ : ∃ zs, zs = ends a b m s := ⟨_, rfl⟩
          have hown3 : w2.ownsRow w.heap.size 26 1 (.slice (some ⟨g, 0, none⟩) L c) L (zs.map (Value.int .i64)) := by rw [hzs]; exact hown2
          have hzl : zs.length = L := by have := hown3.1; simpa using this
          have HZ := Lib.hid (And.intro hzs hzl)
          have HQ := Lib.hid (And.intro q1 (And.intro q2 (And.intro q5 (And.intro qD (And.intro hbel2 hown3)))))
          have HG := Lib.hid (And.intro hgN hgf)
          have d0 : w2.cell? ⟨w.heap.size + 1 + 1 + 1 + 1 + 1, 0, none⟩ = some (.slice (some ⟨g, 0, none⟩) L c) := q5.cell 0
          clear hzs hzl q1 q2 q5 qD hbel2 hown3 hown2 hgr hgN hgf hgne hDg hDW HSS2 HDD c0
          go_wp2
          go_loopw [11, 54] (fun v i wr => ∃ k : Nat, k ≤ L - 1 ∧ i = .int .i64 k ∧ Hid (wr.ownsRow w2.heap.size 28 2 v k (flat ((prs zs).take k)) ∧ Below w2.heap.size w2 wr)) (fun _ i _ => L - (intOf i).toNat)
          case atStart => exact ⟨0, Nat.zero_le _, rfl, Lib.hid ⟨World.ownsRow_nil _ _ _ _, Below.refl _ _⟩⟩
          case round =>
            obtain ⟨k, hk, rfl, HR2⟩ := hrel
            have q5 := HQ.out.2.2.1.below HR2.out.2 HQ.out.2.2.1.lt
            have r0 : wr.cell? ⟨w.heap.size + 1 + 1 + 1 + 1 + 1, 0, none⟩ = some (.slice (some ⟨g, 0, none⟩) L c) := q5.cell 0
            clear q5 d0
            by_cases hlt : k < L - 1
            · obtain ⟨x, hx⟩ : ∃ x, x = zs[k]?.getD 0 := ⟨_, rfl⟩
              obtain ⟨y, hy⟩ : ∃ y, y = zs[k + 1]?.getD 0 := ⟨_, rfl⟩
              have r1 : wr.cell? ⟨g, k, none⟩ = some (.int .i64 x) := by
                rw [HR2.out.2.cell (p := ⟨g, k, none⟩) HG.out.1.2, HQ.out.2.2.2.2.2.cellAt k (by omega), hx]
                rw [List.getElem?_map, List.getElem?_eq_getElem (by have := HZ.out.2; omega)]; rfl
              have r2 : wr.cell? ⟨g, k + 1, none⟩ = some (.int .i64 y) := by
                rw [HR2.out.2.cell (p := ⟨g, k + 1, none⟩) HG.out.1.2, HQ.out.2.2.2.2.2.cellAt (k + 1) (by omega), hy]
                rw [List.getElem?_map, List.getElem?_eq_getElem (by have := HZ.out.2; omega)]; rfl
              have HXY := Lib.hid (And.intro hx hy)
              clear hx hy
              go_wp2
              obtain ⟨i0, hi, hz0, hz1, hz2⟩ := info_parts Try.info28
              have HI := Lib.hid (And.intro hi (And.intro hz0 (And.intro hz1 hz2)))
              clear hi hz0 hz1 hz2
              have hsw := HR2.out.2.size
              have h5 : w.heap.size + 1 + 1 + 1 + 1 + 1 < w2.heap.size := HQ.out.2.2.1.lt
              have hg5 : g < w2.heap.size := HG.out.1.2
              have hv5 : ∀ q, q < w2.heap.size → some q ≠ u11.ownBlock := fun q hq e => by
                have := HR2.out.1.lt q e.symm
                omega
              have HV5 := Lib.hid hv5
              have hk2 : k + 1 < L := by omega
              have hk3 : ((k : Int) + 1) < L := by omega
              have hk4 : ((k : Int) + 1).toNat = k + 1 := by omega
              have hk5 : (0 : Int) ≤ k := by omega
              have hk6 : (k : Int) < L := by omega
              have hk7 : (0 : Int) ≤ (k : Int) + 1 := by omega
              have hk8 : IntKind.i64.wrap ((k : Int) + 1) = (k : Int) + 1 := IntWalk.i64_in _ ⟨by omega, by omega⟩
              clear hv5
              go_region_held3 (fun w' => w'.cell? ⟨w.heap.size + 1 + 1 + 1 + 1 + 1, 0, none⟩ = some (.slice (some ⟨g, 0, none⟩) L c) ∧ w'.cell? ⟨g, k, none⟩ = some (.int .i64 x) ∧ w'.cell? ⟨g, k + 1, none⟩ = some (.int .i64 y))
                (first
                  | exact ⟨r0, r1, r2⟩
                  | exact ⟨(World.cell?_alloc_lt _ _ _ (by simp; omega)).trans r0, (World.cell?_alloc_lt _ _ _ (by simp; omega)).trans r1, (World.cell?_alloc_lt _ _ _ (by simp; omega)).trans r2⟩
                  | exact ⟨(hgrow.cell_far _ (by simp; omega) (HV5.out _ (by simp; omega))).trans ((World.cell?_alloc_lt _ _ _ (by simp; omega)).trans r0), (hgrow.cell_far _ (by simp; omega) (HV5.out _ (by simp; omega))).trans ((World.cell?_alloc_lt _ _ _ (by simp; omega)).trans r1), (hgrow.cell_far _ (by simp; omega) (HV5.out _ (by simp; omega))).trans ((World.cell?_alloc_lt _ _ _ (by simp; omega)).trans r2)⟩)
                ((refine step_append_lies _ (by rfl) _ _ _ (by rfl) w2.heap.size 28 i0 (.agg #[.int .i64 0, .int .i64 0]) 2 16 Try.underlying50 HI.out.1 HI.out.2.1 HI.out.2.2.1 HI.out.2.2.2 (by rfl) (by omega) u11 k (flat ((prs zs).take k)) (by rfl) (World.ownsRow.alloc (w := wr.drew) HR2.out.1 _) ⟨wr.heap.size, 0, none⟩ 1 1 [.int .i64 x, .int .i64 y] (by rfl) (by rfl) (World.news_of_block (heap_alloc_new wr.drew _)) (by intro u hu; simp at hu; rcases hu with rfl | rfl <;> rfl) (by omega) (by unfold maxLen; omega) (by omega) (by simp; omega) (wr.heap.size + 1) (by simp) ?_; intro g3 cap w1 hown1 hgrow hat hlt3))
              have hwr : Below w2.heap.size w2 w1 := by
                refine HR2.out.2.trans ⟨hgrow.os, hgrow.tape, hgrow.output, by have := hgrow.size; simp at this; omega, fun q hq => ?_⟩
                exact (hgrow.block q (by simp; omega) (HV5.out q hq)).trans (Below.heap_alloc wr _ q (by omega))
              have hnew : w1.ownsRow w2.heap.size 28 2 (.slice (some ⟨g3, 0, none⟩) (k + 1) cap) (k + 1) (flat ((prs zs).take (k + 1))) := by
                rw [prs_take zs k (by rw [HZ.out.2]; omega), flat_snoc, ← HXY.out.1, ← HXY.out.2]
                exact hown1
              have HN := Lib.hid (And.intro hnew hwr)
              clear hnew hwr hown1 hgrow hat r0 r1 r2 hsw h5 hg5 hk3 hk4 hk5 hk6 hk7 hk8
              go_wp2
              go_roundw
              case rel => exact ⟨k + 1, by omega, by go_num, HN⟩
              case measure => simp [intOf]; omega
            · obtain rfl : k = L - 1 := by omega
              obtain ⟨g2, c2, rfl⟩ := own_shape HR2.out.1 (by omega)
              have q1 := HQ.out.1.below HR2.out.2 HQ.out.1.lt
              have q2 := HQ.out.2.1.below HR2.out.2 HQ.out.2.1.lt
              have d1 : wr.cell? ⟨w.heap.size + 1, 0, none⟩ = some (.slice none 0 0) := q1.cell 0
              have d2 : wr.cell? ⟨w.heap.size + 1 + 1, 0, none⟩ = some (.int .i64 0) := q2.cell 0
              have f1 : wr.frozen? ⟨w.heap.size + 1, 0, none⟩ = false := q1.frozen 0
              have f2 : wr.frozen? ⟨w.heap.size + 1 + 1, 0, none⟩ = false := q2.frozen 0
              have HQ1 := Lib.hid (And.intro q1 q2)
              clear q1 q2
              go_wp2
              have r1 := (HQ1.out.1.set 0 (.slice (some ⟨g2, 0, none⟩) (L - 1) c2)).far (p := ⟨w.heap.size + 1 + 1, 0, none⟩) (by simp) (.int .i64 0)
              have r2 := (HQ1.out.2.far (p := ⟨w.heap.size + 1, 0, none⟩) (by simp) (.slice (some ⟨g2, 0, none⟩) (L - 1) c2)).set 0 (.int .i64 0)
              have hz2 := HQ.out.2.2.1.lt
              have hDw : D < w2.heap.size := (Array.getElem?_eq_some_iff.1 HQ.out.2.2.2.1).1
              have hDD := HD.out
              have hSS := HSZ.out
              have hg2 := (own_lt HR2.out.1).1
              have hB1 : Below w.heap.size w wr := HQ.out.2.2.2.2.1.trans (HR2.out.2.mono (by omega))
              have hB2 := (hB1.setCell (p := ⟨w.heap.size + 1, 0, none⟩) (by simp) (.slice (some ⟨g2, 0, none⟩) (L - 1) c2)).setCell (p := ⟨w.heap.size + 1 + 1, 0, none⟩) (by simp; omega) (.int .i64 0)
              have hown4 : ((wr.setCell ⟨w.heap.size + 1, 0, none⟩ (.slice (some ⟨g2, 0, none⟩) (L - 1) c2)).setCell ⟨w.heap.size + 1 + 1, 0, none⟩ (.int .i64 0)).ownsRow w2.heap.size 28 2 (.slice (some ⟨g2, 0, none⟩) (L - 1) c2) (L - 1) (flat ((prs zs).take (L - 1))) :=
                own_same HR2.out.1 ((Below.heap_setCell _ _ _ _ (by simp; omega)).trans (Below.heap_setCell _ _ _ _ (by simp; omega)))
              have hK2 : ((wr.setCell ⟨w.heap.size + 1, 0, none⟩ (.slice (some ⟨g2, 0, none⟩) (L - 1) c2)).setCell ⟨w.heap.size + 1 + 1, 0, none⟩ (.int .i64 0)).heap[D]? = some (.deferred (some [])) :=
                (Below.heap_setCell _ _ _ D (by simp; omega)).trans ((Below.heap_setCell _ _ _ D (by simp; omega)).trans ((HR2.out.2.block D hDw).trans HQ.out.2.2.2.1))
              clear d1 d2 f1 f2 r0
              generalize (wr.setCell ⟨w.heap.size + 1, 0, none⟩ (.slice (some ⟨g2, 0, none⟩) (L - 1) c2)).setCell ⟨w.heap.size + 1 + 1, 0, none⟩ (.int .i64 0) = W2 at *
              refine ⟨by simp, .inl ⟨_, _, rfl, run_takeDeferred hK2, ?_⟩⟩
              have s1 := (r1.same (w' := W2.putObj D (.deferred none)) (World.putObj_heap_other (by omega))).cell 0
              have s2 := (r2.same (w' := W2.putObj D (.deferred none)) (World.putObj_heap_other (by omega))).cell 0
              have hLL := HL.out
              have he : bE a b m s = 0 := by rw [bE, if_pos H0.out, if_neg (by omega)]
              have hl : bL a b m s = (prs zs).take (L - 1) := by
                rw [bL, if_pos he, ← HZ.out.1, List.take_of_length_le (by rw [prs_length, HZ.out.2]; omega)]
              refine ⟨_, (by simp [results, Try.results40, go_sem, s1, s2]; rfl), _, by rw [he], ?_, fun q hq => (by have : g2 = q := (by simpa [Value.ownBlock] using hq); omega), hB2.trans (belowK_b (w := w) (Nat.le_refl _) W2 D _ _ (by omega) hK2 rfl rfl)⟩
              rw [hl]
              refine pers_own (own_same hown4 (World.putObj_heap_other (by omega))) (by simp; omega)
      · go_wp2
        refine ⟨_, (by simp [results, Try.results40, go_sem]; rfl), ?_⟩
        exact bpost_err (by rw [HR.out]; simpa using hne) (by rw [HR.out]) (HB4.out _ _ _ _)
end Go.Proofs.Ytilbolgncpfmmaa
