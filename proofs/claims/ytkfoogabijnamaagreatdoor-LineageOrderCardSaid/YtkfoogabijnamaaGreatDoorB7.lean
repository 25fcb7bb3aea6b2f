/- Walks: the reference's long numbers: groups, comparisons, sums, differences, products. -/
import Derived.Test.YtkfoogabijnamaaGreatDoorB6
import Derived.Test.YtkfoogabijnamaaGreatDoorB5
namespace Go.Proofs.YtkfoogabijnamaaGreatDoor
open Go.RowKit Px

abbrev dJ (x : Nat) : List DV := [dI x]
abbrev dJm (b : Bool) (l : List Nat) : List DV := [dB b, .sl 1 (l.map dJ)]
/-- the order of two numbers in groups -/
def ordR (l r : List Nat) : Int := if l.length < r.length then -1 else if r.length < l.length then 1 else cmpT l r l.length
abbrev jT (n : Nat) : Nat := 3 * 100000 + n
end Go.Proofs.YtkfoogabijnamaaGreatDoor
namespace Go.Proofs.YtkfoogabijnamaaGreatDoor
open Go.RowKit Px

abbrev vJ (l : List Nat) : List Value := l.map fun x : Nat => Value.int .i64 (x : Int)
abbrev cJ (l : List Nat) : List SV := (vJ l).map fun u => SV.d (.val u)
/-- a row of the product done: what is kept -/
structure MulOk (m n : List Nat) (i : Nat) (O : List Nat) : Prop where
  len : O.length = m.length + n.length
  ok : gok O
  val : gval O = gval (m.take i) * gval n
  hi : ∀ j, i + n.length ≤ j → gat O j = 0
theorem MulOk.zero (m n : List Nat) : MulOk m n 0 (List.replicate (m.length + n.length) 0) :=
  ⟨by simp, fun x hx => by rw [List.eq_of_mem_replicate hx]; omega, by simp [gval_zeros, gval], fun j _ => by
    simp only [gat, List.getElem?_replicate]
    split <;> rfl⟩
theorem MulOk.next {m n O : List Nat} {i x k : Nat} (h : MulOk m n i O) (hm : gok m) (hn : gok n) (hx : m[i]? = some x) (hk : n.length ≤ k) (hk2 : k ≤ n.length + 1) (hc : (mulI O x n i k).2 = 0) (hi : i < m.length) : MulOk m n (i + 1) (mulI O x n i k).1 := by
  have hx9 : x < 1000000000 := hm x (List.mem_of_getElem? hx)
  obtain ⟨q1, q2, -, q4, q5⟩ := mulI_spec (i := i) h.ok hn hx9 k (by rw [h.len]; omega)
  rw [hc, List.take_of_length_le hk, Nat.mul_zero, Nat.add_zero] at q4
  refine ⟨q1.trans h.len, q2, ?_, fun j hj => ?_⟩
  · rw [q4, h.val, gval_take, gat_get hx, Nat.add_mul, Nat.mul_assoc]
  · rw [q5 j (by omega)]
    exact h.hi j (by omega)
end Go.Proofs.YtkfoogabijnamaaGreatDoor
namespace Go.Proofs.YtkfoogabijnamaaGreatDoor
open Go.RowKit Px

/-- the last k digits -/
def lowd (y : Nat) : Nat → Str
  | 0 => []
  | k + 1 => dig (y / 10 ^ k % 10) :: lowd y k
end Go.Proofs.YtkfoogabijnamaaGreatDoor
namespace Go.Proofs.YtkfoogabijnamaaGreatDoor
open Go.RowKit Px

set_option maxRecDepth 20000 in
set_option maxHeartbeats 1000000 in
theorem wSubT (a b : Str) (ha : a.length ≤ 100000) (hb : b.length ≤ 100000) : PCalls Tryz.prog 33 [dS a, dS b] (.d (dS (canon (val a - val b)))) := by
  have c1 := wReadM a (by omega)
  have c2 := wReadM b (by omega)
  have h1 := Nat.le_trans (rdG_size (dgs a).1) (dgs_len a)
  have h2 := Nat.le_trans (rdG_size (dgs b).1) (dgs_len b)
  rw [rdG_dgs] at c1 c2 h1 h2
  have c3 := wNAdd (dgs a).2 (!(dgs b).2) (natOf (dgs a).1) (natOf (dgs b).1) (by omega) (by omega)
  obtain ⟨s1, s2⟩ := addN_spec (dgs a).2 (!(dgs b).2) (natOf (dgs a).1) (natOf (dgs b).1)
  have s3 := addN_len (dgs a).2 (!(dgs b).2) (gok_grp (natOf (dgs a).1)) (gok_grp (natOf (dgs b).1))
  rw [sg_not, ← val_sg, ← val_sg, ← Int.sub_eq_add_neg] at s2
  obtain ⟨z, hz⟩ : ∃ z, z = addN (dgs a).2 (grp (natOf (dgs a).1)) (!(dgs b).2) (grp (natOf (dgs b).1)) := ⟨_, rfl⟩
  rw [← hz] at c3 s1 s2 s3
  have c4 := wText z.1 z.2 s1 (by omega)
  rw [s2] at c4
  obtain ⟨r, hr⟩ : ∃ r, r = canon (val a - val b) := ⟨_, rfl⟩
  rw [← hr] at c4 ⊢
  obtain ⟨n1, hn1⟩ : ∃ d, d = dNm (dgs a).2 (grp (natOf (dgs a).1)) := ⟨_, rfl⟩
  obtain ⟨n2, hn2⟩ : ∃ d, d = dMg (grp (natOf (dgs b).1)) := ⟨_, rfl⟩
  obtain ⟨n3, hn3⟩ : ∃ d, d = dNum z.1 z.2 := ⟨_, rfl⟩
  rw [← hn1] at c1 c3
  rw [dNm, ← hn2] at c2 c3
  rw [← hn3] at c3 c4
  obtain ⟨t, ht⟩ : ∃ t, t = (dgs b).2 := ⟨_, rfl⟩
  rw [← ht] at c2 c3
  clear hn1 hn2 hn3 hz s1 s2 s3 ht
  refine pcalls_of_pw Tryz.func33 rfl Tryz.ntmps33 Tryz.results33 (by simp) fun B w0 => ?_
  refine pw_seq ?_; refine pw_region ?_; refine yAd rfl ?_; refine yQ ?_; refine pw_seq ?_; refine pw_region ?_; refine yMd rfl ?_; refine yC (c2) rfl rfl ?_; refine yZ (cs := [_, _]) rfl rfl ?_
  refine yS (cs' := [_, _]) rfl rfl rfl rfl rfl ?_; refine yQ ?_; refine pw_seq ?_; refine pw_region ?_; refine yFb rfl ?_; refine yLd rfl rfl rfl ?_; refine yU rfl rfl rfl ?_; refine yFb rfl ?_
  refine ySd (cs' := [_, _]) rfl rfl rfl rfl ?_; refine yQ ?_; refine pw_seq ?_; refine pw_draw Tryz.mixed (by kernel_rfl) ?_; refine yMd rfl ?_; refine yC (c1) rfl rfl ?_; refine yLa (ys := [_, _]) rfl rfl rfl rfl ?_
  refine yC (c3) rfl rfl ?_; refine yC (c4) rfl rfl ?_; refine yAd rfl ?_; refine yQ ?_; refine pw_ret ?_
  exact q_ret _ (.tmp rfl .nil) rfl
end Go.Proofs.YtkfoogabijnamaaGreatDoor
namespace Go.Proofs.YtkfoogabijnamaaGreatDoor
open Go.RowKit Px

/-- the sign of a text of a number -/
def sgnT (a : Str) : Int := if val a < 0 then -1 else if 0 < val a then 1 else 0
theorem dgs_empty : dgs [] = ([], false) := by decide
set_option maxRecDepth 20000 in
set_option maxHeartbeats 1000000 in
theorem wCmp0 (a : Str) (ha : a.length ≤ 100000) : PCalls Tryz.prog 29 [dS a, dS []] (.d (dI (sgnT a))) := by
  have c1 := wRead a (by omega)
  have c2 := wRead [] (by simp)
  rw [dgs_empty, rdG_nil] at c2
  have h1 := Nat.le_trans (rdG_size (dgs a).1) (dgs_len a)
  have c3 := wCompare (rdG (dgs a).1) [] (by omega) (by simp)
  have hneg := neg_dgs a
  have hv := val_sg a
  have hr : cmpG (rdG (dgs a).1) [] = ((rdG (dgs a).1).length : Int) := by
    unfold cmpG
    by_cases h : (rdG (dgs a).1).length = 0
    · rw [List.eq_nil_of_length_eq_zero h]; rfl
    · rw [if_pos (by simpa using h)]; simp
  rw [hr] at c3
  have hz : (rdG (dgs a).1).length = 0 ↔ natOf (dgs a).1 = 0 := by
    rw [rdG_dgs]
    constructor
    · intro h; exact grp_nil.1 (List.eq_nil_of_length_eq_zero h)
    · intro h; rw [h, grp_zero]; rfl
  have hz2 : natOf (dgs a).1 = (val a).natAbs := natOf_dgs a
  obtain ⟨l, hl⟩ : ∃ l, l = rdG (dgs a).1 := ⟨_, rfl⟩
  obtain ⟨b, hb⟩ : ∃ b, b = (dgs a).2 := ⟨_, rfl⟩
  rw [← hl, ← hb] at c1
  rw [← hl] at c3 hz h1
  rw [← hb] at hneg
  clear hr hv hl hb
  obtain ⟨r, hr⟩ : ∃ r, r = sgnT a := ⟨_, rfl⟩
  rw [← hr]
  unfold sgnT at hr
  cases b with
  | true =>
    have h0 : val a < 0 := by simpa using hneg.symm
    rw [if_pos h0] at hr
    subst hr
    refine pcalls_of_pw Tryz.func29 rfl Tryz.ntmps29 Tryz.results29 (by simp) fun B w0 => ?_
    refine pw_seq ?_; refine pw_region ?_; refine yAd rfl ?_; refine yQ ?_; refine pw_seq ?_; refine pw_region ?_; refine yMd rfl ?_; refine yC (c1) rfl rfl ?_; refine yMd rfl ?_; refine yC (c2) rfl rfl ?_
    refine yZ (cs := [_, _]) rfl rfl ?_; refine yZ (cs := [_, _]) rfl rfl ?_; refine yS (cs' := [_, _]) rfl rfl rfl rfl rfl ?_; refine yS (cs' := [_, _]) rfl rfl rfl rfl rfl ?_; refine yQ ?_; refine pw_seq ?_; refine pw_region ?_
    refine yFb rfl ?_; refine yLd rfl rfl rfl ?_; refine yFb rfl ?_; refine yLd rfl rfl rfl ?_; refine yC (c3) rfl rfl ?_; refine yAd rfl ?_; refine yQ ?_; refine pw_seq ?_; refine pw_block ?_; refine pw_seq ?_; refine pw_region ?_
    refine yFb rfl ?_; refine yLd rfl rfl rfl ?_; refine yFb rfl ?_; refine yLd rfl rfl rfl ?_; refine yBbn Tryz.underlying4 rfl rfl rfl ?_; refine yAd rfl ?_; refine yQ ?_; refine pw_ct rfl ?_; refine pw_seq ?_; refine pw_region ?_
    refine yAd rfl ?_; refine yQ ?_; refine pw_seq ?_; refine pw_region ?_; refine yFb rfl ?_; refine yLd rfl rfl rfl ?_; refine yQ ?_; refine pw_ct rfl ?_; refine pw_region ?_; refine yAd rfl ?_; refine yQ ?_; refine pw_seq ?_
    refine pw_region ?_; refine yMd rfl ?_; refine yI rfl rfl rfl ?_; refine yI rfl rfl rfl ?_; refine yAd rfl ?_; refine yQ ?_; refine pw_ret ?_
    exact q_ret _ (.tmp rfl .nil) rfl
  | false =>
    have h0 : ¬ val a < 0 := by simpa using hneg.symm
    rw [if_neg h0] at hr
    obtain ⟨n, hn⟩ : ∃ n, n = l.length := ⟨_, rfl⟩
    rw [← hn] at c3 hz
    have hr : r = if 0 < n then 1 else 0 := by
      rw [hr]
      by_cases h2 : 0 < n
      · rw [if_pos h2, if_pos (by omega)]
      · rw [if_neg h2, if_neg (by omega)]
    clear hn
    refine pcalls_of_pw Tryz.func29 rfl Tryz.ntmps29 Tryz.results29 (by simp) fun B w0 => ?_
    refine pw_seq ?_; refine pw_region ?_; refine yAd rfl ?_; refine yQ ?_; refine pw_seq ?_; refine pw_region ?_; refine yMd rfl ?_; refine yC (c1) rfl rfl ?_; refine yMd rfl ?_; refine yC (c2) rfl rfl ?_
    refine yZ (cs := [_, _]) rfl rfl ?_; refine yZ (cs := [_, _]) rfl rfl ?_; refine yS (cs' := [_, _]) rfl rfl rfl rfl rfl ?_; refine yS (cs' := [_, _]) rfl rfl rfl rfl rfl ?_; refine yQ ?_; refine pw_seq ?_; refine pw_region ?_
    refine yFb rfl ?_; refine yLd rfl rfl rfl ?_; refine yFb rfl ?_; refine yLd rfl rfl rfl ?_; refine yC (c3) rfl rfl ?_; refine yAd rfl ?_; refine yQ ?_; refine pw_seq ?_; refine pw_block ?_; refine pw_seq ?_; refine pw_region ?_
    refine yFb rfl ?_; refine yLd rfl rfl rfl ?_; refine yFb rfl ?_; refine yLd rfl rfl rfl ?_; refine yBbn Tryz.underlying4 rfl rfl rfl ?_; refine yAd rfl ?_; refine yQ ?_; refine pw_cf rfl ?_; refine pw_seq ?_; refine pw_region ?_
    refine yFb rfl ?_; refine yLd rfl rfl rfl ?_; refine yAd rfl ?_; refine yQ ?_; refine pw_cf rfl ?_; refine pw_skip ?_; refine pw_seq ?_; refine pw_region ?_; refine yMd rfl ?_; refine yI rfl rfl rfl ?_; refine yI rfl rfl rfl ?_
    refine yAd rfl ?_; refine yQ ?_; refine pw_ret ?_
    refine q_ret _ (.tmp rfl .nil) (congrArg (fun n => SV.d (dI n)) ?_)
    rw [hr]
    by_cases h2 : 0 < n
    · simp [h2]; repeat' (first | omega | split)
    · have : n = 0 := by omega
      subst this
      rfl
end Go.Proofs.YtkfoogabijnamaaGreatDoor
namespace Go.Proofs.YtkfoogabijnamaaGreatDoor
open Go.RowKit Px

/-- the sum of two signed numbers -/
def addJ (b1 : Bool) (x : Nat) (b2 : Bool) (y : Nat) : Bool × Nat := if b1 = b2 then (b1, x + y) else if y ≤ x then (b1, x - y) else (b2, y - x)
end Go.Proofs.YtkfoogabijnamaaGreatDoor
namespace Go.Proofs.YtkfoogabijnamaaGreatDoor
open Go.RowKit Px

theorem cmp_lt (n : Str) : decide (sgnT n < 0) = !decide (0 ≤ val n) := by
  unfold sgnT
  by_cases h : val n < 0
  · rw [if_pos h]; simp [h]
  · rw [if_neg h]
    have : 0 ≤ val n := by omega
    split <;> simp [this]
theorem nm_at {s : Stp} {i : Nat} {x : Str} (h : [s.q, s.m, s.k][i]? = some x) (hx : numB x = false) : nmE s = 1 := by
  unfold nmE
  match i with
  | 0 => cases h; rw [hx]; simp
  | 1 => cases h; rw [hx]; simp
  | 2 => cases h; rw [hx]; simp
  | i + 3 => simp at h
set_option maxRecDepth 20000 in
set_option maxHeartbeats 4000000 in
theorem wNums (s : Stp) (hb : bdS 1000 s) : PCalls Tryz.prog 77 [.agg (dSp s)] (.d (dI (nmE s))) := by
  obtain ⟨L, hL⟩ : ∃ L, L = [s.q, s.m, s.k] := ⟨_, rfl⟩
  obtain ⟨r, hr⟩ : ∃ r, r = nmE s := ⟨_, rfl⟩
  rw [← hr]
  have hLl : ∀ x ∈ L, x.length ≤ 1000 := fun x hx => by
    rw [hL] at hx
    simp only [List.mem_cons, List.not_mem_nil, or_false] at hx
    rcases hx with rfl | rfl | rfl
    · exact hb.2.2.2.1
    · exact hb.2.2.2.2.1
    · exact hb.2.2.2.2.2
  refine pcalls_of_pw Tryz.func77 rfl Tryz.ntmps77 Tryz.results77 (by simp) fun B w0 => ?_
  refine pw_seq ?_; refine pw_region ?_; refine yK (cs := [_, _, _, _, _, _]) rfl rfl ?_; refine yAd rfl ?_; refine yQ ?_; refine pw_seq ?_; refine pw_seq ?_; refine pw_region ?_; refine yFb rfl ?_; refine yLd rfl rfl rfl ?_
  refine yFb rfl ?_; refine yLd rfl rfl rfl ?_; refine yFb rfl ?_; refine yLd rfl rfl rfl ?_; refine yR (es := [[_], [_], [_]]) rfl rfl rfl rfl rfl ?_; refine yN rfl ?_; refine yMd rfl ?_; refine yQ ?_; refine pw_block ?_
  refine pw_loop (fun i : Nat => ⟨44, [(11, .d (.sl 1 (L.map fun x => [dS x]))), (12, .d (dI 3)), (13, .d (dI i)), (1, .bx 1 0)], [(1, (dSp s).map SV.d)], []⟩) (fun i => i ≤ 3 ∧ ∀ j x, j < i → L[j]? = some x → numB x = true) (fun i => 3 - i) 0 ⟨Nat.zero_le _, fun j x hj => absurd hj (Nat.not_lt_zero _)⟩ ⟨rfl, ⟨.of_eq (by rw [hL]; rfl), .refl _, .refl _, .refl _, trivial⟩, ⟨⟨_, rfl, lesC_refl _⟩, trivial⟩, trivial, rfl⟩ ?_
  rintro i ⟨hi, h0⟩
  rcases Nat.lt_or_ge i 3 with h | h
  · have u1 : decide ((i : Int) < 3) = true := decide_eq_true (by omega)
    obtain ⟨x, hx⟩ : ∃ a, L[i]? = some a := ⟨_, List.getElem?_eq_getElem (by rw [hL]; exact h)⟩
    have ex := ix (fun s => [dS s]) L i i x rfl hx
    have hxl := hLl x (List.mem_of_getElem? hx)
    have c1 := wCheck x (by omega)
    have c2 := wCmp0 x (by omega)
    have hw := wrapI ((i : Int) + 1) (by omega)
    have t2 := cmp_lt x
    cases hc : isC x with
    | false =>
      rw [hc] at c1
      have hn : r = 1 := by rw [hr]; exact nm_at (by rw [← hL]; exact hx) (by rw [numB, hc]; rfl)
      subst hn
      refine pw_seq ?_; refine pw_region ?_; refine yB rfl rfl rfl rfl ?_; refine yQ ?_; refine pw_seq ?_; rw [u1]; refine pw_ct rfl ?_; refine pw_skip ?_; refine pw_seq ?_; refine pw_block ?_; refine pw_seq ?_; refine pw_region ?_
      refine yW ex (by omega) rfl rfl ?_; refine yLr rfl rfl ?_; refine yAd rfl ?_; refine yQ ?_; refine pw_seq ?_; refine pw_region ?_; refine yMd rfl ?_; refine yC (c1) rfl rfl ?_; refine yB rfl rfl rfl rfl ?_; refine yMd rfl ?_
      refine yO rfl ?_; refine yO rfl ?_; refine yO rfl ?_; refine yPd rfl rfl ?_; refine yQ ?_; refine pw_ct rfl ?_; refine pw_seq ?_; refine pw_region ?_; refine yAd rfl ?_; refine yQ ?_; refine pw_ret ?_; refine q_blk_ret ?_
      refine q_then_ret ?_; refine q_then_ret ?_; refine q_blk_ret ?_; refine q_then_ret ?_
      exact q_ret _ (.tmp rfl .nil) rfl
    | true =>
      rw [hc] at c1
      by_cases hv : 0 ≤ val x
      · have hn : numB x = true := by rw [numB, hc]; simpa using hv
        rw [decide_eq_true hv] at t2
        refine pw_seq ?_; refine pw_region ?_; refine yB rfl rfl rfl rfl ?_; refine yQ ?_; refine pw_seq ?_; rw [u1]; refine pw_ct rfl ?_; refine pw_skip ?_; refine pw_seq ?_; refine pw_block ?_; refine pw_seq ?_; refine pw_region ?_
        refine yW ex (by omega) rfl rfl ?_; refine yLr rfl rfl ?_; refine yAd rfl ?_; refine yQ ?_; refine pw_seq ?_; refine pw_region ?_; refine yMd rfl ?_; refine yC (c1) rfl rfl ?_; refine yB rfl rfl rfl rfl ?_; refine yMd rfl ?_
        refine yMd rfl ?_; refine yC (c2) rfl rfl ?_; refine yB rfl rfl rfl rfl ?_; refine yVd rfl rfl ?_; refine yQ ?_; refine q_then ?_; rw [t2]; refine pw_cf rfl ?_; refine pw_skip ?_; refine pw_region ?_; refine yB rfl rfl rfl rfl ?_
        refine yMd rfl ?_; refine yQ ?_; refine q_then ?_
        exact ⟨i + 1, ⟨h, fun j y hj hy => by
          rcases Nat.lt_or_ge j i with h1 | h1
          · exact h0 j y h1 hy
          · obtain rfl : j = i := by omega
            rw [hx] at hy; cases hy; exact hn⟩, by omega, rfl, ⟨.refl _, .refl _, .of_eq (congrArg (fun n => SV.d (dI n)) hw), .refl _, trivial⟩, ⟨⟨_, rfl, lesC_refl _⟩, trivial⟩, trivial, rfl⟩
      · have hn : r = 1 := by rw [hr]; exact nm_at (by rw [← hL]; exact hx) (by rw [numB, hc]; simpa using hv)
        subst hn
        rw [decide_eq_false hv] at t2
        refine pw_seq ?_; refine pw_region ?_; refine yB rfl rfl rfl rfl ?_; refine yQ ?_; refine pw_seq ?_; rw [u1]; refine pw_ct rfl ?_; refine pw_skip ?_; refine pw_seq ?_; refine pw_block ?_; refine pw_seq ?_; refine pw_region ?_
        refine yW ex (by omega) rfl rfl ?_; refine yLr rfl rfl ?_; refine yAd rfl ?_; refine yQ ?_; refine pw_seq ?_; refine pw_region ?_; refine yMd rfl ?_; refine yC (c1) rfl rfl ?_; refine yB rfl rfl rfl rfl ?_; refine yMd rfl ?_
        refine yMd rfl ?_; refine yC (c2) rfl rfl ?_; refine yB rfl rfl rfl rfl ?_; refine yVd rfl rfl ?_; refine yQ ?_; refine q_then ?_; rw [t2]; refine pw_ct rfl ?_; refine pw_seq ?_; refine pw_region ?_; refine yAd rfl ?_; refine yQ ?_
        refine pw_ret ?_; refine q_blk_ret ?_; refine q_then_ret ?_; refine q_then_ret ?_; refine q_blk_ret ?_; refine q_then_ret ?_
        exact q_ret _ (.tmp rfl .nil) rfl
  · have u1 : decide ((i : Int) < 3) = false := decide_eq_false (by omega)
    have h1 : numB s.q = true := h0 0 _ (by omega) (by rw [hL]; rfl)
    have h2 : numB s.m = true := h0 1 _ (by omega) (by rw [hL]; rfl)
    have h3 : numB s.k = true := h0 2 _ (by omega) (by rw [hL]; rfl)
    rw [nmE, h1, h2, h3] at hr
    by_cases e1 : s.f = []
    · have a1 : (s.f == []) = true := by simp [e1]
      by_cases e2 : s.q = []
      · have a2 : (!s.q == []) = false := by simp [e2]
        by_cases e3 : s.t = []
        · have a3 : (s.t == []) = true := by simp [e3]
          by_cases e4 : s.m = []
          · have a4 : (!s.m == []) = false := by simp [e4]
            have hn : r = 0 := by rw [hr]; simp [e1, e2, e3, e4]
            subst hn
            refine pw_seq ?_; refine pw_region ?_; refine yB rfl rfl rfl rfl ?_; refine yQ ?_; refine pw_seq ?_; rw [u1]; refine pw_cf rfl ?_; refine pw_exit ?_; refine pw_seq ?_; refine pw_seq ?_; refine pw_region ?_; refine yFb rfl ?_
            refine yLd rfl rfl rfl ?_; refine yBse rfl rfl ?_; refine yMd rfl ?_; rw [a1]; refine yFb rfl ?_; refine yLd rfl rfl rfl ?_; refine yBsn rfl rfl ?_; refine yPd rfl rfl ?_; refine yMd rfl ?_; rw [a2]; refine yFb rfl ?_
            refine yLd rfl rfl rfl ?_; refine yBse rfl rfl ?_; refine yMd rfl ?_; rw [a3]; refine yFb rfl ?_; refine yLd rfl rfl rfl ?_; refine yBsn rfl rfl ?_; refine yPd rfl rfl ?_; refine yVd rfl rfl ?_; refine yQ ?_; refine q_then ?_
            rw [a4]; refine pw_cf rfl ?_; refine pw_skip ?_; refine pw_seq ?_; refine pw_region ?_; refine yAd rfl ?_; refine yQ ?_; refine pw_ret ?_
            exact q_ret _ (.tmp rfl .nil) rfl
          · have a4 : (!s.m == []) = true := by simp [e4]
            have hn : r = 1 := by rw [hr]; simp [e1, e2, e3, e4]
            subst hn
            refine pw_seq ?_; refine pw_region ?_; refine yB rfl rfl rfl rfl ?_; refine yQ ?_; refine pw_seq ?_; rw [u1]; refine pw_cf rfl ?_; refine pw_exit ?_; refine pw_seq ?_; refine pw_seq ?_; refine pw_region ?_; refine yFb rfl ?_
            refine yLd rfl rfl rfl ?_; refine yBse rfl rfl ?_; refine yMd rfl ?_; rw [a1]; refine yFb rfl ?_; refine yLd rfl rfl rfl ?_; refine yBsn rfl rfl ?_; refine yPd rfl rfl ?_; refine yMd rfl ?_; rw [a2]; refine yFb rfl ?_
            refine yLd rfl rfl rfl ?_; refine yBse rfl rfl ?_; refine yMd rfl ?_; rw [a3]; refine yFb rfl ?_; refine yLd rfl rfl rfl ?_; refine yBsn rfl rfl ?_; refine yPd rfl rfl ?_; refine yVd rfl rfl ?_; refine yQ ?_; refine q_then ?_
            rw [a4]; refine pw_ct rfl ?_; refine pw_seq ?_; refine pw_region ?_; refine yAd rfl ?_; refine yQ ?_; refine pw_ret ?_; refine q_then_ret ?_
            exact q_ret _ (.tmp rfl .nil) rfl
        · have a3 : (s.t == []) = false := by simp [e3]
          have hn : r = 0 := by rw [hr]; simp [e1, e2, e3]
          subst hn
          refine pw_seq ?_; refine pw_region ?_; refine yB rfl rfl rfl rfl ?_; refine yQ ?_; refine pw_seq ?_; rw [u1]; refine pw_cf rfl ?_; refine pw_exit ?_; refine pw_seq ?_; refine pw_seq ?_; refine pw_region ?_; refine yFb rfl ?_
          refine yLd rfl rfl rfl ?_; refine yBse rfl rfl ?_; refine yMd rfl ?_; rw [a1]; refine yFb rfl ?_; refine yLd rfl rfl rfl ?_; refine yBsn rfl rfl ?_; refine yPd rfl rfl ?_; refine yMd rfl ?_; rw [a2]; refine yFb rfl ?_
          refine yLd rfl rfl rfl ?_; refine yBse rfl rfl ?_; refine yMd rfl ?_; rw [a3]; refine yO rfl ?_; refine yO rfl ?_; refine yO rfl ?_; refine yVd rfl rfl ?_; refine yVd rfl rfl ?_; refine yQ ?_; refine pw_cf rfl ?_; refine pw_skip ?_
          refine pw_seq ?_; refine pw_region ?_; refine yAd rfl ?_; refine yQ ?_; refine pw_ret ?_
          exact q_ret _ (.tmp rfl .nil) rfl
      · have a2 : (!s.q == []) = true := by simp [e2]
        have hn : r = 1 := by rw [hr]; simp [e1, e2]
        subst hn
        refine pw_seq ?_; refine pw_region ?_; refine yB rfl rfl rfl rfl ?_; refine yQ ?_; refine pw_seq ?_; rw [u1]; refine pw_cf rfl ?_; refine pw_exit ?_; refine pw_seq ?_; refine pw_seq ?_; refine pw_region ?_; refine yFb rfl ?_
        refine yLd rfl rfl rfl ?_; refine yBse rfl rfl ?_; refine yMd rfl ?_; rw [a1]; refine yFb rfl ?_; refine yLd rfl rfl rfl ?_; refine yBsn rfl rfl ?_; refine yPd rfl rfl ?_; refine yMd rfl ?_; rw [a2]; refine yO rfl ?_
        refine yO rfl ?_; refine yO rfl ?_; refine yO rfl ?_; refine yO rfl ?_; refine yO rfl ?_; refine yO rfl ?_; refine yO rfl ?_; refine yPd rfl rfl ?_; refine yQ ?_; refine pw_ct rfl ?_; refine pw_seq ?_; refine pw_region ?_
        refine yAd rfl ?_; refine yQ ?_; refine pw_ret ?_; refine q_then_ret ?_
        exact q_ret _ (.tmp rfl .nil) rfl
    · have a1 : (s.f == []) = false := by simp [e1]
      by_cases e3 : s.t = []
      · have a3 : (s.t == []) = true := by simp [e3]
        by_cases e4 : s.m = []
        · have a4 : (!s.m == []) = false := by simp [e4]
          have hn : r = 0 := by rw [hr]; simp [e1, e3, e4]
          subst hn
          refine pw_seq ?_; refine pw_region ?_; refine yB rfl rfl rfl rfl ?_; refine yQ ?_; refine pw_seq ?_; rw [u1]; refine pw_cf rfl ?_; refine pw_exit ?_; refine pw_seq ?_; refine pw_seq ?_; refine pw_region ?_; refine yFb rfl ?_
          refine yLd rfl rfl rfl ?_; refine yBse rfl rfl ?_; refine yMd rfl ?_; rw [a1]; refine yO rfl ?_; refine yO rfl ?_; refine yO rfl ?_; refine yVd rfl rfl ?_; refine yMd rfl ?_; refine yFb rfl ?_; refine yLd rfl rfl rfl ?_
          refine yBse rfl rfl ?_; refine yMd rfl ?_; rw [a3]; refine yFb rfl ?_; refine yLd rfl rfl rfl ?_; refine yBsn rfl rfl ?_; refine yPd rfl rfl ?_; refine yVd rfl rfl ?_; refine yQ ?_; refine q_then ?_; rw [a4]; refine pw_cf rfl ?_
          refine pw_skip ?_; refine pw_seq ?_; refine pw_region ?_; refine yAd rfl ?_; refine yQ ?_; refine pw_ret ?_
          exact q_ret _ (.tmp rfl .nil) rfl
        · have a4 : (!s.m == []) = true := by simp [e4]
          have hn : r = 1 := by rw [hr]; simp [e1, e3, e4]
          subst hn
          refine pw_seq ?_; refine pw_region ?_; refine yB rfl rfl rfl rfl ?_; refine yQ ?_; refine pw_seq ?_; rw [u1]; refine pw_cf rfl ?_; refine pw_exit ?_; refine pw_seq ?_; refine pw_seq ?_; refine pw_region ?_; refine yFb rfl ?_
          refine yLd rfl rfl rfl ?_; refine yBse rfl rfl ?_; refine yMd rfl ?_; rw [a1]; refine yO rfl ?_; refine yO rfl ?_; refine yO rfl ?_; refine yVd rfl rfl ?_; refine yMd rfl ?_; refine yFb rfl ?_; refine yLd rfl rfl rfl ?_
          refine yBse rfl rfl ?_; refine yMd rfl ?_; rw [a3]; refine yFb rfl ?_; refine yLd rfl rfl rfl ?_; refine yBsn rfl rfl ?_; refine yPd rfl rfl ?_; refine yVd rfl rfl ?_; refine yQ ?_; refine q_then ?_; rw [a4]; refine pw_ct rfl ?_
          refine pw_seq ?_; refine pw_region ?_; refine yAd rfl ?_; refine yQ ?_; refine pw_ret ?_; refine q_then_ret ?_
          exact q_ret _ (.tmp rfl .nil) rfl
      · have a3 : (s.t == []) = false := by simp [e3]
        have hn : r = 0 := by rw [hr]; simp [e1, e3]
        subst hn
        refine pw_seq ?_; refine pw_region ?_; refine yB rfl rfl rfl rfl ?_; refine yQ ?_; refine pw_seq ?_; rw [u1]; refine pw_cf rfl ?_; refine pw_exit ?_; refine pw_seq ?_; refine pw_seq ?_; refine pw_region ?_; refine yFb rfl ?_
        refine yLd rfl rfl rfl ?_; refine yBse rfl rfl ?_; refine yMd rfl ?_; rw [a1]; refine yO rfl ?_; refine yO rfl ?_; refine yO rfl ?_; refine yVd rfl rfl ?_; refine yMd rfl ?_; refine yFb rfl ?_; refine yLd rfl rfl rfl ?_
        refine yBse rfl rfl ?_; refine yMd rfl ?_; rw [a3]; refine yO rfl ?_; refine yO rfl ?_; refine yO rfl ?_; refine yVd rfl rfl ?_; refine yVd rfl rfl ?_; refine yQ ?_; refine pw_cf rfl ?_; refine pw_skip ?_; refine pw_seq ?_
        refine pw_region ?_; refine yAd rfl ?_; refine yQ ?_; refine pw_ret ?_
        exact q_ret _ (.tmp rfl .nil) rfl
set_option maxRecDepth 20000 in
set_option maxHeartbeats 4000000 in
theorem wStep (s : Stp) (hb : bdS 1000 s) : PCalls Tryz.prog 58 [.agg (dSp s)] (.d (dI (stE s))) := by
  have c1 := wNums s hb
  obtain ⟨r, hr⟩ : ∃ r, r = stE s := ⟨_, rfl⟩
  rw [← hr]
  rw [stE] at hr
  obtain ⟨e, he⟩ : ∃ e, e = nmE s := ⟨_, rfl⟩
  rw [← he] at c1 hr
  refine pcalls_of_pw Tryz.func58 rfl Tryz.ntmps58 Tryz.results58 (by simp) fun B w0 => ?_
  by_cases e0 : s.c = []
  · have a0 : (s.c == []) = true := by simp [e0]
    have hn : r = 11 := by rw [hr]; simp [e0]
    subst hn
    refine pw_seq ?_; refine pw_region ?_; refine yK (cs := [_, _, _, _, _, _]) rfl rfl ?_; refine yAd rfl ?_; refine yQ ?_; refine pw_seq ?_; refine pw_block ?_; refine pw_seq ?_; refine pw_region ?_; refine yFb rfl ?_
    refine yLd rfl rfl rfl ?_; refine yBse rfl rfl ?_; refine yMd rfl ?_; rw [a0]; refine yO rfl ?_; refine yO rfl ?_; refine yO rfl ?_; refine yO rfl ?_; refine yO rfl ?_; refine yO rfl ?_; refine yO rfl ?_; refine yO rfl ?_
    refine yPd rfl rfl ?_; refine yAd rfl ?_; refine yQ ?_; refine pw_ct rfl ?_; refine pw_seq ?_; refine pw_region ?_; refine yAd rfl ?_; refine yQ ?_; refine pw_ret ?_; refine q_blk_ret ?_; refine q_then_ret ?_
    exact q_ret _ (.tmp rfl .nil) rfl
  have a0 : (s.c == []) = false := by simp [e0]
  by_cases e3 : s.f = s.t
  · have a3 : (s.f == s.t) = true := by simp [e3]
    by_cases e1 : s.f = []
    · have a1 : (s.f == []) = true := by simp [e1]
      have e2 : s.t = [] := by rw [← e3]; exact e1
      have a2 : (s.t == []) = true := by simp [e2]
      have hn : r = 11 := by rw [hr]; simp [e1, e2]
      subst hn
      refine pw_seq ?_; refine pw_region ?_; refine yK (cs := [_, _, _, _, _, _]) rfl rfl ?_; refine yAd rfl ?_; refine yQ ?_; refine pw_seq ?_; refine pw_block ?_; refine pw_seq ?_; refine pw_region ?_; refine yFb rfl ?_
      refine yLd rfl rfl rfl ?_; refine yBse rfl rfl ?_; refine yMd rfl ?_; rw [a0]; refine yFb rfl ?_; refine yLd rfl rfl rfl ?_; refine yBse rfl rfl ?_; refine yMd rfl ?_; rw [a1]; refine yFb rfl ?_; refine yLd rfl rfl rfl ?_
      refine yBse rfl rfl ?_; refine yPd rfl rfl ?_; refine yVd rfl rfl ?_; refine yAd rfl ?_; refine yQ ?_; refine q_then ?_; rw [a2]; refine pw_ct rfl ?_; refine pw_seq ?_; refine pw_region ?_; refine yAd rfl ?_; refine yQ ?_
      refine pw_ret ?_; refine q_blk_ret ?_; refine q_then_ret ?_
      exact q_ret _ (.tmp rfl .nil) rfl
    · have a1 : (s.f == []) = false := by simp [e1]
      have hn : r = 18 := by rw [hr, if_neg (by simp [e0, e1]), if_pos e3]
      subst hn
      refine pw_seq ?_; refine pw_region ?_; refine yK (cs := [_, _, _, _, _, _]) rfl rfl ?_; refine yAd rfl ?_; refine yQ ?_; refine pw_seq ?_; refine pw_block ?_; refine pw_seq ?_; refine pw_region ?_; refine yFb rfl ?_
      refine yLd rfl rfl rfl ?_; refine yBse rfl rfl ?_; refine yMd rfl ?_; rw [a0]; refine yFb rfl ?_; refine yLd rfl rfl rfl ?_; refine yBse rfl rfl ?_; refine yMd rfl ?_; rw [a1]; refine yO rfl ?_; refine yO rfl ?_; refine yO rfl ?_
      refine yVd rfl rfl ?_; refine yVd rfl rfl ?_; refine yAd rfl ?_; refine yQ ?_; refine pw_cf rfl ?_; refine pw_seq ?_; refine pw_region ?_; refine yFb rfl ?_; refine yLd rfl rfl rfl ?_; refine yFb rfl ?_; refine yLd rfl rfl rfl ?_
      refine yBse rfl rfl ?_; refine yAd rfl ?_; refine yQ ?_; refine q_then ?_; rw [a3]; refine pw_ct rfl ?_; refine pw_seq ?_; refine pw_region ?_; refine yAd rfl ?_; refine yQ ?_; refine pw_ret ?_; refine q_blk_ret ?_
      refine q_then_ret ?_
      exact q_ret _ (.tmp rfl .nil) rfl
  · have a3 : (s.f == s.t) = false := by simp [e3]
    by_cases e1 : s.f = []
    · have a1 : (s.f == []) = true := by simp [e1]
      have e2 : s.t ≠ [] := fun h => e3 (by rw [e1, h])
      have a2 : (s.t == []) = false := by simp [e2]
      have hn : r = e := by rw [hr, if_neg (by simp [e0, e2]), if_neg e3]
      subst hn
      refine pw_seq ?_; refine pw_region ?_; refine yK (cs := [_, _, _, _, _, _]) rfl rfl ?_; refine yAd rfl ?_; refine yQ ?_; refine pw_seq ?_; refine pw_block ?_; refine pw_seq ?_; refine pw_region ?_; refine yFb rfl ?_
      refine yLd rfl rfl rfl ?_; refine yBse rfl rfl ?_; refine yMd rfl ?_; rw [a0]; refine yFb rfl ?_; refine yLd rfl rfl rfl ?_; refine yBse rfl rfl ?_; refine yMd rfl ?_; rw [a1]; refine yFb rfl ?_; refine yLd rfl rfl rfl ?_
      refine yBse rfl rfl ?_; refine yPd rfl rfl ?_; refine yVd rfl rfl ?_; refine yAd rfl ?_; refine yQ ?_; refine q_then ?_; rw [a2]; refine pw_cf rfl ?_; refine pw_seq ?_; refine pw_region ?_; refine yFb rfl ?_
      refine yLd rfl rfl rfl ?_; refine yFb rfl ?_; refine yLd rfl rfl rfl ?_; refine yBse rfl rfl ?_; refine yAd rfl ?_; refine yQ ?_; refine q_then ?_; rw [a3]; refine pw_cf rfl ?_; refine pw_skip ?_; refine pw_seq ?_
      refine pw_region ?_; refine yLa (ys := [_, _, _, _, _, _]) rfl rfl rfl rfl ?_; refine yC (c1) rfl rfl ?_; refine yAd rfl ?_; refine yQ ?_; refine pw_ret ?_
      exact q_ret _ (.tmp rfl .nil) rfl
    · have a1 : (s.f == []) = false := by simp [e1]
      have hn : r = e := by rw [hr, if_neg (by simp [e0, e1]), if_neg e3]
      subst hn
      refine pw_seq ?_; refine pw_region ?_; refine yK (cs := [_, _, _, _, _, _]) rfl rfl ?_; refine yAd rfl ?_; refine yQ ?_; refine pw_seq ?_; refine pw_block ?_; refine pw_seq ?_; refine pw_region ?_; refine yFb rfl ?_
      refine yLd rfl rfl rfl ?_; refine yBse rfl rfl ?_; refine yMd rfl ?_; rw [a0]; refine yFb rfl ?_; refine yLd rfl rfl rfl ?_; refine yBse rfl rfl ?_; refine yMd rfl ?_; rw [a1]; refine yO rfl ?_; refine yO rfl ?_; refine yO rfl ?_
      refine yVd rfl rfl ?_; refine yVd rfl rfl ?_; refine yAd rfl ?_; refine yQ ?_; refine pw_cf rfl ?_; refine pw_seq ?_; refine pw_region ?_; refine yFb rfl ?_; refine yLd rfl rfl rfl ?_; refine yFb rfl ?_; refine yLd rfl rfl rfl ?_
      refine yBse rfl rfl ?_; refine yAd rfl ?_; refine yQ ?_; refine q_then ?_; rw [a3]; refine pw_cf rfl ?_; refine pw_skip ?_; refine pw_seq ?_; refine pw_region ?_; refine yLa (ys := [_, _, _, _, _, _]) rfl rfl rfl rfl ?_
      refine yC (c1) rfl rfl ?_; refine yAd rfl ?_; refine yQ ?_; refine pw_ret ?_
      exact q_ret _ (.tmp rfl .nil) rfl
set_option maxRecDepth 20000 in
set_option maxHeartbeats 4000000 in
theorem wChk (l : List Stp) (hb : bdL 1000 l) : PCalls Tryz.prog 21 [dSl l] (.d (dI (chkE l))) := by
  obtain ⟨hl, hs⟩ := hb
  have c1 := wPars l (by omega)
  have hk : ∀ q ∈ parG l, q.1.length ≤ 1000000 := fun q hq => by
    obtain ⟨s, h1, h2, -⟩ := parG_keys l q.1 (List.mem_map.2 ⟨q, hq, rfl⟩)
    have := (hs s h1).2.2.1
    rw [← h2]; omega
  have c2 := wCyclic (parG l) (fun q hq => by have := parG_rows l q hq; omega) (by have := parG_count l; omega) hk (cycB (parG l)) fun ks h => cyc_root _ ks h
  obtain ⟨r, hr⟩ : ∃ r, r = chkE l := ⟨_, rfl⟩
  rw [← hr]
  rw [chkE] at hr
  by_cases h4 : 4000 < l.length
  · have a1 : decide (((l.map dSp).length : Int) > 4000) = true := by rw [List.length_map]; exact decide_eq_true (by omega)
    rw [if_pos h4] at hr
    subst hr
    refine pcalls_of_pw Tryz.func21 rfl Tryz.ntmps21 Tryz.results21 (by simp) fun B w0 => ?_
    refine pw_seq ?_; refine pw_region ?_; refine yAd rfl ?_; refine yQ ?_; refine pw_seq ?_; refine pw_seq ?_; refine pw_region ?_; refine yMd rfl ?_; refine yN rfl ?_; refine yB rfl rfl rfl rfl ?_; refine yQ ?_; refine q_then ?_
    rw [a1]; refine pw_ct rfl ?_; refine pw_seq ?_; refine pw_region ?_; refine yAd rfl ?_; refine yQ ?_; refine pw_ret ?_; refine q_then_ret ?_
    exact q_ret _ (.tmp rfl .nil) rfl
  rw [if_neg h4] at hr
  have a1 : decide (((l.map dSp).length : Int) > 4000) = false := by rw [List.length_map]; exact decide_eq_false (by omega)
  refine pcalls_of_pw Tryz.func21 rfl Tryz.ntmps21 Tryz.results21 (by simp) fun B w0 => ?_
  refine pw_seq ?_; refine pw_region ?_; refine yAd rfl ?_; refine yQ ?_; refine pw_seq ?_; refine pw_seq ?_; refine pw_region ?_; refine yMd rfl ?_; refine yN rfl ?_; refine yB rfl rfl rfl rfl ?_; refine yQ ?_; refine q_then ?_
  rw [a1]; refine pw_cf rfl ?_; refine pw_skip ?_; refine pw_seq ?_; refine pw_seq ?_; refine pw_region ?_; refine yMd rfl ?_; refine yN rfl ?_; refine yMd rfl ?_; refine yQ ?_; refine pw_block ?_
  refine pw_loop (fun i : Nat => ⟨24, [(0, .d (dSl l)), (9, .d (dSl l)), (10, .d (dI l.length)), (11, .d (dI i))], [], []⟩) (fun i => i ≤ l.length ∧ ∀ j x, j < i → l[j]? = some x → stE x = 0) (fun i => l.length - i) 0 ⟨Nat.zero_le _, fun j x hj => absurd hj (Nat.not_lt_zero _)⟩ ⟨rfl, ⟨.refl _, .refl _, .of_eq (congrArg (fun n : Nat => SV.d (dI n)) (by simp)), .refl _, trivial⟩, trivial, trivial, rfl⟩ ?_
  rintro i ⟨hi, h0⟩
  rcases Nat.lt_or_ge i l.length with h | h
  · have u1 : decide ((i : Int) < (l.length : Int)) = true := decide_eq_true (by omega)
    obtain ⟨s, hx⟩ : ∃ a, l[i]? = some a := ⟨_, List.getElem?_eq_getElem h⟩
    have ex := ix dSp l i i s rfl hx
    have hw := wrapI ((i : Int) + 1) (by omega)
    have c3 := wStep s (hs s (List.mem_of_getElem? hx))
    by_cases e : stE s = 0
    · rw [e] at c3
      refine pw_seq ?_; refine pw_region ?_; refine yB rfl rfl rfl rfl ?_; refine yQ ?_; refine pw_seq ?_; rw [u1]; refine pw_ct rfl ?_; refine pw_skip ?_; refine pw_seq ?_; refine pw_block ?_; refine pw_seq ?_; refine pw_region ?_
      refine yW ex (by omega) rfl rfl ?_; refine yLs (ys := [_, _, _, _, _, _]) rfl rfl rfl ?_; refine yZ (cs := [_, _, _, _, _, _]) rfl rfl ?_; refine yS (cs' := [_, _, _, _, _, _]) rfl rfl rfl rfl rfl ?_; refine yQ ?_; refine pw_seq ?_
      refine pw_region ?_; refine yLa (ys := [_, _, _, _, _, _]) rfl rfl rfl rfl ?_; refine yC (c3) rfl rfl ?_; refine yAd rfl ?_; refine yQ ?_; refine pw_seq ?_; refine pw_region ?_; refine yMd rfl ?_; refine yB rfl rfl rfl rfl ?_
      refine yQ ?_; refine pw_cf rfl ?_; refine pw_skip ?_; refine pw_region ?_; refine yB rfl rfl rfl rfl ?_; refine yMd rfl ?_; refine yQ ?_; refine q_then ?_
      exact ⟨i + 1, ⟨h, fun j y hj hy => by
        rcases Nat.lt_or_ge j i with h1 | h1
        · exact h0 j y h1 hy
        · obtain rfl : j = i := by omega
          rw [hx] at hy; cases hy; exact e⟩, by omega, rfl, ⟨.refl _, .refl _, .refl _, .of_eq (congrArg (fun n => SV.d (dI n)) hw), trivial⟩, trivial, trivial, rfl⟩
    · have hf := firstE_at hx h0 e
      rw [hf, if_neg e] at hr
      subst hr
      have u2 : (stE s != 0) = true := by simpa using e
      refine pw_seq ?_; refine pw_region ?_; refine yB rfl rfl rfl rfl ?_; refine yQ ?_; refine pw_seq ?_; rw [u1]; refine pw_ct rfl ?_; refine pw_skip ?_; refine pw_seq ?_; refine pw_block ?_; refine pw_seq ?_; refine pw_region ?_
      refine yW ex (by omega) rfl rfl ?_; refine yLs (ys := [_, _, _, _, _, _]) rfl rfl rfl ?_; refine yZ (cs := [_, _, _, _, _, _]) rfl rfl ?_; refine yS (cs' := [_, _, _, _, _, _]) rfl rfl rfl rfl rfl ?_; refine yQ ?_; refine pw_seq ?_
      refine pw_region ?_; refine yLa (ys := [_, _, _, _, _, _]) rfl rfl rfl rfl ?_; refine yC (c3) rfl rfl ?_; refine yAd rfl ?_; refine yQ ?_; refine pw_seq ?_; refine pw_region ?_; refine yMd rfl ?_; refine yB rfl rfl rfl rfl ?_
      refine yQ ?_; refine q_then ?_; rw [u2]; refine pw_ct rfl ?_; refine pw_seq ?_; refine pw_region ?_; refine yMd rfl ?_; refine yAd rfl ?_; refine yQ ?_; refine pw_ret ?_; refine q_blk_ret ?_; refine q_then_ret ?_
      refine q_then_ret ?_; refine q_blk_ret ?_; refine q_then_ret ?_
      exact q_ret _ (.tmp rfl .nil) rfl
  · have u1 : decide ((i : Int) < (l.length : Int)) = false := decide_eq_false (by omega)
    have hf : firstE l = 0 := firstE_ok fun j x hx => h0 j x (by have := (List.getElem?_eq_some_iff.1 hx).1; omega) hx
    rw [if_pos hf] at hr
    cases hc : cycB (parG l) with
    | true =>
      rw [hc] at c2 hr
      rw [if_pos rfl] at hr
      subst hr
      refine pw_seq ?_; refine pw_region ?_; refine yB rfl rfl rfl rfl ?_; refine yQ ?_; refine pw_seq ?_; rw [u1]; refine pw_cf rfl ?_; refine pw_exit ?_; refine pw_seq ?_; refine pw_seq ?_; refine pw_region ?_; refine yMd rfl ?_
      refine yC (c1) rfl rfl ?_; refine yC (c2) rfl rfl ?_; refine yQ ?_; refine pw_ct rfl ?_; refine pw_seq ?_; refine pw_region ?_; refine yAd rfl ?_; refine yQ ?_; refine pw_ret ?_; refine q_then_ret ?_
      exact q_ret _ (.tmp rfl .nil) rfl
    | false =>
      rw [hc] at c2 hr
      rw [if_neg (by simp)] at hr
      subst hr
      refine pw_seq ?_; refine pw_region ?_; refine yB rfl rfl rfl rfl ?_; refine yQ ?_; refine pw_seq ?_; rw [u1]; refine pw_cf rfl ?_; refine pw_exit ?_; refine pw_seq ?_; refine pw_seq ?_; refine pw_region ?_; refine yMd rfl ?_
      refine yC (c1) rfl rfl ?_; refine yC (c2) rfl rfl ?_; refine yQ ?_; refine pw_cf rfl ?_; refine pw_skip ?_; refine pw_seq ?_; refine pw_region ?_; refine yAd rfl ?_; refine yQ ?_; refine pw_ret ?_
      exact q_ret _ (.tmp rfl .nil) rfl
end Go.Proofs.YtkfoogabijnamaaGreatDoor
namespace Go.Proofs.YtkfoogabijnamaaGreatDoor
open Go.RowKit Px

def dStrs (L : List Str) : DV := .sl 1 (L.map fun s => [dS s])
def okR (l : List Stp) (r : List Str) : List Str := if chkE l = 0 then r else []
def okE (l : List Stp) : Int := if chkE l = 0 then 0 else 1
def setF (f : Stp → Bool) (g : Stp → Str) (l : List Stp) : List Str := ((l.filter f).map g).foldl addB []
theorem setF_next {f : Stp → Bool} {g : Stp → Str} {l : List Stp} {n : Nat} {s : Stp} (h : l[n]? = some s) : setF f g (l.take (n + 1)) = if f s then addB (setF f g (l.take n)) (g s) else setF f g (l.take n) := by
  unfold setF
  rw [List.take_add_one, h, Option.toList, List.filter_append, List.map_append, List.foldl_append]
  cases hf : f s with
  | true => simp [hf]
  | false => simp [hf]
theorem setF_len (f : Stp → Bool) (g : Stp → Str) (l : List Stp) : (setF f g l).length ≤ l.length := by
  have h1 := (fold_addB ((l.filter f).map g) []).2.2
  have h2 := List.length_filter_le f l
  rw [List.length_map, List.length_nil] at h1
  exact Nat.le_trans h1 (by omega)
theorem setF_all {p : Str → Prop} (f : Stp → Bool) (g : Stp → Str) (l : List Stp) (h : ∀ s ∈ l, p (g s)) : ∀ x ∈ setF f g l, p x := fun x hx => by
  rcases ((fold_addB ((l.filter f).map g) []).1 x).1 hx with h1 | h1
  · cases h1
  · obtain ⟨s, h2, rfl⟩ := List.mem_map.1 h1
    exact h s (List.mem_filter.1 h2).1
theorem setF_nodup (f : Stp → Bool) (g : Stp → Str) (l : List Stp) : (setF f g l).Nodup := (fold_addB _ _).2.1 List.nodup_nil
theorem setF_sort (f : Stp → Bool) (g : Stp → Str) (l : List Stp) : (setF f g l).mergeSort leB = uniS ((l.filter f).map g) := by
  rw [sort_uni (setF_nodup f g l)]
  exact fold_uni _
theorem addB_contains (S : List Str) (id x : Str) : (addB S id).contains x = (S.contains x || x == id) := by
  rw [Bool.eq_iff_iff]
  simp only [List.contains_iff_mem, addB_mem, Bool.or_eq_true, beq_iff_eq]
theorem pcalls_abs {P : Program} {f : FuncId} {R : (Nat → Nat → Prop) → World → Value → Prop} {rest : List DV} {r : SV} (h : ∀ F w v, R F w v → ∃ x, DRep F w v x ∧ PCalls P f (x :: rest) r) : PCalls P f (.abs R :: rest) r := by
  intro F w vals hl hv hg
  match vals, hl with
  | v :: vals, hl =>
    have h1 := hv 0 v _ rfl rfl
    cases h1 with
    | abs hR h1c hr =>
      obtain ⟨x, hx, hc⟩ := h F w v hr
      refine hc F w (v :: vals) (by simpa using hl) (fun i u y hu hy => ?_) hg
      match i with
      | 0 => cases hu; cases hy; exact hx
      | i + 1 => exact hv (i + 1) u y hu hy
theorem pcalls_weak {P : Program} {f : FuncId} {args : List DV} {x y : DV} (h : ∀ F w v, DRep F w v x → DRep F w v y) (hc : PCalls P f args (.d x)) : PCalls P f args (.d y) := fun F w vals hl hv hg =>
  (hc F w vals hl hv hg).mono fun _ _ ⟨v, h1, h2, h3⟩ => ⟨v, h1, h _ _ _ h2, h3⟩
/-- some set -/
def dSetP (p : Str → Prop) : DV := .abs fun F w v => ∃ S : List Str, S.Nodup ∧ S.length ≤ 100000 ∧ (∀ s ∈ S, s.length ≤ 1000000) ∧ (∀ x, x ∈ S ↔ p x) ∧ DRep F w v (dSet S)
theorem DRep.setp {F : Nat → Nat → Prop} {w : World} {v : Value} {p : Str → Prop} (S : List Str) (h1 : S.Nodup) (h2 : S.length ≤ 100000) (h3 : ∀ s ∈ S, s.length ≤ 1000000) (h4 : ∀ x, x ∈ S ↔ p x) (h : DRep F w v (dSet S)) : DRep F w v (dSetP p) := by
  refine .abs (fun F F' w w' v ⟨S, q1, q2, q3, q4, q5⟩ k => ⟨S, q1, q2, q3, q4, q5.mono k⟩) ?_ ⟨S, h1, h2, h3, h4, h⟩
  obtain ⟨b, es, c, rfl, -⟩ := DRep.mapd h
  rfl
theorem wSortedP {p : Str → Prop} {R : List Str} (hR : ascS R) (h : ∀ x, x ∈ R ↔ p x) : PCalls Tryz.prog 49 [dSetP p] (.d (dStrs R)) :=
  pcalls_abs fun F w v ⟨S, h1, h2, h3, h4, h5⟩ => ⟨dSet S, h5, by
    have c1 := wSorted S h2 h3
    have : S.mergeSort leB = R := (sort_uni h1).trans (uniS_of hR fun x => (h x).trans (h4 x).symm).symm
    rw [this] at c1
    exact c1⟩
theorem lotL_len : ∀ l : List Stp, (lotL l).length ≤ 2 * l.length
  | [] => Nat.le_refl _
  | s :: l => by
    have h1 : (lotS s).length ≤ 2 := by unfold lotS; rw [List.length_append]; split <;> split <;> simp
    have h2 := lotL_len l
    have h3 : lotL (s :: l) = lotS s ++ lotL l := rfl
    rw [h3, List.length_append, List.length_cons]
    omega
theorem wReachT (l : List Stp) (id : Str) (hb : bdL 1000 l) : PCalls Tryz.prog 56 [dTn (parG l), dS id] (.d (dSetP fun x => Rch (parG l) x id)) :=
  pcalls_abs fun F w v ⟨o, ⟨ms, hms, ho⟩, hd⟩ => ⟨dLk o, hd, by
    have hm := fun a b => turn_mem (a := a) (b := b) (parG_nodup l) ms hms ho
    have htot : totG ms ≤ l.length := by rw [totG_perm hms]; exact parG_tot l
    have hall : ∀ x ∈ reach o id, x ∈ lotL l := fun x hx => rch_lot ((turn_rch hm).1 ((reach_iff _ _ _).1 hx))
    refine pcalls_weak (fun F w v h => DRep.setp (reach o id) (reach_nodup o id) ?_ (fun x hx => ?_) (fun x => (reach_iff o id x).trans (turn_rch hm)) h) (wReach o id fun q hq => ?_)
    · have h1 := nodup_sub (reach_nodup o id) hall
      have h2 := lotL_len l
      have := hb.1
      omega
    · obtain ⟨-, s, h1, h2⟩ := mem_lotL.1 (hall x hx)
      have := hb.2 s h1
      rcases h2 with h2 | h2
      · rw [← h2]; have := this.2.1; omega
      · rw [← h2]; have := this.2.2.1; omega
    · rw [ho] at hq
      have := turnG_len ms q hq
      have := hb.1
      omega⟩
set_option maxRecDepth 20000 in
set_option maxHeartbeats 4000000 in
theorem wHeirs (l : List Stp) (id : Str) (hb : bdL 1000 l) : PCalls Tryz.prog 17 [dSl l, dS id] (.tup [dStrs (okR l (heiR l id)), dI (okE l)]) := by
  have c0 := wChk l hb
  have hl := hb.1
  have c1 := wPars l (by omega)
  have c2 := wTurn (parG l) (by have := parG_tot l; omega)
  have c3 := wReachT l id hb
  have c4 := wSortedP (heiR_asc l id) fun x => mem_heiR (l := l) (id := id)
  by_cases h0 : chkE l = 0
  · rw [okR, okE, if_pos h0, if_pos h0]
    rw [h0] at c0
    refine pcalls_of_pw Tryz.func17 rfl Tryz.ntmps17 Tryz.results17 (by simp) fun B w0 => ?_
    refine pw_seq ?_; refine pw_region ?_; refine yAd rfl ?_; refine yAd rfl ?_; refine yQ ?_; refine pw_seq ?_; refine pw_seq ?_; refine pw_region ?_; refine yMd rfl ?_; refine yC (c0) rfl rfl ?_; refine yB rfl rfl rfl rfl ?_
    refine yQ ?_; refine pw_cf rfl ?_; refine pw_skip ?_; refine pw_seq ?_; refine pw_region ?_; refine yMd rfl ?_; refine yC (c1) rfl rfl ?_; refine yC (c2) rfl rfl ?_; refine yMd rfl ?_; refine yC (c3) rfl rfl ?_
    refine yC (c4) rfl rfl ?_; refine yAd rfl ?_; refine yAd rfl ?_; refine yQ ?_; refine pw_ret ?_
    exact q_ret _ (.tmp rfl (.tmp rfl .nil)) rfl
  · rw [okR, okE, if_neg h0, if_neg h0]
    have t1 : (chkE l != 0) = true := by simpa using h0
    refine pcalls_of_pw Tryz.func17 rfl Tryz.ntmps17 Tryz.results17 (by simp) fun B w0 => ?_
    refine pw_seq ?_; refine pw_region ?_; refine yAd rfl ?_; refine yAd rfl ?_; refine yQ ?_; refine pw_seq ?_; refine pw_seq ?_; refine pw_region ?_; refine yMd rfl ?_; refine yC (c0) rfl rfl ?_; refine yB rfl rfl rfl rfl ?_
    refine yQ ?_; refine q_then ?_; rw [t1]; refine pw_ct rfl ?_; refine pw_seq ?_; refine pw_region ?_; refine yAd rfl ?_; refine yAd rfl ?_; refine yQ ?_; refine pw_ret ?_; refine q_then_ret ?_
    exact q_ret _ (.tnil 1 rfl (.tmp rfl .nil)) rfl
set_option maxRecDepth 20000 in
set_option maxHeartbeats 4000000 in
theorem wParents (l : List Stp) (id : Str) (hb : bdL 1000 l) : PCalls Tryz.prog 13 [dSl l, dS id] (.tup [dStrs (okR l (parR l id)), dI (okE l)]) := by
  have c0 := wChk l hb
  have hl := hb.1
  have c1 := wPars l (by omega)
  by_cases h0 : chkE l = 0
  rotate_left
  · rw [okR, okE, if_neg h0, if_neg h0]
    have t1 : (chkE l != 0) = true := by simpa using h0
    refine pcalls_of_pw Tryz.func13 rfl Tryz.ntmps13 Tryz.results13 (by simp) fun B w0 => ?_
    refine pw_seq ?_; refine pw_region ?_; refine yAd rfl ?_; refine yAd rfl ?_; refine yQ ?_; refine pw_seq ?_; refine pw_seq ?_; refine pw_region ?_; refine yMd rfl ?_; refine yC (c0) rfl rfl ?_; refine yB rfl rfl rfl rfl ?_
    refine yQ ?_; refine q_then ?_; rw [t1]; refine pw_ct rfl ?_; refine pw_seq ?_; refine pw_region ?_; refine yAd rfl ?_; refine yAd rfl ?_; refine yQ ?_; refine pw_ret ?_; refine q_then_ret ?_
    exact q_ret _ (.tnil 1 rfl (.tmp rfl .nil)) rfl
  rw [okR, okE, if_pos h0, if_pos h0]
  rw [h0] at c0
  have hg := mget_gD id (parG l)
  have hrow := gGet_len (k := id) (parG_rows l)
  have hbd : ∀ x ∈ gGet id (parG l), x.length ≤ 1000 := fun x hx => allG_bd hb.2 x (gGet_mem hx)
  rw [parR]
  obtain ⟨row, hr⟩ : ∃ r, r = gGet id (parG l) := ⟨_, rfl⟩
  rw [← hr] at hg hrow hbd ⊢
  refine pcalls_of_pw Tryz.func13 rfl Tryz.ntmps13 Tryz.results13 (by simp) fun B w0 => ?_
  refine pw_seq ?_; refine pw_region ?_; refine yAd rfl ?_; refine yAd rfl ?_; refine yQ ?_; refine pw_seq ?_; refine pw_seq ?_; refine pw_region ?_; refine yMd rfl ?_; refine yC (c0) rfl rfl ?_; refine yB rfl rfl rfl rfl ?_
  refine yQ ?_; refine pw_cf rfl ?_; refine pw_skip ?_; refine pw_seq ?_; refine pw_region ?_; refine yKm rfl ?_; refine yAm rfl ?_; refine yQ ?_; refine pw_seq ?_; refine pw_seq ?_; refine pw_region ?_; refine yMd rfl ?_
  refine yC (c1) rfl rfl ?_; refine yMd rfl ?_; refine yKe (hM := hMl2) (l := gD (parG l)) rfl rfl hg ?_; refine yN rfl ?_; refine yMd rfl ?_; refine yQ ?_; refine pw_block ?_
  refine pw_loop (fun i : Nat => ⟨27, [(6, .mb 500012), (16, .d (dStrs row)), (17, .d (dI row.length)), (18, .d (dI i))], [(500012, [.mc (kmap (bS ((row.take i).foldl addB [])))])], []⟩) (fun i => i ≤ row.length) (fun i => row.length - i) 0 (Nat.zero_le _) ⟨rfl, ⟨.refl _, .refl _, .of_eq (congrArg (fun n : Nat => SV.d (dI n)) (by simp)), .refl _, trivial⟩, ⟨⟨_, rfl, lesC_refl _⟩, trivial⟩, trivial, rfl⟩ ?_
  intro i hi
  rcases Nat.lt_or_ge i row.length with h | h
  · have u1 : decide ((i : Int) < (row.length : Int)) = true := decide_eq_true (by omega)
    obtain ⟨x, hx⟩ : ∃ a, row[i]? = some a := ⟨_, List.getElem?_eq_getElem h⟩
    have ex := ix (fun s => [dS s]) row i i x rfl hx
    have hw := wrapI ((i : Int) + 1) (by omega)
    have hnx := fold_next addB [] hx
    have hms : mset x (dB true) (bS ((row.take i).foldl addB [])) = bS ((row.take (i + 1)).foldl addB []) := by rw [mset_bS, hnx]; rfl
    refine pw_seq ?_; refine pw_region ?_; refine yB rfl rfl rfl rfl ?_; refine yQ ?_; refine pw_seq ?_; rw [u1]; refine pw_ct rfl ?_; refine pw_skip ?_; refine pw_seq ?_; refine pw_block ?_; refine pw_seq ?_; refine pw_region ?_
    refine yW ex (by omega) rfl rfl ?_; refine yLr rfl rfl ?_; refine yAd rfl ?_; refine yQ ?_; refine pw_region ?_; refine yMm rfl ?_; refine yMd rfl ?_; refine yKu (hM := hMb) rfl rfl rfl rfl hms ?_; refine yQ ?_; refine pw_region ?_
    refine yB rfl rfl rfl rfl ?_; refine yMd rfl ?_; refine yQ ?_; refine q_then ?_
    exact ⟨i + 1, h, by omega, rfl, ⟨.refl _, .refl _, .refl _, .of_eq (congrArg (fun n => SV.d (dI n)) hw), trivial⟩, ⟨⟨_, rfl, lesC_refl _⟩, trivial⟩, trivial, rfl⟩
  · have u1 : decide ((i : Int) < (row.length : Int)) = false := decide_eq_false (by omega)
    rw [List.take_of_length_le h]
    obtain ⟨f1, f2, f3⟩ := fold_addB row []
    have c2 := wSorted (row.foldl addB []) (by simp at f3; omega) (fun s hs => by
      rcases (f1 s).1 hs with h | h
      · cases h
      · have := hbd s h; omega)
    rw [sort_uni (f2 List.nodup_nil), fold_uni] at c2
    refine pw_frzm 6 500012 rfl rfl ?_; refine pw_seq ?_; refine pw_region ?_; refine yB rfl rfl rfl rfl ?_; refine yQ ?_; refine pw_seq ?_; rw [u1]; refine pw_cf rfl ?_; refine pw_exit ?_; refine pw_seq ?_; refine pw_region ?_
    refine yMd rfl ?_; refine yC (c2) rfl rfl ?_; refine yAd rfl ?_; refine yAd rfl ?_; refine yQ ?_; refine pw_ret ?_
    exact q_ret _ (.tmp rfl (.tmp rfl .nil)) rfl
set_option maxRecDepth 20000 in
set_option maxHeartbeats 4000000 in
theorem wSrc (l : List Stp) (id : Str) (hb : bdL 1000 l) : PCalls Tryz.prog 51 [dSl l, dS id] (.d (dSet (addB (reach (parG l) id) id))) := by
  have hl := hb.1
  have c1 := wPars l (by omega)
  have c2 := wReachM (parG l) id (fun q hq => by have := parG_rows l q hq; omega)
  have hms := mset_bS id (reach (parG l) id)
  refine pcalls_of_pw Tryz.func51 rfl Tryz.ntmps51 Tryz.results51 (by simp) fun B w0 => ?_
  refine pw_seq ?_; refine pw_region ?_; refine yAd rfl ?_; refine yQ ?_; refine pw_seq ?_; refine pw_region ?_; refine yMd rfl ?_; refine yC (c1) rfl rfl ?_; refine yMd rfl ?_; refine yCmk c2 rfl rfl ?_; refine yAm rfl ?_
  refine yQ ?_; refine pw_seq ?_; refine pw_region ?_; refine yMm rfl ?_; refine yMd rfl ?_; refine yKu (hM := hMb) rfl rfl rfl rfl hms ?_; refine yQ ?_; refine pw_seq ?_; refine pw_region ?_; refine yMm rfl ?_; refine yAm rfl ?_
  refine yQ ?_; refine pw_frzm 4 500009 rfl rfl ?_; refine pw_ret ?_
  exact q_ret _ (.tmp rfl .nil) rfl
set_option maxRecDepth 20000 in
set_option maxHeartbeats 4000000 in
theorem wOrigins (l : List Stp) (id : Str) (hb : bdL 1000 l) : PCalls Tryz.prog 15 [dSl l, dS id] (.tup [dStrs (okR l (orgR l id)), dI (okE l)]) := by
  have c0 := wChk l hb
  have hl := hb.1
  have c1 := wSrc l id hb
  by_cases h0 : chkE l = 0
  rotate_left
  · rw [okR, okE, if_neg h0, if_neg h0]
    have t1 : (chkE l != 0) = true := by simpa using h0
    refine pcalls_of_pw Tryz.func15 rfl Tryz.ntmps15 Tryz.results15 (by simp) fun B w0 => ?_
    refine pw_seq ?_; refine pw_region ?_; refine yAd rfl ?_; refine yAd rfl ?_; refine yQ ?_; refine pw_seq ?_; refine pw_seq ?_; refine pw_region ?_; refine yMd rfl ?_; refine yC (c0) rfl rfl ?_; refine yB rfl rfl rfl rfl ?_
    refine yQ ?_; refine q_then ?_; rw [t1]; refine pw_ct rfl ?_; refine pw_seq ?_; refine pw_region ?_; refine yAd rfl ?_; refine yAd rfl ?_; refine yQ ?_; refine pw_ret ?_; refine q_then_ret ?_
    exact q_ret _ (.tnil 1 rfl (.tmp rfl .nil)) rfl
  rw [okR, okE, if_pos h0, if_pos h0]
  rw [h0] at c0
  obtain ⟨A, hA⟩ : ∃ A, A = addB (reach (parG l) id) id := ⟨_, rfl⟩
  have hAc : ∀ x, A.contains x = srcB l id x := fun x => by rw [hA, addB_contains]; rfl
  rw [← hA] at c1
  refine pcalls_of_pw Tryz.func15 rfl Tryz.ntmps15 Tryz.results15 (by simp) fun B w0 => ?_
  refine pw_seq ?_; refine pw_region ?_; refine yAd rfl ?_; refine yAd rfl ?_; refine yQ ?_; refine pw_seq ?_; refine pw_seq ?_; refine pw_region ?_; refine yMd rfl ?_; refine yC (c0) rfl rfl ?_; refine yB rfl rfl rfl rfl ?_
  refine yQ ?_; refine pw_cf rfl ?_; refine pw_skip ?_; refine pw_seq ?_; refine pw_region ?_; refine yMd rfl ?_; refine yMd rfl ?_; refine yC (c1) rfl rfl ?_; refine yKm rfl ?_; refine yAd rfl ?_; refine yAm rfl ?_; refine yQ ?_
  refine pw_seq ?_; refine pw_seq ?_; refine pw_region ?_; refine yMd rfl ?_; refine yN rfl ?_; refine yMd rfl ?_; refine yQ ?_; refine pw_block ?_
  refine pw_loop (fun i : Nat => ⟨38, [(6, .d (dSet A)), (7, .mb 500016), (17, .d (dSl l)), (18, .d (dI l.length)), (19, .d (dI i))], [(500016, [.mc (kmap (bS (setF (orgF l id) (fun s => s.t) (l.take i))))])], []⟩) (fun i => i ≤ l.length) (fun i => l.length - i) 0 (Nat.zero_le _) ⟨rfl, ⟨.refl _, .refl _, .refl _, .of_eq (congrArg (fun n : Nat => SV.d (dI n)) (by simp)), .refl _, trivial⟩, ⟨⟨_, rfl, lesC_refl _⟩, trivial⟩, trivial, rfl⟩ ?_
  intro i hi
  rcases Nat.lt_or_ge i l.length with h | h
  · have u1 : decide ((i : Int) < (l.length : Int)) = true := decide_eq_true (by omega)
    obtain ⟨s, hx⟩ : ∃ a, l[i]? = some a := ⟨_, List.getElem?_eq_getElem h⟩
    have ex := ix dSp l i i s rfl hx
    have hw := wrapI ((i : Int) + 1) (by omega)
    have hnx := setF_next (f := orgF l id) (g := (fun s => s.t)) hx
    have hgs := mget_bS s.t A
    rw [hAc] at hgs
    cases t1 : (s.f == []) with
    | false =>
      have hf : orgF l id s = false := by rw [orgF, t1]; rfl
      rw [hf, if_neg (by simp)] at hnx
      refine pw_seq ?_; refine pw_region ?_; refine yB rfl rfl rfl rfl ?_; refine yQ ?_; refine pw_seq ?_; rw [u1]; refine pw_ct rfl ?_; refine pw_skip ?_; refine pw_seq ?_; refine pw_block ?_; refine pw_seq ?_; refine pw_region ?_
      refine yW ex (by omega) rfl rfl ?_; refine yLs (ys := [_, _, _, _, _, _]) rfl rfl rfl ?_; refine yZ (cs := [_, _, _, _, _, _]) rfl rfl ?_; refine yS (cs' := [_, _, _, _, _, _]) rfl rfl rfl rfl rfl ?_; refine yQ ?_; refine pw_seq ?_
      refine pw_region ?_; refine yFb rfl ?_; refine yLd rfl rfl rfl ?_; refine yBse rfl rfl ?_; refine yMd rfl ?_; rw [t1]; refine yO rfl ?_; refine yO rfl ?_; refine yO rfl ?_; refine yO rfl ?_; refine yVd rfl rfl ?_; refine yQ ?_
      refine pw_cf rfl ?_; refine pw_skip ?_; refine pw_region ?_; refine yB rfl rfl rfl rfl ?_; refine yMd rfl ?_; refine yQ ?_; refine q_then ?_
      exact ⟨i + 1, h, by omega, rfl, ⟨.refl _, .refl _, .refl _, .refl _, .of_eq (congrArg (fun n => SV.d (dI n)) hw), trivial⟩, ⟨⟨_, rfl, lesC_eq (by rw [hnx])⟩, trivial⟩, trivial, rfl⟩
    | true =>
      cases t2 : srcB l id s.t with
      | false =>
        rw [t2] at hgs
        have hf : orgF l id s = false := by rw [orgF, t1, t2]; rfl
        rw [hf, if_neg (by simp)] at hnx
        refine pw_seq ?_; refine pw_region ?_; refine yB rfl rfl rfl rfl ?_; refine yQ ?_; refine pw_seq ?_; rw [u1]; refine pw_ct rfl ?_; refine pw_skip ?_; refine pw_seq ?_; refine pw_block ?_; refine pw_seq ?_; refine pw_region ?_
        refine yW ex (by omega) rfl rfl ?_; refine yLs (ys := [_, _, _, _, _, _]) rfl rfl rfl ?_; refine yZ (cs := [_, _, _, _, _, _]) rfl rfl ?_; refine yS (cs' := [_, _, _, _, _, _]) rfl rfl rfl rfl rfl ?_; refine yQ ?_; refine pw_seq ?_
        refine pw_region ?_; refine yFb rfl ?_; refine yLd rfl rfl rfl ?_; refine yBse rfl rfl ?_; refine yMd rfl ?_; rw [t1]; refine yMd rfl ?_; refine yFb rfl ?_; refine yLd rfl rfl rfl ?_
        refine yKe (hM := hMb) (l := bS A) rfl rfl hgs ?_; refine yPd rfl rfl ?_; refine yQ ?_; refine pw_cf rfl ?_; refine pw_skip ?_; refine pw_region ?_; refine yB rfl rfl rfl rfl ?_; refine yMd rfl ?_; refine yQ ?_; refine q_then ?_
        exact ⟨i + 1, h, by omega, rfl, ⟨.refl _, .refl _, .refl _, .refl _, .of_eq (congrArg (fun n => SV.d (dI n)) hw), trivial⟩, ⟨⟨_, rfl, lesC_eq (by rw [hnx])⟩, trivial⟩, trivial, rfl⟩
      | true =>
        rw [t2] at hgs
        have hf : orgF l id s = true := by rw [orgF, t1, t2]; rfl
        rw [hf, if_pos rfl] at hnx
        have hms : mset (s.t) (dB true) (bS (setF (orgF l id) (fun s => s.t) (l.take i))) = bS (setF (orgF l id) (fun s => s.t) (l.take (i + 1))) := by rw [mset_bS, hnx]; rfl
        refine pw_seq ?_; refine pw_region ?_; refine yB rfl rfl rfl rfl ?_; refine yQ ?_; refine pw_seq ?_; rw [u1]; refine pw_ct rfl ?_; refine pw_skip ?_; refine pw_seq ?_; refine pw_block ?_; refine pw_seq ?_; refine pw_region ?_
        refine yW ex (by omega) rfl rfl ?_; refine yLs (ys := [_, _, _, _, _, _]) rfl rfl rfl ?_; refine yZ (cs := [_, _, _, _, _, _]) rfl rfl ?_; refine yS (cs' := [_, _, _, _, _, _]) rfl rfl rfl rfl rfl ?_; refine yQ ?_; refine pw_seq ?_
        refine pw_region ?_; refine yFb rfl ?_; refine yLd rfl rfl rfl ?_; refine yBse rfl rfl ?_; refine yMd rfl ?_; rw [t1]; refine yMd rfl ?_; refine yFb rfl ?_; refine yLd rfl rfl rfl ?_
        refine yKe (hM := hMb) (l := bS A) rfl rfl hgs ?_; refine yPd rfl rfl ?_; refine yQ ?_; refine pw_ct rfl ?_; refine pw_region ?_; refine yMm rfl ?_; refine yFb rfl ?_; refine yLd rfl rfl rfl ?_
        refine yKu (hM := hMb) rfl rfl rfl rfl hms ?_; refine yQ ?_; refine pw_region ?_; refine yB rfl rfl rfl rfl ?_; refine yMd rfl ?_; refine yQ ?_; refine q_then ?_
        exact ⟨i + 1, h, by omega, rfl, ⟨.refl _, .refl _, .refl _, .refl _, .of_eq (congrArg (fun n => SV.d (dI n)) hw), trivial⟩, ⟨⟨_, rfl, lesC_refl _⟩, trivial⟩, trivial, rfl⟩
  · have u1 : decide ((i : Int) < (l.length : Int)) = false := decide_eq_false (by omega)
    rw [List.take_of_length_le h]
    have f3 := setF_len (orgF l id) (fun s => s.t) l
    have c2 := wSorted (setF (orgF l id) (fun s => s.t) l) (by omega) (setF_all (p := fun x => x.length ≤ 1000000) _ _ _ fun s hs => by have := hb.2 s hs; unfold bdS at this; show (s.t).length ≤ 1000000; omega)
    rw [setF_sort] at c2
    refine pw_frzm 7 500016 rfl rfl ?_; refine pw_seq ?_; refine pw_region ?_; refine yB rfl rfl rfl rfl ?_; refine yQ ?_; refine pw_seq ?_; rw [u1]; refine pw_cf rfl ?_; refine pw_exit ?_; refine pw_seq ?_; refine pw_region ?_
    refine yMd rfl ?_; refine yC (c2) rfl rfl ?_; refine yAd rfl ?_; refine yAd rfl ?_; refine yQ ?_; refine pw_ret ?_
    exact q_ret _ (.tmp rfl (.tmp rfl .nil)) rfl
set_option maxRecDepth 20000 in
set_option maxHeartbeats 4000000 in
theorem wCauses (l : List Stp) (id : Str) (hb : bdL 1000 l) : PCalls Tryz.prog 19 [dSl l, dS id] (.tup [dStrs (okR l (cauR l id)), dI (okE l)]) := by
  have c0 := wChk l hb
  have hl := hb.1
  have c1 := wSrc l id hb
  by_cases h0 : chkE l = 0
  rotate_left
  · rw [okR, okE, if_neg h0, if_neg h0]
    have t1 : (chkE l != 0) = true := by simpa using h0
    refine pcalls_of_pw Tryz.func19 rfl Tryz.ntmps19 Tryz.results19 (by simp) fun B w0 => ?_
    refine pw_seq ?_; refine pw_region ?_; refine yAd rfl ?_; refine yAd rfl ?_; refine yQ ?_; refine pw_seq ?_; refine pw_seq ?_; refine pw_region ?_; refine yMd rfl ?_; refine yC (c0) rfl rfl ?_; refine yB rfl rfl rfl rfl ?_
    refine yQ ?_; refine q_then ?_; rw [t1]; refine pw_ct rfl ?_; refine pw_seq ?_; refine pw_region ?_; refine yAd rfl ?_; refine yAd rfl ?_; refine yQ ?_; refine pw_ret ?_; refine q_then_ret ?_
    exact q_ret _ (.tnil 1 rfl (.tmp rfl .nil)) rfl
  rw [okR, okE, if_pos h0, if_pos h0]
  rw [h0] at c0
  obtain ⟨A, hA⟩ : ∃ A, A = addB (reach (parG l) id) id := ⟨_, rfl⟩
  have hAc : ∀ x, A.contains x = srcB l id x := fun x => by rw [hA, addB_contains]; rfl
  rw [← hA] at c1
  refine pcalls_of_pw Tryz.func19 rfl Tryz.ntmps19 Tryz.results19 (by simp) fun B w0 => ?_
  refine pw_seq ?_; refine pw_region ?_; refine yAd rfl ?_; refine yAd rfl ?_; refine yQ ?_; refine pw_seq ?_; refine pw_seq ?_; refine pw_region ?_; refine yMd rfl ?_; refine yC (c0) rfl rfl ?_; refine yB rfl rfl rfl rfl ?_
  refine yQ ?_; refine pw_cf rfl ?_; refine pw_skip ?_; refine pw_seq ?_; refine pw_region ?_; refine yMd rfl ?_; refine yMd rfl ?_; refine yC (c1) rfl rfl ?_; refine yKm rfl ?_; refine yAd rfl ?_; refine yAm rfl ?_; refine yQ ?_
  refine pw_seq ?_; refine pw_seq ?_; refine pw_region ?_; refine yMd rfl ?_; refine yN rfl ?_; refine yMd rfl ?_; refine yQ ?_; refine pw_block ?_
  refine pw_loop (fun i : Nat => ⟨38, [(6, .d (dSet A)), (7, .mb 500016), (17, .d (dSl l)), (18, .d (dI l.length)), (19, .d (dI i))], [(500016, [.mc (kmap (bS (setF (cauF l id) (fun s => s.c) (l.take i))))])], []⟩) (fun i => i ≤ l.length) (fun i => l.length - i) 0 (Nat.zero_le _) ⟨rfl, ⟨.refl _, .refl _, .refl _, .of_eq (congrArg (fun n : Nat => SV.d (dI n)) (by simp)), .refl _, trivial⟩, ⟨⟨_, rfl, lesC_refl _⟩, trivial⟩, trivial, rfl⟩ ?_
  intro i hi
  rcases Nat.lt_or_ge i l.length with h | h
  · have u1 : decide ((i : Int) < (l.length : Int)) = true := decide_eq_true (by omega)
    obtain ⟨s, hx⟩ : ∃ a, l[i]? = some a := ⟨_, List.getElem?_eq_getElem h⟩
    have ex := ix dSp l i i s rfl hx
    have hw := wrapI ((i : Int) + 1) (by omega)
    have hnx := setF_next (f := cauF l id) (g := (fun s => s.c)) hx
    have hgs := mget_bS s.t A
    rw [hAc] at hgs
    cases t1 : (!s.t == []) with
    | false =>
      have hf : cauF l id s = false := by rw [cauF, t1]; rfl
      rw [hf, if_neg (by simp)] at hnx
      refine pw_seq ?_; refine pw_region ?_; refine yB rfl rfl rfl rfl ?_; refine yQ ?_; refine pw_seq ?_; rw [u1]; refine pw_ct rfl ?_; refine pw_skip ?_; refine pw_seq ?_; refine pw_block ?_; refine pw_seq ?_; refine pw_region ?_
      refine yW ex (by omega) rfl rfl ?_; refine yLs (ys := [_, _, _, _, _, _]) rfl rfl rfl ?_; refine yZ (cs := [_, _, _, _, _, _]) rfl rfl ?_; refine yS (cs' := [_, _, _, _, _, _]) rfl rfl rfl rfl rfl ?_; refine yQ ?_; refine pw_seq ?_
      refine pw_region ?_; refine yFb rfl ?_; refine yLd rfl rfl rfl ?_; refine yBsn rfl rfl ?_; refine yMd rfl ?_; rw [t1]; refine yO rfl ?_; refine yO rfl ?_; refine yO rfl ?_; refine yO rfl ?_; refine yVd rfl rfl ?_; refine yQ ?_
      refine pw_cf rfl ?_; refine pw_skip ?_; refine pw_region ?_; refine yB rfl rfl rfl rfl ?_; refine yMd rfl ?_; refine yQ ?_; refine q_then ?_
      exact ⟨i + 1, h, by omega, rfl, ⟨.refl _, .refl _, .refl _, .refl _, .of_eq (congrArg (fun n => SV.d (dI n)) hw), trivial⟩, ⟨⟨_, rfl, lesC_eq (by rw [hnx])⟩, trivial⟩, trivial, rfl⟩
    | true =>
      cases t2 : srcB l id s.t with
      | false =>
        rw [t2] at hgs
        have hf : cauF l id s = false := by rw [cauF, t1, t2]; rfl
        rw [hf, if_neg (by simp)] at hnx
        refine pw_seq ?_; refine pw_region ?_; refine yB rfl rfl rfl rfl ?_; refine yQ ?_; refine pw_seq ?_; rw [u1]; refine pw_ct rfl ?_; refine pw_skip ?_; refine pw_seq ?_; refine pw_block ?_; refine pw_seq ?_; refine pw_region ?_
        refine yW ex (by omega) rfl rfl ?_; refine yLs (ys := [_, _, _, _, _, _]) rfl rfl rfl ?_; refine yZ (cs := [_, _, _, _, _, _]) rfl rfl ?_; refine yS (cs' := [_, _, _, _, _, _]) rfl rfl rfl rfl rfl ?_; refine yQ ?_; refine pw_seq ?_
        refine pw_region ?_; refine yFb rfl ?_; refine yLd rfl rfl rfl ?_; refine yBsn rfl rfl ?_; refine yMd rfl ?_; rw [t1]; refine yMd rfl ?_; refine yFb rfl ?_; refine yLd rfl rfl rfl ?_
        refine yKe (hM := hMb) (l := bS A) rfl rfl hgs ?_; refine yPd rfl rfl ?_; refine yQ ?_; refine pw_cf rfl ?_; refine pw_skip ?_; refine pw_region ?_; refine yB rfl rfl rfl rfl ?_; refine yMd rfl ?_; refine yQ ?_; refine q_then ?_
        exact ⟨i + 1, h, by omega, rfl, ⟨.refl _, .refl _, .refl _, .refl _, .of_eq (congrArg (fun n => SV.d (dI n)) hw), trivial⟩, ⟨⟨_, rfl, lesC_eq (by rw [hnx])⟩, trivial⟩, trivial, rfl⟩
      | true =>
        rw [t2] at hgs
        have hf : cauF l id s = true := by rw [cauF, t1, t2]; rfl
        rw [hf, if_pos rfl] at hnx
        have hms : mset (s.c) (dB true) (bS (setF (cauF l id) (fun s => s.c) (l.take i))) = bS (setF (cauF l id) (fun s => s.c) (l.take (i + 1))) := by rw [mset_bS, hnx]; rfl
        refine pw_seq ?_; refine pw_region ?_; refine yB rfl rfl rfl rfl ?_; refine yQ ?_; refine pw_seq ?_; rw [u1]; refine pw_ct rfl ?_; refine pw_skip ?_; refine pw_seq ?_; refine pw_block ?_; refine pw_seq ?_; refine pw_region ?_
        refine yW ex (by omega) rfl rfl ?_; refine yLs (ys := [_, _, _, _, _, _]) rfl rfl rfl ?_; refine yZ (cs := [_, _, _, _, _, _]) rfl rfl ?_; refine yS (cs' := [_, _, _, _, _, _]) rfl rfl rfl rfl rfl ?_; refine yQ ?_; refine pw_seq ?_
        refine pw_region ?_; refine yFb rfl ?_; refine yLd rfl rfl rfl ?_; refine yBsn rfl rfl ?_; refine yMd rfl ?_; rw [t1]; refine yMd rfl ?_; refine yFb rfl ?_; refine yLd rfl rfl rfl ?_
        refine yKe (hM := hMb) (l := bS A) rfl rfl hgs ?_; refine yPd rfl rfl ?_; refine yQ ?_; refine pw_ct rfl ?_; refine pw_region ?_; refine yMm rfl ?_; refine yFb rfl ?_; refine yLd rfl rfl rfl ?_
        refine yKu (hM := hMb) rfl rfl rfl rfl hms ?_; refine yQ ?_; refine pw_region ?_; refine yB rfl rfl rfl rfl ?_; refine yMd rfl ?_; refine yQ ?_; refine q_then ?_
        exact ⟨i + 1, h, by omega, rfl, ⟨.refl _, .refl _, .refl _, .refl _, .of_eq (congrArg (fun n => SV.d (dI n)) hw), trivial⟩, ⟨⟨_, rfl, lesC_refl _⟩, trivial⟩, trivial, rfl⟩
  · have u1 : decide ((i : Int) < (l.length : Int)) = false := decide_eq_false (by omega)
    rw [List.take_of_length_le h]
    have f3 := setF_len (cauF l id) (fun s => s.c) l
    have c2 := wSorted (setF (cauF l id) (fun s => s.c) l) (by omega) (setF_all (p := fun x => x.length ≤ 1000000) _ _ _ fun s hs => by have := hb.2 s hs; unfold bdS at this; show (s.c).length ≤ 1000000; omega)
    rw [setF_sort] at c2
    refine pw_frzm 7 500016 rfl rfl ?_; refine pw_seq ?_; refine pw_region ?_; refine yB rfl rfl rfl rfl ?_; refine yQ ?_; refine pw_seq ?_; rw [u1]; refine pw_cf rfl ?_; refine pw_exit ?_; refine pw_seq ?_; refine pw_region ?_
    refine yMd rfl ?_; refine yC (c2) rfl rfl ?_; refine yAd rfl ?_; refine yAd rfl ?_; refine yQ ?_; refine pw_ret ?_
    exact q_ret _ (.tmp rfl (.tmp rfl .nil)) rfl
end Go.Proofs.YtkfoogabijnamaaGreatDoor
namespace Go.Proofs.YtkfoogabijnamaaGreatDoor
open Go.RowKit Px

end Go.Proofs.YtkfoogabijnamaaGreatDoor
namespace Go.Proofs.YtkfoogabijnamaaGreatDoor
open Go.RowKit Px

abbrev sT : Nat := 9 * 100000 + 6
end Go.Proofs.YtkfoogabijnamaaGreatDoor
