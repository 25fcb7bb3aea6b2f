/- Walks: the reference's long numbers: groups, comparisons, sums, differences, products. -/
import Derived.Test.YtmfeinilbjfnpaaGreatDoorB5
import Derived.Test.YtmfeinilbjfnpaaGreatDoorB6
import Derived.Test.YtmfeinilbjfnpaaGreatDoorB4
namespace Go.Proofs.YtmfeinilbjfnpaaGreatDoor
open Go.RowKit Px

abbrev dJ (x : Nat) : List DV := [dI x]
abbrev dJm (b : Bool) (l : List Nat) : List DV := [dB b, .sl 1 (l.map dJ)]
set_option maxRecDepth 20000 in
theorem wGroup (l : List Nat) (i : Nat) : PCalls Tryz.prog 102 [.sl 1 (l.map dJ), dI i] (.d (dI (gat l i))) := by
  refine pcalls_of_pw Tryz.func102 rfl Tryz.ntmps102 Tryz.results102 (by simp) fun B w0 => ?_
  rcases Nat.lt_or_ge i l.length with h | h
  · have t1 : decide ((i : Int) < ((l.map dJ).length : Int)) = true := decide_eq_true (by rw [List.length_map]; omega)
    obtain ⟨x, hx⟩ : ∃ x, l[i]? = some x := ⟨_, List.getElem?_eq_getElem h⟩
    have ex := ix dJ l i i x rfl hx
    rw [gat_get hx]
    refine pw_seq ?_; refine pw_region ?_; refine yAd rfl ?_; refine yQ ?_; refine pw_seq ?_; refine pw_seq ?_; refine pw_region ?_; refine yMd rfl ?_; refine yMd rfl ?_; refine yN rfl ?_; refine yB rfl rfl rfl rfl ?_; refine yQ ?_
    refine q_then ?_; rw [t1]; refine pw_ct rfl ?_; refine pw_seq ?_; refine pw_region ?_; refine yMd rfl ?_; refine yMd rfl ?_; refine yW ex (by omega) rfl rfl ?_; refine yLr rfl rfl ?_; refine yAd rfl ?_; refine yQ ?_
    refine pw_ret ?_; refine q_then_ret ?_
    exact q_ret _ (.tmp rfl .nil) rfl
  · have t1 : decide ((i : Int) < ((l.map dJ).length : Int)) = false := decide_eq_false (by rw [List.length_map]; omega)
    rw [gat_ge h]
    refine pw_seq ?_; refine pw_region ?_; refine yAd rfl ?_; refine yQ ?_; refine pw_seq ?_; refine pw_seq ?_; refine pw_region ?_; refine yMd rfl ?_; refine yMd rfl ?_; refine yN rfl ?_; refine yB rfl rfl rfl rfl ?_; refine yQ ?_
    refine q_then ?_; rw [t1]; refine pw_cf rfl ?_; refine pw_skip ?_; refine pw_seq ?_; refine pw_region ?_; refine yAd rfl ?_; refine yQ ?_; refine pw_ret ?_
    exact q_ret _ (.tmp rfl .nil) rfl
set_option maxRecDepth 20000 in
set_option maxHeartbeats 2000000 in
theorem wTrimJ (l : List Nat) (hl : l.length ≤ 1000000) : PCalls Tryz.prog 103 [.sl 1 (l.map dJ)] (.d (.sl 1 ((cutG l).map dJ))) := by
  obtain ⟨r, hr⟩ : ∃ r, r = cutG l := ⟨_, rfl⟩
  rw [← hr]
  refine pcalls_of_pw Tryz.func103 rfl Tryz.ntmps103 Tryz.results103 (by simp) fun B w0 => ?_
  refine pw_seq ?_; refine pw_region ?_; refine yAd rfl ?_; refine yQ ?_; refine pw_seq ?_; refine pw_block ?_
  refine pw_loop (fun n : Nat => ⟨21, [(0, .d (.sl 1 ((l.take n).map dJ)))], [], []⟩) (fun n => n ≤ l.length ∧ cutG (l.take n) = r) (fun n => n) l.length ⟨Nat.le_refl _, by rw [List.take_length, hr]⟩
    ⟨rfl, ⟨.of_eq (by rw [List.take_length]; rfl), trivial⟩, trivial, trivial, rfl⟩ ?_
  rintro n ⟨hn, hc⟩
  have hlen : (l.take n).length = n := by rw [List.length_take]; omega
  have hnx : ∀ x, (l.take n)[n - 1]? = some x → 0 < n → l.take n = l.take (n - 1) ++ [x] := fun x hx h0 => by
    obtain ⟨m, rfl⟩ : ∃ m, n = m + 1 := ⟨n - 1, by omega⟩
    rw [List.getElem?_take_of_lt (by omega)] at hx
    rw [List.take_add_one, Nat.add_sub_cancel] at *
    rw [hx]; rfl
  have htk : ((l.take n).map dJ).take (((n - 1 : Nat) : Int)).toNat = (l.take (n - 1)).map dJ := by
    rw [Int.toNat_natCast, ← List.map_take, List.take_take, Nat.min_eq_left (by omega)]
  obtain ⟨c, hcc⟩ : ∃ c, c = l.take n := ⟨_, rfl⟩
  rw [← hcc] at hc hlen hnx htk ⊢
  rcases Nat.eq_zero_or_pos n with h0 | h0
  · have hc0 : c = [] := List.length_eq_zero_iff.1 (by omega)
    subst hc0
    have hr0 : r = [] := hc.symm
    subst hr0
    refine pw_seq ?_; refine pw_seq ?_; refine pw_region ?_; refine yMd rfl ?_; refine yN rfl ?_; refine yB rfl rfl rfl rfl ?_; refine yMd rfl ?_; refine yO rfl ?_; refine yO rfl ?_; refine yO rfl ?_; refine yO rfl ?_; refine yO rfl ?_
    refine yO rfl ?_; refine yO rfl ?_; refine yVd rfl rfl ?_; refine yQ ?_; refine pw_cf rfl ?_; refine pw_exit ?_; refine pw_seq ?_; refine pw_region ?_; refine yMd rfl ?_; refine yAd rfl ?_; refine yQ ?_; refine pw_ret ?_
    exact q_ret _ (.tmp rfl .nil) rfl
  have u1 : decide (((c.map dJ).length : Int) > 0) = true := decide_eq_true (by rw [List.length_map]; omega)
  obtain ⟨x, hx⟩ : ∃ x, c[n - 1]? = some x := ⟨_, List.getElem?_eq_getElem (by omega)⟩
  have ex := ix dJ c ((n - 1 : Nat) : Int) (n - 1) x rfl hx
  have hw : IntKind.i64.wrap (((c.map dJ).length : Int) - 1) = ((n - 1 : Nat) : Int) := by rw [List.length_map, wrapI _ (by omega)]; omega
  have hcl : ((n - 1 : Nat) : Int) ≤ ((c.map dJ).length : Int) := by rw [List.length_map]; omega
  have hs := hnx x hx h0
  have hcs := cutG_snoc (l.take (n - 1)) x
  rw [← hs, hc] at hcs
  rcases Nat.eq_zero_or_pos x with hx0 | hx0
  · subst hx0
    rw [if_pos rfl] at hcs
    refine pw_seq ?_; refine pw_seq ?_; refine pw_region ?_; refine yMd rfl ?_; refine yN rfl ?_; refine yB rfl rfl rfl rfl ?_; refine yMd rfl ?_; rw [u1]; refine yMd rfl ?_; refine yMd rfl ?_; refine yN rfl ?_
    refine yB rfl rfl rfl rfl ?_; rw [hw]; refine yW ex (by omega) rfl rfl ?_; refine yLr rfl rfl ?_; refine yB rfl rfl rfl rfl ?_; refine yPd rfl rfl ?_; refine yQ ?_; refine pw_ct rfl ?_; refine pw_skip ?_; refine pw_block ?_
    refine pw_region ?_; refine yMd rfl ?_; refine yMd rfl ?_; refine yN rfl ?_; refine yB rfl rfl rfl rfl ?_; rw [hw]; refine yDh (by omega) hcl rfl rfl ?_; refine yAd rfl ?_; refine yQ ?_; refine q_blk ?_; refine q_then ?_
    exact ⟨n - 1, ⟨by omega, hcs.symm⟩, by omega, rfl, ⟨.of_eq (by rw [← htk]; rfl), trivial⟩, trivial, trivial, rfl⟩
  · rw [if_neg (by omega)] at hcs
    have u2 : ((x : Int) == 0) = false := by simp; omega
    refine pw_seq ?_; refine pw_seq ?_; refine pw_region ?_; refine yMd rfl ?_; refine yN rfl ?_; refine yB rfl rfl rfl rfl ?_; refine yMd rfl ?_; rw [u1]; refine yMd rfl ?_; refine yMd rfl ?_; refine yN rfl ?_
    refine yB rfl rfl rfl rfl ?_; rw [hw]; refine yW ex (by omega) rfl rfl ?_; refine yLr rfl rfl ?_; refine yB rfl rfl rfl rfl ?_; refine yPd rfl rfl ?_; refine yQ ?_; refine q_then ?_; rw [u2]; refine pw_cf rfl ?_; refine pw_exit ?_
    refine pw_seq ?_; refine pw_region ?_; refine yMd rfl ?_; refine yAd rfl ?_; refine yQ ?_; refine pw_ret ?_
    rw [hcs]
    exact q_ret _ (.tmp rfl .nil) rfl
/-- the order of two numbers in groups -/
def ordR (l r : List Nat) : Int := if l.length < r.length then -1 else if r.length < l.length then 1 else cmpT l r l.length
theorem ordR_ge (x y : Nat) : (0 ≤ ordR (grp x) (grp y)) ↔ y ≤ x := by
  unfold ordR
  by_cases h1 : (grp x).length < (grp y).length
  · rw [if_pos h1]
    have := grp_lt_of_len h1
    omega
  · rw [if_neg h1]
    by_cases h2 : (grp y).length < (grp x).length
    · rw [if_pos h2]
      have := grp_lt_of_len h2
      omega
    · rw [if_neg h2, cmpT_spec (gok_grp x) (gok_grp y), List.take_of_length_le (Nat.le_refl _), List.take_of_length_le (by omega), gval_grp, gval_grp]
      split
      · omega
      · split <;> omega
set_option maxRecDepth 20000 in
set_option maxHeartbeats 2000000 in
theorem wOrder (l r : List Nat) (hl : l.length ≤ 1000000) : PCalls Tryz.prog 100 [.sl 1 (l.map dJ), .sl 1 (r.map dJ)] (.d (dI (ordR l r))) := by
  unfold ordR
  by_cases h1 : l.length < r.length
  · rw [if_pos h1]
    have u1 : (((l.map dJ).length : Int) != ((r.map dJ).length : Int)) = true := by simp; omega
    have u2 : decide (((l.map dJ).length : Int) < ((r.map dJ).length : Int)) = true := decide_eq_true (by simp; omega)
    refine pcalls_of_pw Tryz.func100 rfl Tryz.ntmps100 Tryz.results100 (by simp) fun B w0 => ?_
    refine pw_seq ?_; refine pw_region ?_; refine yAd rfl ?_; refine yQ ?_; refine pw_seq ?_; refine pw_seq ?_; refine pw_region ?_; refine yMd rfl ?_; refine yN rfl ?_; refine yMd rfl ?_; refine yN rfl ?_; refine yB rfl rfl rfl rfl ?_
    refine yQ ?_; refine q_then ?_; rw [u1]; refine pw_ct rfl ?_; refine pw_seq ?_; refine pw_seq ?_; refine pw_region ?_; refine yMd rfl ?_; refine yN rfl ?_; refine yMd rfl ?_; refine yN rfl ?_; refine yB rfl rfl rfl rfl ?_
    refine yQ ?_; refine q_then ?_; rw [u2]; refine pw_ct rfl ?_; refine pw_seq ?_; refine pw_region ?_; refine yAd rfl ?_; refine yQ ?_; refine pw_ret ?_; refine q_then_ret ?_; refine q_then_ret ?_
    exact q_ret _ (.tmp rfl .nil) rfl
  rw [if_neg h1]
  by_cases h2 : r.length < l.length
  · rw [if_pos h2]
    have u1 : (((l.map dJ).length : Int) != ((r.map dJ).length : Int)) = true := by simp; omega
    have u2 : decide (((l.map dJ).length : Int) < ((r.map dJ).length : Int)) = false := decide_eq_false (by simp; omega)
    refine pcalls_of_pw Tryz.func100 rfl Tryz.ntmps100 Tryz.results100 (by simp) fun B w0 => ?_
    refine pw_seq ?_; refine pw_region ?_; refine yAd rfl ?_; refine yQ ?_; refine pw_seq ?_; refine pw_seq ?_; refine pw_region ?_; refine yMd rfl ?_; refine yN rfl ?_; refine yMd rfl ?_; refine yN rfl ?_; refine yB rfl rfl rfl rfl ?_
    refine yQ ?_; refine q_then ?_; rw [u1]; refine pw_ct rfl ?_; refine pw_seq ?_; refine pw_seq ?_; refine pw_region ?_; refine yMd rfl ?_; refine yN rfl ?_; refine yMd rfl ?_; refine yN rfl ?_; refine yB rfl rfl rfl rfl ?_
    refine yQ ?_; refine q_then ?_; rw [u2]; refine pw_cf rfl ?_; refine pw_skip ?_; refine pw_seq ?_; refine pw_region ?_; refine yAd rfl ?_; refine yQ ?_; refine pw_ret ?_; refine q_then_ret ?_
    exact q_ret _ (.tmp rfl .nil) rfl
  rw [if_neg h2]
  have hlr : l.length = r.length := by omega
  have u1 : (((l.map dJ).length : Int) != ((r.map dJ).length : Int)) = false := by simp; omega
  obtain ⟨z, hz⟩ : ∃ z, z = cmpT l r l.length := ⟨_, rfl⟩
  rw [← hz]
  have hw : IntKind.i64.wrap (((l.map dJ).length : Int) - 1) = (l.length : Int) - 1 := by rw [List.length_map, wrapI _ (by omega)]
  refine pcalls_of_pw Tryz.func100 rfl Tryz.ntmps100 Tryz.results100 (by simp) fun B w0 => ?_
  refine pw_seq ?_; refine pw_region ?_; refine yAd rfl ?_; refine yQ ?_; refine pw_seq ?_; refine pw_seq ?_; refine pw_region ?_; refine yMd rfl ?_; refine yN rfl ?_; refine yMd rfl ?_; refine yN rfl ?_; refine yB rfl rfl rfl rfl ?_
  refine yQ ?_; refine q_then ?_; rw [u1]; refine pw_cf rfl ?_; refine pw_skip ?_; refine pw_seq ?_; refine pw_seq ?_; refine pw_region ?_; refine yMd rfl ?_; refine yN rfl ?_; refine yB rfl rfl rfl rfl ?_; refine yAd rfl ?_
  refine yQ ?_; refine pw_block ?_; rw [hw]
  refine pw_loop (fun i : Nat => ⟨41, [(0, .d (.sl 1 (l.map dJ))), (1, .d (.sl 1 (r.map dJ))), (5, .d (dI ((i : Int) - 1)))], [], []⟩) (fun i => i ≤ l.length ∧ cmpT l r i = z) (fun i => i) l.length ⟨Nat.le_refl _, hz.symm⟩
    ⟨rfl, ⟨.refl _, .refl _, .refl _, trivial⟩, trivial, trivial, rfl⟩ ?_
  rintro i ⟨hi, hc⟩
  rcases Nat.eq_zero_or_pos i with h0 | h0
  · subst h0
    have hz0 : z = 0 := hc.symm
    subst hz0
    have u2 : decide (((0 : Nat) : Int) - 1 ≥ 0) = false := decide_eq_false (by omega)
    refine pw_seq ?_; refine pw_seq ?_; refine pw_region ?_; refine yMd rfl ?_; refine yB rfl rfl rfl rfl ?_; refine yQ ?_; refine pw_cf rfl ?_; refine pw_exit ?_; refine pw_seq ?_; refine pw_region ?_; refine yAd rfl ?_; refine yQ ?_
    refine pw_ret ?_; rw [u2]
    exact q_ret _ (.tmp rfl .nil) rfl
  obtain ⟨j, rfl⟩ : ∃ j, i = j + 1 := ⟨i - 1, by omega⟩
  have u2 : decide (((j + 1 : Nat) : Int) - 1 ≥ 0) = true := decide_eq_true (by omega)
  obtain ⟨x, hx⟩ : ∃ x, l[j]? = some x := ⟨_, List.getElem?_eq_getElem (by omega)⟩
  obtain ⟨y, hy⟩ : ∃ y, r[j]? = some y := ⟨_, List.getElem?_eq_getElem (by omega)⟩
  have ex := ix dJ l (((j + 1 : Nat) : Int) - 1) j x (by omega) hx
  have ey := ix dJ r (((j + 1 : Nat) : Int) - 1) j y (by omega) hy
  have hn := cmpT_next j hx hy
  rw [hc] at hn
  have hw2 : IntKind.i64.wrap (((j + 1 : Nat) : Int) - 1 - 1) = (j : Int) - 1 := by rw [wrapI _ (by omega)]; omega
  by_cases hxy : x < y
  · rw [if_pos hxy] at hn
    have u3 : decide ((x : Int) < (y : Int)) = true := decide_eq_true (by omega)
    subst hn
    refine pw_seq ?_; refine pw_seq ?_; refine pw_region ?_; refine yMd rfl ?_; refine yB rfl rfl rfl rfl ?_; refine yQ ?_; refine q_then ?_; rw [u2]; refine pw_ct rfl ?_; refine pw_skip ?_; refine pw_seq ?_; refine pw_block ?_
    refine pw_seq ?_; refine pw_seq ?_; refine pw_draw Tryz.mixed (by kernel_rfl) ?_; refine yMd rfl ?_; refine yMd rfl ?_; refine yW ex (by omega) rfl rfl ?_; refine yLr rfl rfl ?_; refine yMd rfl ?_; refine yMd rfl ?_
    refine yW ey (by omega) rfl rfl ?_; refine yLr rfl rfl ?_; refine yB rfl rfl rfl rfl ?_; refine yQ ?_; refine q_then ?_; rw [u3]; refine pw_ct rfl ?_; refine pw_seq ?_; refine pw_region ?_; refine yAd rfl ?_; refine yQ ?_
    refine pw_ret ?_; refine q_then_ret ?_; refine q_blk_ret ?_; refine q_then_ret ?_; refine q_then_ret ?_; refine q_blk_ret ?_; refine q_then_ret ?_
    exact q_ret _ (.tmp rfl .nil) rfl
  rw [if_neg hxy] at hn
  have u3 : decide ((x : Int) < (y : Int)) = false := decide_eq_false (by omega)
  by_cases hyx : y < x
  · rw [if_pos hyx] at hn
    have u4 : decide ((x : Int) > (y : Int)) = true := decide_eq_true (by omega)
    subst hn
    refine pw_seq ?_; refine pw_seq ?_; refine pw_region ?_; refine yMd rfl ?_; refine yB rfl rfl rfl rfl ?_; refine yQ ?_; refine q_then ?_; rw [u2]; refine pw_ct rfl ?_; refine pw_skip ?_; refine pw_seq ?_; refine pw_block ?_
    refine pw_seq ?_; refine pw_seq ?_; refine pw_draw Tryz.mixed (by kernel_rfl) ?_; refine yMd rfl ?_; refine yMd rfl ?_; refine yW ex (by omega) rfl rfl ?_; refine yLr rfl rfl ?_; refine yMd rfl ?_; refine yMd rfl ?_
    refine yW ey (by omega) rfl rfl ?_; refine yLr rfl rfl ?_; refine yB rfl rfl rfl rfl ?_; refine yQ ?_; refine q_then ?_; rw [u3]; refine pw_cf rfl ?_; refine pw_skip ?_; refine pw_seq ?_; refine pw_draw Tryz.mixed (by kernel_rfl) ?_
    refine yMd rfl ?_; refine yMd rfl ?_; refine yW ex (by omega) rfl rfl ?_; refine yLr rfl rfl ?_; refine yMd rfl ?_; refine yMd rfl ?_; refine yW ey (by omega) rfl rfl ?_; refine yLr rfl rfl ?_; refine yB rfl rfl rfl rfl ?_
    refine yQ ?_; refine q_then ?_; rw [u4]; refine pw_ct rfl ?_; refine pw_seq ?_; refine pw_region ?_; refine yAd rfl ?_; refine yQ ?_; refine pw_ret ?_; refine q_blk_ret ?_; refine q_then_ret ?_; refine q_then_ret ?_
    refine q_blk_ret ?_; refine q_then_ret ?_
    exact q_ret _ (.tmp rfl .nil) rfl
  rw [if_neg hyx] at hn
  have u4 : decide ((x : Int) > (y : Int)) = false := decide_eq_false (by omega)
  refine pw_seq ?_; refine pw_seq ?_; refine pw_region ?_; refine yMd rfl ?_; refine yB rfl rfl rfl rfl ?_; refine yQ ?_; refine q_then ?_; rw [u2]; refine pw_ct rfl ?_; refine pw_skip ?_; refine pw_seq ?_; refine pw_block ?_
  refine pw_seq ?_; refine pw_seq ?_; refine pw_draw Tryz.mixed (by kernel_rfl) ?_; refine yMd rfl ?_; refine yMd rfl ?_; refine yW ex (by omega) rfl rfl ?_; refine yLr rfl rfl ?_; refine yMd rfl ?_; refine yMd rfl ?_
  refine yW ey (by omega) rfl rfl ?_; refine yLr rfl rfl ?_; refine yB rfl rfl rfl rfl ?_; refine yQ ?_; refine q_then ?_; rw [u3]; refine pw_cf rfl ?_; refine pw_skip ?_; refine pw_seq ?_; refine pw_draw Tryz.mixed (by kernel_rfl) ?_
  refine yMd rfl ?_; refine yMd rfl ?_; refine yW ex (by omega) rfl rfl ?_; refine yLr rfl rfl ?_; refine yMd rfl ?_; refine yMd rfl ?_; refine yW ey (by omega) rfl rfl ?_; refine yLr rfl rfl ?_; refine yB rfl rfl rfl rfl ?_
  refine yQ ?_; refine q_then ?_; rw [u4]; refine pw_cf rfl ?_; refine pw_skip ?_; refine pw_region ?_; refine yMd rfl ?_; refine yB rfl rfl rfl rfl ?_; refine yAd rfl ?_; refine yQ ?_; refine q_then ?_; rw [hw2]
  exact ⟨j, ⟨by omega, hn.symm⟩, by omega, rfl, ⟨.refl _, .refl _, .refl _, trivial⟩, trivial, trivial, rfl⟩

abbrev jT (n : Nat) : Nat := 3 * 100000 + n
theorem addS_end {m n : List Nat} (hm : gok m) (hn : gok n) {i : Nat} (h1 : m.length ≤ i) (h2 : n.length ≤ i) (h3 : (addS m n i).2 = 0) : gok (addS m n i).1 ∧ gval (addS m n i).1 = gval m + gval n := by
  obtain ⟨-, q1, -, q2⟩ := addS_spec hm hn i
  rw [h3, List.take_of_length_le h1, List.take_of_length_le h2] at q2
  exact ⟨q1, by omega⟩
set_option maxRecDepth 20000 in
set_option maxHeartbeats 4000000 in
theorem wPlusJ (m n : List Nat) (hgm : gok m) (hgn : gok n) (hlm : m.length ≤ 100000) (hln : n.length ≤ 100000) : PCalls Tryz.prog 99 [.sl 1 (m.map dJ), .sl 1 (n.map dJ)] (.d (.sl 1 ((grp (gval m + gval n)).map dJ))) := by
  obtain ⟨r, hr⟩ : ∃ r, r = grp (gval m + gval n) := ⟨_, rfl⟩
  rw [← hr]
  have hml : ((m.map dJ).length : Int) = (m.length : Int) := by simp
  have hnl : ((n.map dJ).length : Int) = (n.length : Int) := by simp
  refine pcalls_of_pw Tryz.func99 rfl Tryz.ntmps99 Tryz.results99 (by simp) fun B w0 => ?_
  refine pw_seq ?_; refine pw_region ?_; refine yAd rfl ?_; refine yQ ?_; refine pw_seq ?_; refine pw_region ?_; refine yRt (E := 3) (t := jT 9) (es := []) rfl rfl rfl rfl rfl rfl rfl rfl ?_; refine yAt rfl ?_; refine yQ ?_
  refine pw_seq ?_; refine pw_region ?_; refine yAd rfl ?_; refine yQ ?_; refine pw_seq ?_; refine pw_seq ?_; refine pw_region ?_; refine yAd rfl ?_; refine yQ ?_; refine pw_block ?_
  refine pw_loop (fun i : Nat => ⟨44, [(0, .d (.sl 1 (m.map dJ))), (1, .d (.sl 1 (n.map dJ))), (5, .ts (jT 9) 1 ((addS m n i).1.map dJ)), (6, .d (dI (addS m n i).2)), (7, .d (dI i))], [], [(jT 9, ((addS m n i).1.map dJ).length)]⟩) (fun i => i ≤ max m.length n.length + 1 ∧ (i = max m.length n.length + 1 → (addS m n i).2 = 0)) (fun i => max m.length n.length + 1 - i) 0 ⟨Nat.zero_le _, fun h => by omega⟩
    ⟨rfl, ⟨.refl _, .refl _, .refl _, .refl _, .refl _, trivial⟩, trivial, ⟨rfl, trivial⟩, rfl⟩ ?_
  rintro i ⟨hi, hlast⟩
  obtain ⟨h1, h2, h3, -⟩ := addS_spec hgm hgn i
  have hend := addS_end hgm hgn (i := i)
  have hnx := addS_next m n i
  obtain ⟨⟨p, c⟩, hp⟩ : ∃ q, q = addS m n i := ⟨_, rfl⟩
  rw [← hp] at h1 h2 h3 hnx hlast hend ⊢
  simp only at h1 h2 h3 hnx hlast hend ⊢
  have step : (i < m.length ∨ i < n.length ∨ 0 < c) → ∀ b : Bool, True := fun _ _ => trivial
  clear step
  have k1 := wGroup m i
  have k2 := wGroup n i
  have g1 := gat_lt hgm i
  have g2 := gat_lt hgn i
  have gm0 : m.length ≤ i → gat m i = 0 := fun h => gat_ge h
  have gn0 : n.length ≤ i → gat n i = 0 := fun h => gat_ge h
  obtain ⟨x, hx⟩ : ∃ x, x = gat m i := ⟨_, rfl⟩
  obtain ⟨y, hy⟩ : ∃ y, y = gat n i := ⟨_, rfl⟩
  rw [← hx] at k1 g1 gm0 hnx
  rw [← hy] at k2 g2 gn0 hnx
  have w1 : IntKind.i64.wrap ((x : Int) + (y : Int)) = ((x + y : Nat) : Int) := by rw [wrapI _ (by omega)]; omega
  have w2 : IntKind.i64.wrap (((x + y : Nat) : Int) + (c : Int)) = ((x + y + c : Nat) : Int) := by rw [wrapI _ (by omega)]; omega
  have hsw : x + c + y = x + y + c := by omega
  rw [hsw] at hnx
  obtain ⟨s, hs⟩ : ∃ s, s = x + y + c := ⟨_, rfl⟩
  rw [← hs] at w2 hnx
  have wq : IntKind.i64.wrap ((s : Int).tdiv 1000000000) = ((s / 1000000000 : Nat) : Int) := wrapI (((s / 1000000000 : Nat)) : Int) (by omega)
  have w12 : IntKind.i64.wrap ((x : Int) + (y : Int) + (c : Int)) = (s : Int) := by rw [wrapI _ (by omega)]; omega
  have hwi := wrapI ((i : Int) + 1) (by omega)
  have hcar : i = max m.length n.length → s / 1000000000 = 0 := fun e => by
    have := gm0 (by omega)
    have := gn0 (by omega)
    omega
  have hl2 : p.length ≤ 1000000 := by omega
  rcases Nat.lt_or_ge i m.length with hm2 | hm2
  · have t1 : decide ((i : Int) < ((m.map dJ).length : Int)) = true := decide_eq_true (by rw [List.length_map]; omega)
    refine pw_seq ?_; refine pw_seq ?_; refine pw_region ?_; refine yMd rfl ?_; refine yMd rfl ?_; refine yN rfl ?_; refine yB rfl rfl rfl rfl ?_; refine yMd rfl ?_; rw [t1]; refine yO rfl ?_; refine yO rfl ?_; refine yO rfl ?_
    refine yO rfl ?_; refine yPd rfl rfl ?_; refine yMd rfl ?_; refine yO rfl ?_; refine yO rfl ?_; refine yPd rfl rfl ?_; refine yQ ?_; refine pw_ct rfl ?_; refine pw_skip ?_; refine pw_seq ?_; refine pw_block ?_; refine pw_seq ?_
    refine pw_region ?_; refine yMd rfl ?_; refine yMd rfl ?_; refine yC (k1) rfl rfl ?_; refine yMd rfl ?_; refine yMd rfl ?_; refine yC (k2) rfl rfl ?_; refine yB rfl rfl rfl rfl ?_; refine yMd rfl ?_; refine yB rfl rfl rfl rfl ?_
    refine yAd rfl ?_; refine yQ ?_; refine pw_seq ?_; refine pw_region ?_; refine yMt rfl ?_; refine yMd rfl ?_; refine yB rfl rfl rfl rfl ?_; refine yR (es := [[_]]) rfl rfl rfl rfl rfl ?_
    refine yT (es' := (p ++ [s % 1000000000]).map dJ) (m := ((p ++ [s % 1000000000]).map dJ).length) (by simp; omega) (by simp; omega) rfl rfl rfl rfl rfl (by simp [w1, w12] <;> rfl) (by simp) ?_; refine yAt rfl ?_; refine yQ ?_
    refine pw_region ?_; refine yMd rfl ?_; refine yB rfl rfl rfl rfl ?_; refine yAd rfl ?_; refine yQ ?_; refine pw_region ?_; refine yMd rfl ?_; refine yB rfl rfl rfl rfl ?_; refine yAd rfl ?_; refine yQ ?_; refine q_then ?_; rw [w1]
    rw [w2]; rw [wq]
    exact ⟨i + 1, ⟨by omega, fun e => by rw [hnx]; exact hcar (by omega)⟩, by omega, rfl, ⟨.refl _, .refl _, .of_eq (by rw [hnx] <;> rfl), .of_eq (by rw [hnx] <;> rfl), .of_eq (congrArg (fun n => SV.d (dI n)) hwi), trivial⟩, trivial, ⟨(by rw [hnx] <;> rfl), trivial⟩, rfl⟩
  have t1 : decide ((i : Int) < ((m.map dJ).length : Int)) = false := decide_eq_false (by rw [List.length_map]; omega)
  rcases Nat.lt_or_ge i n.length with hn2 | hn2
  · have t2 : decide ((i : Int) < ((n.map dJ).length : Int)) = true := decide_eq_true (by rw [List.length_map]; omega)
    refine pw_seq ?_; refine pw_seq ?_; refine pw_region ?_; refine yMd rfl ?_; refine yMd rfl ?_; refine yN rfl ?_; refine yB rfl rfl rfl rfl ?_; refine yMd rfl ?_; rw [t1]; refine yMd rfl ?_; refine yMd rfl ?_; refine yN rfl ?_
    refine yB rfl rfl rfl rfl ?_; refine yVd rfl rfl ?_; refine yMd rfl ?_; rw [t2]; refine yO rfl ?_; refine yO rfl ?_; refine yPd rfl rfl ?_; refine yQ ?_; refine pw_ct rfl ?_; refine pw_skip ?_; refine pw_seq ?_; refine pw_block ?_
    refine pw_seq ?_; refine pw_region ?_; refine yMd rfl ?_; refine yMd rfl ?_; refine yC (k1) rfl rfl ?_; refine yMd rfl ?_; refine yMd rfl ?_; refine yC (k2) rfl rfl ?_; refine yB rfl rfl rfl rfl ?_; refine yMd rfl ?_
    refine yB rfl rfl rfl rfl ?_; refine yAd rfl ?_; refine yQ ?_; refine pw_seq ?_; refine pw_region ?_; refine yMt rfl ?_; refine yMd rfl ?_; refine yB rfl rfl rfl rfl ?_; refine yR (es := [[_]]) rfl rfl rfl rfl rfl ?_
    refine yT (es' := (p ++ [s % 1000000000]).map dJ) (m := ((p ++ [s % 1000000000]).map dJ).length) (by simp; omega) (by simp; omega) rfl rfl rfl rfl rfl (by simp [w1, w12] <;> rfl) (by simp) ?_; refine yAt rfl ?_; refine yQ ?_
    refine pw_region ?_; refine yMd rfl ?_; refine yB rfl rfl rfl rfl ?_; refine yAd rfl ?_; refine yQ ?_; refine pw_region ?_; refine yMd rfl ?_; refine yB rfl rfl rfl rfl ?_; refine yAd rfl ?_; refine yQ ?_; refine q_then ?_; rw [w1]
    rw [w2]; rw [wq]
    exact ⟨i + 1, ⟨by omega, fun e => by rw [hnx]; exact hcar (by omega)⟩, by omega, rfl, ⟨.refl _, .refl _, .of_eq (by rw [hnx] <;> rfl), .of_eq (by rw [hnx] <;> rfl), .of_eq (congrArg (fun n => SV.d (dI n)) hwi), trivial⟩, trivial, ⟨(by rw [hnx] <;> rfl), trivial⟩, rfl⟩
  have t2 : decide ((i : Int) < ((n.map dJ).length : Int)) = false := decide_eq_false (by rw [List.length_map]; omega)
  rcases Nat.eq_zero_or_pos c with hc | hc
  · subst hc
    have k3 := wTrimJ p (by omega)
    obtain ⟨e1, e2⟩ := hend hm2 hn2 rfl
    rw [cutG_grp e1, e2, ← hr] at k3
    refine pw_seq ?_; refine pw_seq ?_; refine pw_region ?_; refine yMd rfl ?_; refine yMd rfl ?_; refine yN rfl ?_; refine yB rfl rfl rfl rfl ?_; refine yMd rfl ?_; rw [t1]; refine yMd rfl ?_; refine yMd rfl ?_; refine yN rfl ?_
    refine yB rfl rfl rfl rfl ?_; refine yVd rfl rfl ?_; refine yMd rfl ?_; rw [t2]; refine yMd rfl ?_; refine yB rfl rfl rfl rfl ?_; refine yVd rfl rfl ?_; refine yQ ?_; refine pw_cf rfl ?_; refine pw_exit ?_; refine pw_seq ?_
    refine pw_region ?_; refine yMt rfl ?_; refine yC (k3) rfl rfl ?_; refine yAd rfl ?_; refine yQ ?_; refine pw_ret ?_
    exact q_ret _ (.tmp rfl .nil) rfl
  · have t3 : decide ((c : Int) > 0) = true := decide_eq_true (by omega)
    have hi2 : i = max m.length n.length := by
      rcases Nat.lt_or_ge i (max m.length n.length + 1) with h | h
      · omega
      · have := hlast (by omega); omega
    refine pw_seq ?_; refine pw_seq ?_; refine pw_region ?_; refine yMd rfl ?_; refine yMd rfl ?_; refine yN rfl ?_; refine yB rfl rfl rfl rfl ?_; refine yMd rfl ?_; rw [t1]; refine yMd rfl ?_; refine yMd rfl ?_; refine yN rfl ?_
    refine yB rfl rfl rfl rfl ?_; refine yVd rfl rfl ?_; refine yMd rfl ?_; rw [t2]; refine yMd rfl ?_; refine yB rfl rfl rfl rfl ?_; refine yVd rfl rfl ?_; refine yQ ?_; refine q_then ?_; rw [t3]; refine pw_ct rfl ?_; refine pw_skip ?_
    refine pw_seq ?_; refine pw_block ?_; refine pw_seq ?_; refine pw_region ?_; refine yMd rfl ?_; refine yMd rfl ?_; refine yC (k1) rfl rfl ?_; refine yMd rfl ?_; refine yMd rfl ?_; refine yC (k2) rfl rfl ?_
    refine yB rfl rfl rfl rfl ?_; refine yMd rfl ?_; refine yB rfl rfl rfl rfl ?_; refine yAd rfl ?_; refine yQ ?_; refine pw_seq ?_; refine pw_region ?_; refine yMt rfl ?_; refine yMd rfl ?_; refine yB rfl rfl rfl rfl ?_
    refine yR (es := [[_]]) rfl rfl rfl rfl rfl ?_
    refine yT (es' := (p ++ [s % 1000000000]).map dJ) (m := ((p ++ [s % 1000000000]).map dJ).length) (by simp; omega) (by simp; omega) rfl rfl rfl rfl rfl (by simp [w1, w12] <;> rfl) (by simp) ?_; refine yAt rfl ?_; refine yQ ?_
    refine pw_region ?_; refine yMd rfl ?_; refine yB rfl rfl rfl rfl ?_; refine yAd rfl ?_; refine yQ ?_; refine pw_region ?_; refine yMd rfl ?_; refine yB rfl rfl rfl rfl ?_; refine yAd rfl ?_; refine yQ ?_; refine q_then ?_; rw [w1]
    rw [w2]; rw [wq]
    exact ⟨i + 1, ⟨by omega, fun e => by rw [hnx]; exact hcar hi2⟩, by omega, rfl, ⟨.refl _, .refl _, .of_eq (by rw [hnx] <;> rfl), .of_eq (by rw [hnx] <;> rfl), .of_eq (congrArg (fun n => SV.d (dI n)) hwi), trivial⟩, trivial, ⟨(by rw [hnx] <;> rfl), trivial⟩, rfl⟩

set_option maxRecDepth 20000 in
set_option maxHeartbeats 4000000 in
theorem wMinusJ (m n : List Nat) (hgm : gok m) (hgn : gok n) (hle : n.length ≤ m.length) (hv : gval n ≤ gval m) (hlm : m.length ≤ 100000) : PCalls Tryz.prog 101 [.sl 1 (m.map dJ), .sl 1 (n.map dJ)] (.d (.sl 1 ((grp (gval m - gval n)).map dJ))) := by
  obtain ⟨r, hr⟩ : ∃ r, r = grp (gval m - gval n) := ⟨_, rfl⟩
  rw [← hr]
  obtain ⟨s1, s2⟩ := subS_end hgm hgn hle hv
  refine pcalls_of_pw Tryz.func101 rfl Tryz.ntmps101 Tryz.results101 (by simp) fun B w0 => ?_
  refine pw_seq ?_; refine pw_region ?_; refine yAd rfl ?_; refine yQ ?_; refine pw_seq ?_; refine pw_region ?_; refine yRt (E := 3) (t := jT 9) (es := []) rfl rfl rfl rfl rfl rfl rfl rfl ?_; refine yAt rfl ?_; refine yQ ?_
  refine pw_seq ?_; refine pw_region ?_; refine yAd rfl ?_; refine yQ ?_; refine pw_seq ?_; refine pw_seq ?_; refine pw_region ?_; refine yAd rfl ?_; refine yQ ?_; refine pw_block ?_
  refine pw_loop (fun i : Nat => ⟨36, [(0, .d (.sl 1 (m.map dJ))), (1, .d (.sl 1 (n.map dJ))), (5, .ts (jT 9) 1 ((subS m n i).1.map dJ)), (6, .d (dI (subS m n i).2)), (7, .d (dI i))], [], [(jT 9, ((subS m n i).1.map dJ).length)]⟩) (fun i => i ≤ m.length) (fun i => m.length - i) 0 (Nat.zero_le _)
    ⟨rfl, ⟨.refl _, .refl _, .refl _, .refl _, .refl _, trivial⟩, trivial, ⟨rfl, trivial⟩, rfl⟩ ?_
  intro i hi
  obtain ⟨h1, h2, h3, -⟩ := subS_spec hgm hgn i
  have hnx := subS_next m n i
  rcases Nat.lt_or_ge i m.length with hi2 | hi2
  rotate_left
  · obtain rfl : i = m.length := by omega
    have t1 : decide ((m.length : Int) < ((m.map dJ).length : Int)) = false := decide_eq_false (by rw [List.length_map]; omega)
    have k3 := wTrimJ (subS m n m.length).1 (by omega)
    rw [cutG_grp s1, s2, ← hr] at k3
    obtain ⟨⟨p, c⟩, hp⟩ : ∃ q, q = subS m n m.length := ⟨_, rfl⟩
    rw [← hp] at k3 ⊢
    refine pw_seq ?_; refine pw_seq ?_; refine pw_region ?_; refine yMd rfl ?_; refine yMd rfl ?_; refine yN rfl ?_; refine yB rfl rfl rfl rfl ?_; refine yQ ?_; refine q_then ?_; rw [t1]; refine pw_cf rfl ?_; refine pw_exit ?_
    refine pw_seq ?_; refine pw_region ?_; refine yMt rfl ?_; refine yC (k3) rfl rfl ?_; refine yAd rfl ?_; refine yQ ?_; refine pw_ret ?_
    exact q_ret _ (.tmp rfl .nil) rfl
  obtain ⟨⟨p, c⟩, hp⟩ : ∃ q, q = subS m n i := ⟨_, rfl⟩
  rw [← hp] at h1 h2 h3 hnx ⊢
  simp only at h1 h2 h3 hnx ⊢
  have t1 : decide ((i : Int) < ((m.map dJ).length : Int)) = true := decide_eq_true (by rw [List.length_map]; omega)
  have k2 := wGroup n i
  obtain ⟨x, hx⟩ : ∃ x, m[i]? = some x := ⟨_, List.getElem?_eq_getElem hi2⟩
  have ex := ix dJ m (i : Int) i x rfl hx
  have g1 : x < 1000000000 := hgm x (List.mem_of_getElem? hx)
  have g2 := gat_lt hgn i
  rw [gat_get hx] at hnx
  obtain ⟨y, hy⟩ : ∃ y, y = gat n i := ⟨_, rfl⟩
  rw [← hy] at k2 g2 hnx
  have w1 : IntKind.i64.wrap ((x : Int) - (y : Int)) = (x : Int) - (y : Int) := wrapI _ (by omega)
  have w2 : IntKind.i64.wrap ((x : Int) - (y : Int) - (c : Int)) = (x : Int) - (y : Int) - (c : Int) := wrapI _ (by omega)
  have hwi := wrapI ((i : Int) + 1) (by omega)
  have hl2 : p.length ≤ 1000000 := by omega
  by_cases hlt : x < c + y
  · rw [if_pos hlt] at hnx
    have t2 : decide ((x : Int) - (y : Int) - (c : Int) < 0) = true := decide_eq_true (by omega)
    have w3 : IntKind.i64.wrap ((x : Int) - (y : Int) - (c : Int) + 1000000000) = ((x + 1000000000 - (c + y) : Nat) : Int) := by rw [wrapI _ (by omega)]; omega
    obtain ⟨v, hv2⟩ : ∃ v, v = x + 1000000000 - (c + y) := ⟨_, rfl⟩
    rw [← hv2] at w3 hnx
    refine pw_seq ?_; refine pw_seq ?_; refine pw_region ?_; refine yMd rfl ?_; refine yMd rfl ?_; refine yN rfl ?_; refine yB rfl rfl rfl rfl ?_; refine yQ ?_; refine q_then ?_; rw [t1]; refine pw_ct rfl ?_; refine pw_skip ?_
    refine pw_seq ?_; refine pw_block ?_; refine pw_seq ?_; refine pw_draw Tryz.mixed (by kernel_rfl) ?_; refine yMd rfl ?_; refine yMd rfl ?_; refine yW ex (by omega) rfl rfl ?_; refine yLr rfl rfl ?_; refine yMd rfl ?_
    refine yMd rfl ?_; refine yC (k2) rfl rfl ?_; refine yB rfl rfl rfl rfl ?_; refine yMd rfl ?_; refine yB rfl rfl rfl rfl ?_; refine yAd rfl ?_; refine yQ ?_; refine pw_seq ?_; refine pw_region ?_; refine yAd rfl ?_; refine yQ ?_
    refine pw_seq ?_; refine pw_seq ?_; refine pw_region ?_; refine yMd rfl ?_; refine yB rfl rfl rfl rfl ?_; refine yQ ?_; refine q_then ?_; rw [w1]; rw [w2]; rw [t2]; refine pw_ct rfl ?_; refine pw_seq ?_; refine pw_region ?_
    refine yMd rfl ?_; refine yB rfl rfl rfl rfl ?_; refine yAd rfl ?_; refine yQ ?_; refine pw_region ?_; refine yAd rfl ?_; refine yQ ?_; refine pw_region ?_; refine yMt rfl ?_; refine yMd rfl ?_
    refine yR (es := [[_]]) rfl rfl rfl rfl rfl ?_; refine yT (es' := (p ++ [v]).map dJ) (m := ((p ++ [v]).map dJ).length) (by simp; omega) (by simp; omega) rfl rfl rfl rfl rfl (by simp [w3]) (by simp) ?_; refine yAt rfl ?_
    refine yQ ?_; refine pw_region ?_; refine yMd rfl ?_; refine yB rfl rfl rfl rfl ?_; refine yAd rfl ?_; refine yQ ?_; refine q_then ?_; rw [w3]
    exact ⟨i + 1, by omega, by omega, rfl, ⟨.refl _, .refl _, .of_eq (by rw [hnx] <;> rfl), .of_eq (by rw [hnx] <;> rfl), .of_eq (congrArg (fun n => SV.d (dI n)) hwi), trivial⟩, trivial, ⟨(by rw [hnx] <;> rfl), trivial⟩, rfl⟩
  · rw [if_neg hlt] at hnx
    have t2 : decide ((x : Int) - (y : Int) - (c : Int) < 0) = false := decide_eq_false (by omega)
    have w3 : (x : Int) - (y : Int) - (c : Int) = ((x - (c + y) : Nat) : Int) := by omega
    obtain ⟨v, hv2⟩ : ∃ v, v = x - (c + y) := ⟨_, rfl⟩
    rw [← hv2] at w3 hnx
    have w2 := w2.trans w3
    rw [w3] at t2
    refine pw_seq ?_; refine pw_seq ?_; refine pw_region ?_; refine yMd rfl ?_; refine yMd rfl ?_; refine yN rfl ?_; refine yB rfl rfl rfl rfl ?_; refine yQ ?_; refine q_then ?_; rw [t1]; refine pw_ct rfl ?_; refine pw_skip ?_
    refine pw_seq ?_; refine pw_block ?_; refine pw_seq ?_; refine pw_draw Tryz.mixed (by kernel_rfl) ?_; refine yMd rfl ?_; refine yMd rfl ?_; refine yW ex (by omega) rfl rfl ?_; refine yLr rfl rfl ?_; refine yMd rfl ?_
    refine yMd rfl ?_; refine yC (k2) rfl rfl ?_; refine yB rfl rfl rfl rfl ?_; refine yMd rfl ?_; refine yB rfl rfl rfl rfl ?_; refine yAd rfl ?_; refine yQ ?_; refine pw_seq ?_; refine pw_region ?_; refine yAd rfl ?_; refine yQ ?_
    refine pw_seq ?_; refine pw_seq ?_; refine pw_region ?_; refine yMd rfl ?_; refine yB rfl rfl rfl rfl ?_; refine yQ ?_; refine q_then ?_; rw [w1]; rw [w2]; refine pw_cf rfl ?_; refine pw_skip ?_; refine pw_region ?_
    refine yMt rfl ?_; refine yMd rfl ?_; refine yR (es := [[_]]) rfl rfl rfl rfl rfl ?_
    refine yT (es' := (p ++ [v]).map dJ) (m := ((p ++ [v]).map dJ).length) (by simp; omega) (by simp; omega) rfl rfl rfl rfl rfl (by simp) (by simp) ?_; refine yAt rfl ?_; refine yQ ?_; refine pw_region ?_; refine yMd rfl ?_
    refine yB rfl rfl rfl rfl ?_; refine yAd rfl ?_; refine yQ ?_; refine q_then ?_; rw [t2]
    exact ⟨i + 1, by omega, by omega, rfl, ⟨.refl _, .refl _, .of_eq (by rw [hnx] <;> rfl), .of_eq (by rw [hnx] <;> rfl), .of_eq (congrArg (fun n => SV.d (dI n)) hwi), trivial⟩, trivial, ⟨(by rw [hnx] <;> rfl), trivial⟩, rfl⟩
end Go.Proofs.YtmfeinilbjfnpaaGreatDoor
namespace Go.Proofs.YtmfeinilbjfnpaaGreatDoor
open Go.RowKit Px

abbrev vJ (l : List Nat) : List Value := l.map fun x : Nat => Value.int .i64 (x : Int)
abbrev cJ (l : List Nat) : List SV := (vJ l).map fun u => SV.d (.val u)
/-- a row of the product done: what is kept -/
structure MulOk (m n : List Nat) (i : Nat) (O : List Nat) : Prop where
  len : O.length = m.length + n.length
  ok : gok O
  val : gval O = gval (m.take i) * gval n
  hi : ∀ j, i + n.length ≤ j → gat O j = 0
theorem MulOk.zero (m n : List Nat) : MulOk m n 0 (List.replicate (m.length + n.length) 0) :=
  ⟨by simp, fun x hx => by rw [List.eq_of_mem_replicate hx]; omega, by simp [gval_zeros, gval], fun j _ => by
    simp only [gat, List.getElem?_replicate]
    split <;> rfl⟩
theorem MulOk.next {m n O : List Nat} {i x k : Nat} (h : MulOk m n i O) (hm : gok m) (hn : gok n) (hx : m[i]? = some x) (hk : n.length ≤ k) (hk2 : k ≤ n.length + 1) (hc : (mulI O x n i k).2 = 0) (hi : i < m.length) : MulOk m n (i + 1) (mulI O x n i k).1 := by
  have hx9 : x < 1000000000 := hm x (List.mem_of_getElem? hx)
  obtain ⟨q1, q2, -, q4, q5⟩ := mulI_spec (i := i) h.ok hn hx9 k (by rw [h.len]; omega)
  rw [hc, List.take_of_length_le hk, Nat.mul_zero, Nat.add_zero] at q4
  refine ⟨q1.trans h.len, q2, ?_, fun j hj => ?_⟩
  · rw [q4, h.val, gval_take, gat_get hx, Nat.add_mul, Nat.mul_assoc]
  · rw [q5 j (by omega)]
    exact h.hi j (by omega)
end Go.Proofs.YtmfeinilbjfnpaaGreatDoor
namespace Go.Proofs.YtmfeinilbjfnpaaGreatDoor
open Go.RowKit Px

theorem enc_dig {r : Nat} (h : r < 10) : Utf8.encode (48 + (r : Int)) = ByteArray.mk ([dig r] : Str).toArray := by
  have : r = 0 ∨ r = 1 ∨ r = 2 ∨ r = 3 ∨ r = 4 ∨ r = 5 ∨ r = 6 ∨ r = 7 ∨ r = 8 ∨ r = 9 := by omega
  rcases this with rfl | rfl | rfl | rfl | rfl | rfl | rfl | rfl | rfl | rfl <;> rfl
theorem wrap32 {r : Nat} (h : r < 10) : IntKind.i32.wrap (48 + (r : Int)) = 48 + (r : Int) := by
  have : r = 0 ∨ r = 1 ∨ r = 2 ∨ r = 3 ∨ r = 4 ∨ r = 5 ∨ r = 6 ∨ r = 7 ∨ r = 8 ∨ r = 9 := by omega
  rcases this with rfl | rfl | rfl | rfl | rfl | rfl | rfl | rfl | rfl | rfl <;> rfl
set_option maxRecDepth 20000 in
set_option maxHeartbeats 1000000 in
theorem wROf (n : Int) (h0 : -9223372036854775808 ≤ n) (h1 : n ≤ 9223372036854775807) : PCalls Tryz.prog 76 [dI n] (.d (dS (canon n))) := by
  refine pcalls_of_pw Tryz.func76 rfl Tryz.ntmps76 Tryz.results76 (by simp) fun B w0 => ?_
  cases t1 : (n == 0) with
  | true =>
    have e : n = 0 := by simpa using t1
    subst e
    rw [show canon 0 = [] from by unfold canon; simp [dec_zero]]
    refine pw_seq ?_; refine pw_region ?_; refine yAd rfl ?_; refine yQ ?_; refine pw_seq ?_; refine pw_seq ?_; refine pw_region ?_; refine yMd rfl ?_; refine yB rfl rfl rfl rfl ?_; refine yQ ?_; refine pw_ct rfl ?_; refine pw_seq ?_
    refine pw_region ?_; refine yAd rfl ?_; refine yQ ?_; refine pw_ret ?_; refine q_then_ret ?_
    exact q_ret _ (.tmp rfl .nil) rfl
  | false =>
  have hn : n ≠ 0 := by simpa using t1
  refine pw_seq ?_; refine pw_region ?_; refine yAd rfl ?_; refine yQ ?_; refine pw_seq ?_; refine pw_seq ?_; refine pw_region ?_; refine yMd rfl ?_; refine yB rfl rfl rfl rfl ?_; refine yQ ?_; refine q_then ?_; rw [t1]
  refine pw_cf rfl ?_; refine pw_skip ?_; refine pw_seq ?_; refine pw_region ?_; refine yAd rfl ?_; refine yQ ?_; refine pw_seq ?_; refine pw_seq ?_; refine pw_region ?_; refine yMd rfl ?_; refine yAd rfl ?_; refine yQ ?_
  refine pw_block ?_
  refine pw_loop (fun p : Nat × Str => ⟨30, [(0, .d (dI n)), (3, .d (dS p.2)), (4, .d (dI (sg (decide (n < 0)) p.1)))], [], []⟩) (fun p => p.1 ≤ n.natAbs ∧ dec n.natAbs = dec p.1 ++ p.2) (fun p => p.1) (n.natAbs, []) ⟨Nat.le_refl _, by simp⟩ ⟨rfl, ⟨.refl _, .refl _, .of_eq (congrArg (fun n => SV.d (dI n)) (sg_of n)), trivial⟩, trivial, trivial, rfl⟩ ?_
  rintro ⟨m, t⟩ ⟨hm, ht⟩
  simp only at hm ht
  have hlen : t.length ≤ 20 := by
    have h5 := dec_len20 (n := n.natAbs) (by omega)
    rw [ht] at h5
    simp at h5
    omega
  obtain ⟨b, hb⟩ : ∃ b, b = decide (n < 0) := ⟨_, rfl⟩
  have hq := sg_quo b m
  have hr := sg_rem b m
  simp only [← hb]
  by_cases h2 : m = 0
  · subst h2
    rw [dec_zero, List.nil_append] at ht
    have t2 : (sg b 0 != 0) = false := by cases b <;> rfl
    have hc : canon n = if n < 0 then 45 :: t else t := by unfold canon; rw [ht]
    by_cases h3 : n < 0
    · have t3 : decide (n < 0) = true := decide_eq_true h3
      rw [hc, if_pos h3]
      refine pw_seq ?_; refine pw_seq ?_; refine pw_region ?_; refine yMd rfl ?_; refine yB rfl rfl rfl rfl ?_; refine yQ ?_; refine q_then ?_; rw [t2]; refine pw_cf rfl ?_; refine pw_exit ?_; refine pw_seq ?_; refine pw_seq ?_
      refine pw_region ?_; refine yMd rfl ?_; refine yB rfl rfl rfl rfl ?_; refine yQ ?_; refine q_then ?_; rw [t3]; refine pw_ct rfl ?_; refine pw_region ?_; refine yMd rfl ?_; refine yBsa (l1 := [45]) (by simp; omega) rfl rfl ?_
      refine yAd rfl ?_; refine yQ ?_; refine pw_seq ?_; refine pw_region ?_; refine yMd rfl ?_; refine yAd rfl ?_; refine yQ ?_; refine pw_ret ?_
      exact q_ret _ (.tmp rfl .nil) rfl
    · have t3 : decide (n < 0) = false := decide_eq_false h3
      rw [hc, if_neg h3]
      refine pw_seq ?_; refine pw_seq ?_; refine pw_region ?_; refine yMd rfl ?_; refine yB rfl rfl rfl rfl ?_; refine yQ ?_; refine q_then ?_; rw [t2]; refine pw_cf rfl ?_; refine pw_exit ?_; refine pw_seq ?_; refine pw_seq ?_
      refine pw_region ?_; refine yMd rfl ?_; refine yB rfl rfl rfl rfl ?_; refine yQ ?_; refine q_then ?_; rw [t3]; refine pw_cf rfl ?_; refine pw_skip ?_; refine pw_seq ?_; refine pw_region ?_; refine yMd rfl ?_; refine yAd rfl ?_
      refine yQ ?_; refine pw_ret ?_
      exact q_ret _ (.tmp rfl .nil) rfl
  · have t2 : (sg b m != 0) = true := by
      have := (sg_zero b m)
      simp [this, h2]
    have hdec : dec n.natAbs = dec (m / 10) ++ (dig (m % 10) :: t) := by rw [ht, dec_pos h2]; simp
    have hr10 : m % 10 < 10 := Nat.mod_lt _ (by omega)
    obtain ⟨r, hr2⟩ : ∃ r, r = m % 10 := ⟨_, rfl⟩
    rw [← hr2] at hr hdec hr10
    have henc := enc_dig hr10
    have hw48 : IntKind.i64.wrap (48 + (r : Int)) = 48 + (r : Int) := wrapI _ (by omega)
    have hw32 : IntKind.i32.wrap (48 + (r : Int)) = 48 + (r : Int) := wrap32 hr10
    have hmu : m / 10 < m := by omega
    have hwq : IntKind.i64.wrap (sg b (m / 10)) = sg b (m / 10) := wrapI _ (by unfold sg; cases b <;> simp <;> omega)
    by_cases h3 : sg b r < 0
    · have hb2 : b = true := by
        cases b with
        | true => rfl
        | false => unfold sg at h3; simp at h3; omega
      have t3 : decide (sg b r < 0) = true := decide_eq_true h3
      have hneg : IntKind.i64.wrap (0 - sg b r) = (r : Int) := by
        rw [hb2]; unfold sg; simp only [if_true]; rw [Int.zero_sub, Int.neg_neg]; exact wrapI _ (by omega)
      refine pw_seq ?_; refine pw_seq ?_; refine pw_region ?_; refine yMd rfl ?_; refine yB rfl rfl rfl rfl ?_; refine yQ ?_; refine q_then ?_; rw [t2]; refine pw_ct rfl ?_; refine pw_skip ?_; refine pw_seq ?_; refine pw_block ?_
      refine pw_seq ?_; refine pw_region ?_; refine yMd rfl ?_; refine yB rfl rfl rfl rfl ?_; refine yAd rfl ?_; refine yQ ?_; refine pw_seq ?_; refine pw_seq ?_; refine pw_region ?_; refine yMd rfl ?_; refine yB rfl rfl rfl rfl ?_
      refine yQ ?_; refine q_then ?_; rw [hr]; rw [t3]; refine pw_ct rfl ?_; refine pw_region ?_; refine yMd rfl ?_; refine yU rfl rfl rfl ?_; refine yAd rfl ?_; refine yQ ?_; refine pw_region ?_; refine yMd rfl ?_
      refine yB rfl rfl rfl rfl ?_; refine yJ rfl ?_; rw [hneg]; rw [hw48]; rw [hw32]; refine yJs henc rfl ?_; refine yMd rfl ?_; refine yBsa (l1 := [dig r]) (by simp; omega) rfl rfl ?_; refine yAd rfl ?_; refine yQ ?_
      refine pw_region ?_; refine yMd rfl ?_; refine yB rfl rfl rfl rfl ?_; refine yAd rfl ?_; refine yQ ?_; refine q_then ?_; rw [hq]; rw [hwq]
      refine ⟨(m / 10, dig r :: t), ⟨by simp only; omega, by rw [hdec]⟩, hmu, rfl, ⟨.refl _, .refl _, .refl _, trivial⟩, trivial, trivial, rfl⟩
    · have t3 : decide (sg b r < 0) = false := decide_eq_false h3
      have hpos : sg b r = (r : Int) := by
        cases b with
        | false => rfl
        | true => unfold sg at h3 ⊢; simp at h3 ⊢; omega
      refine pw_seq ?_; refine pw_seq ?_; refine pw_region ?_; refine yMd rfl ?_; refine yB rfl rfl rfl rfl ?_; refine yQ ?_; refine q_then ?_; rw [t2]; refine pw_ct rfl ?_; refine pw_skip ?_; refine pw_seq ?_; refine pw_block ?_
      refine pw_seq ?_; refine pw_region ?_; refine yMd rfl ?_; refine yB rfl rfl rfl rfl ?_; refine yAd rfl ?_; refine yQ ?_; refine pw_seq ?_; refine pw_seq ?_; refine pw_region ?_; refine yMd rfl ?_; refine yB rfl rfl rfl rfl ?_
      refine yQ ?_; refine q_then ?_; rw [hr]; rw [t3]; refine pw_cf rfl ?_; refine pw_skip ?_; refine pw_region ?_; refine yMd rfl ?_; refine yB rfl rfl rfl rfl ?_; refine yJ rfl ?_; rw [hpos]; rw [hw48]; rw [hw32]
      refine yJs henc rfl ?_; refine yMd rfl ?_; refine yBsa (l1 := [dig r]) (by simp; omega) rfl rfl ?_; refine yAd rfl ?_; refine yQ ?_; refine pw_region ?_; refine yMd rfl ?_; refine yB rfl rfl rfl rfl ?_; refine yAd rfl ?_
      refine yQ ?_; refine q_then ?_; rw [hq]; rw [hwq]
      refine ⟨(m / 10, dig r :: t), ⟨by simp only; omega, by rw [hdec]⟩, hmu, rfl, ⟨.refl _, .refl _, .refl _, trivial⟩, trivial, trivial, rfl⟩
theorem natOf_take {t : Str} (h : t.all isD = true) (h17 : t.length ≤ 17) (i : Nat) : natOf (t.take i) < 100000000000000000 := by
  have h1 : (t.take i).all isD = true := by
    rw [List.all_eq_true] at h ⊢
    exact fun x hx => h x (List.mem_of_mem_take hx)
  have h2 := natOf_lt h1
  have h3 : (10 : Nat) ^ (t.take i).length ≤ 10 ^ 17 := Nat.pow_le_pow_right (by decide) (by rw [List.length_take]; omega)
  have e17 : (10 : Nat) ^ 17 = 100000000000000000 := by decide
  omega
set_option maxRecDepth 20000 in
set_option maxHeartbeats 1000000 in
theorem wRShort (a : Str) (ha : a.length ≤ 1000000) (h17 : (dgs a).1.length ≤ 17) : PCalls Tryz.prog 75 [dS a] (.tup [dI (val a), dB true]) := by
  have c1 := wRDigits a (by omega)
  have hD := dgs_all a
  have hv : val a = if (dgs a).2 then -(natOf (dgs a).1 : Int) else natOf (dgs a).1 := rfl
  obtain ⟨r, hr⟩ : ∃ r, r = val a := ⟨_, rfl⟩
  obtain ⟨⟨t, b⟩, ht⟩ : ∃ p, p = dgs a := ⟨_, rfl⟩
  rw [← hr] at hv ⊢
  rw [← ht] at c1 hD hv h17
  simp only at c1 hD hv h17
  have hnt := natOf_take hD h17
  have hdv : ∀ (i : Nat) c, t[i]? = some c → 48 ≤ c.toNat ∧ c.toNat ≤ 57 := fun i c hc => by
    rw [List.all_eq_true] at hD
    have := hD c (List.mem_of_getElem? hc)
    unfold isD at this
    simpa using this
  clear ht hr
  have u0 : decide ((t.length : Int) > 17) = false := decide_eq_false (by omega)
  refine pcalls_of_pw Tryz.func75 rfl Tryz.ntmps75 Tryz.results75 (by simp) fun B w0 => ?_
  refine pw_seq ?_; refine pw_region ?_; refine yAd rfl ?_; refine yAd rfl ?_; refine yQ ?_; refine pw_seq ?_; refine pw_region ?_; refine yMd rfl ?_; refine yC (c1) rfl rfl ?_; refine yMp rfl ?_; refine yX rfl rfl ?_
  refine yX rfl rfl ?_; refine yAd rfl ?_; refine yAd rfl ?_; refine yQ ?_; refine pw_seq ?_; refine pw_seq ?_; refine pw_region ?_; refine yMd rfl ?_; refine yNs rfl ?_; refine yB rfl rfl rfl rfl ?_; refine yQ ?_; refine q_then ?_
  rw [u0]; refine pw_cf rfl ?_; refine pw_skip ?_; refine pw_seq ?_; refine pw_region ?_; refine yAd rfl ?_; refine yQ ?_; refine pw_seq ?_; refine pw_seq ?_; refine pw_region ?_; refine yAd rfl ?_; refine yQ ?_; refine pw_block ?_
  refine pw_loop (fun i : Nat => ⟨34, [(4, .d (dS t)), (5, .d (dB b)), (6, .d (dI (natOf (t.take i)))), (7, .d (dI i))], [], []⟩) (fun i => i ≤ t.length) (fun i => t.length - i) 0 (Nat.zero_le _) ⟨rfl, ⟨.refl _, .refl _, .refl _, .refl _, trivial⟩, trivial, trivial, rfl⟩ ?_
  intro i hi
  rcases Nat.lt_or_ge i t.length with h | h
  · have u1 : decide ((i : Int) < (t.length : Int)) = true := decide_eq_true (by omega)
    obtain ⟨c, hc⟩ : ∃ c, t[i]? = some c := ⟨_, List.getElem?_eq_getElem h⟩
    have hci : t[((i : Int)).toNat]? = some c := by rw [Int.toNat_natCast]; exact hc
    obtain ⟨d1, d2⟩ := hdv i c hc
    have hn := hnt i
    have hnx : natOf (t.take (i + 1)) = 10 * natOf (t.take i) + dv c := by rw [List.take_add_one, hc]; exact natOf_snoc _ _
    obtain ⟨n, hnn⟩ : ∃ n, n = natOf (t.take i) := ⟨_, rfl⟩
    rw [← hnn] at hn hnx ⊢
    have w1 : IntKind.i64.wrap (10 * (n : Int)) = 10 * (n : Int) := wrapI _ (by omega)
    have w2 : IntKind.u8.wrap ((c.toNat : Int) - 48) = (dv c : Int) := by
      rw [IntKind.wrap_u8]
      unfold dv
      omega
    have hd9 : dv c ≤ 9 := by unfold dv; omega
    have w3 : IntKind.i64.wrap (dv c : Int) = (dv c : Int) := wrapI _ (by omega)
    have w4 : IntKind.i64.wrap (10 * (n : Int) + (dv c : Int)) = ((10 * n + dv c : Nat) : Int) := by rw [wrapI _ (by omega)]; omega
    have w5 := wrapI ((i : Int) + 1) (by omega)
    refine pw_seq ?_; refine pw_seq ?_; refine pw_region ?_; refine yMd rfl ?_; refine yMd rfl ?_; refine yNs rfl ?_; refine yB rfl rfl rfl rfl ?_; refine yQ ?_; refine q_then ?_; rw [u1]; refine pw_ct rfl ?_; refine pw_skip ?_
    refine pw_seq ?_; refine pw_block ?_; refine pw_region ?_; refine yMd rfl ?_; refine yB rfl rfl rfl rfl ?_; refine yMd rfl ?_; refine yMd rfl ?_; refine yIs hci (by omega) rfl rfl ?_; refine yB rfl rfl rfl rfl ?_; refine yJ rfl ?_
    refine yB rfl rfl rfl rfl ?_; refine yAd rfl ?_; refine yQ ?_; refine pw_region ?_; refine yMd rfl ?_; refine yB rfl rfl rfl rfl ?_; refine yAd rfl ?_; refine yQ ?_; refine q_then ?_; rw [w1]; rw [w2]; rw [w3]; rw [w4]
    exact ⟨i + 1, by omega, by omega, rfl, ⟨.refl _, .refl _, .of_eq (by rw [hnx]; rfl), .of_eq (congrArg (fun n => SV.d (dI n)) w5), trivial⟩, trivial, trivial, rfl⟩
  have u1 : decide ((i : Int) < (t.length : Int)) = false := decide_eq_false (by omega)
  have hn := hnt i
  obtain rfl : i = t.length := by omega
  rw [List.take_length] at hn ⊢
  cases b with
  | true =>
    rw [if_pos rfl] at hv
    have w1 : IntKind.i64.wrap (0 - (natOf t : Int)) = -(natOf t : Int) := by rw [wrapI _ (by omega)]; omega
    refine pw_seq ?_; refine pw_seq ?_; refine pw_region ?_; refine yMd rfl ?_; refine yMd rfl ?_; refine yNs rfl ?_; refine yB rfl rfl rfl rfl ?_; refine yQ ?_; refine q_then ?_; rw [u1]; refine pw_cf rfl ?_; refine pw_exit ?_
    refine pw_seq ?_; refine pw_seq ?_; refine pw_region ?_; refine yMd rfl ?_; refine yQ ?_; refine pw_ct rfl ?_; refine pw_region ?_; refine yMd rfl ?_; refine yU rfl rfl rfl ?_; refine yAd rfl ?_; refine yQ ?_; refine pw_seq ?_
    refine pw_region ?_; refine yMd rfl ?_; refine yAd rfl ?_; refine yAd rfl ?_; refine yQ ?_; refine pw_ret ?_; rw [w1]
    rw [hv]
    exact q_ret _ (.tmp rfl (.tmp rfl .nil)) rfl
  | false =>
    rw [if_neg (by decide)] at hv
    refine pw_seq ?_; refine pw_seq ?_; refine pw_region ?_; refine yMd rfl ?_; refine yMd rfl ?_; refine yNs rfl ?_; refine yB rfl rfl rfl rfl ?_; refine yQ ?_; refine q_then ?_; rw [u1]; refine pw_cf rfl ?_; refine pw_exit ?_
    refine pw_seq ?_; refine pw_seq ?_; refine pw_region ?_; refine yMd rfl ?_; refine yQ ?_; refine pw_cf rfl ?_; refine pw_skip ?_; refine pw_seq ?_; refine pw_region ?_; refine yMd rfl ?_; refine yAd rfl ?_; refine yAd rfl ?_
    refine yQ ?_; refine pw_ret ?_
    rw [hv]
    exact q_ret _ (.tmp rfl (.tmp rfl .nil)) rfl
set_option maxRecDepth 20000 in
set_option maxHeartbeats 1000000 in
theorem wRNeg (a : Str) (ha : a.length ≤ 1000000) : PCalls Tryz.prog 67 [dS a] (.d (dS (canon (-val a)))) := by
  have c1 := wRDigits a (by omega)
  have hv : val a = if (dgs a).2 then -(natOf (dgs a).1 : Int) else natOf (dgs a).1 := rfl
  have hd : dec (natOf (dgs a).1) = (dgs a).1 := dec_natOf (dgs_all a) (dgs_head a)
  have hdn : (dgs a).2 = true → (dgs a).1 ≠ [] := dgs_neg
  have hl : (dgs a).1.length ≤ 1000000 := by
    have hb : (bod a).length ≤ a.length := by unfold bod; split <;> simp
    have h2 : (dgs a).1.length ≤ a.length := by
      unfold dgs
      split
      · exact Nat.le_trans (List.dropWhile_suffix _).length_le hb
      · simp
    omega
  obtain ⟨r, hr⟩ : ∃ r, r = canon (-val a) := ⟨_, rfl⟩
  obtain ⟨⟨t, b⟩, ht⟩ : ∃ p, p = dgs a := ⟨_, rfl⟩
  rw [← hr]
  rw [← ht] at c1 hv hd hdn hl
  simp only at c1 hv hd hdn hl
  refine pcalls_of_pw Tryz.func67 rfl Tryz.ntmps67 Tryz.results67 (by simp) fun B w0 => ?_
  cases b with
  | true =>
    rw [if_pos rfl] at hv
    have : r = t := by
      rw [hr, hv, Int.neg_neg]
      unfold canon
      rw [if_neg (by omega), Int.natAbs_natCast, hd]
    rw [this]
    refine pw_seq ?_; refine pw_region ?_; refine yAd rfl ?_; refine yQ ?_; refine pw_seq ?_; refine pw_region ?_; refine yMd rfl ?_; refine yC (c1) rfl rfl ?_; refine yMp rfl ?_; refine yX rfl rfl ?_; refine yX rfl rfl ?_
    refine yAd rfl ?_; refine yAd rfl ?_; refine yQ ?_; refine pw_seq ?_; refine pw_seq ?_; refine pw_region ?_; refine yMd rfl ?_; refine yMd rfl ?_; refine yO rfl ?_; refine yO rfl ?_; refine yPd rfl rfl ?_; refine yQ ?_
    refine pw_ct rfl ?_; refine pw_seq ?_; refine pw_region ?_; refine yMd rfl ?_; refine yAd rfl ?_; refine yQ ?_; refine pw_ret ?_; refine q_then_ret ?_
    exact q_ret _ (.tmp rfl .nil) rfl
  | false =>
    rw [if_neg (by decide)] at hv
    cases t with
    | nil =>
      have : r = [] := by
        rw [hr, hv]
        exact canon_zero
      rw [this]
      refine pw_seq ?_; refine pw_region ?_; refine yAd rfl ?_; refine yQ ?_; refine pw_seq ?_; refine pw_region ?_; refine yMd rfl ?_; refine yC (c1) rfl rfl ?_; refine yMp rfl ?_; refine yX rfl rfl ?_; refine yX rfl rfl ?_
      refine yAd rfl ?_; refine yAd rfl ?_; refine yQ ?_; refine pw_seq ?_; refine pw_seq ?_; refine pw_region ?_; refine yMd rfl ?_; refine yMd rfl ?_; refine yMd rfl ?_; refine yBse rfl rfl ?_; refine yVd rfl rfl ?_; refine yQ ?_
      refine pw_ct rfl ?_; refine pw_seq ?_; refine pw_region ?_; refine yMd rfl ?_; refine yAd rfl ?_; refine yQ ?_; refine pw_ret ?_; refine q_then_ret ?_
      exact q_ret _ (.tmp rfl .nil) rfl
    | cons x l =>
      have hn0 : natOf (x :: l) ≠ 0 := fun e => by
        rw [e, dec_zero] at hd
        cases hd
      have : r = [45] ++ (x :: l) := by
        rw [hr, hv]
        unfold canon
        rw [if_pos (by omega), Int.natAbs_neg, Int.natAbs_natCast, hd]
        rfl
      rw [this]
      refine pw_seq ?_; refine pw_region ?_; refine yAd rfl ?_; refine yQ ?_; refine pw_seq ?_; refine pw_region ?_; refine yMd rfl ?_; refine yC (c1) rfl rfl ?_; refine yMp rfl ?_; refine yX rfl rfl ?_; refine yX rfl rfl ?_
      refine yAd rfl ?_; refine yAd rfl ?_; refine yQ ?_; refine pw_seq ?_; refine pw_seq ?_; refine pw_region ?_; refine yMd rfl ?_; refine yMd rfl ?_; refine yMd rfl ?_; refine yBse rfl rfl ?_; refine yVd rfl rfl ?_; refine yQ ?_
      refine pw_cf rfl ?_; refine pw_skip ?_; refine pw_seq ?_; refine pw_region ?_; refine yMd rfl ?_; refine yBsa (l1 := [45]) (l2 := x :: l) (by simp only [List.length_cons, List.length_nil] at hl ⊢; omega) rfl rfl ?_
      refine yAd rfl ?_; refine yQ ?_; refine pw_ret ?_
      exact q_ret _ (.tmp rfl .nil) rfl
set_option maxRecDepth 20000 in
theorem wRShortL (a : Str) (ha : a.length ≤ 1000000) (h17 : 17 < (dgs a).1.length) : PCalls Tryz.prog 75 [dS a] (.tup [dI 0, dB false]) := by
  have c1 := wRDigits a (by omega)
  obtain ⟨⟨t, b⟩, ht⟩ : ∃ p, p = dgs a := ⟨_, rfl⟩
  rw [← ht] at c1 h17
  simp only at c1 h17
  have u0 : decide ((t.length : Int) > 17) = true := decide_eq_true (by omega)
  refine pcalls_of_pw Tryz.func75 rfl Tryz.ntmps75 Tryz.results75 (by simp) fun B w0 => ?_
  refine pw_seq ?_; refine pw_region ?_; refine yAd rfl ?_; refine yAd rfl ?_; refine yQ ?_; refine pw_seq ?_; refine pw_region ?_; refine yMd rfl ?_; refine yC (c1) rfl rfl ?_; refine yMp rfl ?_; refine yX rfl rfl ?_
  refine yX rfl rfl ?_; refine yAd rfl ?_; refine yAd rfl ?_; refine yQ ?_; refine pw_seq ?_; refine pw_seq ?_; refine pw_region ?_; refine yMd rfl ?_; refine yNs rfl ?_; refine yB rfl rfl rfl rfl ?_; refine yQ ?_; refine q_then ?_
  rw [u0]; refine pw_ct rfl ?_; refine pw_seq ?_; refine pw_region ?_; refine yAd rfl ?_; refine yAd rfl ?_; refine yQ ?_; refine pw_ret ?_; refine q_then_ret ?_
  exact q_ret _ (.tmp rfl (.tmp rfl .nil)) rfl
theorem natOf_next {t : Str} {lo j : Nat} {c : UInt8} (hc : t[j]? = some c) (hlo : lo ≤ j) : natOf ((t.take (j + 1)).drop lo) = 10 * natOf ((t.take j).drop lo) + dv c := by
  have hj := (List.getElem?_eq_some_iff.1 hc).1
  rw [List.take_add_one, hc, Option.toList, List.drop_append_of_le_length (by rw [List.length_take]; omega)]
  exact natOf_snoc _ _
theorem natOf_9 {t : Str} (h : t.all isD = true) (lo j : Nat) (hj : j ≤ lo + 9) : natOf ((t.take j).drop lo) < 1000000000 := by
  have h1 : ((t.take j).drop lo).all isD = true := all_sub h j lo
  have h2 := natOf_lt h1
  have h3 : (10 : Nat) ^ ((t.take j).drop lo).length ≤ 10 ^ 9 := Nat.pow_le_pow_right (by decide) (by rw [List.length_drop, List.length_take]; omega)
  have e9 : (10 : Nat) ^ 9 = 1000000000 := by decide
  omega
set_option maxRecDepth 20000 in
set_option maxHeartbeats 4000000 in
theorem wReadJ (a : Str) (ha : a.length ≤ 1000000) : PCalls Tryz.prog 79 [dS a] (.d (.agg (dJm (dgs a).2 (rdG (dgs a).1)))) := by
  have c1 := wRDigits a (by omega)
  have hl : (dgs a).1.length ≤ 1000000 := Nat.le_trans (dgs_len a) ha
  have hD := dgs_all a
  obtain ⟨t, ht⟩ : ∃ t, t = (dgs a).1 := ⟨_, rfl⟩
  obtain ⟨b, hb⟩ : ∃ t, t = (dgs a).2 := ⟨_, rfl⟩
  rw [← ht, ← hb] at c1
  rw [← ht] at hl hD
  rw [← ht, ← hb]
  clear ht hb
  have hsz := rdG_size t
  have hdv : ∀ (i : Nat) c, t[i]? = some c → 48 ≤ c.toNat ∧ c.toNat ≤ 57 := fun i c hc => by
    rw [List.all_eq_true] at hD
    have := hD c (List.mem_of_getElem? hc)
    unfold isD at this
    simpa using this
  refine pcalls_of_pw Tryz.func79 rfl Tryz.ntmps79 Tryz.results79 (by simp) fun B w0 => ?_
  refine pw_seq ?_; refine pw_region ?_; refine yZ (cs := [_, _]) rfl rfl ?_; refine yQ ?_; refine pw_seq ?_; refine pw_region ?_; refine yMd rfl ?_; refine yC (c1) rfl rfl ?_; refine yMp rfl ?_; refine yX rfl rfl ?_
  refine yX rfl rfl ?_; refine yAd rfl ?_; refine yAd rfl ?_; refine yQ ?_; refine pw_seq ?_; refine pw_region ?_; refine yMd rfl ?_; refine yG (ys := [_, _]) rfl rfl ?_; refine yZ (cs := [_, _]) rfl rfl ?_
  refine yS (cs' := [_, _]) rfl rfl rfl rfl rfl ?_; refine yQ ?_; refine pw_tokb 5 1 (jT 5) 1 rfl rfl rfl rfl ?_; refine pw_seq ?_; refine pw_seq ?_; refine pw_region ?_; refine yMd rfl ?_; refine yNs rfl ?_; refine yAd rfl ?_
  refine yQ ?_; refine pw_block ?_
  refine pw_loop (fun i : Nat => ⟨45, [(2, .bx 2 0), (3, .d (dS t)), (5, .bx 5 0), (6, .d (dI ((t.length : Int) - 9 * i)))], [(2, [.d (dB false), .d (.val (.slice none 0 0))]), (5, [.d (dB b), .ts (jT 5) 1 (((rdG t).take i).map dJ)])], [(jT 5, (((rdG t).take i).map dJ).length)]⟩) (fun i => 9 * i < t.length + 9) (fun i => t.length + 9 - 9 * i) 0 (by omega)
    ⟨rfl, ⟨.refl _, .refl _, .refl _, .of_eq (congrArg (fun n : Int => SV.d (dI n)) (by simp)), trivial⟩, ⟨⟨_, rfl, .refl _, .refl _, trivial⟩, ⟨_, rfl, .refl _, .refl _, trivial⟩, trivial⟩, ⟨rfl, trivial⟩, rfl⟩ ?_
  intro i hi
  rcases Nat.lt_or_ge (9 * i) t.length with h9 | h9
  rotate_left
  · have u1 : decide ((t.length : Int) - 9 * i > 0) = false := decide_eq_false (by omega)
    have e : (rdG t).take i = rdG t := List.take_of_length_le (rdG_len (by omega))
    rw [e]
    refine pw_seq ?_; refine pw_seq ?_; refine pw_region ?_; refine yMd rfl ?_; refine yB rfl rfl rfl rfl ?_; refine yQ ?_; refine q_then ?_; rw [u1]; refine pw_cf rfl ?_; refine pw_exit ?_; refine pw_seq ?_; refine pw_region ?_
    refine yLa (ys := [_, _]) rfl rfl rfl rfl ?_; refine yS (cs' := [_, _]) rfl rfl rfl rfl rfl ?_; refine yQ ?_; refine pw_ret ?_
    exact q_ret _ (.agg inferInstance rfl rfl rfl rfl .nil) rfl
  have u1 : decide ((t.length : Int) - 9 * i > 0) = true := decide_eq_true (by omega)
  have hn := rdG_next h9
  have hw1 : IntKind.i64.wrap ((t.length : Int) - 9 * i - 9) = (t.length : Int) - 9 * i - 9 := wrapI _ (by omega)
  have hm : (if (t.length : Int) - 9 * i - 9 > 0 then (t.length : Int) - 9 * i - 9 else 0) = ((t.length - 9 * i - 9 : Nat) : Int) := by split <;> omega
  obtain ⟨lo, hlo⟩ : ∃ lo, lo = t.length - 9 * i - 9 := ⟨_, rfl⟩
  obtain ⟨tp, hto⟩ : ∃ tp, tp = t.length - 9 * i := ⟨_, rfl⟩
  have hti : (t.length : Int) - 9 * i = (tp : Int) := by omega
  have hbl : lo ≤ tp := by omega
  have hbt : tp ≤ t.length := by omega
  have hb9 : tp ≤ lo + 9 := by omega
  rw [← hlo] at hm
  rw [← hlo, ← hto] at hn
  have hnx : ((t.length : Int) - 9 * (i + 1 : Nat)) = (tp : Int) - 9 := by omega
  rw [hti] at hw1 hm u1 ⊢
  obtain ⟨zs, hzs⟩ : ∃ zs, zs = (rdG t).take i := ⟨_, rfl⟩
  have hzl : zs.length ≤ 1000000 := by rw [hzs, List.length_take]; omega
  rw [← hzs] at hn ⊢
  clear hlo hto hzs
  refine pw_seq ?_; refine pw_seq ?_; refine pw_region ?_; refine yMd rfl ?_; refine yB rfl rfl rfl rfl ?_; refine yQ ?_; refine q_then ?_; rw [u1]; refine pw_ct rfl ?_; refine pw_skip ?_; refine pw_seq ?_; refine pw_block ?_
  refine pw_seq ?_; refine pw_region ?_; refine yAd rfl ?_; refine yQ ?_; refine pw_seq ?_; refine pw_seq ?_; refine pw_region ?_; refine yMd rfl ?_; refine yB rfl rfl rfl rfl ?_; refine yI rfl rfl rfl ?_; refine yAd rfl ?_
  refine yQ ?_; refine pw_block ?_; rw [hw1]; rw [hm]
  refine pw_loop (fun j : Nat => ⟨45, [(2, .bx 2 0), (3, .d (dS t)), (5, .bx 5 0), (6, .d (dI tp)), (7, .d (dI (natOf ((t.take j).drop lo)))), (8, .d (dI j))], [(2, [.d (dB false), .d (.val (.slice none 0 0))]), (5, [.d (dB b), .ts (jT 5) 1 (zs.map dJ)])], [(jT 5, (zs.map dJ).length)]⟩) (fun j => lo ≤ j ∧ j ≤ tp) (fun j => tp - j) lo ⟨Nat.le_refl _, hbl⟩
    ⟨rfl, ⟨.refl _, .refl _, .refl _, .refl _, .of_eq (congrArg (fun n : Nat => SV.d (dI n)) (by rw [List.drop_of_length_le (by rw [List.length_take]; omega)]; rfl)), .refl _, trivial⟩, ⟨⟨_, rfl, .refl _, .refl _, trivial⟩, ⟨_, rfl, .refl _, .refl _, trivial⟩, trivial⟩, ⟨rfl, trivial⟩, rfl⟩ ?_
  rintro j ⟨hj1, hj2⟩
  rcases Nat.lt_or_ge j tp with hj | hj
  · have u2 : decide ((j : Int) < (tp : Int)) = true := decide_eq_true (by omega)
    obtain ⟨c, hc⟩ : ∃ c, t[j]? = some c := ⟨_, List.getElem?_eq_getElem (by omega)⟩
    have hci : t[((j : Int)).toNat]? = some c := by rw [Int.toNat_natCast]; exact hc
    obtain ⟨d1, d2⟩ := hdv j c hc
    have hnn := natOf_next hc hj1
    have hn9 := natOf_9 hD lo j (by omega)
    obtain ⟨n, hnm⟩ : ∃ n, n = natOf ((t.take j).drop lo) := ⟨_, rfl⟩
    rw [← hnm] at hnn hn9 ⊢
    have w1 : IntKind.i64.wrap (10 * (n : Int)) = 10 * (n : Int) := wrapI _ (by omega)
    have w2 : IntKind.u8.wrap ((c.toNat : Int) - 48) = (dv c : Int) := by
      rw [IntKind.wrap_u8]
      unfold dv
      omega
    have hd9 : dv c ≤ 9 := by unfold dv; omega
    have w3 : IntKind.i64.wrap (dv c : Int) = (dv c : Int) := wrapI _ (by omega)
    have w4 : IntKind.i64.wrap (10 * (n : Int) + (dv c : Int)) = ((10 * n + dv c : Nat) : Int) := by rw [wrapI _ (by omega)]; omega
    have w5 := wrapI ((j : Int) + 1) (by omega)
    refine pw_seq ?_; refine pw_seq ?_; refine pw_region ?_; refine yMd rfl ?_; refine yMd rfl ?_; refine yB rfl rfl rfl rfl ?_; refine yQ ?_; refine q_then ?_; rw [u2]; refine pw_ct rfl ?_; refine pw_skip ?_; refine pw_seq ?_
    refine pw_block ?_; refine pw_region ?_; refine yMd rfl ?_; refine yB rfl rfl rfl rfl ?_; refine yMd rfl ?_; refine yMd rfl ?_; refine yIs hci (by omega) rfl rfl ?_; refine yB rfl rfl rfl rfl ?_; refine yJ rfl ?_
    refine yB rfl rfl rfl rfl ?_; refine yAd rfl ?_; refine yQ ?_; refine pw_region ?_; refine yMd rfl ?_; refine yB rfl rfl rfl rfl ?_; refine yAd rfl ?_; refine yQ ?_; refine q_then ?_; rw [w1]; rw [w2]; rw [w3]; rw [w4]
    exact ⟨j + 1, ⟨by omega, by omega⟩, by omega, rfl, ⟨.refl _, .refl _, .refl _, .refl _, .of_eq (by rw [hnn] <;> rfl), .of_eq (congrArg (fun n => SV.d (dI n)) w5), trivial⟩, ⟨⟨_, rfl, .refl _, .refl _, trivial⟩, ⟨_, rfl, .refl _, .refl _, trivial⟩, trivial⟩, ⟨rfl, trivial⟩, rfl⟩
  · have u2 : decide ((j : Int) < (tp : Int)) = false := decide_eq_false (by omega)
    obtain rfl : j = tp := by omega
    obtain ⟨x, hx⟩ : ∃ x, x = natOf ((t.take j).drop lo) := ⟨_, rfl⟩
    rw [← hx] at hn ⊢
    refine pw_seq ?_; refine pw_seq ?_; refine pw_region ?_; refine yMd rfl ?_; refine yMd rfl ?_; refine yB rfl rfl rfl rfl ?_; refine yQ ?_; refine q_then ?_; rw [u2]; refine pw_cf rfl ?_; refine pw_exit ?_; refine pw_region ?_
    refine yFb rfl ?_; refine yLt rfl rfl rfl ?_; refine yMd rfl ?_; refine yR (es := [[_]]) rfl rfl rfl rfl rfl ?_
    refine yT (es' := (zs ++ [x]).map dJ) (m := ((zs ++ [x]).map dJ).length) (by simp; omega) (by simp; omega) rfl rfl rfl rfl rfl (by simp) (by simp) ?_; refine yFb rfl ?_; refine ySt (cs' := [_, _]) rfl rfl rfl rfl ?_; refine yQ ?_
    refine pw_region ?_; refine yMd rfl ?_; refine yB rfl rfl rfl rfl ?_; refine yAd rfl ?_; refine yQ ?_; refine q_then ?_; rw [hw1]
    exact ⟨i + 1, by omega, by omega, rfl, ⟨.refl _, .refl _, .refl _, .of_eq (congrArg (fun n => SV.d (dI n)) hnx.symm), trivial⟩, ⟨⟨_, rfl, .refl _, .refl _, trivial⟩, ⟨_, rfl, .refl _, .of_eq (by rw [hn] <;> rfl), trivial⟩, trivial⟩, ⟨(by rw [hn] <;> rfl), trivial⟩, rfl⟩

/-- the last k digits -/
def lowd (y : Nat) : Nat → Str
  | 0 => []
  | k + 1 => dig (y / 10 ^ k % 10) :: lowd y k
theorem lowd_snoc (y k : Nat) : lowd y (k + 1) = lowd (y / 10) k ++ [dig (y % 10)] := by
  induction k with
  | zero => simp [lowd]
  | succ k ih =>
    rw [lowd, ih, lowd, List.cons_append, Nat.div_div_eq_div_mul, Nat.pow_succ, Nat.mul_comm 10]
theorem lowd_padk (k y : Nat) : lowd y k = padk k y := by
  induction k generalizing y with
  | zero => rfl
  | succ k ih => rw [lowd_snoc, ih, padk]
theorem lowd_len (y k : Nat) : (lowd y k).length = k := by rw [lowd_padk, padk_length]
theorem pads_snoc (l : List Nat) (y : Nat) : pads (l ++ [y]) = padk 9 y ++ pads l := by
  induction l with
  | nil => simp [pads]
  | cons x l ih => rw [List.cons_append, pads, ih, pads, List.append_assoc]
theorem val_pads (b : Bool) {l : List Nat} (h : gok l) : val ((if b then [45] else []) ++ pads l) = sg b (gval l) := by
  have hp := pads_all l
  have hh : (pads l).head? ≠ some 45 := fun e => by
    cases h1 : pads l with
    | nil => rw [h1] at e; cases e
    | cons x t =>
      rw [h1] at e hp
      have hx : x = 45 := by simpa using e
      rw [hx] at hp
      simp [isD] at hp
  have hd : natOf ((pads l).dropWhile (· == 48)) = gval l := by rw [dropZ_natOf, natOf_pads h]
  cases b with
  | true =>
    have hb : bod ((if true then [45] else []) ++ pads l) = pads l := by simp [bod]
    unfold val dgs
    rw [hb, hp]
    simp only [if_true]
    by_cases h0 : (pads l).dropWhile (· == 48) = []
    · rw [h0] at hd
      rw [h0]
      have : gval l = 0 := by rw [← hd]; rfl
      simp [this, sg]
      rfl
    · have h1 : ((pads l).dropWhile (· == 48)).isEmpty = false := by cases h2 : (pads l).dropWhile (· == 48) with
        | nil => exact absurd h2 h0
        | cons x t => rfl
      rw [h1, hd]
      simp [sg]
  | false =>
    have hb : bod ((if false then [45] else []) ++ pads l) = pads l := by simp [bod, hh]
    have hn : decide ((([] : Str) ++ pads l).head? = some 45) = false := by simpa using hh
    unfold val dgs
    rw [hb, hp]
    simp only [if_true, Bool.false_eq_true, if_false] at hn ⊢
    rw [hn, hd]
    simp [sg]
set_option maxRecDepth 20000 in
set_option maxHeartbeats 4000000 in
theorem wWriteJ (b : Bool) (l : List Nat) (hg : gok l) (hl : l.length ≤ 100000) : PCalls Tryz.prog 77 [.agg (dJm b l)] (.d (dS (canon (sg b (gval l))))) := by
  have hv := val_pads b hg
  have hpl := pads_length l
  obtain ⟨r, hr⟩ : ∃ r, r = canon (sg b (gval l)) := ⟨_, rfl⟩
  rw [← hr]
  refine pcalls_of_pw Tryz.func77 rfl Tryz.ntmps77 Tryz.results77 (by simp) fun B w0 => ?_
  refine pw_seq ?_; refine pw_region ?_; refine yK (cs := [_, _]) rfl rfl ?_; refine yAd rfl ?_; refine yQ ?_; refine pw_seq ?_; refine pw_region ?_; refine yAd rfl ?_; refine yQ ?_; refine pw_seq ?_; refine pw_seq ?_
  refine pw_region ?_; refine yAd rfl ?_; refine yQ ?_; refine pw_block ?_
  refine pw_loop (fun i : Nat => ⟨38, [(1, .bx 1 0), (3, .d (dS (pads (l.take i)))), (4, .d (dI i))], [(1, [.d (dB b), .d (.sl 1 (l.map dJ))])], []⟩) (fun i => i ≤ l.length) (fun i => l.length - i) 0 (Nat.zero_le _)
    ⟨rfl, ⟨.refl _, .refl _, .refl _, trivial⟩, ⟨⟨_, rfl, .refl _, .refl _, trivial⟩, trivial⟩, trivial, rfl⟩ ?_
  intro i hi
  rcases Nat.lt_or_ge i l.length with h | h
  rotate_left
  · have u1 : decide ((i : Int) < ((l.map dJ).length : Int)) = false := decide_eq_false (by rw [List.length_map]; omega)
    obtain rfl : i = l.length := by omega
    rw [List.take_length]
    cases b with
    | true =>
      have hc := wRCanonical ([45] ++ pads l) (by simp; omega)
      rw [show ([45] ++ pads l : Str) = (if true then [45] else []) ++ pads l from rfl, hv, ← hr] at hc
      obtain ⟨p, hp⟩ : ∃ p, p = pads l := ⟨_, rfl⟩
      rw [← hp] at hc hpl ⊢
      have hc : PCalls Tryz.prog 74 [dS ([45] ++ p)] (.d (dS r)) := hc
      clear hp hv hr
      refine pw_seq ?_; refine pw_seq ?_; refine pw_region ?_; refine yMd rfl ?_; refine yFb rfl ?_; refine yLd rfl rfl rfl ?_; refine yN rfl ?_; refine yB rfl rfl rfl rfl ?_; refine yQ ?_; refine q_then ?_; rw [u1]; refine pw_cf rfl ?_
      refine pw_exit ?_; refine pw_seq ?_; refine pw_seq ?_; refine pw_region ?_; refine yFb rfl ?_; refine yLd rfl rfl rfl ?_; refine yQ ?_; refine pw_ct rfl ?_; refine pw_region ?_; refine yMd rfl ?_
      refine yBsa (l1 := [45]) (l2 := p) (by simp; omega) rfl rfl ?_; refine yAd rfl ?_; refine yQ ?_; refine pw_seq ?_; refine pw_region ?_; refine yMd rfl ?_; refine yC (hc) rfl rfl ?_; refine yAd rfl ?_; refine yQ ?_; refine pw_ret ?_
      exact q_ret _ (.tmp rfl .nil) rfl
    | false =>
      have hc := wRCanonical (pads l) (by omega)
      rw [show (pads l : Str) = (if false then [45] else []) ++ pads l from rfl, hv, ← hr] at hc
      obtain ⟨p, hp⟩ : ∃ p, p = pads l := ⟨_, rfl⟩
      rw [← hp] at hc ⊢
      have hc : PCalls Tryz.prog 74 [dS p] (.d (dS r)) := hc
      clear hp hv hr
      refine pw_seq ?_; refine pw_seq ?_; refine pw_region ?_; refine yMd rfl ?_; refine yFb rfl ?_; refine yLd rfl rfl rfl ?_; refine yN rfl ?_; refine yB rfl rfl rfl rfl ?_; refine yQ ?_; refine q_then ?_; rw [u1]; refine pw_cf rfl ?_
      refine pw_exit ?_; refine pw_seq ?_; refine pw_seq ?_; refine pw_region ?_; refine yFb rfl ?_; refine yLd rfl rfl rfl ?_; refine yQ ?_; refine pw_cf rfl ?_; refine pw_skip ?_; refine pw_seq ?_; refine pw_region ?_; refine yMd rfl ?_
      refine yC (hc) rfl rfl ?_; refine yAd rfl ?_; refine yQ ?_; refine pw_ret ?_
      exact q_ret _ (.tmp rfl .nil) rfl
  have u1 : decide ((i : Int) < ((l.map dJ).length : Int)) = true := decide_eq_true (by rw [List.length_map]; omega)
  obtain ⟨y, hy⟩ : ∃ y, l[i]? = some y := ⟨_, List.getElem?_eq_getElem h⟩
  have ey := ix dJ l i i y rfl hy
  have hy9 : y < 1000000000 := hg y (List.mem_of_getElem? hy)
  have hnx : pads (l.take (i + 1)) = lowd y 9 ++ pads (l.take i) := by rw [List.take_add_one, hy, Option.toList, pads_snoc, lowd_padk]
  have hp9 : (pads (l.take i)).length ≤ 900000 := by rw [pads_length, List.length_take]; omega
  obtain ⟨p, hp⟩ : ∃ p, p = pads (l.take i) := ⟨_, rfl⟩
  rw [← hp] at hnx hp9 ⊢
  have hwi := wrapI ((i : Int) + 1) (by omega)
  clear hp hv hr hpl
  refine pw_seq ?_; refine pw_seq ?_; refine pw_region ?_; refine yMd rfl ?_; refine yFb rfl ?_; refine yLd rfl rfl rfl ?_; refine yN rfl ?_; refine yB rfl rfl rfl rfl ?_; refine yQ ?_; refine q_then ?_; rw [u1]; refine pw_ct rfl ?_
  refine pw_skip ?_; refine pw_seq ?_; refine pw_block ?_; refine pw_seq ?_; refine pw_region ?_; refine yFb rfl ?_; refine yLd rfl rfl rfl ?_; refine yMd rfl ?_; refine yW ey (by omega) rfl rfl ?_; refine yLr rfl rfl ?_
  refine yAd rfl ?_; refine yQ ?_; refine pw_seq ?_; refine pw_region ?_; refine yAd rfl ?_; refine yQ ?_; refine pw_block ?_
  refine pw_loop (fun k : Nat => ⟨38, [(1, .bx 1 0), (3, .d (dS (lowd y k ++ p))), (4, .d (dI i)), (5, .d (dI ((y / 10 ^ k : Nat) : Int))), (6, .d (dI k))], [(1, [.d (dB b), .d (.sl 1 (l.map dJ))])], []⟩) (fun k => k ≤ 9) (fun k => 9 - k) 0 (Nat.zero_le _)
    ⟨rfl, ⟨.refl _, .refl _, .refl _, .of_eq (congrArg (fun n : Nat => SV.d (dI n)) (by simp)), .refl _, trivial⟩, ⟨⟨_, rfl, .refl _, .refl _, trivial⟩, trivial⟩, trivial, rfl⟩ ?_
  intro k hk
  rcases Nat.lt_or_ge k 9 with hk9 | hk9
  · have u2 : decide ((k : Int) < 9) = true := decide_eq_true (by omega)
    have hdl := lowd_len y k
    have hm9 : y / 10 ^ k < 1000000000 := Nat.lt_of_le_of_lt (Nat.div_le_self _ _) hy9
    have hlk : lowd y (k + 1) = dig (y / 10 ^ k % 10) :: lowd y k := rfl
    have hdk : y / 10 ^ (k + 1) = y / 10 ^ k / 10 := by rw [Nat.div_div_eq_div_mul, Nat.pow_succ]
    obtain ⟨m, hm⟩ : ∃ m, m = y / 10 ^ k := ⟨_, rfl⟩
    rw [← hm] at hm9 hlk hdk ⊢
    have hr10 : m % 10 < 10 := Nat.mod_lt _ (by omega)
    have htm : ((m : Int)).tmod 10 = ((m % 10 : Nat) : Int) := rfl
    obtain ⟨r', hr2⟩ : ∃ r, r = m % 10 := ⟨_, rfl⟩
    rw [← hr2] at hr10 hlk htm
    have henc := enc_dig hr10
    have hw48 : IntKind.i64.wrap (48 + (r' : Int)) = 48 + (r' : Int) := wrapI _ (by omega)
    have hw32 : IntKind.i32.wrap (48 + (r' : Int)) = 48 + (r' : Int) := wrap32 hr10
    have hwq : IntKind.i64.wrap ((m : Int).tdiv 10) = ((m / 10 : Nat) : Int) := wrapI ((m / 10 : Nat) : Int) (by omega)
    have hwk := wrapI ((k : Int) + 1) (by omega)
    refine pw_seq ?_; refine pw_seq ?_; refine pw_region ?_; refine yMd rfl ?_; refine yB rfl rfl rfl rfl ?_; refine yQ ?_; refine q_then ?_; rw [u2]; refine pw_ct rfl ?_; refine pw_skip ?_; refine pw_seq ?_; refine pw_block ?_
    refine pw_seq ?_; refine pw_region ?_; refine yMd rfl ?_; refine yB rfl rfl rfl rfl ?_; refine yB rfl rfl rfl rfl ?_; refine yJ rfl ?_; rw [htm]; rw [hw48]; rw [hw32]; refine yJs henc rfl ?_; refine yMd rfl ?_
    refine yBsa (l1 := [dig r']) (l2 := lowd y k ++ p) (by simp; omega) rfl rfl ?_; refine yAd rfl ?_; refine yQ ?_; refine pw_region ?_; refine yMd rfl ?_; refine yB rfl rfl rfl rfl ?_; refine yAd rfl ?_; refine yQ ?_
    refine pw_region ?_; refine yMd rfl ?_; refine yB rfl rfl rfl rfl ?_; refine yAd rfl ?_; refine yQ ?_; refine q_then ?_; rw [hwq]
    exact ⟨k + 1, by omega, by omega, rfl, ⟨.refl _, .of_eq (by rw [hlk] <;> rfl), .refl _, .of_eq (by rw [hdk] <;> rfl), .of_eq (congrArg (fun n => SV.d (dI n)) hwk), trivial⟩, ⟨⟨_, rfl, .refl _, .refl _, trivial⟩, trivial⟩, trivial, rfl⟩
  · have u2 : decide ((k : Int) < 9) = false := decide_eq_false (by omega)
    obtain rfl : k = 9 := by omega
    refine pw_seq ?_; refine pw_seq ?_; refine pw_region ?_; refine yMd rfl ?_; refine yB rfl rfl rfl rfl ?_; refine yQ ?_; refine pw_cf rfl ?_; refine pw_exit ?_; refine pw_region ?_; refine yMd rfl ?_; refine yB rfl rfl rfl rfl ?_
    refine yAd rfl ?_; refine yQ ?_; refine q_then ?_; rw [u2]
    exact ⟨i + 1, by omega, by omega, rfl, ⟨.refl _, .of_eq (by rw [hnx] <;> rfl), .of_eq (congrArg (fun n => SV.d (dI n)) hwi), trivial⟩, ⟨⟨_, rfl, .refl _, .refl _, trivial⟩, trivial⟩, trivial, rfl⟩
end Go.Proofs.YtmfeinilbjfnpaaGreatDoor
namespace Go.Proofs.YtmfeinilbjfnpaaGreatDoor
open Go.RowKit Px

/-- the sum of two signed numbers -/
def addJ (b1 : Bool) (x : Nat) (b2 : Bool) (y : Nat) : Bool × Nat := if b1 = b2 then (b1, x + y) else if y ≤ x then (b1, x - y) else (b2, y - x)
theorem addJ_sg (b1 : Bool) (x : Nat) (b2 : Bool) (y : Nat) : sg (addJ b1 x b2 y).1 (addJ b1 x b2 y).2 = sg b1 x + sg b2 y := by
  unfold addJ
  by_cases h : b1 = b2
  · rw [if_pos h]
    subst h
    cases b1 <;> simp [sg] <;> omega
  · rw [if_neg h]
    by_cases h2 : y ≤ x
    · rw [if_pos h2]
      cases b1 <;> cases b2 <;> simp [sg] at h ⊢ <;> omega
    · rw [if_neg h2]
      cases b1 <;> cases b2 <;> simp [sg] at h ⊢ <;> omega
set_option maxRecDepth 20000 in
set_option maxHeartbeats 2000000 in
theorem wNAddJ (b1 b2 : Bool) (x y : Nat) (h1 : (grp x).length ≤ 100000) (h2 : (grp y).length ≤ 100000) : PCalls Tryz.prog 78 [.agg (dJm b1 (grp x)), .agg (dJm b2 (grp y))] (.d (.agg (dJm (addJ b1 x b2 y).1 (grp (addJ b1 x b2 y).2)))) := by
  have c1 := wPlusJ (grp x) (grp y) (gok_grp x) (gok_grp y) h1 h2
  have c2 := wOrder (grp x) (grp y) (by omega)
  rw [gval_grp, gval_grp] at c1
  have hge := ordR_ge x y
  have c3 : y ≤ x → PCalls Tryz.prog 101 [.sl 1 ((grp x).map dJ), .sl 1 ((grp y).map dJ)] (.d (.sl 1 ((grp (x - y)).map dJ))) := fun h => by
    have := wMinusJ (grp x) (grp y) (gok_grp x) (gok_grp y) (grp_len_le h) (by rw [gval_grp, gval_grp]; exact h) h1
    rwa [gval_grp, gval_grp] at this
  have c4 : ¬ y ≤ x → PCalls Tryz.prog 101 [.sl 1 ((grp y).map dJ), .sl 1 ((grp x).map dJ)] (.d (.sl 1 ((grp (y - x)).map dJ))) := fun h => by
    have := wMinusJ (grp y) (grp x) (gok_grp y) (gok_grp x) (grp_len_le (by omega)) (by rw [gval_grp, gval_grp]; omega) h2
    rwa [gval_grp, gval_grp] at this
  obtain ⟨k, hk⟩ : ∃ k, k = ordR (grp x) (grp y) := ⟨_, rfl⟩
  rw [← hk] at c2 hge
  unfold addJ
  obtain ⟨l1, hl1⟩ : ∃ l, l = (grp x).map dJ := ⟨_, rfl⟩
  obtain ⟨l2, hl2⟩ : ∃ l, l = (grp y).map dJ := ⟨_, rfl⟩
  show PCalls Tryz.prog 78 [.agg [dB b1, .sl 1 ((grp x).map dJ)], .agg [dB b2, .sl 1 ((grp y).map dJ)]] _
  rw [← hl1, ← hl2] at c1 c2 c3 ⊢
  rw [← hl1, ← hl2] at c4
  clear hl1 hl2 hk
  by_cases hb : b1 = b2
  · rw [if_pos hb]
    subst hb
    have hbb : (b1 == b1) = true := by simp
    obtain ⟨r, hr⟩ : ∃ l, l = (grp (x + y)).map dJ := ⟨_, rfl⟩
    rw [← hr] at c1
    show PCalls Tryz.prog 78 _ (.d (.agg [dB b1, .sl 1 ((grp (x + y)).map dJ)]))
    rw [← hr]
    refine pcalls_of_pw Tryz.func78 rfl Tryz.ntmps78 Tryz.results78 (by simp) fun B w0 => ?_
    refine pw_seq ?_; refine pw_region ?_; refine yK (cs := [_, _]) rfl rfl ?_; refine yK (cs := [_, _]) rfl rfl ?_; refine yZ (cs := [_, _]) rfl rfl ?_; refine yQ ?_; refine pw_seq ?_; refine pw_seq ?_; refine pw_region ?_
    refine yFb rfl ?_; refine yLd rfl rfl rfl ?_; refine yFb rfl ?_; refine yLd rfl rfl rfl ?_; refine yBb (c := true) Tryz.underlying4 hbb rfl rfl ?_; refine yQ ?_; refine pw_ct rfl ?_; refine pw_seq ?_
    refine pw_draw2 (id := 2) Tryz.mixed (by kernel_rfl) ?_; refine yFb rfl ?_; refine yLd rfl rfl rfl ?_; refine yFb rfl ?_; refine yLd rfl rfl rfl ?_; refine yFb rfl ?_; refine yLd rfl rfl rfl ?_; refine yC (c1) rfl rfl ?_
    refine yG (ys := [_, _]) rfl rfl ?_; refine yS (cs' := [_, _]) rfl rfl rfl rfl rfl ?_; refine yQ ?_; refine Px.Sep.mk (by kernel_rfl) ?_; refine pw_ret ?_; refine q_then_ret ?_
    exact q_ret _ (.agg inferInstance rfl rfl rfl rfl .nil) rfl
  rw [if_neg hb]
  have hbb : (b1 == b2) = false := by simpa using hb
  by_cases hle : y ≤ x
  · rw [if_pos hle]
    have c3 := c3 hle
    have u : decide (k ≥ 0) = true := decide_eq_true (hge.2 hle)
    obtain ⟨r, hr⟩ : ∃ l, l = (grp (x - y)).map dJ := ⟨_, rfl⟩
    rw [← hr] at c3
    show PCalls Tryz.prog 78 _ (.d (.agg [dB b1, .sl 1 ((grp (x - y)).map dJ)]))
    rw [← hr]
    refine pcalls_of_pw Tryz.func78 rfl Tryz.ntmps78 Tryz.results78 (by simp) fun B w0 => ?_
    refine pw_seq ?_; refine pw_region ?_; refine yK (cs := [_, _]) rfl rfl ?_; refine yK (cs := [_, _]) rfl rfl ?_; refine yZ (cs := [_, _]) rfl rfl ?_; refine yQ ?_; refine pw_seq ?_; refine pw_seq ?_; refine pw_region ?_
    refine yFb rfl ?_; refine yLd rfl rfl rfl ?_; refine yFb rfl ?_; refine yLd rfl rfl rfl ?_; refine yBb (c := false) Tryz.underlying4 hbb rfl rfl ?_; refine yQ ?_; refine pw_cf rfl ?_; refine pw_skip ?_; refine pw_seq ?_
    refine pw_seq ?_; refine pw_region ?_; refine yFb rfl ?_; refine yLd rfl rfl rfl ?_; refine yFb rfl ?_; refine yLd rfl rfl rfl ?_; refine yC (c2) rfl rfl ?_; refine yB rfl rfl rfl rfl ?_; refine yQ ?_; refine q_then ?_; rw [u]
    refine pw_ct rfl ?_; refine pw_seq ?_; refine pw_draw2 (id := 4) Tryz.mixed (by kernel_rfl) ?_; refine yFb rfl ?_; refine yLd rfl rfl rfl ?_; refine yFb rfl ?_; refine yLd rfl rfl rfl ?_; refine yFb rfl ?_; refine yLd rfl rfl rfl ?_
    refine yC (c3) rfl rfl ?_; refine yG (ys := [_, _]) rfl rfl ?_; refine yS (cs' := [_, _]) rfl rfl rfl rfl rfl ?_; refine yQ ?_; refine Px.Sep.mk (by kernel_rfl) ?_; refine pw_ret ?_; refine q_then_ret ?_
    exact q_ret _ (.agg inferInstance rfl rfl rfl rfl .nil) rfl
  · rw [if_neg hle]
    have c4 := c4 hle
    have u : decide (k ≥ 0) = false := decide_eq_false fun h => hle (hge.1 h)
    obtain ⟨r, hr⟩ : ∃ l, l = (grp (y - x)).map dJ := ⟨_, rfl⟩
    rw [← hr] at c4
    show PCalls Tryz.prog 78 _ (.d (.agg [dB b2, .sl 1 ((grp (y - x)).map dJ)]))
    rw [← hr]
    refine pcalls_of_pw Tryz.func78 rfl Tryz.ntmps78 Tryz.results78 (by simp) fun B w0 => ?_
    refine pw_seq ?_; refine pw_region ?_; refine yK (cs := [_, _]) rfl rfl ?_; refine yK (cs := [_, _]) rfl rfl ?_; refine yZ (cs := [_, _]) rfl rfl ?_; refine yQ ?_; refine pw_seq ?_; refine pw_seq ?_; refine pw_region ?_
    refine yFb rfl ?_; refine yLd rfl rfl rfl ?_; refine yFb rfl ?_; refine yLd rfl rfl rfl ?_; refine yBb (c := false) Tryz.underlying4 hbb rfl rfl ?_; refine yQ ?_; refine pw_cf rfl ?_; refine pw_skip ?_; refine pw_seq ?_
    refine pw_seq ?_; refine pw_region ?_; refine yFb rfl ?_; refine yLd rfl rfl rfl ?_; refine yFb rfl ?_; refine yLd rfl rfl rfl ?_; refine yC (c2) rfl rfl ?_; refine yB rfl rfl rfl rfl ?_; refine yQ ?_; refine q_then ?_; rw [u]
    refine pw_cf rfl ?_; refine pw_skip ?_; refine pw_seq ?_; refine pw_draw2 (id := 5) Tryz.mixed (by kernel_rfl) ?_; refine yFb rfl ?_; refine yLd rfl rfl rfl ?_; refine yFb rfl ?_; refine yLd rfl rfl rfl ?_; refine yFb rfl ?_
    refine yLd rfl rfl rfl ?_; refine yC (c4) rfl rfl ?_; refine yG (ys := [_, _]) rfl rfl ?_; refine yS (cs' := [_, _]) rfl rfl rfl rfl rfl ?_; refine yQ ?_; refine Px.Sep.mk (by kernel_rfl) ?_; refine pw_ret ?_
    exact q_ret _ (.agg inferInstance rfl rfl rfl rfl .nil) rfl
theorem val17 {a : Str} (h : (dgs a).1.length ≤ 17) : (val a).natAbs < 100000000000000000 := by
  have h1 := natOf_lt (dgs_all a)
  rw [natOf_dgs] at h1
  have h2 : (10 : Nat) ^ (dgs a).1.length ≤ 10 ^ 17 := Nat.pow_le_pow_right (by decide) h
  have e17 : (10 : Nat) ^ 17 = 100000000000000000 := by decide
  omega
/-- what short gives -/
theorem wRShortA (a : Str) (ha : a.length ≤ 1000000) : PCalls Tryz.prog 75 [dS a] (.tup [dI (if (dgs a).1.length ≤ 17 then val a else 0), dB (decide ((dgs a).1.length ≤ 17))]) := by
  by_cases h : (dgs a).1.length ≤ 17
  · rw [if_pos h, decide_eq_true h]; exact wRShort a ha h
  · rw [if_neg h, decide_eq_false h]; exact wRShortL a ha (by omega)
set_option maxRecDepth 20000 in
set_option maxHeartbeats 2000000 in
theorem wRAddG (a b : Str) (ha : a.length ≤ 90000) (hb : b.length ≤ 90000) : PCalls Tryz.prog 46 [dS a, dS b] (.d (dS (canon (val a + val b)))) := by
  have c1 := wRShortA a (by omega)
  have c2 := wRShortA b (by omega)
  by_cases h : (dgs a).1.length ≤ 17 ∧ (dgs b).1.length ≤ 17
  · have va := val17 h.1
    have vb := val17 h.2
    rw [if_pos h.1, decide_eq_true h.1] at c1
    rw [if_pos h.2, decide_eq_true h.2] at c2
    have hw : IntKind.i64.wrap (val a + val b) = val a + val b := wrapI _ (by omega)
    have c3 := wROf (val a + val b) (by omega) (by omega)
    obtain ⟨r, hr⟩ : ∃ r, r = canon (val a + val b) := ⟨_, rfl⟩
    rw [← hr] at c3 ⊢
    obtain ⟨u, hu⟩ : ∃ u, u = val a := ⟨_, rfl⟩
    obtain ⟨v, hv⟩ : ∃ u, u = val b := ⟨_, rfl⟩
    rw [← hu] at c1
    rw [← hv] at c2
    rw [← hu, ← hv] at c3 hw
    refine pcalls_of_pw Tryz.func46 rfl Tryz.ntmps46 Tryz.results46 (by simp) fun B w0 => ?_
    refine pw_seq ?_; refine pw_region ?_; refine yAd rfl ?_; refine yQ ?_; refine pw_seq ?_; refine pw_region ?_; refine yMd rfl ?_; refine yC (c1) rfl rfl ?_; refine yMp rfl ?_; refine yX rfl rfl ?_; refine yX rfl rfl ?_
    refine yAd rfl ?_; refine yAd rfl ?_; refine yQ ?_; refine pw_seq ?_; refine pw_region ?_; refine yMd rfl ?_; refine yC (c2) rfl rfl ?_; refine yMp rfl ?_; refine yX rfl rfl ?_; refine yX rfl rfl ?_; refine yAd rfl ?_
    refine yAd rfl ?_; refine yQ ?_; refine pw_seq ?_; refine pw_seq ?_; refine pw_region ?_; refine yMd rfl ?_; refine yMd rfl ?_; refine yMd rfl ?_; refine yPd rfl rfl ?_; refine yQ ?_; refine pw_ct rfl ?_; refine pw_seq ?_
    refine pw_region ?_; refine yMd rfl ?_; refine yMd rfl ?_; refine yB rfl rfl rfl rfl ?_; rw [hw]; refine yC (c3) rfl rfl ?_; refine yAd rfl ?_; refine yQ ?_; refine pw_ret ?_; refine q_then_ret ?_
    exact q_ret _ (.tmp rfl .nil) rfl
  have hf : ((decide ((dgs a).1.length ≤ 17)) && (decide ((dgs b).1.length ≤ 17))) = false := by
    rw [Bool.and_eq_false_iff, decide_eq_false_iff_not, decide_eq_false_iff_not]
    rcases Decidable.em ((dgs a).1.length ≤ 17) with h1 | h1
    · exact .inr fun h2 => h ⟨h1, h2⟩
    · exact .inl h1
  have h1 := Nat.le_trans (rdG_size (dgs a).1) (dgs_len a)
  have h2 := Nat.le_trans (rdG_size (dgs b).1) (dgs_len b)
  have c3 := wReadJ a (by omega)
  have c4 := wReadJ b (by omega)
  rw [rdG_dgs] at c3 c4 h1 h2
  have c5 := wNAddJ (dgs a).2 (dgs b).2 (natOf (dgs a).1) (natOf (dgs b).1) (by omega) (by omega)
  have s2 := addJ_sg (dgs a).2 (natOf (dgs a).1) (dgs b).2 (natOf (dgs b).1)
  rw [← val_sg, ← val_sg] at s2
  have hlz : (grp (addJ (dgs a).2 (natOf (dgs a).1) (dgs b).2 (natOf (dgs b).1)).2).length ≤ 100000 := by
    have hle : (addJ (dgs a).2 (natOf (dgs a).1) (dgs b).2 (natOf (dgs b).1)).2 ≤ natOf (dgs a).1 + natOf (dgs b).1 := by
      unfold addJ
      split
      · exact Nat.le_refl _
      · split <;> show _ - _ ≤ _ <;> omega
    refine Nat.le_trans (grp_len_le hle) ?_
    have q1 := natOf_lt (dgs_all a)
    have q2 := natOf_lt (dgs_all b)
    have q3 := dgs_len a
    have q4 := dgs_len b
    obtain ⟨K, hK⟩ : ∃ K, K = 90000 := ⟨_, rfl⟩
    rw [← hK] at ha hb
    have q5 : natOf (dgs a).1 + natOf (dgs b).1 < 1000000000 ^ (K + 1) := by
      have e1 : (10 : Nat) ^ (dgs a).1.length ≤ 1000000000 ^ K := Nat.le_trans (Nat.pow_le_pow_right (by decide) (Nat.le_trans q3 ha)) (Nat.pow_le_pow_left (by decide) _)
      have e2 : (10 : Nat) ^ (dgs b).1.length ≤ 1000000000 ^ K := Nat.le_trans (Nat.pow_le_pow_right (by decide) (Nat.le_trans q4 hb)) (Nat.pow_le_pow_left (by decide) _)
      have e3 : (1000000000 : Nat) ^ (K + 1) = 1000000000 ^ K * 1000000000 := Nat.pow_succ ..
      obtain ⟨p, hp⟩ : ∃ p, p = (1000000000 : Nat) ^ K := ⟨_, rfl⟩
      rw [← hp] at e1 e2 e3
      rw [e3]
      omega
    refine Decidable.byContradiction fun hgt => ?_
    have hx0 : natOf (dgs a).1 + natOf (dgs b).1 ≠ 0 := fun e => by rw [e, grp_zero] at hgt; simp at hgt
    have q6 := grp_ge hx0
    have q7 : (1000000000 : Nat) ^ (K + 1) ≤ 1000000000 ^ ((grp (natOf (dgs a).1 + natOf (dgs b).1)).length - 1) := Nat.pow_le_pow_right (by decide) (by omega)
    omega
  obtain ⟨z, hz⟩ : ∃ z, z = addJ (dgs a).2 (natOf (dgs a).1) (dgs b).2 (natOf (dgs b).1) := ⟨_, rfl⟩
  rw [← hz] at c5 s2 hlz
  have c6 := wWriteJ z.1 (grp z.2) (gok_grp z.2) hlz
  rw [gval_grp, s2] at c6
  obtain ⟨r, hr⟩ : ∃ r, r = canon (val a + val b) := ⟨_, rfl⟩
  rw [← hr] at c6 ⊢
  obtain ⟨n1, hn1⟩ : ∃ d, d = dJm (dgs a).2 (grp (natOf (dgs a).1)) := ⟨_, rfl⟩
  obtain ⟨n2, hn2⟩ : ∃ d, d = dJm (dgs b).2 (grp (natOf (dgs b).1)) := ⟨_, rfl⟩
  obtain ⟨n3, hn3⟩ : ∃ d, d = dJm z.1 (grp z.2) := ⟨_, rfl⟩
  rw [← hn1] at c3 c5
  rw [← hn2] at c4 c5
  rw [← hn3] at c5 c6
  obtain ⟨p1, hp1⟩ : ∃ p, p = decide ((dgs a).1.length ≤ 17) := ⟨_, rfl⟩
  obtain ⟨p2, hp2⟩ : ∃ p, p = decide ((dgs b).1.length ≤ 17) := ⟨_, rfl⟩
  obtain ⟨u, hu⟩ : ∃ u, u = if (dgs a).1.length ≤ 17 then val a else 0 := ⟨_, rfl⟩
  obtain ⟨v, hv⟩ : ∃ u, u = if (dgs b).1.length ≤ 17 then val b else 0 := ⟨_, rfl⟩
  rw [← hp1, ← hu] at c1
  rw [← hp2, ← hv] at c2
  rw [← hp1, ← hp2] at hf
  clear hn1 hn2 hn3 hz s2 hp1 hp2 hu hv hlz h1 h2 h
  cases p1 with
  | false =>
    refine pcalls_of_pw Tryz.func46 rfl Tryz.ntmps46 Tryz.results46 (by simp) fun B w0 => ?_
    refine pw_seq ?_; refine pw_region ?_; refine yAd rfl ?_; refine yQ ?_; refine pw_seq ?_; refine pw_region ?_; refine yMd rfl ?_; refine yC (c1) rfl rfl ?_; refine yMp rfl ?_; refine yX rfl rfl ?_; refine yX rfl rfl ?_
    refine yAd rfl ?_; refine yAd rfl ?_; refine yQ ?_; refine pw_seq ?_; refine pw_region ?_; refine yMd rfl ?_; refine yC (c2) rfl rfl ?_; refine yMp rfl ?_; refine yX rfl rfl ?_; refine yX rfl rfl ?_; refine yAd rfl ?_
    refine yAd rfl ?_; refine yQ ?_; refine pw_seq ?_; refine pw_seq ?_; refine pw_region ?_; refine yMd rfl ?_; refine yMd rfl ?_; refine yO rfl ?_; refine yVd rfl rfl ?_; refine yQ ?_; refine pw_cf rfl ?_; refine pw_skip ?_
    refine pw_seq ?_; refine pw_region ?_; refine yMd rfl ?_; refine yC (c3) rfl rfl ?_; refine yMd rfl ?_; refine yC (c4) rfl rfl ?_; refine yC (c5) rfl rfl ?_; refine yC (c6) rfl rfl ?_; refine yAd rfl ?_; refine yQ ?_
    refine pw_ret ?_
    exact q_ret _ (.tmp rfl .nil) rfl
  | true =>
    have hp : p2 = false := by simpa using hf
    subst hp
    refine pcalls_of_pw Tryz.func46 rfl Tryz.ntmps46 Tryz.results46 (by simp) fun B w0 => ?_
    refine pw_seq ?_; refine pw_region ?_; refine yAd rfl ?_; refine yQ ?_; refine pw_seq ?_; refine pw_region ?_; refine yMd rfl ?_; refine yC (c1) rfl rfl ?_; refine yMp rfl ?_; refine yX rfl rfl ?_; refine yX rfl rfl ?_
    refine yAd rfl ?_; refine yAd rfl ?_; refine yQ ?_; refine pw_seq ?_; refine pw_region ?_; refine yMd rfl ?_; refine yC (c2) rfl rfl ?_; refine yMp rfl ?_; refine yX rfl rfl ?_; refine yX rfl rfl ?_; refine yAd rfl ?_
    refine yAd rfl ?_; refine yQ ?_; refine pw_seq ?_; refine pw_seq ?_; refine pw_region ?_; refine yMd rfl ?_; refine yMd rfl ?_; refine yMd rfl ?_; refine yPd rfl rfl ?_; refine yQ ?_; refine pw_cf rfl ?_; refine pw_skip ?_
    refine pw_seq ?_; refine pw_region ?_; refine yMd rfl ?_; refine yC (c3) rfl rfl ?_; refine yMd rfl ?_; refine yC (c4) rfl rfl ?_; refine yC (c5) rfl rfl ?_; refine yC (c6) rfl rfl ?_; refine yAd rfl ?_; refine yQ ?_
    refine pw_ret ?_
    exact q_ret _ (.tmp rfl .nil) rfl
set_option maxRecDepth 20000 in
set_option maxHeartbeats 1000000 in
theorem wRCmp0 (a : Str) (ha : a.length ≤ 100000) : PCalls Tryz.prog 68 [dS a, dS []] (.d (dI (sgnT a))) := by
  have c1 := wRDigits a (by omega)
  have c2 := wRDigits [] (by simp)
  rw [dgs_empty] at c2
  have hneg := neg_dgs a
  have hz : (dgs a).1.length = 0 ↔ val a = 0 := by
    have h1 := natOf_dgs a
    constructor
    · intro h
      rw [List.eq_nil_of_length_eq_zero h] at h1
      have : natOf [] = 0 := rfl
      omega
    · intro h
      rw [h] at h1
      rw [natOf_zero (dgs_all a) (dgs_head a) h1]
      rfl
  obtain ⟨t, ht⟩ : ∃ t, t = (dgs a).1 := ⟨_, rfl⟩
  obtain ⟨b, hb⟩ : ∃ b, b = (dgs a).2 := ⟨_, rfl⟩
  rw [← ht, ← hb] at c1
  rw [← ht] at hz
  rw [← hb] at hneg
  clear ht hb
  obtain ⟨r, hr⟩ : ∃ r, r = sgnT a := ⟨_, rfl⟩
  rw [← hr]
  unfold sgnT at hr
  cases b with
  | true =>
    have h0 : val a < 0 := by simpa using hneg.symm
    rw [if_pos h0] at hr
    subst hr
    refine pcalls_of_pw Tryz.func68 rfl Tryz.ntmps68 Tryz.results68 (by simp) fun B w0 => ?_
    refine pw_seq ?_; refine pw_region ?_; refine yAd rfl ?_; refine yQ ?_; refine pw_seq ?_; refine pw_region ?_; refine yMd rfl ?_; refine yC (c1) rfl rfl ?_; refine yMp rfl ?_; refine yX rfl rfl ?_; refine yX rfl rfl ?_
    refine yAd rfl ?_; refine yAd rfl ?_; refine yQ ?_; refine pw_seq ?_; refine pw_region ?_; refine yMd rfl ?_; refine yC (c2) rfl rfl ?_; refine yMp rfl ?_; refine yX rfl rfl ?_; refine yX rfl rfl ?_; refine yAd rfl ?_
    refine yAd rfl ?_; refine yQ ?_; refine pw_seq ?_; refine pw_seq ?_; refine pw_region ?_; refine yMd rfl ?_; refine yMd rfl ?_; refine yBbn Tryz.underlying4 rfl rfl rfl ?_; refine yQ ?_; refine pw_ct rfl ?_; refine pw_seq ?_
    refine pw_seq ?_; refine pw_region ?_; refine yMd rfl ?_; refine yQ ?_; refine pw_ct rfl ?_; refine pw_seq ?_; refine pw_region ?_; refine yAd rfl ?_; refine yQ ?_; refine pw_ret ?_; refine q_then_ret ?_; refine q_then_ret ?_
    exact q_ret _ (.tmp rfl .nil) rfl
  | false =>
    have h0 : ¬ val a < 0 := by simpa using hneg.symm
    rw [if_neg h0] at hr
    by_cases h2 : t.length = 0
    · have ht0 : t = [] := List.eq_nil_of_length_eq_zero h2
      rw [if_neg (by have := hz.1 h2; omega)] at hr
      subst hr
      subst ht0
      refine pcalls_of_pw Tryz.func68 rfl Tryz.ntmps68 Tryz.results68 (by simp) fun B w0 => ?_
      refine pw_seq ?_; refine pw_region ?_; refine yAd rfl ?_; refine yQ ?_; refine pw_seq ?_; refine pw_region ?_; refine yMd rfl ?_; refine yC (c1) rfl rfl ?_; refine yMp rfl ?_; refine yX rfl rfl ?_; refine yX rfl rfl ?_
      refine yAd rfl ?_; refine yAd rfl ?_; refine yQ ?_; refine pw_seq ?_; refine pw_region ?_; refine yMd rfl ?_; refine yC (c2) rfl rfl ?_; refine yMp rfl ?_; refine yX rfl rfl ?_; refine yX rfl rfl ?_; refine yAd rfl ?_
      refine yAd rfl ?_; refine yQ ?_; refine pw_seq ?_; refine pw_seq ?_; refine pw_region ?_; refine yMd rfl ?_; refine yMd rfl ?_; refine yBbn Tryz.underlying4 rfl rfl rfl ?_; refine yQ ?_; refine pw_cf rfl ?_; refine pw_skip ?_
      refine pw_seq ?_; refine pw_region ?_; refine yAd rfl ?_; refine yQ ?_; refine pw_seq ?_; refine pw_seq ?_; refine pw_region ?_; refine yMd rfl ?_; refine yQ ?_; refine pw_cf rfl ?_; refine pw_skip ?_; refine pw_seq ?_
      refine pw_seq ?_; refine pw_region ?_; refine yMd rfl ?_; refine yNs rfl ?_; refine yMd rfl ?_; refine yNs rfl ?_; refine yB rfl rfl rfl rfl ?_; refine yQ ?_; refine pw_cf rfl ?_; refine pw_skip ?_; refine pw_seq ?_
      refine pw_seq ?_; refine pw_region ?_; refine yMd rfl ?_; refine yMd rfl ?_; refine yBsl rfl rfl ?_; refine yQ ?_; refine pw_cf rfl ?_; refine pw_skip ?_; refine pw_seq ?_; refine pw_seq ?_; refine pw_region ?_; refine yMd rfl ?_
      refine yMd rfl ?_; refine yBsg rfl rfl ?_; refine yQ ?_; refine pw_cf rfl ?_; refine pw_skip ?_; refine pw_seq ?_; refine pw_region ?_; refine yAd rfl ?_; refine yQ ?_; refine pw_ret ?_
      exact q_ret _ (.tmp rfl .nil) rfl
    · have h3 : val a ≠ 0 := fun e => h2 (hz.2 e)
      rw [if_pos (by omega)] at hr
      subst hr
      have u1 : ((t.length : Int) != (([] : Str).length : Int)) = true := by simp; intro e; exact h2 (by rw [e]; rfl)
      have u2 : decide ((t.length : Int) < (([] : Str).length : Int)) = false := decide_eq_false (by simp)
      refine pcalls_of_pw Tryz.func68 rfl Tryz.ntmps68 Tryz.results68 (by simp) fun B w0 => ?_
      refine pw_seq ?_; refine pw_region ?_; refine yAd rfl ?_; refine yQ ?_; refine pw_seq ?_; refine pw_region ?_; refine yMd rfl ?_; refine yC (c1) rfl rfl ?_; refine yMp rfl ?_; refine yX rfl rfl ?_; refine yX rfl rfl ?_
      refine yAd rfl ?_; refine yAd rfl ?_; refine yQ ?_; refine pw_seq ?_; refine pw_region ?_; refine yMd rfl ?_; refine yC (c2) rfl rfl ?_; refine yMp rfl ?_; refine yX rfl rfl ?_; refine yX rfl rfl ?_; refine yAd rfl ?_
      refine yAd rfl ?_; refine yQ ?_; refine pw_seq ?_; refine pw_seq ?_; refine pw_region ?_; refine yMd rfl ?_; refine yMd rfl ?_; refine yBbn Tryz.underlying4 rfl rfl rfl ?_; refine yQ ?_; refine pw_cf rfl ?_; refine pw_skip ?_
      refine pw_seq ?_; refine pw_region ?_; refine yAd rfl ?_; refine yQ ?_; refine pw_seq ?_; refine pw_seq ?_; refine pw_region ?_; refine yMd rfl ?_; refine yQ ?_; refine pw_cf rfl ?_; refine pw_skip ?_; refine pw_seq ?_
      refine pw_seq ?_; refine pw_region ?_; refine yMd rfl ?_; refine yNs rfl ?_; refine yMd rfl ?_; refine yNs rfl ?_; refine yB rfl rfl rfl rfl ?_; refine yQ ?_; refine q_then ?_; rw [u1]; refine pw_ct rfl ?_; refine pw_seq ?_
      refine pw_seq ?_; refine pw_region ?_; refine yMd rfl ?_; refine yNs rfl ?_; refine yMd rfl ?_; refine yNs rfl ?_; refine yB rfl rfl rfl rfl ?_; refine yQ ?_; refine pw_cf rfl ?_; refine pw_skip ?_; refine pw_seq ?_
      refine pw_region ?_; refine yMd rfl ?_; refine yAd rfl ?_; refine yQ ?_; refine pw_ret ?_; refine q_then_ret ?_; rw [u2]
      exact q_ret _ (.tmp rfl .nil) rfl
end Go.Proofs.YtmfeinilbjfnpaaGreatDoor
set_option maxHeartbeats 1000000
namespace Go.Proofs.YtmfeinilbjfnpaaGreatDoor
open Go.RowKit Px Go.Sort Go.Lib

/-- how many terms stand ahead of a name -/
def posC (O : List Cf) (nm : Str) : Nat := (O.takeWhile fun d => ltS d.1 nm).length
def insC (c : Cf) (O : List Cf) : List Cf := match O[posC O c.1]? with
  | some d => if d.1 = c.1 then O.set (posC O c.1) (d.1, addI d.2 c.2) else O.take (posC O c.1) ++ c :: O.drop (posC O c.1)
  | none => O.take (posC O c.1) ++ c :: O.drop (posC O c.1)
theorem posC_le (O : List Cf) (nm : Str) : posC O nm ≤ O.length := (List.takeWhile_prefix _).length_le
theorem posC_lt {O : List Cf} {nm : Str} {j : Nat} {d : Cf} (h : O[j]? = some d) (hj : j < posC O nm) : ltS d.1 nm = true := by
  induction O generalizing j with
  | nil => simp at h
  | cons x O ih =>
    unfold posC at hj
    rw [List.takeWhile_cons] at hj
    split at hj
    · rename_i hx
      cases j with
      | zero => cases h; exact hx
      | succ j => exact ih (j := j) (by simpa using h) (by simpa [posC] using hj)
    · simp at hj
theorem posC_at {O : List Cf} {nm : Str} {d : Cf} (h : O[posC O nm]? = some d) : ltS d.1 nm = false := by
  induction O with
  | nil => simp at h
  | cons x O ih =>
    unfold posC at h ih
    rw [List.takeWhile_cons] at h
    split at h
    · rw [List.length_cons, List.getElem?_cons_succ] at h
      exact ih h
    · rename_i hx
      simp at h
      rw [← h]
      simpa using hx
/-- the position is told by its two sides -/
theorem posC_eq {O : List Cf} {nm : Str} {k : Nat} (h1 : ∀ j d, j < k → O[j]? = some d → ltS d.1 nm = true) (h2 : ∀ d, O[k]? = some d → ltS d.1 nm = false) (h3 : k ≤ O.length) : posC O nm = k := by
  have hl := posC_le O nm
  rcases Nat.lt_trichotomy (posC O nm) k with h | h | h
  · obtain ⟨d, hd⟩ : ∃ d, O[posC O nm]? = some d := ⟨_, List.getElem?_eq_getElem (by omega)⟩
    have := h1 _ d h hd
    rw [posC_at hd] at this
    cases this
  · exact h
  · obtain ⟨d, hd⟩ : ∃ d, O[k]? = some d := ⟨_, List.getElem?_eq_getElem (by omega)⟩
    have := h2 d hd
    rw [posC_lt hd h] at this
    cases this
theorem insC_nil (c : Cf) : insC c [] = [c] := rfl
theorem insC_cons (c d : Cf) (O : List Cf) : insC c (d :: O) = if ltS d.1 c.1 then d :: insC c O else if d.1 = c.1 then (d.1, addI d.2 c.2) :: O else c :: d :: O := by
  by_cases h : ltS d.1 c.1 = true
  · have hp : posC (d :: O) c.1 = posC O c.1 + 1 := by simp [posC, List.takeWhile_cons, h]
    rw [if_pos h]
    unfold insC
    rw [hp, List.getElem?_cons_succ]
    cases O[posC O c.1]? with
    | none => simp
    | some x =>
      simp only
      split
      · simp
      · simp
  · have hp : posC (d :: O) c.1 = 0 := by simp [posC, List.takeWhile_cons, h]
    rw [if_neg h]
    unfold insC
    rw [hp]
    simp
theorem insC_ev (A : Str → Int) (c : Cf) (O : List Cf) : evA A (insC c O) = evA A O + val c.2 * A c.1 := by
  induction O with
  | nil => rw [insC_nil]; simp [evA]
  | cons d O ih =>
    rw [insC_cons]
    split
    · simp only [evA, ih]; omega
    · split
      · rename_i h
        simp only [evA, val_canon, Int.add_mul]
        rw [h]
        omega
      · simp only [evA]; omega
theorem insC_names {c : Cf} {O : List Cf} {p : Cf} (h : p ∈ insC c O) : p.1 = c.1 ∨ ∃ q ∈ O, q.1 = p.1 := by
  induction O with
  | nil => rw [insC_nil] at h; simp at h; exact .inl (by rw [h])
  | cons d O ih =>
    rw [insC_cons] at h
    split at h
    · rcases List.mem_cons.1 h with rfl | h
      · exact .inr ⟨p, by simp, rfl⟩
      · rcases ih h with h | ⟨q, hq, e⟩
        · exact .inl h
        · exact .inr ⟨q, by simp [hq], e⟩
    · split at h
      · rcases List.mem_cons.1 h with rfl | h
        · exact .inr ⟨d, by simp, rfl⟩
        · exact .inr ⟨p, by simp [h], rfl⟩
      · rcases List.mem_cons.1 h with rfl | h
        · exact .inl rfl
        · exact .inr ⟨p, h, rfl⟩
theorem insC_asc {c : Cf} {O : List Cf} (h : ascP O) : ascP (insC c O) := by
  induction O with
  | nil => rw [insC_nil]; simp [ascP]
  | cons d O ih =>
    obtain ⟨h1, h2⟩ := List.pairwise_cons.1 h
    rw [insC_cons]
    split
    · rename_i hlt
      refine List.pairwise_cons.2 ⟨fun p hp => ?_, ih h2⟩
      rcases insC_names hp with e | ⟨q, hq, e⟩
      · rw [e]; exact hlt
      · rw [← e]; exact h1 q hq
    · rename_i hlt
      split
      · exact List.pairwise_cons.2 ⟨h1, h2⟩
      · rename_i hne
        have hcd : ltS c.1 d.1 = true := by
          rcases ltS_total d.1 c.1 with h3 | h3 | h3
          · exact absurd h3 hlt
          · exact absurd h3 hne
          · exact h3
        refine List.pairwise_cons.2 ⟨fun p hp => ?_, h⟩
        rcases List.mem_cons.1 hp with rfl | hp
        · exact hcd
        · exact ltS_trans hcd (h1 p hp)
theorem insC_isC {c : Cf} {O : List Cf} (hc : isC c.2 = true) (hO : ∀ p ∈ O, isC p.2 = true) : ∀ p ∈ insC c O, isC p.2 = true := by
  induction O with
  | nil => intro p hp; rw [insC_nil] at hp; simp at hp; rw [hp]; exact hc
  | cons d O ih =>
    intro p hp
    rw [insC_cons] at hp
    split at hp
    · rcases List.mem_cons.1 hp with rfl | hp
      · exact hO p (by simp)
      · exact ih (fun q hq => hO q (by simp [hq])) p hp
    · split at hp
      · rcases List.mem_cons.1 hp with rfl | hp
        · exact isC_canon _
        · exact hO p (by simp [hp])
      · rcases List.mem_cons.1 hp with rfl | hp
        · exact hc
        · exact hO p hp
theorem insC_len (c : Cf) (O : List Cf) : (insC c O).length ≤ O.length + 1 ∧ 0 < (insC c O).length := by
  induction O with
  | nil => rw [insC_nil]; simp
  | cons d O ih =>
    rw [insC_cons]
    split
    · simp; omega
    · split <;> simp
theorem insC_flen {c : Cf} {O : List Cf} {B C : Nat} (hc : c.2.length ≤ C) (hO : ∀ p ∈ O, p.2.length ≤ B) (hCB : C ≤ B) : ∀ p ∈ insC c O, p.2.length ≤ B + 2 := by
  induction O with
  | nil => intro p hp; rw [insC_nil] at hp; simp at hp; rw [hp]; omega
  | cons d O ih =>
    intro p hp
    rw [insC_cons] at hp
    split at hp
    · rcases List.mem_cons.1 hp with rfl | hp
      · have := hO p (by simp); omega
      · exact ih (fun q hq => hO q (by simp [hq])) p hp
    · split at hp
      · rcases List.mem_cons.1 hp with rfl | hp
        · exact addI_len (hO d (by simp)) (by omega)
        · have := hO p (by simp [hp]); omega
      · rcases List.mem_cons.1 hp with rfl | hp
        · omega
        · have := hO p hp; omega
/-- the terms after the first ones -/
def rnI (e : List Cf) : Nat → List Cf
  | 0 => []
  | i + 1 => match e[i]? with
    | none => rnI e i
    | some c => insC c (rnI e i)
theorem rnI_ev (A : Str → Int) (e : List Cf) (i : Nat) : evA A (rnI e i) = evA A (e.take i) := by
  induction i with
  | zero => rfl
  | succ i ih =>
    rw [rnI]
    cases h : e[i]? with
    | none =>
      rw [List.getElem?_eq_none_iff] at h
      simp only [ih, List.take_of_length_le h, List.take_of_length_le (Nat.le_succ_of_le h)]
    | some c =>
      simp only
      rw [insC_ev, ih, List.take_add_one, h, Option.toList, evA_append]
      simp only [evA]
      omega
theorem rnI_asc (e : List Cf) (i : Nat) : ascP (rnI e i) := by
  induction i with
  | zero => exact List.Pairwise.nil
  | succ i ih =>
    rw [rnI]
    cases e[i]? with
    | none => exact ih
    | some c => exact insC_asc ih
theorem rnI_isC {e : List Cf} (he : ∀ c ∈ e, isC c.2 = true) (i : Nat) : ∀ p ∈ rnI e i, isC p.2 = true := by
  induction i with
  | zero => intro p hp; cases hp
  | succ i ih =>
    rw [rnI]
    cases h : e[i]? with
    | none => exact ih
    | some c => exact insC_isC (he c (List.mem_of_getElem? h)) ih
theorem rnI_len (e : List Cf) (i : Nat) : (rnI e i).length ≤ i := by
  induction i with
  | zero => exact Nat.le_refl _
  | succ i ih =>
    rw [rnI]
    cases e[i]? with
    | none => exact Nat.le_succ_of_le ih
    | some c => have := (insC_len c (rnI e i)).1; simp only; omega
theorem rnI_flen {e : List Cf} {B : Nat} (h : ∀ c ∈ e, c.2.length ≤ B) (i : Nat) : ∀ p ∈ rnI e i, p.2.length ≤ B + 2 * i := by
  induction i with
  | zero => intro p hp; cases hp
  | succ i ih =>
    rw [rnI]
    cases hc : e[i]? with
    | none => intro p hp; have := ih p hp; omega
    | some c =>
      intro p hp
      have := insC_flen (B := B + 2 * i) (C := B) (h c (List.mem_of_getElem? hc)) ih (by omega) p hp
      omega
theorem rnI_nf {e : List Cf} (he : ∀ c ∈ e, isC c.2 = true) : (rnI e e.length).filter (fun c => !(c.2 == [])) = nf e := by
  have hasc := rnI_asc e e.length
  have hic := rnI_isC he e.length
  have hev : ∀ k, cf k (rnI e e.length) = cf k e := fun k => by rw [cf, rnI_ev, List.take_length]
  obtain ⟨O, hO⟩ : ∃ O, O = rnI e e.length := ⟨_, rfl⟩
  rw [← hO] at hasc hic hev ⊢
  have hnd : (O.map (·.1)).Nodup := List.pairwise_map.2 (hasc.imp fun {a b} h e => by rw [e, ltS_irrefl] at h; cases h)
  have hval : ∀ p ∈ O, p.2 = canon (cf p.1 e) := fun p hp => by
    rw [← hev, cf_get hnd, get_mem hnd hp]
    exact (isC_eq (hic p hp)).symm
  refine asc_ext (hasc.filter _) (nf_asc e) fun p => ?_
  rw [List.mem_filter, nf_mem]
  constructor
  · rintro ⟨h1, h2⟩
    have h3 := hval p h1
    refine ⟨fun h => ?_, h3⟩
    rw [h, canon_zero] at h3
    rw [h3] at h2
    simp at h2
  · rintro ⟨h1, h2⟩
    have h3 : p.1 ∈ O.map (·.1) := Decidable.byContradiction fun h => h1 (by rw [← hev]; exact cf_notin h)
    obtain ⟨q, hq, e1⟩ := List.mem_map.1 h3
    have h4 := hval q hq
    rw [e1] at h4
    have h5 : q = p := Prod.ext e1 (h4.trans h2.symm)
    rw [h5] at hq
    refine ⟨hq, ?_⟩
    have h6 : p.2 ≠ [] := fun h => h1 (canon_nil.1 (h2 ▸ h))
    simpa using h6
end Go.Proofs.YtmfeinilbjfnpaaGreatDoor
set_option maxHeartbeats 1000000
namespace Go.Proofs.YtmfeinilbjfnpaaGreatDoor.Px
open Go.RowKit

def emptyS : SV → Bool
  | .d (.sl _ []) => true
  | .ts _ _ [] => true
  | .d (.val (.slice none 0 0)) => true
  | _ => false
theorem emptyS_val {B : Nat} {w0 : Cx} {g : Gh} {st : PS} {a : Act} {w : World} (hr : Rep B w0 g st a w) {y : Operand} (h : emptyS (st.ev y) = true) : ∃ A c, a.eval y = .slice A 0 c := by
  have h1 := hr.eval y
  generalize st.ev y = s at h h1
  unfold emptyS at h
  split at h
  · obtain ⟨A, c, news, hv, -⟩ := DRep.row h1
    exact ⟨A, c, hv⟩
  · obtain ⟨A, c, news, hv, -⟩ := DRep.row h1.1
    exact ⟨A, c, hv⟩
  · exact ⟨none, 0, DRep.val_eq h1⟩
  · cases h

section
variable {P : Program} {B : Nat} {w0 : Cx} {Q : Exit → PS → Prop} {st : PS} {c : Code}
/-- what a box holds behind some cell is forgotten -/
theorem pw_cutb (i q : Nat) {cs cs2 : List SV} (hi : st.bget i = some cs) (hq : cs.take q = cs2) (h : PW P B w0 c Q (st.bput i cs2)) (hlt : Nat.blt i 500000 = true := by rfl) : PW P B w0 c Q st := fun g a w hr => by
  subst hq
  have hlt5 : i < 500000 := Nat.le_of_ble_eq_true hlt
  refine h g a w { hr with lim := hr.lim, size := hr.size, slots := hr.slots, tdom := hr.tdom, tlen := hr.tlen, glob := hr.glob, boxes := fun j cs' hj hj5 => ?_, maps := fun j ms hj hge => ?_, dom := fun j b hj => ?_ }
  · rw [bget_bput] at hj
    by_cases e : j = i
    · subst e
      rw [if_pos rfl] at hj
      cases hj
      obtain ⟨b, xs, T, q1, q2, q3, q4, q5⟩ := hr.boxes j cs hi hj5
      refine ⟨b, xs, T, q1, q2, by rw [List.length_take]; omega, fun k c0 hk => ?_, fun k u hk hu => q5 k u (by rw [List.length_take] at hk; omega) hu⟩
      have hk' : k < q := by have := (List.getElem?_eq_some_iff.1 hk).1; rw [List.length_take] at this; omega
      rw [List.getElem?_take_of_lt hk'] at hk
      exact q4 k c0 hk
    · rw [if_neg e] at hj
      exact hr.boxes j cs' hj hj5
  · rw [bget_bput, if_neg (by omega)] at hj
    exact hr.maps j ms hj hge
  · rw [bget_bput]
    by_cases e : j = i
    · rw [if_pos e]; simp
    · rw [if_neg e]; exact hr.dom j b hj
end

section
variable {P : Program} {sq : Bool} {ops : Array Oper} {K : PS → Prop} {rest : List Oper} {st : PS} {d : Option Nat} {ty : TypeId} {pos : String} {af : Array Edge} {gd : Option (Nat × Bool)}

theorem ls_app_none (T : TypeId) (x y : Operand) {E k bytes i n : Nat} [hA : AppOf P T E k bytes] (hx : st.ev x = .bs i n E k) (hy : emptyS (st.ev y) = true) (hd : dstOk ⟨d, .call { callee := .builtin .append, args := #[x, y], argTypes := #[T, T] }, ty, pos, af, gd⟩ st = true) :
    LocS P ⟨d, .call { callee := .builtin .append, args := #[x, y], argTypes := #[T, T] }, ty, pos, af, gd⟩ st (.bs i n E k) .no := fun st2 ha =>
  OpS.value (ha.dst hd) fun _ _ g a w h => by
    have h1 := h.eval x
    rw [ha.ev x (by simp [Op.operands, Call.operands]), hx] at h1
    obtain ⟨A2, c2, hv2⟩ := emptyS_val h (y := y) (by rw [ha.ev y (by simp [Op.operands, Call.operands])]; exact hy)
    obtain ⟨b, c, q1, q2, q3, q4, q5⟩ := h1
    refine ⟨.slice (some ⟨b, 0, none⟩) n c, w, ?_, Below.refl _ _, b, c, q1, rfl, q3, q4, q5⟩
    obtain ⟨ti, z, p1, p2, p3, p4, p5⟩ := hA.inf
    simp only [execOp, resolve, invoke, builtin, Sem.run_bind, Sem.run_pure, Result.andThen_ok, List.map_toArray, List.map_cons, List.map_nil, q2, hv2]
    cases A2 <;> simp [Builtin.append_, run_underlying hA.und, sizeOf, typeInfo, p1, Builtin.lenOf, Builtin.firstCells, loadCells, loadCellsFrom, q3, storeCells, Result.andThen]
theorem yTe {T E k bytes i n : Nat} {x y : Operand} [AppOf P T E k bytes] (hx : st.ev x = .bs i n E k) (hy : emptyS (st.ev y) = true) (h : YR P sq ops K rest (st.put d (.bs i n E k))) (hd : dstOk ⟨d, .call { callee := .builtin .append, args := #[x, y], argTypes := #[T, T] }, ty, pos, af, gd⟩ st = true := by kernel_rfl) (hk : opOk ⟨d, .call { callee := .builtin .append, args := #[x, y], argTypes := #[T, T] }, ty, pos, af, gd⟩ st .no = true := by kernel_rfl) (hw : st.want ops ⟨d, .call { callee := .builtin .append, args := #[x, y], argTypes := #[T, T] }, ty, pos, af, gd⟩ = some true := by rfl) :
    YR P sq ops K (⟨d, .call { callee := .builtin .append, args := #[x, y], argTypes := #[T, T] }, ty, pos, af, gd⟩ :: rest) st := yr_v (ls_app_none T x y hx hy hd) hk hw h

theorem ls_lo_nil (T : TypeId) (x y : Operand) {E k : Nat} {kd : IntKind} [hS : SliceOf P T E k] (hx : st.ev x = .d (.val (.slice none 0 0))) (hy : st.ev y = .d (.val (.int kd 0))) (hd : dstOk ⟨d, .slice T x (some y) none none, ty, pos, af, gd⟩ st = true) :
    LocS P ⟨d, .slice T x (some y) none none, ty, pos, af, gd⟩ st (.d (.val (.slice none 0 0))) .no := fun st2 ha =>
  OpS.value (ha.dst hd) fun _ _ g a w h => by
    have h1 := h.eval x
    rw [ha.ev x (by simp [Op.operands]), hx] at h1
    have h2 := h.eval y
    rw [ha.ev y (by simp [Op.operands]), hy] at h2
    refine ⟨.slice none 0 0, w, ?_, Below.refl _ _, DRep.val _ rfl⟩
    simp [execOp, Instr.sliceAt, Instr.slice, Instr.sliceBounds, Instr.sliceBound, DRep.val_eq h1, DRep.val_eq h2, asIntOf, hS.und, hS.size, Result.andThen]
theorem ySn {T E k : Nat} {x y : Operand} {kd : IntKind} [SliceOf P T E k] (hx : st.ev x = .d (.val (.slice none 0 0))) (hy : st.ev y = .d (.val (.int kd 0))) (h : YR P sq ops K rest (st.put d (.d (.val (.slice none 0 0))))) (hd : dstOk ⟨d, .slice T x (some y) none none, ty, pos, af, gd⟩ st = true := by kernel_rfl) (hk : opOk ⟨d, .slice T x (some y) none none, ty, pos, af, gd⟩ st .no = true := by kernel_rfl) (hw : st.want ops ⟨d, .slice T x (some y) none none, ty, pos, af, gd⟩ = some true := by rfl) :
    YR P sq ops K (⟨d, .slice T x (some y) none none, ty, pos, af, gd⟩ :: rest) st := yr_v (ls_lo_nil T x y hx hy hd) hk hw h
end

section
variable {P : Program} {ops : Array Oper} {K : PS → Prop} {rest : List Oper} {st : PS} {ty ty2 : TypeId} {pos pos2 : String} {af af2 : Array Edge} {gd gd2 : Option (Nat × Bool)}
theorem eval_put {st : PS} {B : Nat} {w0 : Cx} {g : Gh} {a : Act} {w : World} (hr : Rep B w0 g st a w) {e : Nat} (he : e < st.n) (v : Value) : (a.put (some e) v).eval (.tmp e) = v := by
  show (a.tmps.setIfInBounds e v).getD e undef = v
  rw [getD_set _ _ _ _ _ (by rw [hr.size]; exact he), if_pos rfl]

/-- the end of a row, appended to a new row -/
theorem yTa {T E k bytes n m iz i e1 e2 : Nat} {kd : IntKind} {x y z : Operand} {us vs : List Value} [hA : AppOf P T E k bytes] [hS : SliceOf P T E k]
    (hm : m ≤ n) (hb : n * bytes ≤ 140737488351232) (hn : n ≤ 140737488351232) (hul : us.length = n * k) (hvs : us.drop (m * k) = vs)
    (hx : st.ev x = .bs i n E k) (hi : st.bget i = some (us.map fun u => .d (.val u))) (hy : st.ev y = .d (.val (.int kd m))) (hz : (st.put (some e1) .any).ev z = .bs iz 0 E k) (hiz : st.bget iz = some (([] : List Value).map fun u => .d (.val u)))
    (h : YR P true ops K rest ((((st.put (some e1) .any).kill iz).bput iz (vs.map fun u => .d (.val u))).put (some e2) (.bs iz (n - m) E k)))
    (hd1 : dstOk ⟨some e1, .slice T x (some y) none none, ty, pos, af, gd⟩ st = true := by kernel_rfl) (hw1 : st.want ops ⟨some e1, .slice T x (some y) none none, ty, pos, af, gd⟩ = some true := by rfl)
    (hd2 : dstOk ⟨some e2, .call { callee := .builtin .append, args := #[z, .tmp e1], argTypes := #[T, T] }, ty2, pos2, af2, gd2⟩ st = true := by kernel_rfl) (hw2 : (st.put (some e1) .any).want ops ⟨some e2, .call { callee := .builtin .append, args := #[z, .tmp e1], argTypes := #[T, T] }, ty2, pos2, af2, gd2⟩ = some true := by rfl)
    (hlt : Nat.blt i 500000 = true := by rfl) (hltz : Nat.blt iz 500000 = true := by rfl) (hsm : Nat.blt (iz % 500000) 10000 = true := by rfl) :
    YR P true ops K (⟨some e1, .slice T x (some y) none none, ty, pos, af, gd⟩ :: ⟨some e2, .call { callee := .builtin .append, args := #[z, .tmp e1], argTypes := #[T, T] }, ty2, pos2, af2, gd2⟩ :: rest) st := by
  subst hvs
  have hlt5 : i < 500000 := Nat.le_of_ble_eq_true hlt
  have hltz5 : iz < 500000 := Nat.le_of_ble_eq_true hltz
  have hsm5 : smB iz := Nat.le_of_ble_eq_true hsm
  clear hlt hltz hsm
  refine .any rfl fun B w0 Q hQ g a w hr => ?_
  have h1 := hr.eval x
  rw [hx] at h1
  have hy1 := hr.eval y
  rw [hy] at hy1
  obtain ⟨b, c, xs, p1, p2, p3, p4, p5, p6, p7, p8⟩ := bs_own hr hlt5 h1 hi hul
  have he1 : e1 < st.n := dstOk_spec hd1 e1 rfl
  obtain ⟨A1, hA1⟩ : ∃ A : Option Addr, A = if c = m then some ⟨b, 0, none⟩ else some ⟨b, m * k, none⟩ := ⟨_, rfl⟩
  have hv1 : (execOp a.eval ⟨some e1, .slice T x (some y) none none, ty, pos, af, gd⟩).run P w = .ok (.value (.slice A1 (n - m) (c - m))) w := by
    have hn2 : (0 : Int) ≤ (m : Int) ∧ (m : Int) ≤ (n : Int) := ⟨by omega, by omega⟩
    simp only [execOp, Instr.sliceAt, Instr.slice, Instr.sliceBounds, Instr.sliceBound, p2, DRep.val_eq hy1, asIntOf, Sem.run_bind, Sem.run_pure, Result.andThen_ok, hS.und, hn2, and_self, if_true, hS.size, Option.map_some, Option.map_none, Addr.add_lit, Int.toNat_natCast, Nat.zero_add]
    rw [hA1]
  have hr1 := hr.put (v := .slice A1 (n - m) (c - m)) (x := .any) trivial (some e1) (fun j hj => by cases hj; exact he1)
  unfold wpList
  rw [if_pos (want_spec hr hw1)]
  refine .inl ?_
  unfold Oper.wp
  rw [hv1]
  have hz1 := hr1.eval z
  rw [hz] at hz1
  obtain ⟨bz, cz, xz, z1, z2, z3, z4, z5, z6, z7, z8⟩ := bs_own (vs := []) hr1 hltz5 hz1 (by rw [bget_put]; exact hiz) (by simp)
  have hcell : ∀ (j : Nat) u, (us.drop (m * k))[j]? = some u → w.cell? ⟨b, m * k + j, none⟩ = some u := fun j u hj => by
    rw [List.getElem?_drop] at hj
    exact own_cell p7 (b := b) (by rw [p2]; rfl) (m * k + j) u hj
  have hone2 : ∀ u ∈ us.drop (m * k), u.oneCell' = true := fun u hu => p8 u (List.mem_of_mem_drop hu)
  obtain ⟨ti, zz, q1, q2, q3, q4, q5⟩ := hA.inf
  have hl2 : (us.drop (m * k)).length = (n - m) * k := by rw [List.length_drop, hul, Nat.sub_mul]
  obtain ⟨v', w', r1, r2, r3, r4, r5, r6, r7⟩ := run_app (P := P) w 0 T ty2 E ti zz k bytes hA.und q1 q2 q3 q4 q5 ((a.put (some e1) (.slice A1 (n - m) (c - m))).eval z) 0 [] z7 A1 (n - m) (c - m) (us.drop (m * k)) hl2 (fun h0 => ⟨⟨b, m * k, none⟩, by rw [hA1, if_neg (by omega)], fun j u hj => by rw [Addr.add_lit]; exact hcell j u hj⟩) hone2 (by unfold maxLen; omega) (by rw [Nat.zero_add]; exact Nat.le_trans (Nat.mul_le_mul_right _ (Nat.sub_le _ _)) (by omega)) (Nat.zero_le _)
  rw [Nat.zero_add, List.nil_append] at r2
  have hob : ((a.put (some e1) (.slice A1 (n - m) (c - m))).eval z).ownBlock = some bz := by rw [z2]; rfl
  have hfin : ∃ gb cap cur, v' = .slice (some ⟨gb, 0, none⟩) (n - m) cap ∧ w'.heap[gb]? = some (.cells cur E (0, 0)) ∧ n - m ≤ cap ∧ cap ≤ maxLen ∧ cur.size = cap * k ∧ cur.toList.take ((n - m) * k) = us.drop (m * k) := by
    obtain ⟨hxl, (⟨q0, q9⟩ | ⟨gb, cap, cur, t0, t1, t2, t3, t4, t5, t6⟩)⟩ := r2
    · have := r7 q9
      rw [q0, z2] at this
      cases this
    · exact ⟨gb, cap, cur, t0, t2, t3, t4, t5, t6⟩
  obtain ⟨gb, cap, cur, rfl, t2, t3, t4, t5, t6⟩ := hfin
  have hbb : gb = bz ∨ w.heap.size ≤ gb := by
    rcases r6 with r6 | r6
    · rw [hob] at r6; exact .inl (by simpa [Value.ownBlock] using r6)
    · exact .inr (by have : gb = w.heap.size := by simpa [Value.ownBlock] using r6
                     omega)
  have hcur : ∀ (j : Nat) (u : Value), (us.drop (m * k))[j]? = some u → cur[j]? = some u ∧ u.oneCell' = true := fun j u hj => by
    refine ⟨?_, hone2 u (List.mem_of_getElem? hj)⟩
    rw [← t6] at hj
    have hj' : j < (n - m) * k := by have := (List.getElem?_eq_some_iff.1 hj).1; rw [List.length_take] at this; omega
    rw [List.getElem?_take_of_lt hj'] at hj
    simpa using hj
  have hr' := hr1.rebox hltz5 hsm5 z1 r3 (fun k hk hne => r4 k hk (by rw [hob]; exact fun e => hne (Option.some.inj e).symm)) hbb cur t2 (us.drop (m * k)) (by rw [hl2, t5]; exact Nat.mul_le_mul_right _ t3) hcur
  have hv2 := eval_put hr he1 (.slice A1 (n - m) (c - m))
  have hrun : (execOp (a.put (some e1) (.slice A1 (n - m) (c - m))).eval ⟨some e2, .call { callee := .builtin .append, args := #[z, .tmp e1], argTypes := #[T, T] }, ty2, pos2, af2, gd2⟩).run P w = .ok (.value (.slice (some ⟨gb, 0, none⟩) (n - m) cap)) w' := by
    simp only [execOp, resolve, invoke, builtin, Sem.run_bind, Sem.run_pure, Result.andThen_ok, List.map_toArray, List.map_cons, List.map_nil, hv2, r1]
  show wpList P ops _ (_ :: rest) _ w
  unfold wpList
  rw [if_pos (want_spec hr1 hw2)]
  refine .inl ?_
  unfold Oper.wp
  rw [hrun]
  refine h.sound hQ (hr'.put (x := .bs iz (n - m) E k) ⟨gb, cap, by simp [Gh.addb], rfl, t3, t4, by simp [World.shape?, t2, t5]⟩ _ ?_)
  intro j hj
  exact dstOk_spec (st := st) hd2 j hj
end
section
variable {P : Program} {B : Nat} {w0 : Cx} {st : PS} {l : List Oper}
/-- a small drawn region at a block's end, all orders one by one -/
theorem pw_anyB {Q Q' : Exit → PS → Prop} {y : Code} {id bid : Nat} (J : PS) (hm : P.follows .mixedOrders = true) (h : PA P B w0 l J l.length (List.replicate l.length false) st) (hj : PW P B w0 y Q' J) (hp : ∀ c s, ¬ Q (.panic c) s := by exact fun _ _ h => h) (hnd : ndB l = true := by rfl) : PW P B w0 (.region id l.toArray true) (QBlock bid (QThen (PW P B w0 y Q') Q)) st := fun g a w hr => by
  have hw : Rep B w0 g st a { w with drawn := w.drawn + 1 } := hr.grow ⟨rfl, rfl, rfl, Nat.le_refl _, fun _ _ => rfl⟩
  have := h (QReg (QBlock bid (QThen (PW P B w0 y Q') Q))) (fun s hs => pw_le hs hj) (fun c s hh => hh) g a _ hw
  have pr := post_reg (B := B) (w0 := w0) (Q := QBlock bid (QThen (PW P B w0 y Q') Q))
  refine wpIn_mono (wpIn_region_any hm (any_in pr.1 hnd ?_)) pr.2
  have e : (List.replicate l.length false).toArray = Array.replicate l.toArray.size false := by simp
  rw [e] at this
  simpa using this
end
section
variable {P : Program} {ops : Array Oper} {K : PS → Prop} {rest : List Oper} {st : PS}
end
end Go.Proofs.YtmfeinilbjfnpaaGreatDoor.Px
namespace Go.Proofs.YtmfeinilbjfnpaaGreatDoor
open Go.RowKit Px

abbrev vC (l : List Cf) : List Value := l.flatMap fun h => [vS h.1, vS h.2]
abbrev cC (l : List Cf) : List SV := (vC l).map fun u => SV.d (.val u)
theorem vC_len (l : List Cf) : (vC l).length = l.length * 2 := by
  induction l with
  | nil => rfl
  | cons h l ih =>
    show (vS h.1 :: vS h.2 :: vC l).length = _
    simp only [List.length_cons, ih]
    omega
theorem chunk_vC (l : List Cf) {n : Nat} (h : l.length = n) : chunk 2 n ((vC l).map .val) = l.map dCf := by
  subst h
  induction l with
  | nil => rfl
  | cons x l ih =>
    show [dS x.1, dS x.2] :: chunk 2 l.length ((vC l).map .val) = dCf x :: l.map dCf
    rw [ih]
theorem toDs_vs (vs : List Value) : toDs (vs.map fun u => SV.d (.val u)) = some (vs.map DV.val) := toDs_map (fun u => DV.val u) vs
theorem kill_vs (vs : List Value) (i : Nat) : (vs.map fun u => SV.d (.val u)).map (SV.kill i) = vs.map fun u => SV.d (.val u) := by
  rw [List.map_map]
  exact List.map_congr_left fun u _ => rfl
theorem vC_set (l : List Cf) {k : Nat} {x : Cf} (q : Str) (hx : l[k]? = some x) : (cC l).set (((k : Int)).toNat * 2 + 1) (.d (dS q)) = cC (l.set k (x.1, q)) := by
  rw [Int.toNat_natCast]
  induction l generalizing k with
  | nil => simp at hx
  | cons h l ih =>
    cases k with
    | zero =>
      simp only [List.getElem?_cons_zero, Option.some.injEq] at hx
      subst hx
      rfl
    | succ k =>
      have := ih (k := k) (by simpa using hx)
      rw [show (k + 1) * 2 + 1 = k * 2 + 1 + 1 + 1 by omega]
      show SV.d (.val (vS h.1)) :: SV.d (.val (vS h.2)) :: (cC l).set (k * 2 + 1) (.d (dS q)) = _
      rw [this]
      rfl
theorem vC_at (l : List Cf) {k : Nat} {x : Cf} (hx : l[k]? = some x) : (cC l)[((k : Int)).toNat * 2 + 0]? = some (.d (dS x.1)) ∧ (cC l)[((k : Int)).toNat * 2 + 1]? = some (.d (dS x.2)) := by
  rw [Int.toNat_natCast]
  induction l generalizing k with
  | nil => simp at hx
  | cons h l ih =>
    cases k with
    | zero =>
      simp only [List.getElem?_cons_zero, Option.some.injEq] at hx
      subst hx
      exact ⟨rfl, rfl⟩
    | succ k =>
      have := ih (k := k) (by simpa using hx)
      rw [show (k + 1) * 2 + 1 = k * 2 + 1 + 1 + 1 by omega, show (k + 1) * 2 + 0 = k * 2 + 0 + 1 + 1 by omega]
      exact this
theorem vC_drop (l : List Cf) (k : Nat) : (vC l).drop (k * 2) = vC (l.drop k) := by
  induction l generalizing k with
  | nil => simp [vC]
  | cons h l ih =>
    cases k with
    | zero => rfl
    | succ k =>
      rw [show (k + 1) * 2 = k * 2 + 1 + 1 by omega]
      exact ih k
theorem vC_take (l : List Cf) (k : Nat) : (vC l).take (k * 2) = vC (l.take k) := by
  induction l generalizing k with
  | nil => simp [vC]
  | cons h l ih =>
    cases k with
    | zero => rfl
    | succ k =>
      rw [show (k + 1) * 2 = k * 2 + 1 + 1 by omega]
      show vS h.1 :: vS h.2 :: (vC l).take (k * 2) = vS h.1 :: vS h.2 :: vC (l.take k)
      rw [ih]
theorem vC_app (l r : List Cf) : vC (l ++ r) = vC l ++ vC r := List.flatMap_append
theorem cC_lt {l : List Cf} {k : Nat} (h : k < l.length) : Nat.blt (((k : Int)).toNat * 2 + 1) (cC l).length = true := by
  refine Nat.ble_eq_true_of_le ?_
  rw [List.length_map, vC_len, Int.toNat_natCast]
  omega
abbrev cT : Nat := 36
abbrev rsS : Nat → List Cf → SV
  | 0, _ => .d (.val (.slice none 0 0))
  | _ + 1, O => .bs 79 O.length cT 2
abbrev rsB : Nat → List Cf → List (Nat × List SV)
  | 0, _ => []
  | _ + 1, O => [(79, cC O)]
abbrev kT : Nat := cT * 100000 + 7
def keepF (c : Cf) : Bool := !(c.2 == [])
set_option maxRecDepth 20000 in
set_option maxHeartbeats 8000000 in
theorem wRNormalI (e : List Cf) (hl : e.length ≤ 1000) (hf : ∀ c ∈ e, c.2.length ≤ 1000) : PCalls Tryz.prog 63 [.sl 2 (e.map dCf)] (.d (.sl 2 (((rnI e e.length).filter keepF).map dCf))) := by
  obtain ⟨r, hr⟩ : ∃ r, r = (rnI e e.length).filter keepF := ⟨_, rfl⟩
  rw [← hr]
  have hfl := fun i => rnI_flen hf i
  refine pcalls_of_pw Tryz.func63 rfl Tryz.ntmps63 Tryz.results63 (by simp) fun B w0 => ?_
  refine pw_seq ?_; refine pw_region ?_; refine yAd rfl ?_; refine yQ ?_; refine pw_seq ?_; refine pw_region ?_; refine yAd rfl ?_; refine yQ ?_; refine pw_seq ?_; refine pw_seq ?_; refine pw_region ?_; refine yAd rfl ?_; refine yQ ?_
  refine pw_block ?_
  refine pw_loop (fun i : Nat => ⟨102, [(0, .d (.sl 2 (e.map dCf))), (3, rsS i (rnI e i)), (4, .d (dI i))], rsB i (rnI e i), []⟩) (fun i => i ≤ e.length) (fun i => e.length - i) 0 (Nat.zero_le _)
    ⟨rfl, ⟨.refl _, .refl _, .refl _, trivial⟩, trivial, trivial, rfl⟩ ?_
  intro i hi
  rcases Nat.lt_or_ge i e.length with h | h
  rotate_left
  · have u1 : decide ((i : Int) < ((e.map dCf).length : Int)) = false := decide_eq_false (by rw [List.length_map]; omega)
    obtain rfl : i = e.length := by omega
    have hrl := rnI_len e e.length
    obtain ⟨O, hO⟩ : ∃ O, O = rnI e e.length := ⟨_, rfl⟩
    obtain ⟨i, hi2⟩ : ∃ i, i = e.length := ⟨_, rfl⟩
    rw [← hO] at hr hrl ⊢
    rw [← hi2] at hO u1 ⊢
    have hfin : PW Tryz.prog B w0 ((Code.skip).seq Code.skip) (fun _ _ => True) ⟨0, [], [], []⟩ → True := fun _ => trivial
    clear hfin
    cases i with
    | zero =>
      have hO0 : O = [] := by rw [hO]; rfl
      subst hO0
      have hr0 : r = [] := hr
      subst hr0
      refine pw_seq ?_; refine pw_seq ?_; refine pw_region ?_; refine yMd rfl ?_; refine yMd rfl ?_; refine yN rfl ?_; refine yB rfl rfl rfl rfl ?_; refine yQ ?_; refine q_then ?_; rw [u1]; refine pw_cf rfl ?_; refine pw_exit ?_
      refine pw_seq ?_; refine pw_region ?_; refine yAd rfl ?_; refine yQ ?_; refine pw_seq ?_; refine pw_seq ?_; refine pw_region ?_; refine yAd rfl ?_; refine yQ ?_; refine pw_block ?_
      refine pw_loop (fun j : Nat => ⟨102, [(3, .d (.val (.slice none 0 0))), (7, .d (.val (.slice none 0 0))), (8, .d (dI j))], [], []⟩) (fun j => j = 0) (fun _ => 0) 0 rfl ⟨rfl, ⟨.refl _, .refl _, .refl _, trivial⟩, trivial, trivial, rfl⟩ ?_
      rintro j rfl
      refine pw_seq ?_; refine pw_seq ?_; refine pw_region ?_; refine yMd rfl ?_; refine yMd rfl ?_; refine yNl rfl ?_; refine yB rfl rfl rfl rfl ?_; refine yQ ?_; refine pw_cf rfl ?_; refine pw_exit ?_; refine pw_seq ?_
      refine pw_region ?_; refine yMd rfl ?_; refine yAd rfl ?_; refine yQ ?_; refine pw_ret ?_
      exact q_ret _ (.tnil 2 rfl .nil) rfl
    | succ i =>
      refine pw_frz 3 79 (es := O.map dCf) (ds := (vC O).map .val) (by rw [List.length_map]; exact vC_len O) (chunk_vC O rfl) (toDs_vs _) rfl rfl ?_; refine pw_seq ?_; refine pw_seq ?_; refine pw_region ?_; refine yMd rfl ?_
      refine yMd rfl ?_; refine yN rfl ?_; refine yB rfl rfl rfl rfl ?_; refine yQ ?_; refine q_then ?_; rw [u1]; refine pw_cf rfl ?_; refine pw_exit ?_; refine pw_seq ?_; refine pw_region ?_; refine yAd rfl ?_; refine yQ ?_
      refine pw_tok 7 kT 2 rfl rfl rfl ?_; refine pw_seq ?_; refine pw_seq ?_; refine pw_region ?_; refine yAd rfl ?_; refine yQ ?_; refine pw_block ?_
      refine pw_loop (fun j : Nat => ⟨102, [(3, .d (.sl 2 (O.map dCf))), (7, .ts kT 2 (((O.take j).filter keepF).map dCf)), (8, .d (dI j))], [], [(kT, (((O.take j).filter keepF).map dCf).length)]⟩) (fun j => j ≤ O.length) (fun j => O.length - j) 0 (Nat.zero_le _)
        ⟨rfl, ⟨.refl _, .refl _, .refl _, trivial⟩, trivial, ⟨rfl, trivial⟩, rfl⟩ ?_
      intro j hj
      rcases Nat.lt_or_ge j O.length with h2 | h2
      · have u2 : decide ((j : Int) < ((O.map dCf).length : Int)) = true := decide_eq_true (by rw [List.length_map]; omega)
        obtain ⟨⟨c0, c1⟩, hc⟩ : ∃ a, O[j]? = some a := ⟨_, List.getElem?_eq_getElem h2⟩
        have em := ix dCf O j j (c0, c1) rfl hc
        have hw := wrapI ((j : Int) + 1) (by omega)
        have hnx : (O.take (j + 1)).filter keepF = (O.take j).filter keepF ++ (if c1 = [] then [] else [(c0, c1)]) := by
          rw [List.take_add_one, hc, Option.toList, List.filter_append]
          by_cases h3 : c1 = []
          · simp [keepF, h3]
          · simp [keepF, h3]
        have hzl : ((O.take j).filter keepF).length ≤ 1000 := Nat.le_trans (List.length_filter_le _ _) (by rw [List.length_take]; omega)
        obtain ⟨zs, hzs⟩ : ∃ z, z = (O.take j).filter keepF := ⟨_, rfl⟩
        rw [← hzs] at hnx hzl ⊢
        clear hzs
        by_cases h3 : c1 = []
        · have u3 : (c1 == []) = true := by simp [h3]
          rw [if_pos h3, List.append_nil] at hnx
          refine pw_seq ?_; refine pw_seq ?_; refine pw_region ?_; refine yMd rfl ?_; refine yMd rfl ?_; refine yN rfl ?_; refine yB rfl rfl rfl rfl ?_; refine yQ ?_; refine q_then ?_; rw [u2]; refine pw_ct rfl ?_; refine pw_skip ?_
          refine pw_seq ?_; refine pw_block ?_; refine pw_seq ?_; refine pw_region ?_; refine yMd rfl ?_; refine yMd rfl ?_; refine yW em (by omega) rfl rfl ?_; refine yFr rfl rfl ?_; refine yLr rfl rfl ?_; refine yBsn rfl rfl ?_
          refine yQ ?_; refine q_then ?_; rw [u3]; refine pw_cf rfl ?_; refine pw_skip ?_; refine pw_region ?_; refine yMd rfl ?_; refine yB rfl rfl rfl rfl ?_; refine yAd rfl ?_; refine yQ ?_; refine q_then ?_
          exact ⟨j + 1, by omega, by omega, rfl, ⟨.refl _, .of_eq (by rw [hnx] <;> rfl), .of_eq (congrArg (fun n => SV.d (dI n)) hw), trivial⟩, trivial, ⟨(by rw [hnx] <;> rfl), trivial⟩, rfl⟩
        · have u3 : (c1 == []) = false := by simp [h3]
          rw [if_neg h3] at hnx
          refine pw_seq ?_; refine pw_seq ?_; refine pw_region ?_; refine yMd rfl ?_; refine yMd rfl ?_; refine yN rfl ?_; refine yB rfl rfl rfl rfl ?_; refine yQ ?_; refine q_then ?_; rw [u2]; refine pw_ct rfl ?_; refine pw_skip ?_
          refine pw_seq ?_; refine pw_block ?_; refine pw_seq ?_; refine pw_region ?_; refine yMd rfl ?_; refine yMd rfl ?_; refine yW em (by omega) rfl rfl ?_; refine yFr rfl rfl ?_; refine yLr rfl rfl ?_; refine yBsn rfl rfl ?_
          refine yQ ?_; refine q_then ?_; rw [u3]; refine pw_ct rfl ?_; refine pw_region ?_; refine yMt rfl ?_; refine yMd rfl ?_; refine yMd rfl ?_; refine yW em (by omega) rfl rfl ?_; refine yLs (ys := [_, _]) rfl rfl rfl ?_
          refine yR (es := [[_, _]]) rfl rfl rfl rfl rfl ?_; refine yT (es' := (zs ++ [(c0, c1)]).map dCf) (m := ((zs ++ [(c0, c1)]).map dCf).length) (by simp; omega) (by simp; omega) rfl rfl rfl rfl rfl (by simp) (by simp) ?_
          refine yAt rfl ?_; refine yQ ?_; refine pw_region ?_; refine yMd rfl ?_; refine yB rfl rfl rfl rfl ?_; refine yAd rfl ?_; refine yQ ?_; refine q_then ?_
          exact ⟨j + 1, by omega, by omega, rfl, ⟨.refl _, .of_eq (by rw [hnx] <;> rfl), .of_eq (congrArg (fun n => SV.d (dI n)) hw), trivial⟩, trivial, ⟨(by rw [hnx] <;> rfl), trivial⟩, rfl⟩
      · have u2 : decide ((j : Int) < ((O.map dCf).length : Int)) = false := decide_eq_false (by rw [List.length_map]; omega)
        obtain rfl : j = O.length := by omega
        rw [List.take_length, ← hr]
        refine pw_seq ?_; refine pw_seq ?_; refine pw_region ?_; refine yMd rfl ?_; refine yMd rfl ?_; refine yN rfl ?_; refine yB rfl rfl rfl rfl ?_; refine yQ ?_; refine q_then ?_; rw [u2]; refine pw_cf rfl ?_; refine pw_exit ?_
        refine pw_seq ?_; refine pw_region ?_; refine yMt rfl ?_; refine yAt rfl ?_; refine yQ ?_; refine pw_ret ?_
        exact q_ret _ (.tmp rfl .nil) rfl
  have u1 : decide ((i : Int) < ((e.map dCf).length : Int)) = true := decide_eq_true (by rw [List.length_map]; omega)
  obtain ⟨⟨c0, c1⟩, hc⟩ : ∃ a, e[i]? = some a := ⟨_, List.getElem?_eq_getElem h⟩
  have em := ix dCf e i i (c0, c1) rfl hc
  have hw := wrapI ((i : Int) + 1) (by omega)
  have hq := hf _ (List.mem_of_getElem? hc)
  simp only at hq
  have hnx : rnI e (i + 1) = insC (c0, c1) (rnI e i) := by rw [rnI, hc]
  have hOl := rnI_len e i
  have hOf := hfl i
  clear hfl hr
  cases i with
  | zero =>
    have hnx : rnI e (0 + 1) = [(c0, c1)] := hnx
    refine pw_seq ?_; refine pw_seq ?_; refine pw_region ?_; refine yMd rfl ?_; refine yMd rfl ?_; refine yN rfl ?_; refine yB rfl rfl rfl rfl ?_; refine yQ ?_; refine q_then ?_; rw [u1]; refine pw_ct rfl ?_; refine pw_skip ?_
    refine pw_seq ?_; refine pw_block ?_; refine pw_seq ?_; refine pw_region ?_; refine yAd rfl ?_; refine yQ ?_; refine pw_seq ?_; refine pw_block ?_
    refine pw_loop (fun k : Nat => ⟨102, [(0, .d (.sl 2 (e.map dCf))), (3, .d (.val (.slice none 0 0))), (4, .d (dI (0 : Nat))), (5, .d (dI k))], [], []⟩) (fun k => k = 0) (fun _ => 0) 0 rfl ⟨rfl, ⟨.refl _, .refl _, .refl _, .refl _, trivial⟩, trivial, trivial, rfl⟩ ?_
    rintro k rfl
    refine pw_seq ?_; refine pw_seq ?_; refine pw_draw Tryz.mixed (by kernel_rfl) ?_; refine yMd rfl ?_; refine yMd rfl ?_; refine yNl rfl ?_; refine yB rfl rfl rfl rfl ?_; refine yMd rfl ?_; refine yO rfl ?_; refine yO rfl ?_
    refine yO rfl ?_; refine yO rfl ?_; refine yO rfl ?_; refine yO rfl ?_; refine yO rfl ?_; refine yO rfl ?_; refine yO rfl ?_; refine yO rfl ?_; refine yO rfl ?_; refine yVd rfl rfl ?_; refine yQ ?_; refine pw_cf rfl ?_
    refine pw_exit ?_; refine pw_seq ?_; refine pw_seq ?_; refine pw_draw Tryz.mixed (by kernel_rfl) ?_; refine yMd rfl ?_; refine yMd rfl ?_; refine yNl rfl ?_; refine yB rfl rfl rfl rfl ?_; refine yMd rfl ?_; refine yO rfl ?_
    refine yO rfl ?_; refine yO rfl ?_; refine yO rfl ?_; refine yO rfl ?_; refine yO rfl ?_; refine yO rfl ?_; refine yO rfl ?_; refine yO rfl ?_; refine yO rfl ?_; refine yO rfl ?_; refine yVd rfl rfl ?_; refine yQ ?_
    refine pw_cf rfl ?_; refine pw_skip ?_; refine pw_seq ?_; refine pw_region ?_; refine yEb rfl ?_; refine yMd rfl ?_; refine yMd rfl ?_; refine ySn rfl rfl ?_; refine yTe rfl rfl ?_; refine yAw rfl ?_; refine yQ ?_
    refine pw_frz 6 66 (es := []) (ds := []) rfl rfl rfl rfl rfl ?_; refine pw_anyB ⟨102, [(0, .d (.sl 2 (e.map dCf))), (3, .bs 79 1 cT 2), (4, .d (dI (0 : Nat)))], [(79, cC [(c0, c1)])], []⟩ Tryz.mixed ?_ ?_
    refine pa_pure 0 rfl rfl (by kernel_rfl) (by kernel_rfl) pure_move ?_; refine pa_pure 1 rfl rfl (by kernel_rfl) (by kernel_rfl) pure_move ?_; refine pa_pure 3 rfl rfl (by kernel_rfl) (by kernel_rfl) pure_move ?_
    refine pa_pure 4 rfl rfl (by kernel_rfl) (by kernel_rfl) pure_move ?_; refine pa_pure 9 rfl rfl (by kernel_rfl) (by kernel_rfl) pure_move ?_; refine pa_step [_, _] rfl rfl ⟨⟨_, rfl, ?_⟩, ⟨_, rfl, ?_⟩, trivial⟩; refine ySz rfl rfl ?_
    refine yQ ?_; refine pa_step [_] rfl rfl ⟨⟨_, rfl, ?_⟩, trivial⟩; refine yW em (by omega) rfl rfl ?_; refine yQ ?_; refine pa_step [_] rfl rfl ⟨⟨_, rfl, ?_⟩, trivial⟩; refine yLs (ys := [_, _]) rfl rfl rfl ?_; refine yQ ?_
    refine pa_step [_] rfl rfl ⟨⟨_, rfl, ?_⟩, trivial⟩; refine yR (es := [[_, _]]) rfl rfl rfl rfl rfl ?_; refine yQ ?_; refine pa_step [_] rfl rfl ⟨⟨_, rfl, ?_⟩, trivial⟩
    refine yTn (vs := [vS c0, vS c1]) (m := 1) (es := [dCf (c0, c1)]) (by omega) (by omega) (by omega) (by omega) rfl rfl rfl rfl rfl ?_; refine yQ ?_; refine pa_step [_] rfl rfl ⟨⟨_, rfl, ?_⟩, trivial⟩; refine yTe rfl rfl ?_
    refine yQ ?_; refine pa_step [_] rfl rfl ⟨⟨_, rfl, ?_⟩, trivial⟩; refine yAw rfl ?_; refine yQ ?_; refine pa_fin rfl ⟨rfl, ⟨.refl _, .refl _, .refl _, trivial⟩, ⟨⟨_, rfl, lesC_eq rfl⟩, trivial⟩, trivial, rfl⟩
    refine yW em (by omega) rfl rfl ?_; refine yQ ?_; refine pa_step [_, _] rfl rfl ⟨⟨_, rfl, ?_⟩, ⟨_, rfl, ?_⟩, trivial⟩; refine ySz rfl rfl ?_; refine yQ ?_; refine pa_step [_] rfl rfl ⟨⟨_, rfl, ?_⟩, trivial⟩
    refine yLs (ys := [_, _]) rfl rfl rfl ?_; refine yQ ?_; refine pa_step [_] rfl rfl ⟨⟨_, rfl, ?_⟩, trivial⟩; refine yR (es := [[_, _]]) rfl rfl rfl rfl rfl ?_; refine yQ ?_; refine pa_step [_] rfl rfl ⟨⟨_, rfl, ?_⟩, trivial⟩
    refine yTn (vs := [vS c0, vS c1]) (m := 1) (es := [dCf (c0, c1)]) (by omega) (by omega) (by omega) (by omega) rfl rfl rfl rfl rfl ?_; refine yQ ?_; refine pa_step [_] rfl rfl ⟨⟨_, rfl, ?_⟩, trivial⟩; refine yTe rfl rfl ?_
    refine yQ ?_; refine pa_step [_] rfl rfl ⟨⟨_, rfl, ?_⟩, trivial⟩; refine yAw rfl ?_; refine yQ ?_; refine pa_fin rfl ⟨rfl, ⟨.refl _, .refl _, .refl _, trivial⟩, ⟨⟨_, rfl, lesC_eq rfl⟩, trivial⟩, trivial, rfl⟩
    refine yLs (ys := [_, _]) rfl rfl rfl ?_; refine yQ ?_; refine pa_step [_, _] rfl rfl ⟨⟨_, rfl, ?_⟩, ⟨_, rfl, ?_⟩, trivial⟩; refine ySz rfl rfl ?_; refine yQ ?_; refine pa_step [_] rfl rfl ⟨⟨_, rfl, ?_⟩, trivial⟩
    refine yR (es := [[_, _]]) rfl rfl rfl rfl rfl ?_; refine yQ ?_; refine pa_step [_] rfl rfl ⟨⟨_, rfl, ?_⟩, trivial⟩
    refine yTn (vs := [vS c0, vS c1]) (m := 1) (es := [dCf (c0, c1)]) (by omega) (by omega) (by omega) (by omega) rfl rfl rfl rfl rfl ?_; refine yQ ?_; refine pa_step [_] rfl rfl ⟨⟨_, rfl, ?_⟩, trivial⟩; refine yTe rfl rfl ?_
    refine yQ ?_; refine pa_step [_] rfl rfl ⟨⟨_, rfl, ?_⟩, trivial⟩; refine yAw rfl ?_; refine yQ ?_; refine pa_fin rfl ⟨rfl, ⟨.refl _, .refl _, .refl _, trivial⟩, ⟨⟨_, rfl, lesC_eq rfl⟩, trivial⟩, trivial, rfl⟩
    refine yR (es := [[_, _]]) rfl rfl rfl rfl rfl ?_; refine yQ ?_; refine pa_step [_] rfl rfl ⟨⟨_, rfl, ?_⟩, trivial⟩; refine ySz rfl rfl ?_; refine yQ ?_; refine pa_step [_] rfl rfl ⟨⟨_, rfl, ?_⟩, trivial⟩
    refine yTn (vs := [vS c0, vS c1]) (m := 1) (es := [dCf (c0, c1)]) (by omega) (by omega) (by omega) (by omega) rfl rfl rfl rfl rfl ?_; refine yQ ?_; refine pa_step [_] rfl rfl ⟨⟨_, rfl, ?_⟩, trivial⟩; refine yTe rfl rfl ?_
    refine yQ ?_; refine pa_step [_] rfl rfl ⟨⟨_, rfl, ?_⟩, trivial⟩; refine yAw rfl ?_; refine yQ ?_; refine pa_fin rfl ⟨rfl, ⟨.refl _, .refl _, .refl _, trivial⟩, ⟨⟨_, rfl, lesC_eq rfl⟩, trivial⟩, trivial, rfl⟩; refine pw_region ?_
    refine yMd rfl ?_; refine yB rfl rfl rfl rfl ?_; refine yAd rfl ?_; refine yQ ?_; refine q_then ?_
    exact ⟨0 + 1, by omega, by omega, rfl, ⟨.refl _, .of_eq (by rw [hnx] <;> rfl), .of_eq (congrArg (fun n => SV.d (dI n)) hw), trivial⟩, ⟨⟨_, rfl, lesC_eq (by rw [hnx] <;> rfl)⟩, trivial⟩, trivial, (by simp [PS.closed, SV.ok, aget, Nat.beq, -List.map_take, -List.map_set])⟩
  | succ i =>
    have hOp : 0 < (rnI e (i + 1)).length := by
      have := (insC_len (c0, c1) (rnI e (i + 1)))
      have h2 : rnI e (i + 1) = match e[i]? with
        | none => rnI e i
        | some c => insC c (rnI e i) := rfl
      rw [h2]
      cases he : e[i]? with
      | none => rw [List.getElem?_eq_none_iff] at he; omega
      | some c => exact (insC_len c _).2
    obtain ⟨O, hO⟩ : ∃ O, O = rnI e (i + 1) := ⟨_, rfl⟩
    rw [← hO] at hnx hOl hOf hOp ⊢
    clear hO
    have hOl2 : O.length ≤ 1000 := by omega
    show PW Tryz.prog B w0 _ _ ⟨102, [(0, .d (.sl 2 (e.map dCf))), (3, .bs 79 O.length cT 2), (4, .d (dI (i + 1 : Nat)))], [(79, cC O)], []⟩
    refine pw_seq ?_; refine pw_seq ?_; refine pw_region ?_; refine yMd rfl ?_; refine yMd rfl ?_; refine yN rfl ?_; refine yB rfl rfl rfl rfl ?_; refine yQ ?_; refine q_then ?_; rw [u1]; refine pw_ct rfl ?_; refine pw_skip ?_
    refine pw_seq ?_; refine pw_block ?_; refine pw_seq ?_; refine pw_region ?_; refine yAd rfl ?_; refine yQ ?_; refine pw_seq ?_; refine pw_block ?_
    refine pw_loop (fun k : Nat => ⟨102, [(0, .d (.sl 2 (e.map dCf))), (3, .bs 79 O.length cT 2), (4, .d (dI (i + 1 : Nat))), (5, .d (dI k))], [(79, cC O)], []⟩) (fun k => k ≤ O.length ∧ ∀ j d, j < k → O[j]? = some d → ltS d.1 c0 = true) (fun k => O.length - k) 0 ⟨by omega, fun j d hj => by omega⟩
      ⟨rfl, ⟨.refl _, .refl _, .refl _, .refl _, trivial⟩, ⟨⟨_, rfl, lesC_eq rfl⟩, trivial⟩, trivial, (by simp [PS.closed, SV.ok, aget, Nat.beq, -List.map_take, -List.map_set])⟩ ?_
    rintro k ⟨hk, hlt⟩
    rcases Nat.lt_or_ge k O.length with h3 | h3
    · have t1 : decide ((k : Int) < (O.length : Int)) = true := decide_eq_true (by omega)
      obtain ⟨⟨d0, d1⟩, hd⟩ : ∃ a, O[k]? = some a := ⟨_, List.getElem?_eq_getElem h3⟩
      obtain ⟨a1, a2⟩ := vC_at O hd
      have hwk := wrapI ((k : Int) + 1) (by omega)
      rcases Bool.eq_false_or_eq_true (ltS d0 c0) with h4 | h4
      · have h48 : lt8 d0 c0 = true := h4
        refine pw_seq ?_; refine pw_seq ?_; refine pw_draw Tryz.mixed (by kernel_rfl) ?_; refine yMd rfl ?_; refine yMw rfl ?_; refine yNb rfl ?_; refine yB rfl rfl rfl rfl ?_; refine yMd rfl ?_; rw [t1]; refine yMw rfl ?_
        refine yMd rfl ?_; refine yWb (by omega) (by omega) rfl rfl rfl ?_; refine yFb rfl ?_; refine yLd rfl rfl a1 ?_; refine yMd rfl ?_; refine yMd rfl ?_; refine yW em (by omega) rfl rfl ?_; refine yFr rfl rfl ?_; refine yLr rfl rfl ?_
        refine yBsl rfl rfl ?_; refine yPd rfl rfl ?_; refine yQ ?_; refine q_then ?_; rw [h48]; refine pw_ct rfl ?_; refine pw_skip ?_; refine pw_block ?_; refine pw_region ?_; refine yMd rfl ?_; refine yB rfl rfl rfl rfl ?_
        refine yAd rfl ?_; refine yQ ?_; refine q_blk ?_; refine q_then ?_; rw [hwk]
        exact ⟨k + 1, ⟨by omega, fun j d hj hd2 => by
          rcases Nat.lt_or_ge j k with h6 | h6
          · exact hlt j d h6 hd2
          · obtain rfl : j = k := by omega
            rw [hd] at hd2
            cases hd2
            exact h4⟩, by omega, rfl, ⟨.refl _, .refl _, .refl _, .refl _, trivial⟩, ⟨⟨_, rfl, lesC_eq rfl⟩, trivial⟩, trivial, (by simp [PS.closed, SV.ok, aget, Nat.beq, -List.map_take, -List.map_set])⟩
      · have hpos : posC O c0 = k := posC_eq hlt (fun d hd2 => by rw [hd] at hd2; cases hd2; exact h4) hk
        have h48 : lt8 d0 c0 = false := h4
        by_cases h5 : d0 = c0
        · have u5 : (d0 == c0) = true := by simp [h5]
          have hins : insC (c0, c1) O = O.set k (d0, canon (val d1 + val c1)) := by
            unfold insC
            rw [hpos, hd]
            simp only
            rw [if_pos h5]
          have hlen : (O.set k (d0, canon (val d1 + val c1))).length = O.length := List.length_set ..
          have hfd := hOf _ (List.mem_of_getElem? hd)
          have k1 := wRAddG d1 c1 (by simp only at hfd; omega) (by omega)
          have hs := vC_set O (canon (val d1 + val c1)) hd
          have hl2 := cC_lt h3
          rw [hins] at hnx
          obtain ⟨q, hq2⟩ : ∃ q, q = canon (val d1 + val c1) := ⟨_, rfl⟩
          rw [← hq2] at k1 hs hlen hnx
          clear hq2 hins
          refine pw_seq ?_; refine pw_seq ?_; refine pw_draw Tryz.mixed (by kernel_rfl) ?_; refine yMd rfl ?_; refine yMw rfl ?_; refine yNb rfl ?_; refine yB rfl rfl rfl rfl ?_; refine yMd rfl ?_; rw [t1]; refine yMw rfl ?_
          refine yMd rfl ?_; refine yWb (by omega) (by omega) rfl rfl rfl ?_; refine yFb rfl ?_; refine yLd rfl rfl a1 ?_; refine yMd rfl ?_; refine yMd rfl ?_; refine yW em (by omega) rfl rfl ?_; refine yFr rfl rfl ?_; refine yLr rfl rfl ?_
          refine yBsl rfl rfl ?_; refine yPd rfl rfl ?_; refine yQ ?_; refine q_then ?_; rw [h48]; refine pw_cf rfl ?_; refine pw_exit ?_; refine pw_seq ?_; refine pw_seq ?_; refine pw_draw Tryz.mixed (by kernel_rfl) ?_; refine yMd rfl ?_
          refine yMw rfl ?_; refine yNb rfl ?_; refine yB rfl rfl rfl rfl ?_; refine yMd rfl ?_; rw [t1]; refine yMw rfl ?_; refine yMd rfl ?_; refine yWb (by omega) (by omega) rfl rfl rfl ?_; refine yFb rfl ?_; refine yLd rfl rfl a1 ?_
          refine yMd rfl ?_; refine yMd rfl ?_; refine yW em (by omega) rfl rfl ?_; refine yFr rfl rfl ?_; refine yLr rfl rfl ?_; refine yBse rfl rfl ?_; refine yPd rfl rfl ?_; refine yQ ?_; refine q_then ?_; rw [u5]; refine pw_ct rfl ?_
          refine pw_seq ?_; refine pw_draw Tryz.mixed (by kernel_rfl) ?_; refine yMw rfl ?_; refine yMd rfl ?_; refine yMw rfl ?_; refine yMd rfl ?_; refine yWb (by omega) (by omega) rfl rfl rfl ?_; refine yFb rfl ?_; refine yLd rfl rfl a2 ?_
          refine yMd rfl ?_; refine yMd rfl ?_; refine yW em (by omega) rfl rfl ?_; refine yFr rfl rfl ?_; refine yLr rfl rfl ?_; refine yC (k1) rfl rfl ?_; refine yWb (by omega) (by omega) rfl rfl rfl ?_; refine yFb rfl ?_
          refine ySd rfl rfl rfl hs ?_ hl2; refine yQ ?_; refine pw_exit ?_; refine pw_region ?_; refine yMd rfl ?_; refine yB rfl rfl rfl rfl ?_; refine yAd rfl ?_; refine yQ ?_; refine q_then ?_; rw [hw]
          exact ⟨i + 1 + 1, by omega, by omega, rfl, ⟨.refl _, .of_eq (by rw [hnx]; show SV.bs 79 O.length cT 2 = SV.bs 79 _ cT 2; rw [hlen]), .refl _, trivial⟩, ⟨⟨_, rfl, lesC_eq (by rw [hnx])⟩, trivial⟩, trivial, (by simp [PS.closed, SV.ok, aget, Nat.beq, -List.map_take, -List.map_set])⟩
        · have u5 : (d0 == c0) = false := by simp [h5]
          have hins : insC (c0, c1) O = O.take k ++ (c0, c1) :: O.drop k := by
            unfold insC
            rw [hpos, hd]
            simp only
            rw [if_neg h5]
          rw [hins] at hnx
          have hdl : (O.drop k).length = O.length - k := List.length_drop
          have htl : (O.take k).length = k := by rw [List.length_take]; omega
          have hlen : (O.take k ++ (c0, c1) :: O.drop k).length = k + 1 + (O.length - k) := by rw [List.length_append, List.length_cons, htl, hdl]; omega
          have hv1 : (vC O).length = O.length * 2 := vC_len O
          have hv2 := vC_drop O k
          have hv3 : (((cC O).map (SV.kill 66)).map (SV.kill 66)).take (k * 2) = cC (O.take k) := by rw [kill_vs, kill_vs, ← List.map_take, vC_take]
          have hv4 : (vC (O.take k)).length = k * 2 := by rw [vC_len, htl]
          have hv5 : (vC (O.drop k)).length = (O.length - k) * 2 := by rw [vC_len, hdl]
          have hv6 : chunk 2 (O.length - k) ((vC (O.drop k)).map .val) = (O.drop k).map dCf := chunk_vC _ hdl
          have hv7 : (vC (O.take k) ++ [vS c0, vS c1] ++ vC (O.drop k)) = vC (O.take k ++ (c0, c1) :: O.drop k) := by rw [vC_app]; show _ = vC (O.take k) ++ ([vS c0, vS c1] ++ vC (O.drop k)); rw [List.append_assoc]
          obtain ⟨TK, hTK⟩ : ∃ t, t = O.take k := ⟨_, rfl⟩
          obtain ⟨DR, hDR⟩ : ∃ t, t = O.drop k := ⟨_, rfl⟩
          rw [← hTK, ← hDR] at hnx hlen hv7
          rw [← hTK] at hv3 hv4
          rw [← hDR] at hv2 hv5 hv6 hdl
          clear hTK hDR hins hpos hlt
          refine pw_seq ?_; refine pw_seq ?_; refine pw_draw Tryz.mixed (by kernel_rfl) ?_; refine yMd rfl ?_; refine yMw rfl ?_; refine yNb rfl ?_; refine yB rfl rfl rfl rfl ?_; refine yMd rfl ?_; rw [t1]; refine yMw rfl ?_
          refine yMd rfl ?_; refine yWb (by omega) (by omega) rfl rfl rfl ?_; refine yFb rfl ?_; refine yLd rfl rfl a1 ?_; refine yMd rfl ?_; refine yMd rfl ?_; refine yW em (by omega) rfl rfl ?_; refine yFr rfl rfl ?_; refine yLr rfl rfl ?_
          refine yBsl rfl rfl ?_; refine yPd rfl rfl ?_; refine yQ ?_; refine q_then ?_; rw [h48]; refine pw_cf rfl ?_; refine pw_exit ?_; refine pw_seq ?_; refine pw_seq ?_; refine pw_draw Tryz.mixed (by kernel_rfl) ?_; refine yMd rfl ?_
          refine yMw rfl ?_; refine yNb rfl ?_; refine yB rfl rfl rfl rfl ?_; refine yMd rfl ?_; rw [t1]; refine yMw rfl ?_; refine yMd rfl ?_; refine yWb (by omega) (by omega) rfl rfl rfl ?_; refine yFb rfl ?_; refine yLd rfl rfl a1 ?_
          refine yMd rfl ?_; refine yMd rfl ?_; refine yW em (by omega) rfl rfl ?_; refine yFr rfl rfl ?_; refine yLr rfl rfl ?_; refine yBse rfl rfl ?_; refine yPd rfl rfl ?_; refine yQ ?_; refine q_then ?_; rw [u5]; refine pw_cf rfl ?_
          refine pw_skip ?_; refine pw_seq ?_; refine pw_region ?_; refine yEb rfl ?_; refine yMw rfl ?_; refine yMd rfl ?_
          refine yTa (us := vC O) (vs := vC DR) (n := O.length) (m := k) (i := 79) (iz := 66) (by omega) (by omega) (by omega) hv1 hv2 rfl rfl rfl rfl rfl ?_; refine yAw rfl ?_; refine yQ ?_
          refine pw_frz 6 66 (es := DR.map dCf) (ds := (vC DR).map .val) (by rw [List.length_map, hv5]) hv6 (toDs_vs _) rfl rfl (pw_cutb 79 (k * 2) rfl hv3 ?_)
          refine pw_anyB ⟨102, [(0, .d (.sl 2 (e.map dCf))), (3, .bs 79 (k + 1 + (O.length - k)) cT 2), (4, .d (dI (i + 1 : Nat)))], [(79, cC (TK ++ (c0, c1) :: DR))], []⟩ Tryz.mixed ?_ ?_
          refine pa_pure 0 rfl rfl (by kernel_rfl) (by kernel_rfl) pure_move ?_; refine pa_pure 1 rfl rfl (by kernel_rfl) (by kernel_rfl) pure_move ?_; refine pa_pure 3 rfl rfl (by kernel_rfl) (by kernel_rfl) pure_move ?_
          refine pa_pure 4 rfl rfl (by kernel_rfl) (by kernel_rfl) pure_move ?_; refine pa_pure 9 rfl rfl (by kernel_rfl) (by kernel_rfl) pure_move ?_; refine pa_step [_, _] rfl rfl ⟨⟨_, rfl, ?_⟩, ⟨_, rfl, ?_⟩, trivial⟩
          refine yDb (by omega) (by omega) rfl rfl ?_; refine yQ ?_; refine pa_step [_] rfl rfl ⟨⟨_, rfl, ?_⟩, trivial⟩; refine yW em (by omega) rfl rfl ?_; refine yQ ?_; refine pa_step [_] rfl rfl ⟨⟨_, rfl, ?_⟩, trivial⟩
          refine yLs (ys := [_, _]) rfl rfl rfl ?_; refine yQ ?_; refine pa_step [_] rfl rfl ⟨⟨_, rfl, ?_⟩, trivial⟩; refine yR (es := [[_, _]]) rfl rfl rfl rfl rfl ?_; refine yQ ?_; refine pa_step [_] rfl rfl ⟨⟨_, rfl, ?_⟩, trivial⟩
          refine yTw (n := k) (us := vC TK) (vs := [vS c0, vS c1]) (m := 1) (es := [dCf (c0, c1)]) (by omega) (by omega) (by omega) rfl rfl hv4 rfl rfl rfl ?_; refine yQ ?_; refine pa_step [_] rfl rfl ⟨⟨_, rfl, ?_⟩, trivial⟩
          refine yTw (n := k + 1) (us := vC TK ++ [vS c0, vS c1]) (vs := vC DR) (m := O.length - k) (es := DR.map dCf) (by omega) (by omega) (by omega) hv6 hv5 (by rw [List.length_append, hv4]; show k * 2 + 2 = _; omega) rfl rfl rfl ?_
          refine yQ ?_; refine pa_step [_] rfl rfl ⟨⟨_, rfl, ?_⟩, trivial⟩; refine yAw rfl ?_; refine yQ ?_
          refine pa_fin rfl ⟨rfl, ⟨.refl _, .refl _, .refl _, trivial⟩, ⟨⟨_, rfl, lesC_eq (congrArg (fun l => List.map (fun u => SV.d (.val u)) l) hv7)⟩, trivial⟩, trivial, (by simp [PS.closed, SV.ok, aget, Nat.beq, -List.map_take, -List.map_set])⟩
          refine yW em (by omega) rfl rfl ?_; refine yQ ?_; refine pa_step [_, _] rfl rfl ⟨⟨_, rfl, ?_⟩, ⟨_, rfl, ?_⟩, trivial⟩; refine yDb (by omega) (by omega) rfl rfl ?_; refine yQ ?_; refine pa_step [_] rfl rfl ⟨⟨_, rfl, ?_⟩, trivial⟩
          refine yLs (ys := [_, _]) rfl rfl rfl ?_; refine yQ ?_; refine pa_step [_] rfl rfl ⟨⟨_, rfl, ?_⟩, trivial⟩; refine yR (es := [[_, _]]) rfl rfl rfl rfl rfl ?_; refine yQ ?_; refine pa_step [_] rfl rfl ⟨⟨_, rfl, ?_⟩, trivial⟩
          refine yTw (n := k) (us := vC TK) (vs := [vS c0, vS c1]) (m := 1) (es := [dCf (c0, c1)]) (by omega) (by omega) (by omega) rfl rfl hv4 rfl rfl rfl ?_; refine yQ ?_; refine pa_step [_] rfl rfl ⟨⟨_, rfl, ?_⟩, trivial⟩
          refine yTw (n := k + 1) (us := vC TK ++ [vS c0, vS c1]) (vs := vC DR) (m := O.length - k) (es := DR.map dCf) (by omega) (by omega) (by omega) hv6 hv5 (by rw [List.length_append, hv4]; show k * 2 + 2 = _; omega) rfl rfl rfl ?_
          refine yQ ?_; refine pa_step [_] rfl rfl ⟨⟨_, rfl, ?_⟩, trivial⟩; refine yAw rfl ?_; refine yQ ?_
          refine pa_fin rfl ⟨rfl, ⟨.refl _, .refl _, .refl _, trivial⟩, ⟨⟨_, rfl, lesC_eq (congrArg (fun l => List.map (fun u => SV.d (.val u)) l) hv7)⟩, trivial⟩, trivial, (by simp [PS.closed, SV.ok, aget, Nat.beq, -List.map_take, -List.map_set])⟩
          refine yLs (ys := [_, _]) rfl rfl rfl ?_; refine yQ ?_; refine pa_step [_, _] rfl rfl ⟨⟨_, rfl, ?_⟩, ⟨_, rfl, ?_⟩, trivial⟩; refine yDb (by omega) (by omega) rfl rfl ?_; refine yQ ?_
          refine pa_step [_] rfl rfl ⟨⟨_, rfl, ?_⟩, trivial⟩; refine yR (es := [[_, _]]) rfl rfl rfl rfl rfl ?_; refine yQ ?_; refine pa_step [_] rfl rfl ⟨⟨_, rfl, ?_⟩, trivial⟩
          refine yTw (n := k) (us := vC TK) (vs := [vS c0, vS c1]) (m := 1) (es := [dCf (c0, c1)]) (by omega) (by omega) (by omega) rfl rfl hv4 rfl rfl rfl ?_; refine yQ ?_; refine pa_step [_] rfl rfl ⟨⟨_, rfl, ?_⟩, trivial⟩
          refine yTw (n := k + 1) (us := vC TK ++ [vS c0, vS c1]) (vs := vC DR) (m := O.length - k) (es := DR.map dCf) (by omega) (by omega) (by omega) hv6 hv5 (by rw [List.length_append, hv4]; show k * 2 + 2 = _; omega) rfl rfl rfl ?_
          refine yQ ?_; refine pa_step [_] rfl rfl ⟨⟨_, rfl, ?_⟩, trivial⟩; refine yAw rfl ?_; refine yQ ?_
          refine pa_fin rfl ⟨rfl, ⟨.refl _, .refl _, .refl _, trivial⟩, ⟨⟨_, rfl, lesC_eq (congrArg (fun l => List.map (fun u => SV.d (.val u)) l) hv7)⟩, trivial⟩, trivial, (by simp [PS.closed, SV.ok, aget, Nat.beq, -List.map_take, -List.map_set])⟩
          refine yR (es := [[_, _]]) rfl rfl rfl rfl rfl ?_; refine yQ ?_; refine pa_step [_] rfl rfl ⟨⟨_, rfl, ?_⟩, trivial⟩; refine yDb (by omega) (by omega) rfl rfl ?_; refine yQ ?_; refine pa_step [_] rfl rfl ⟨⟨_, rfl, ?_⟩, trivial⟩
          refine yTw (n := k) (us := vC TK) (vs := [vS c0, vS c1]) (m := 1) (es := [dCf (c0, c1)]) (by omega) (by omega) (by omega) rfl rfl hv4 rfl rfl rfl ?_; refine yQ ?_; refine pa_step [_] rfl rfl ⟨⟨_, rfl, ?_⟩, trivial⟩
          refine yTw (n := k + 1) (us := vC TK ++ [vS c0, vS c1]) (vs := vC DR) (m := O.length - k) (es := DR.map dCf) (by omega) (by omega) (by omega) hv6 hv5 (by rw [List.length_append, hv4]; show k * 2 + 2 = _; omega) rfl rfl rfl ?_
          refine yQ ?_; refine pa_step [_] rfl rfl ⟨⟨_, rfl, ?_⟩, trivial⟩; refine yAw rfl ?_; refine yQ ?_
          refine pa_fin rfl ⟨rfl, ⟨.refl _, .refl _, .refl _, trivial⟩, ⟨⟨_, rfl, lesC_eq (congrArg (fun l => List.map (fun u => SV.d (.val u)) l) hv7)⟩, trivial⟩, trivial, (by simp [PS.closed, SV.ok, aget, Nat.beq, -List.map_take, -List.map_set])⟩
          refine pw_region ?_; refine yMd rfl ?_; refine yB rfl rfl rfl rfl ?_; refine yAd rfl ?_; refine yQ ?_; refine q_then ?_; rw [hw]
          exact ⟨i + 1 + 1, by omega, by omega, rfl, ⟨.refl _, .of_eq (by rw [hnx]; show SV.bs 79 _ cT 2 = SV.bs 79 _ cT 2; rw [hlen]), .refl _, trivial⟩, ⟨⟨_, rfl, lesC_eq (by rw [hnx])⟩, trivial⟩, trivial, (by simp [PS.closed, SV.ok, aget, Nat.beq, -List.map_take, -List.map_set])⟩
    · have t1 : decide ((k : Int) < (O.length : Int)) = false := decide_eq_false (by omega)
      obtain rfl : k = O.length := by omega
      have hpos : posC O c0 = O.length := posC_eq hlt (fun d hd2 => by rw [List.getElem?_eq_none (Nat.le_refl _)] at hd2; cases hd2) hk
      have hins : insC (c0, c1) O = O ++ [(c0, c1)] := by
        unfold insC
        rw [hpos, List.getElem?_eq_none (Nat.le_refl _)]
        simp only
        rw [List.take_length, List.drop_length]
      rw [hins] at hnx
      have hlen : (O ++ [(c0, c1)]).length = O.length + 1 := by simp
      have hv1 : (vC O).length = O.length * 2 := vC_len O
      have hv2 : (vC O).drop (O.length * 2) = [] := by rw [← hv1, List.drop_length]
      have hv3 : (((cC O).map (SV.kill 66)).map (SV.kill 66)).take (O.length * 2) = cC O := by rw [kill_vs, kill_vs]; exact List.take_of_length_le (by rw [List.length_map, hv1]; omega)
      have hv7 : vC O ++ [vS c0, vS c1] = vC (O ++ [(c0, c1)]) := by rw [vC_app]; rfl
      clear hins hpos hlt
      refine pw_seq ?_; refine pw_seq ?_; refine pw_draw Tryz.mixed (by kernel_rfl) ?_; refine yMd rfl ?_; refine yMw rfl ?_; refine yNb rfl ?_; refine yB rfl rfl rfl rfl ?_; refine yMd rfl ?_; rw [t1]; refine yO rfl ?_; refine yO rfl ?_
      refine yO rfl ?_; refine yO rfl ?_; refine yO rfl ?_; refine yO rfl ?_; refine yO rfl ?_; refine yO rfl ?_; refine yO rfl ?_; refine yO rfl ?_; refine yO rfl ?_; refine yVd rfl rfl ?_; refine yQ ?_; refine pw_cf rfl ?_
      refine pw_exit ?_; refine pw_seq ?_; refine pw_seq ?_; refine pw_draw Tryz.mixed (by kernel_rfl) ?_; refine yMd rfl ?_; refine yMw rfl ?_; refine yNb rfl ?_; refine yB rfl rfl rfl rfl ?_; refine yMd rfl ?_; rw [t1]; refine yO rfl ?_
      refine yO rfl ?_; refine yO rfl ?_; refine yO rfl ?_; refine yO rfl ?_; refine yO rfl ?_; refine yO rfl ?_; refine yO rfl ?_; refine yO rfl ?_; refine yO rfl ?_; refine yO rfl ?_; refine yVd rfl rfl ?_; refine yQ ?_
      refine pw_cf rfl ?_; refine pw_skip ?_; refine pw_seq ?_; refine pw_region ?_; refine yEb rfl ?_; refine yMw rfl ?_; refine yMd rfl ?_
      refine yTa (us := vC O) (vs := []) (n := O.length) (m := O.length) (i := 79) (iz := 66) (by omega) (by omega) (by omega) hv1 hv2 rfl rfl rfl rfl rfl ?_; refine yAw rfl ?_; refine yQ ?_
      refine pw_frz 6 66 (es := []) (ds := []) (by simp) (by rw [Nat.sub_self]; rfl) rfl rfl rfl (pw_cutb 79 (O.length * 2) rfl hv3 ?_)
      refine pw_anyB ⟨102, [(0, .d (.sl 2 (e.map dCf))), (3, .bs 79 (O.length + 1) cT 2), (4, .d (dI (i + 1 : Nat)))], [(79, cC (O ++ [(c0, c1)]))], []⟩ Tryz.mixed ?_ ?_
      refine pa_pure 0 rfl rfl (by kernel_rfl) (by kernel_rfl) pure_move ?_; refine pa_pure 1 rfl rfl (by kernel_rfl) (by kernel_rfl) pure_move ?_; refine pa_pure 3 rfl rfl (by kernel_rfl) (by kernel_rfl) pure_move ?_
      refine pa_pure 4 rfl rfl (by kernel_rfl) (by kernel_rfl) pure_move ?_; refine pa_pure 9 rfl rfl (by kernel_rfl) (by kernel_rfl) pure_move ?_; refine pa_step [_, _] rfl rfl ⟨⟨_, rfl, ?_⟩, ⟨_, rfl, ?_⟩, trivial⟩
      refine yDb (by omega) (by omega) rfl rfl ?_; refine yQ ?_; refine pa_step [_] rfl rfl ⟨⟨_, rfl, ?_⟩, trivial⟩; refine yW em (by omega) rfl rfl ?_; refine yQ ?_; refine pa_step [_] rfl rfl ⟨⟨_, rfl, ?_⟩, trivial⟩
      refine yLs (ys := [_, _]) rfl rfl rfl ?_; refine yQ ?_; refine pa_step [_] rfl rfl ⟨⟨_, rfl, ?_⟩, trivial⟩; refine yR (es := [[_, _]]) rfl rfl rfl rfl rfl ?_; refine yQ ?_; refine pa_step [_] rfl rfl ⟨⟨_, rfl, ?_⟩, trivial⟩
      refine yTw (n := O.length) (us := vC O) (vs := [vS c0, vS c1]) (m := 1) (es := [dCf (c0, c1)]) (by omega) (by omega) (by omega) rfl rfl hv1 rfl rfl rfl ?_; refine yQ ?_; refine pa_step [_] rfl rfl ⟨⟨_, rfl, ?_⟩, trivial⟩
      refine yTe rfl rfl ?_; refine yQ ?_; refine pa_step [_] rfl rfl ⟨⟨_, rfl, ?_⟩, trivial⟩; refine yAw rfl ?_; refine yQ ?_
      refine pa_fin rfl ⟨rfl, ⟨.refl _, .refl _, .refl _, trivial⟩, ⟨⟨_, rfl, lesC_eq (congrArg (fun l => List.map (fun u => SV.d (.val u)) l) hv7)⟩, trivial⟩, trivial, (by simp [PS.closed, SV.ok, aget, Nat.beq, -List.map_take, -List.map_set])⟩
      refine yW em (by omega) rfl rfl ?_; refine yQ ?_; refine pa_step [_, _] rfl rfl ⟨⟨_, rfl, ?_⟩, ⟨_, rfl, ?_⟩, trivial⟩; refine yDb (by omega) (by omega) rfl rfl ?_; refine yQ ?_; refine pa_step [_] rfl rfl ⟨⟨_, rfl, ?_⟩, trivial⟩
      refine yLs (ys := [_, _]) rfl rfl rfl ?_; refine yQ ?_; refine pa_step [_] rfl rfl ⟨⟨_, rfl, ?_⟩, trivial⟩; refine yR (es := [[_, _]]) rfl rfl rfl rfl rfl ?_; refine yQ ?_; refine pa_step [_] rfl rfl ⟨⟨_, rfl, ?_⟩, trivial⟩
      refine yTw (n := O.length) (us := vC O) (vs := [vS c0, vS c1]) (m := 1) (es := [dCf (c0, c1)]) (by omega) (by omega) (by omega) rfl rfl hv1 rfl rfl rfl ?_; refine yQ ?_; refine pa_step [_] rfl rfl ⟨⟨_, rfl, ?_⟩, trivial⟩
      refine yTe rfl rfl ?_; refine yQ ?_; refine pa_step [_] rfl rfl ⟨⟨_, rfl, ?_⟩, trivial⟩; refine yAw rfl ?_; refine yQ ?_
      refine pa_fin rfl ⟨rfl, ⟨.refl _, .refl _, .refl _, trivial⟩, ⟨⟨_, rfl, lesC_eq (congrArg (fun l => List.map (fun u => SV.d (.val u)) l) hv7)⟩, trivial⟩, trivial, (by simp [PS.closed, SV.ok, aget, Nat.beq, -List.map_take, -List.map_set])⟩
      refine yLs (ys := [_, _]) rfl rfl rfl ?_; refine yQ ?_; refine pa_step [_, _] rfl rfl ⟨⟨_, rfl, ?_⟩, ⟨_, rfl, ?_⟩, trivial⟩; refine yDb (by omega) (by omega) rfl rfl ?_; refine yQ ?_
      refine pa_step [_] rfl rfl ⟨⟨_, rfl, ?_⟩, trivial⟩; refine yR (es := [[_, _]]) rfl rfl rfl rfl rfl ?_; refine yQ ?_; refine pa_step [_] rfl rfl ⟨⟨_, rfl, ?_⟩, trivial⟩
      refine yTw (n := O.length) (us := vC O) (vs := [vS c0, vS c1]) (m := 1) (es := [dCf (c0, c1)]) (by omega) (by omega) (by omega) rfl rfl hv1 rfl rfl rfl ?_; refine yQ ?_; refine pa_step [_] rfl rfl ⟨⟨_, rfl, ?_⟩, trivial⟩
      refine yTe rfl rfl ?_; refine yQ ?_; refine pa_step [_] rfl rfl ⟨⟨_, rfl, ?_⟩, trivial⟩; refine yAw rfl ?_; refine yQ ?_
      refine pa_fin rfl ⟨rfl, ⟨.refl _, .refl _, .refl _, trivial⟩, ⟨⟨_, rfl, lesC_eq (congrArg (fun l => List.map (fun u => SV.d (.val u)) l) hv7)⟩, trivial⟩, trivial, (by simp [PS.closed, SV.ok, aget, Nat.beq, -List.map_take, -List.map_set])⟩
      refine yR (es := [[_, _]]) rfl rfl rfl rfl rfl ?_; refine yQ ?_; refine pa_step [_] rfl rfl ⟨⟨_, rfl, ?_⟩, trivial⟩; refine yDb (by omega) (by omega) rfl rfl ?_; refine yQ ?_; refine pa_step [_] rfl rfl ⟨⟨_, rfl, ?_⟩, trivial⟩
      refine yTw (n := O.length) (us := vC O) (vs := [vS c0, vS c1]) (m := 1) (es := [dCf (c0, c1)]) (by omega) (by omega) (by omega) rfl rfl hv1 rfl rfl rfl ?_; refine yQ ?_; refine pa_step [_] rfl rfl ⟨⟨_, rfl, ?_⟩, trivial⟩
      refine yTe rfl rfl ?_; refine yQ ?_; refine pa_step [_] rfl rfl ⟨⟨_, rfl, ?_⟩, trivial⟩; refine yAw rfl ?_; refine yQ ?_
      refine pa_fin rfl ⟨rfl, ⟨.refl _, .refl _, .refl _, trivial⟩, ⟨⟨_, rfl, lesC_eq (congrArg (fun l => List.map (fun u => SV.d (.val u)) l) hv7)⟩, trivial⟩, trivial, (by simp [PS.closed, SV.ok, aget, Nat.beq, -List.map_take, -List.map_set])⟩
      refine pw_region ?_; refine yMd rfl ?_; refine yB rfl rfl rfl rfl ?_; refine yAd rfl ?_; refine yQ ?_; refine q_then ?_; rw [hw]
      exact ⟨i + 1 + 1, by omega, by omega, rfl, ⟨.refl _, .of_eq (by rw [hnx]; show SV.bs 79 _ cT 2 = SV.bs 79 _ cT 2; rw [hlen]), .refl _, trivial⟩, ⟨⟨_, rfl, lesC_eq (by rw [hnx])⟩, trivial⟩, trivial, (by simp [PS.closed, SV.ok, aget, Nat.beq, -List.map_take, -List.map_set])⟩
end Go.Proofs.YtmfeinilbjfnpaaGreatDoor
namespace Go.Proofs.YtmfeinilbjfnpaaGreatDoor
open Go.RowKit Px

set_option maxRecDepth 20000 in
theorem wRNameE (s : Str) (hs : s.length ≤ 1000000) : PCalls Tryz.prog 44 [dS s] (.d (dB (nmB s))) := by
  have c1 := wRName s (by omega)
  cases h : nameB s with
  | false =>
    rw [h] at c1
    have e : nmB s = false := by simp [nmB, h]
    rw [e]
    refine pcalls_of_pw Tryz.func44 rfl Tryz.ntmps44 Tryz.results44 (by simp) fun B w0 => ?_
    refine pw_seq ?_; refine pw_region ?_; refine yAd rfl ?_; refine yQ ?_; refine pw_seq ?_; refine pw_region ?_; refine yMd rfl ?_; refine yC (c1) rfl rfl ?_; refine yMd rfl ?_; refine yO rfl ?_; refine yO rfl ?_; refine yO rfl ?_
    refine yVd rfl rfl ?_; refine yMd rfl ?_; refine yO rfl ?_; refine yO rfl ?_; refine yO rfl ?_; refine yVd rfl rfl ?_; refine yAd rfl ?_; refine yQ ?_; refine pw_ret ?_
    exact q_ret _ (.tmp rfl .nil) rfl
  | true =>
    rw [h] at c1
    obtain ⟨x, l, rfl⟩ : ∃ x l, s = x :: l := by
      cases s with
      | nil => simp [nameB] at h
      | cons x l => exact ⟨x, l, rfl⟩
    have hx : (x :: l : Str)[(0 : Int).toNat]? = some x := rfl
    by_cases h1 : 97 ≤ x.toNat
    · have t1 : decide ((x.toNat : Int) ≥ 97) = true := decide_eq_true (by omega)
      have e : nmB (x :: l) = decide (x.toNat ≤ 122) := by simp [nmB, h, h1]
      rw [e]
      refine pcalls_of_pw Tryz.func44 rfl Tryz.ntmps44 Tryz.results44 (by simp) fun B w0 => ?_
      refine pw_seq ?_; refine pw_region ?_; refine yAd rfl ?_; refine yQ ?_; refine pw_seq ?_; refine pw_region ?_; refine yMd rfl ?_; refine yC (c1) rfl rfl ?_; refine yMd rfl ?_; refine yMd rfl ?_; refine yIs hx (by omega) rfl rfl ?_
      refine yB rfl rfl rfl rfl ?_; refine yPd rfl rfl ?_; refine yMd rfl ?_; rw [t1]; refine yMd rfl ?_; refine yIs hx (by omega) rfl rfl ?_; refine yB rfl rfl rfl rfl ?_; refine yPd rfl rfl ?_; refine yAd rfl ?_; refine yQ ?_
      refine pw_ret ?_
      exact q_ret _ (.tmp rfl .nil) (congrArg (fun b => SV.d (dB b)) (decide_eq_decide.2 (by omega)))
    · have t1 : decide ((x.toNat : Int) ≥ 97) = false := decide_eq_false (by omega)
      have e : nmB (x :: l) = false := by simp [nmB, h, h1]
      rw [e]
      refine pcalls_of_pw Tryz.func44 rfl Tryz.ntmps44 Tryz.results44 (by simp) fun B w0 => ?_
      refine pw_seq ?_; refine pw_region ?_; refine yAd rfl ?_; refine yQ ?_; refine pw_seq ?_; refine pw_region ?_; refine yMd rfl ?_; refine yC (c1) rfl rfl ?_; refine yMd rfl ?_; refine yMd rfl ?_; refine yIs hx (by omega) rfl rfl ?_
      refine yB rfl rfl rfl rfl ?_; refine yPd rfl rfl ?_; refine yMd rfl ?_; rw [t1]; refine yO rfl ?_; refine yO rfl ?_; refine yO rfl ?_; refine yVd rfl rfl ?_; refine yAd rfl ?_; refine yQ ?_; refine pw_ret ?_
      exact q_ret _ (.tmp rfl .nil) rfl
set_option maxRecDepth 20000 in
set_option maxHeartbeats 1000000 in
theorem wRCheckE (e : List Cf) (hl : e.length ≤ 1000000) (hn : ∀ c ∈ e, c.1.length ≤ 1000000) (hf : ∀ c ∈ e, c.2.length ≤ 1000000) : PCalls Tryz.prog 62 [.sl 2 (e.map dCf)] (.d (dI (chE e))) := by
  obtain ⟨r, hr⟩ : ∃ r, r = chE e := ⟨_, rfl⟩
  rw [← hr]
  rw [chE] at hr
  by_cases h16 : 16 < e.length
  · have t0 : decide (((e.map dCf).length : Int) > 16) = true := decide_eq_true (by rw [List.length_map]; omega)
    rw [if_pos h16] at hr
    subst hr
    refine pcalls_of_pw Tryz.func62 rfl Tryz.ntmps62 Tryz.results62 (by simp) fun B w0 => ?_
    refine pw_seq ?_; refine pw_region ?_; refine yAd rfl ?_; refine yQ ?_; refine pw_seq ?_; refine pw_seq ?_; refine pw_region ?_; refine yMd rfl ?_; refine yN rfl ?_; refine yB rfl rfl rfl rfl ?_; refine yQ ?_; refine q_then ?_
    rw [t0]; refine pw_ct rfl ?_; refine pw_seq ?_; refine pw_region ?_; refine yAd rfl ?_; refine yQ ?_; refine pw_ret ?_; refine q_then_ret ?_
    exact q_ret _ (.tmp rfl .nil) rfl
  rw [if_neg h16] at hr
  have t0 : decide (((e.map dCf).length : Int) > 16) = false := decide_eq_false (by rw [List.length_map]; omega)
  refine pcalls_of_pw Tryz.func62 rfl Tryz.ntmps62 Tryz.results62 (by simp) fun B w0 => ?_
  refine pw_seq ?_; refine pw_region ?_; refine yAd rfl ?_; refine yQ ?_; refine pw_seq ?_; refine pw_seq ?_; refine pw_region ?_; refine yMd rfl ?_; refine yN rfl ?_; refine yB rfl rfl rfl rfl ?_; refine yQ ?_; refine q_then ?_
  rw [t0]; refine pw_cf rfl ?_; refine pw_skip ?_; refine pw_seq ?_; refine pw_seq ?_; refine pw_region ?_; refine yAd rfl ?_; refine yQ ?_; refine pw_block ?_
  refine pw_loop (fun i : Nat => ⟨27, [(0, .d (.sl 2 (e.map dCf))), (3, .d (dI i))], [], []⟩) (fun i => i ≤ e.length ∧ ∀ d ∈ e.take i, cE d = 0) (fun i => e.length - i) 0 ⟨Nat.zero_le _, fun d hd => by simp at hd⟩
    ⟨rfl, ⟨.refl _, .refl _, trivial⟩, trivial, trivial, rfl⟩ ?_
  rintro i ⟨hi, hok⟩
  rcases Nat.lt_or_ge i e.length with h | h
  rotate_left
  · have t1 : decide ((i : Int) < ((e.map dCf).length : Int)) = false := decide_eq_false (by rw [List.length_map]; omega)
    obtain rfl : i = e.length := by omega
    rw [List.take_length] at hok
    rw [chL_ok hok] at hr
    subst hr
    refine pw_seq ?_; refine pw_seq ?_; refine pw_region ?_; refine yMd rfl ?_; refine yMd rfl ?_; refine yN rfl ?_; refine yB rfl rfl rfl rfl ?_; refine yQ ?_; refine q_then ?_; rw [t1]; refine pw_cf rfl ?_; refine pw_exit ?_
    refine pw_seq ?_; refine pw_region ?_; refine yAd rfl ?_; refine yQ ?_; refine pw_ret ?_
    exact q_ret _ (.tmp rfl .nil) rfl
  have t1 : decide ((i : Int) < ((e.map dCf).length : Int)) = true := decide_eq_true (by rw [List.length_map]; omega)
  obtain ⟨⟨c0, c1⟩, hc⟩ : ∃ a, e[i]? = some a := ⟨_, List.getElem?_eq_getElem h⟩
  have em := ix dCf e i i (c0, c1) rfl hc
  have hw := wrapI ((i : Int) + 1) (by omega)
  have hq := hf _ (List.mem_of_getElem? hc)
  have hqn := hn _ (List.mem_of_getElem? hc)
  simp only at hq hqn
  have k1 := wRNameE c0 (by omega)
  have k2 := wRCheck c1 (by omega)
  have hat := chL_at hc hok
  have hnx := take_okC (p := fun d => cE d = 0) hc hok
  simp only [cE] at hat hnx
  cases hn : nmB c0 with
  | false =>
    rw [hn] at k1 hat
    rw [hat (by simp)] at hr
    have hr : r = 23 := by simpa using hr
    subst hr
    refine pw_seq ?_; refine pw_seq ?_; refine pw_region ?_; refine yMd rfl ?_; refine yMd rfl ?_; refine yN rfl ?_; refine yB rfl rfl rfl rfl ?_; refine yQ ?_; refine q_then ?_; rw [t1]; refine pw_ct rfl ?_; refine pw_skip ?_
    refine pw_seq ?_; refine pw_block ?_; refine pw_seq ?_; refine pw_seq ?_; refine pw_region ?_; refine yMd rfl ?_; refine yMd rfl ?_; refine yW em (by omega) rfl rfl ?_; refine yFr rfl rfl ?_; refine yLr rfl rfl ?_
    refine yC (k1) rfl rfl ?_; refine yU rfl rfl rfl ?_; refine yQ ?_; refine pw_ct rfl ?_; refine pw_seq ?_; refine pw_region ?_; refine yAd rfl ?_; refine yQ ?_; refine pw_ret ?_; refine q_then_ret ?_; refine q_blk_ret ?_
    refine q_then_ret ?_; refine q_then_ret ?_; refine q_blk_ret ?_; refine q_then_ret ?_
    exact q_ret _ (.tmp rfl .nil) rfl
  | true =>
    rw [hn] at k1 hat hnx
    cases hs : isC c1 with
    | false =>
      rw [hs] at k2 hat
      rw [hat (by simp)] at hr
      have hr : r = 1 := by simpa using hr
      subst hr
      refine pw_seq ?_; refine pw_seq ?_; refine pw_region ?_; refine yMd rfl ?_; refine yMd rfl ?_; refine yN rfl ?_; refine yB rfl rfl rfl rfl ?_; refine yQ ?_; refine q_then ?_; rw [t1]; refine pw_ct rfl ?_; refine pw_skip ?_
      refine pw_seq ?_; refine pw_block ?_; refine pw_seq ?_; refine pw_seq ?_; refine pw_region ?_; refine yMd rfl ?_; refine yMd rfl ?_; refine yW em (by omega) rfl rfl ?_; refine yFr rfl rfl ?_; refine yLr rfl rfl ?_
      refine yC (k1) rfl rfl ?_; refine yU rfl rfl rfl ?_; refine yQ ?_; refine pw_cf rfl ?_; refine pw_skip ?_; refine pw_seq ?_; refine pw_region ?_; refine yMd rfl ?_; refine yMd rfl ?_; refine yW em (by omega) rfl rfl ?_
      refine yFr rfl rfl ?_; refine yLr rfl rfl ?_; refine yC (k2) rfl rfl ?_; refine yB rfl rfl rfl rfl ?_; refine yQ ?_; refine pw_ct rfl ?_; refine pw_seq ?_; refine pw_region ?_; refine yAd rfl ?_; refine yQ ?_; refine pw_ret ?_
      refine q_blk_ret ?_; refine q_then_ret ?_; refine q_then_ret ?_; refine q_blk_ret ?_; refine q_then_ret ?_
      exact q_ret _ (.tmp rfl .nil) rfl
    | true =>
      rw [hs] at k2 hnx
      refine pw_seq ?_; refine pw_seq ?_; refine pw_region ?_; refine yMd rfl ?_; refine yMd rfl ?_; refine yN rfl ?_; refine yB rfl rfl rfl rfl ?_; refine yQ ?_; refine q_then ?_; rw [t1]; refine pw_ct rfl ?_; refine pw_skip ?_
      refine pw_seq ?_; refine pw_block ?_; refine pw_seq ?_; refine pw_seq ?_; refine pw_region ?_; refine yMd rfl ?_; refine yMd rfl ?_; refine yW em (by omega) rfl rfl ?_; refine yFr rfl rfl ?_; refine yLr rfl rfl ?_
      refine yC (k1) rfl rfl ?_; refine yU rfl rfl rfl ?_; refine yQ ?_; refine pw_cf rfl ?_; refine pw_skip ?_; refine pw_seq ?_; refine pw_region ?_; refine yMd rfl ?_; refine yMd rfl ?_; refine yW em (by omega) rfl rfl ?_
      refine yFr rfl rfl ?_; refine yLr rfl rfl ?_; refine yC (k2) rfl rfl ?_; refine yB rfl rfl rfl rfl ?_; refine yQ ?_; refine pw_cf rfl ?_; refine pw_skip ?_; refine pw_region ?_; refine yMd rfl ?_; refine yB rfl rfl rfl rfl ?_
      refine yAd rfl ?_; refine yQ ?_; refine q_then ?_
      exact ⟨i + 1, ⟨by omega, hnx (by simp)⟩, by omega, rfl, ⟨.refl _, .of_eq (congrArg (fun n => SV.d (dI n)) hw), trivial⟩, trivial, trivial, rfl⟩
theorem rn_nf2 {e : List Cf} (he : ∀ c ∈ e, isC c.2 = true) : (rnI e e.length).filter keepF = nf e := rnI_nf he
theorem rn_nf {e : List Cf} (he : chE e = 0) : (rnI e e.length).filter keepF = nf e := rnI_nf fun c hc => ((chE_zero.1 he).2 c hc).2
set_option maxRecDepth 20000 in
theorem wRNormalE (e : List Cf) (hl : e.length ≤ 1000000) (hn : ∀ c ∈ e, c.1.length ≤ 1000000) (hf : ∀ c ∈ e, c.2.length ≤ 1000) : PCalls Tryz.prog 28 [.sl 2 (e.map dCf)] (.tup [.sl 2 ((nmE e).map dCf), dI (chE e)]) := by
  have k1 := wRCheckE e hl hn fun c hc => by have := hf c hc; omega
  by_cases h : chE e = 0
  · obtain ⟨h1, h2⟩ := chE_zero.1 h
    have k2 := wRNormalI e (by omega) hf
    rw [rn_nf h] at k2
    rw [nmE, if_pos h, h]
    rw [h] at k1
    obtain ⟨r, hr⟩ : ∃ r, r = nf e := ⟨_, rfl⟩
    rw [← hr] at k2 ⊢
    refine pcalls_of_pw Tryz.func28 rfl Tryz.ntmps28 Tryz.results28 (by simp) fun B w0 => ?_
    refine pw_seq ?_; refine pw_region ?_; refine yAd rfl ?_; refine yAd rfl ?_; refine yQ ?_; refine pw_seq ?_; refine pw_seq ?_; refine pw_region ?_; refine yMd rfl ?_; refine yC (k1) rfl rfl ?_; refine yAd rfl ?_; refine yQ ?_
    refine pw_seq ?_; refine pw_region ?_; refine yMd rfl ?_; refine yB rfl rfl rfl rfl ?_; refine yQ ?_; refine pw_cf rfl ?_; refine pw_skip ?_; refine pw_seq ?_; refine pw_region ?_; refine yMd rfl ?_; refine yC (k2) rfl rfl ?_
    refine yAd rfl ?_; refine yAd rfl ?_; refine yQ ?_; refine pw_ret ?_
    exact q_ret _ (.tmp rfl (.tmp rfl .nil)) rfl
  · have t : (chE e != 0) = true := by simpa using h
    rw [nmE, if_neg h]
    obtain ⟨x, hx⟩ : ∃ x, x = chE e := ⟨_, rfl⟩
    rw [← hx] at k1 t ⊢
    refine pcalls_of_pw Tryz.func28 rfl Tryz.ntmps28 Tryz.results28 (by simp) fun B w0 => ?_
    refine pw_seq ?_; refine pw_region ?_; refine yAd rfl ?_; refine yAd rfl ?_; refine yQ ?_; refine pw_seq ?_; refine pw_seq ?_; refine pw_region ?_; refine yMd rfl ?_; refine yC (k1) rfl rfl ?_; refine yAd rfl ?_; refine yQ ?_
    refine pw_seq ?_; refine pw_region ?_; refine yMd rfl ?_; refine yB rfl rfl rfl rfl ?_; refine yQ ?_; refine q_then ?_; rw [t]; refine pw_ct rfl ?_; refine pw_seq ?_; refine pw_region ?_; refine yMd rfl ?_; refine yAd rfl ?_
    refine yAd rfl ?_; refine yQ ?_; refine pw_ret ?_; refine q_then_ret ?_
    exact q_ret _ (.tnil 2 rfl (.tmp rfl .nil)) rfl
end Go.Proofs.YtmfeinilbjfnpaaGreatDoor
