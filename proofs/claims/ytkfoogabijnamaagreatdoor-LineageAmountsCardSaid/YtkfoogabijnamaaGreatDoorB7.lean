/- Walks: the reference's long numbers: groups, comparisons, sums, differences, products. -/
import Derived.Test.YtkfoogabijnamaaGreatDoorB6
import Derived.Test.YtkfoogabijnamaaGreatDoorB5
namespace Go.Proofs.YtkfoogabijnamaaGreatDoor
open Go.RowKit Px

abbrev dJ (x : Nat) : List DV := [dI x]
abbrev dJm (b : Bool) (l : List Nat) : List DV := [dB b, .sl 1 (l.map dJ)]
set_option maxRecDepth 20000 in
theorem wGroup (l : List Nat) (i : Nat) : PCalls Tryz.prog 126 [.sl 1 (l.map dJ), dI i] (.d (dI (gat l i))) := by
  refine pcalls_of_pw Tryz.func126 rfl Tryz.ntmps126 Tryz.results126 (by simp) fun B w0 => ?_
  rcases Nat.lt_or_ge i l.length with h | h
  · have t1 : decide ((i : Int) < ((l.map dJ).length : Int)) = true := decide_eq_true (by rw [List.length_map]; omega)
    obtain ⟨x, hx⟩ : ∃ x, l[i]? = some x := ⟨_, List.getElem?_eq_getElem h⟩
    have ex := ix dJ l i i x rfl hx
    rw [gat_get hx]
    refine pw_seq (pw_region (yAd rfl (yQ (pw_seq (pw_seq (pw_region (yMd rfl (yMd rfl (yN rfl ?_))))))))); refine yB rfl rfl rfl rfl (yQ (q_then ?_)); rw [t1]; refine pw_ct rfl (pw_seq (pw_region (yMd rfl (yMd rfl ?_)))); refine yW ex (by omega) rfl rfl ?_; refine yLr rfl rfl (yAd rfl (yQ (pw_ret (q_then_ret ?_))))
    exact q_ret _ (.tmp rfl .nil) rfl
  · have t1 : decide ((i : Int) < ((l.map dJ).length : Int)) = false := decide_eq_false (by rw [List.length_map]; omega)
    rw [gat_ge h]
    refine pw_seq (pw_region (yAd rfl (yQ (pw_seq (pw_seq (pw_region (yMd rfl (yMd rfl (yN rfl ?_))))))))); refine yB rfl rfl rfl rfl (yQ (q_then ?_)); rw [t1]; refine pw_cf rfl (pw_skip (pw_seq (pw_region (yAd rfl (yQ (pw_ret ?_))))))
    exact q_ret _ (.tmp rfl .nil) rfl
set_option maxRecDepth 20000 in
set_option maxHeartbeats 2000000 in
theorem wTrimJ (l : List Nat) (hl : l.length ≤ 1000000) : PCalls Tryz.prog 127 [.sl 1 (l.map dJ)] (.d (.sl 1 ((cutG l).map dJ))) := by
  obtain ⟨r, hr⟩ : ∃ r, r = cutG l := ⟨_, rfl⟩
  rw [← hr]
  refine pcalls_of_pw Tryz.func127 rfl Tryz.ntmps127 Tryz.results127 (by simp) fun B w0 => ?_
  refine pw_seq (pw_region (yAd rfl (yQ (pw_seq (pw_block ?_))))); refine pw_loop (fun n : Nat => ⟨21, [(0, .d (.sl 1 ((l.take n).map dJ)))], [], []⟩) (fun n => n ≤ l.length ∧ cutG (l.take n) = r) (fun n => n) l.length ⟨Nat.le_refl _, by rw [List.take_length, hr]⟩
    ⟨rfl, ⟨.of_eq (by rw [List.take_length]; rfl), trivial⟩, trivial, trivial, rfl⟩ ?_
  rintro n ⟨hn, hc⟩
  have hlen : (l.take n).length = n := by rw [List.length_take]; omega
  have hnx : ∀ x, (l.take n)[n - 1]? = some x → 0 < n → l.take n = l.take (n - 1) ++ [x] := fun x hx h0 => by
    obtain ⟨m, rfl⟩ : ∃ m, n = m + 1 := ⟨n - 1, by omega⟩
    rw [List.getElem?_take_of_lt (by omega)] at hx
    rw [List.take_add_one, Nat.add_sub_cancel] at *
    rw [hx]; rfl
  have htk : ((l.take n).map dJ).take (((n - 1 : Nat) : Int)).toNat = (l.take (n - 1)).map dJ := by
    rw [Int.toNat_natCast, ← List.map_take, List.take_take, Nat.min_eq_left (by omega)]
  obtain ⟨c, hcc⟩ : ∃ c, c = l.take n := ⟨_, rfl⟩
  rw [← hcc] at hc hlen hnx htk ⊢
  rcases Nat.eq_zero_or_pos n with h0 | h0
  · have hc0 : c = [] := List.length_eq_zero_iff.1 (by omega)
    subst hc0
    have hr0 : r = [] := hc.symm
    subst hr0
    refine pw_seq (pw_seq (pw_region (yMd rfl (yN rfl (yB rfl rfl rfl rfl (yMd rfl (yO rfl (yO rfl (yO rfl ?_))))))))); refine yO rfl (yO rfl (yO rfl (yO rfl (yVd rfl rfl (yQ (pw_cf rfl (pw_exit (pw_seq (pw_region ?_))))))))); refine yMd rfl (yAd rfl (yQ (pw_ret ?_)))
    exact q_ret _ (.tmp rfl .nil) rfl
  have u1 : decide (((c.map dJ).length : Int) > 0) = true := decide_eq_true (by rw [List.length_map]; omega)
  obtain ⟨x, hx⟩ : ∃ x, c[n - 1]? = some x := ⟨_, List.getElem?_eq_getElem (by omega)⟩
  have ex := ix dJ c ((n - 1 : Nat) : Int) (n - 1) x rfl hx
  have hw : IntKind.i64.wrap (((c.map dJ).length : Int) - 1) = ((n - 1 : Nat) : Int) := by rw [List.length_map, wrapI _ (by omega)]; omega
  have hcl : ((n - 1 : Nat) : Int) ≤ ((c.map dJ).length : Int) := by rw [List.length_map]; omega
  have hs := hnx x hx h0
  have hcs := cutG_snoc (l.take (n - 1)) x
  rw [← hs, hc] at hcs
  rcases Nat.eq_zero_or_pos x with hx0 | hx0
  · subst hx0
    rw [if_pos rfl] at hcs
    refine pw_seq (pw_seq (pw_region (yMd rfl (yN rfl (yB rfl rfl rfl rfl (yMd rfl ?_)))))); rw [u1]; refine yMd rfl (yMd rfl (yN rfl (yB rfl rfl rfl rfl ?_))); rw [hw]; refine yW ex (by omega) rfl rfl ?_; refine yLr rfl rfl (yB rfl rfl rfl rfl (yPd rfl rfl (yQ (pw_ct rfl (pw_skip (pw_block (pw_region (yMd rfl (yMd rfl ?_))))))))); refine yN rfl (yB rfl rfl rfl rfl ?_); rw [hw]; refine yDh (by omega) hcl rfl rfl ?_; refine yAd rfl (yQ (q_blk (q_then ?_)))
    exact ⟨n - 1, ⟨by omega, hcs.symm⟩, by omega, rfl, ⟨.of_eq (by rw [← htk]; rfl), trivial⟩, trivial, trivial, rfl⟩
  · rw [if_neg (by omega)] at hcs
    have u2 : ((x : Int) == 0) = false := by simp; omega
    refine pw_seq (pw_seq (pw_region (yMd rfl (yN rfl (yB rfl rfl rfl rfl (yMd rfl ?_)))))); rw [u1]; refine yMd rfl (yMd rfl (yN rfl (yB rfl rfl rfl rfl ?_))); rw [hw]; refine yW ex (by omega) rfl rfl ?_; refine yLr rfl rfl (yB rfl rfl rfl rfl (yPd rfl rfl (yQ (q_then ?_)))); rw [u2]; refine pw_cf rfl (pw_exit (pw_seq (pw_region (yMd rfl (yAd rfl (yQ (pw_ret ?_)))))))
    rw [hcs]
    exact q_ret _ (.tmp rfl .nil) rfl
def ordR (l r : List Nat) : Int := if l.length < r.length then -1 else if r.length < l.length then 1 else cmpT l r l.length
theorem ordR_ge (x y : Nat) : (0 ≤ ordR (grp x) (grp y)) ↔ y ≤ x := by
  unfold ordR
  by_cases h1 : (grp x).length < (grp y).length
  · rw [if_pos h1]
    have := grp_lt_of_len h1
    omega
  · rw [if_neg h1]
    by_cases h2 : (grp y).length < (grp x).length
    · rw [if_pos h2]
      have := grp_lt_of_len h2
      omega
    · rw [if_neg h2, cmpT_spec (gok_grp x) (gok_grp y), List.take_of_length_le (Nat.le_refl _), List.take_of_length_le (by omega), gval_grp, gval_grp]
      split
      · omega
      · split <;> omega
set_option maxRecDepth 20000 in
set_option maxHeartbeats 2000000 in
theorem wOrder (l r : List Nat) (hl : l.length ≤ 1000000) : PCalls Tryz.prog 109 [.sl 1 (l.map dJ), .sl 1 (r.map dJ)] (.d (dI (ordR l r))) := by
  unfold ordR
  by_cases h1 : l.length < r.length
  · rw [if_pos h1]
    have u1 : (((l.map dJ).length : Int) != ((r.map dJ).length : Int)) = true := by simp; omega
    have u2 : decide (((l.map dJ).length : Int) < ((r.map dJ).length : Int)) = true := decide_eq_true (by simp; omega)
    refine pcalls_of_pw Tryz.func109 rfl Tryz.ntmps109 Tryz.results109 (by simp) fun B w0 => ?_
    refine pw_seq (pw_region (yAd rfl (yQ (pw_seq (pw_seq (pw_region (yMd rfl (yN rfl (yMd rfl ?_))))))))); refine yN rfl (yB rfl rfl rfl rfl (yQ (q_then ?_))); rw [u1]; refine pw_ct rfl (pw_seq (pw_seq (pw_region (yMd rfl (yN rfl (yMd rfl (yN rfl (yB rfl rfl rfl rfl (yQ ?_))))))))); refine q_then ?_; rw [u2]; refine pw_ct rfl (pw_seq (pw_region (yAd rfl (yQ (pw_ret (q_then_ret (q_then_ret ?_)))))))
    exact q_ret _ (.tmp rfl .nil) rfl
  rw [if_neg h1]
  by_cases h2 : r.length < l.length
  · rw [if_pos h2]
    have u1 : (((l.map dJ).length : Int) != ((r.map dJ).length : Int)) = true := by simp; omega
    have u2 : decide (((l.map dJ).length : Int) < ((r.map dJ).length : Int)) = false := decide_eq_false (by simp; omega)
    refine pcalls_of_pw Tryz.func109 rfl Tryz.ntmps109 Tryz.results109 (by simp) fun B w0 => ?_
    refine pw_seq (pw_region (yAd rfl (yQ (pw_seq (pw_seq (pw_region (yMd rfl (yN rfl (yMd rfl ?_))))))))); refine yN rfl (yB rfl rfl rfl rfl (yQ (q_then ?_))); rw [u1]; refine pw_ct rfl (pw_seq (pw_seq (pw_region (yMd rfl (yN rfl (yMd rfl (yN rfl (yB rfl rfl rfl rfl (yQ ?_))))))))); refine q_then ?_; rw [u2]; refine pw_cf rfl (pw_skip (pw_seq (pw_region (yAd rfl (yQ (pw_ret (q_then_ret ?_)))))))
    exact q_ret _ (.tmp rfl .nil) rfl
  rw [if_neg h2]
  have hlr : l.length = r.length := by omega
  have u1 : (((l.map dJ).length : Int) != ((r.map dJ).length : Int)) = false := by simp; omega
  obtain ⟨z, hz⟩ : ∃ z, z = cmpT l r l.length := ⟨_, rfl⟩
  rw [← hz]
  have hw : IntKind.i64.wrap (((l.map dJ).length : Int) - 1) = (l.length : Int) - 1 := by rw [List.length_map, wrapI _ (by omega)]
  refine pcalls_of_pw Tryz.func109 rfl Tryz.ntmps109 Tryz.results109 (by simp) fun B w0 => ?_
  refine pw_seq (pw_region (yAd rfl (yQ (pw_seq (pw_seq (pw_region (yMd rfl (yN rfl (yMd rfl ?_))))))))); refine yN rfl (yB rfl rfl rfl rfl (yQ (q_then ?_))); rw [u1]; refine pw_cf rfl (pw_skip (pw_seq (pw_seq (pw_region (yMd rfl (yN rfl (yB rfl rfl rfl rfl (yAd rfl (yQ ?_))))))))); refine pw_block ?_; rw [hw]
  refine pw_loop (fun i : Nat => ⟨41, [(0, .d (.sl 1 (l.map dJ))), (1, .d (.sl 1 (r.map dJ))), (5, .d (dI ((i : Int) - 1)))], [], []⟩) (fun i => i ≤ l.length ∧ cmpT l r i = z) (fun i => i) l.length ⟨Nat.le_refl _, hz.symm⟩
    ⟨rfl, ⟨.refl _, .refl _, .refl _, trivial⟩, trivial, trivial, rfl⟩ ?_
  rintro i ⟨hi, hc⟩
  rcases Nat.eq_zero_or_pos i with h0 | h0
  · subst h0
    have hz0 : z = 0 := hc.symm
    subst hz0
    have u2 : decide (((0 : Nat) : Int) - 1 ≥ 0) = false := decide_eq_false (by omega)
    refine pw_seq (pw_seq (pw_region (yMd rfl (yB rfl rfl rfl rfl (yQ (pw_cf rfl (pw_exit (pw_seq (pw_region ?_))))))))); refine yAd rfl (yQ (pw_ret ?_)); rw [u2]
    exact q_ret _ (.tmp rfl .nil) rfl
  obtain ⟨j, rfl⟩ : ∃ j, i = j + 1 := ⟨i - 1, by omega⟩
  have u2 : decide (((j + 1 : Nat) : Int) - 1 ≥ 0) = true := decide_eq_true (by omega)
  obtain ⟨x, hx⟩ : ∃ x, l[j]? = some x := ⟨_, List.getElem?_eq_getElem (by omega)⟩
  obtain ⟨y, hy⟩ : ∃ y, r[j]? = some y := ⟨_, List.getElem?_eq_getElem (by omega)⟩
  have ex := ix dJ l (((j + 1 : Nat) : Int) - 1) j x (by omega) hx
  have ey := ix dJ r (((j + 1 : Nat) : Int) - 1) j y (by omega) hy
  have hn := cmpT_next j hx hy
  rw [hc] at hn
  have hw2 : IntKind.i64.wrap (((j + 1 : Nat) : Int) - 1 - 1) = (j : Int) - 1 := by rw [wrapI _ (by omega)]; omega
  by_cases hxy : x < y
  · rw [if_pos hxy] at hn
    have u3 : decide ((x : Int) < (y : Int)) = true := decide_eq_true (by omega)
    subst hn
    refine pw_seq (pw_seq (pw_region (yMd rfl (yB rfl rfl rfl rfl (yQ (q_then ?_)))))); rw [u2]; refine pw_ct rfl (pw_skip (pw_seq (pw_block (pw_seq (pw_seq ?_))))); refine pw_draw Tryz.mixed (by kernel_rfl) ?_; refine yMd rfl (yMd rfl ?_); refine yW ex (by omega) rfl rfl ?_; refine yLr rfl rfl (yMd rfl (yMd rfl ?_)); refine yW ey (by omega) rfl rfl ?_; refine yLr rfl rfl (yB rfl rfl rfl rfl (yQ (q_then ?_))); rw [u3]; refine pw_ct rfl (pw_seq (pw_region (yAd rfl (yQ (pw_ret (q_then_ret (q_blk_ret (q_then_ret (q_then_ret ?_))))))))); refine q_blk_ret (q_then_ret ?_)
    exact q_ret _ (.tmp rfl .nil) rfl
  rw [if_neg hxy] at hn
  have u3 : decide ((x : Int) < (y : Int)) = false := decide_eq_false (by omega)
  by_cases hyx : y < x
  · rw [if_pos hyx] at hn
    have u4 : decide ((x : Int) > (y : Int)) = true := decide_eq_true (by omega)
    subst hn
    refine pw_seq (pw_seq (pw_region (yMd rfl (yB rfl rfl rfl rfl (yQ (q_then ?_)))))); rw [u2]; refine pw_ct rfl (pw_skip (pw_seq (pw_block (pw_seq (pw_seq ?_))))); refine pw_draw Tryz.mixed (by kernel_rfl) ?_; refine yMd rfl (yMd rfl ?_); refine yW ex (by omega) rfl rfl ?_; refine yLr rfl rfl (yMd rfl (yMd rfl ?_)); refine yW ey (by omega) rfl rfl ?_; refine yLr rfl rfl (yB rfl rfl rfl rfl (yQ (q_then ?_))); rw [u3]; refine pw_cf rfl (pw_skip (pw_seq ?_)); refine pw_draw Tryz.mixed (by kernel_rfl) ?_
    refine yMd rfl (yMd rfl ?_); refine yW ex (by omega) rfl rfl ?_; refine yLr rfl rfl (yMd rfl (yMd rfl ?_)); refine yW ey (by omega) rfl rfl ?_; refine yLr rfl rfl (yB rfl rfl rfl rfl (yQ (q_then ?_))); rw [u4]; refine pw_ct rfl (pw_seq (pw_region (yAd rfl (yQ (pw_ret (q_blk_ret (q_then_ret (q_then_ret (q_blk_ret ?_))))))))); refine q_then_ret ?_
    exact q_ret _ (.tmp rfl .nil) rfl
  rw [if_neg hyx] at hn
  have u4 : decide ((x : Int) > (y : Int)) = false := decide_eq_false (by omega)
  refine pw_seq (pw_seq (pw_region (yMd rfl (yB rfl rfl rfl rfl (yQ (q_then ?_)))))); rw [u2]; refine pw_ct rfl (pw_skip (pw_seq (pw_block (pw_seq (pw_seq ?_))))); refine pw_draw Tryz.mixed (by kernel_rfl) ?_; refine yMd rfl (yMd rfl ?_); refine yW ex (by omega) rfl rfl ?_; refine yLr rfl rfl (yMd rfl (yMd rfl ?_)); refine yW ey (by omega) rfl rfl ?_; refine yLr rfl rfl (yB rfl rfl rfl rfl (yQ (q_then ?_))); rw [u3]; refine pw_cf rfl (pw_skip (pw_seq ?_)); refine pw_draw Tryz.mixed (by kernel_rfl) ?_
  refine yMd rfl (yMd rfl ?_); refine yW ex (by omega) rfl rfl ?_; refine yLr rfl rfl (yMd rfl (yMd rfl ?_)); refine yW ey (by omega) rfl rfl ?_; refine yLr rfl rfl (yB rfl rfl rfl rfl (yQ (q_then ?_))); rw [u4]; refine pw_cf rfl (pw_skip (pw_region (yMd rfl (yB rfl rfl rfl rfl (yAd rfl (yQ (q_then ?_))))))); rw [hw2]
  exact ⟨j, ⟨by omega, hn.symm⟩, by omega, rfl, ⟨.refl _, .refl _, .refl _, trivial⟩, trivial, trivial, rfl⟩

abbrev jT (n : Nat) : Nat := 3 * 100000 + n
theorem addS_end {m n : List Nat} (hm : gok m) (hn : gok n) {i : Nat} (h1 : m.length ≤ i) (h2 : n.length ≤ i) (h3 : (addS m n i).2 = 0) : gok (addS m n i).1 ∧ gval (addS m n i).1 = gval m + gval n := by
  obtain ⟨-, q1, -, q2⟩ := addS_spec hm hn i
  rw [h3, List.take_of_length_le h1, List.take_of_length_le h2] at q2
  exact ⟨q1, by omega⟩
set_option maxRecDepth 20000 in
set_option maxHeartbeats 4000000 in
theorem wPlusJ (m n : List Nat) (hgm : gok m) (hgn : gok n) (hlm : m.length ≤ 100000) (hln : n.length ≤ 100000) : PCalls Tryz.prog 108 [.sl 1 (m.map dJ), .sl 1 (n.map dJ)] (.d (.sl 1 ((grp (gval m + gval n)).map dJ))) := by
  obtain ⟨r, hr⟩ : ∃ r, r = grp (gval m + gval n) := ⟨_, rfl⟩
  rw [← hr]
  have hml : ((m.map dJ).length : Int) = (m.length : Int) := by simp
  have hnl : ((n.map dJ).length : Int) = (n.length : Int) := by simp
  refine pcalls_of_pw Tryz.func108 rfl Tryz.ntmps108 Tryz.results108 (by simp) fun B w0 => ?_
  refine pw_seq (pw_region (yAd rfl (yQ (pw_seq (pw_region (yRt (E := 3) (t := jT 9) (es := []) rfl rfl rfl rfl rfl rfl rfl rfl (yAt rfl (yQ (pw_seq ?_))))))))); refine pw_region (yAd rfl (yQ (pw_seq (pw_seq (pw_region (yAd rfl (yQ (pw_block ?_)))))))); refine pw_loop (fun i : Nat => ⟨44, [(0, .d (.sl 1 (m.map dJ))), (1, .d (.sl 1 (n.map dJ))), (5, .ts (jT 9) 1 ((addS m n i).1.map dJ)), (6, .d (dI (addS m n i).2)), (7, .d (dI i))], [], [(jT 9, ((addS m n i).1.map dJ).length)]⟩) (fun i => i ≤ max m.length n.length + 1 ∧ (i = max m.length n.length + 1 → (addS m n i).2 = 0)) (fun i => max m.length n.length + 1 - i) 0 ⟨Nat.zero_le _, fun h => by omega⟩
    ⟨rfl, ⟨.refl _, .refl _, .refl _, .refl _, .refl _, trivial⟩, trivial, ⟨rfl, trivial⟩, rfl⟩ ?_
  rintro i ⟨hi, hlast⟩
  obtain ⟨h1, h2, h3, -⟩ := addS_spec hgm hgn i
  have hend := addS_end hgm hgn (i := i)
  have hnx := addS_next m n i
  obtain ⟨⟨p, c⟩, hp⟩ : ∃ q, q = addS m n i := ⟨_, rfl⟩
  rw [← hp] at h1 h2 h3 hnx hlast hend ⊢
  simp only at h1 h2 h3 hnx hlast hend ⊢
  have step : (i < m.length ∨ i < n.length ∨ 0 < c) → ∀ b : Bool, True := fun _ _ => trivial
  clear step
  have k1 := wGroup m i
  have k2 := wGroup n i
  have g1 := gat_lt hgm i
  have g2 := gat_lt hgn i
  have gm0 : m.length ≤ i → gat m i = 0 := fun h => gat_ge h
  have gn0 : n.length ≤ i → gat n i = 0 := fun h => gat_ge h
  obtain ⟨x, hx⟩ : ∃ x, x = gat m i := ⟨_, rfl⟩
  obtain ⟨y, hy⟩ : ∃ y, y = gat n i := ⟨_, rfl⟩
  rw [← hx] at k1 g1 gm0 hnx
  rw [← hy] at k2 g2 gn0 hnx
  have w1 : IntKind.i64.wrap ((x : Int) + (y : Int)) = ((x + y : Nat) : Int) := by rw [wrapI _ (by omega)]; omega
  have w2 : IntKind.i64.wrap (((x + y : Nat) : Int) + (c : Int)) = ((x + y + c : Nat) : Int) := by rw [wrapI _ (by omega)]; omega
  have hsw : x + c + y = x + y + c := by omega
  rw [hsw] at hnx
  obtain ⟨s, hs⟩ : ∃ s, s = x + y + c := ⟨_, rfl⟩
  rw [← hs] at w2 hnx
  have wq : IntKind.i64.wrap ((s : Int).tdiv 1000000000) = ((s / 1000000000 : Nat) : Int) := wrapI (((s / 1000000000 : Nat)) : Int) (by omega)
  have w12 : IntKind.i64.wrap ((x : Int) + (y : Int) + (c : Int)) = (s : Int) := by rw [wrapI _ (by omega)]; omega
  have hwi := wrapI ((i : Int) + 1) (by omega)
  have hcar : i = max m.length n.length → s / 1000000000 = 0 := fun e => by
    have := gm0 (by omega)
    have := gn0 (by omega)
    omega
  have hl2 : p.length ≤ 1000000 := by omega
  rcases Nat.lt_or_ge i m.length with hm2 | hm2
  · have t1 : decide ((i : Int) < ((m.map dJ).length : Int)) = true := decide_eq_true (by rw [List.length_map]; omega)
    refine pw_seq (pw_seq (pw_region (yMd rfl (yMd rfl (yN rfl (yB rfl rfl rfl rfl (yMd rfl ?_))))))); rw [t1]; refine yO rfl (yO rfl (yO rfl (yO rfl (yPd rfl rfl (yMd rfl (yO rfl (yO rfl (yPd rfl rfl (yQ ?_))))))))); refine pw_ct rfl (pw_skip (pw_seq (pw_block (pw_seq (pw_region (yMd rfl (yMd rfl (yC (k1) rfl rfl (yMd rfl ?_))))))))); refine yMd rfl (yC (k2) rfl rfl (yB rfl rfl rfl rfl (yMd rfl (yB rfl rfl rfl rfl (yAd rfl (yQ (pw_seq (pw_region (yMt rfl ?_))))))))); refine yMd rfl (yB rfl rfl rfl rfl ?_); refine yR (es := [[_]]) rfl rfl rfl rfl rfl ?_
    refine yT (es' := (p ++ [s % 1000000000]).map dJ) (m := ((p ++ [s % 1000000000]).map dJ).length) (by simp; omega) (by simp; omega) rfl rfl rfl rfl rfl (by simp [w1, w12] <;> rfl) (by simp) ?_; refine yAt rfl (yQ (pw_region (yMd rfl (yB rfl rfl rfl rfl (yAd rfl (yQ (pw_region (yMd rfl (yB rfl rfl rfl rfl ?_))))))))); refine yAd rfl (yQ (q_then ?_)); rw [w1]
    rw [w2]; rw [wq]
    exact ⟨i + 1, ⟨by omega, fun e => by rw [hnx]; exact hcar (by omega)⟩, by omega, rfl, ⟨.refl _, .refl _, .of_eq (by rw [hnx] <;> rfl), .of_eq (by rw [hnx] <;> rfl), .of_eq (congrArg (fun n => SV.d (dI n)) hwi), trivial⟩, trivial, ⟨(by rw [hnx] <;> rfl), trivial⟩, rfl⟩
  have t1 : decide ((i : Int) < ((m.map dJ).length : Int)) = false := decide_eq_false (by rw [List.length_map]; omega)
  rcases Nat.lt_or_ge i n.length with hn2 | hn2
  · have t2 : decide ((i : Int) < ((n.map dJ).length : Int)) = true := decide_eq_true (by rw [List.length_map]; omega)
    refine pw_seq (pw_seq (pw_region (yMd rfl (yMd rfl (yN rfl (yB rfl rfl rfl rfl (yMd rfl ?_))))))); rw [t1]; refine yMd rfl (yMd rfl (yN rfl (yB rfl rfl rfl rfl (yVd rfl rfl (yMd rfl ?_))))); rw [t2]; refine yO rfl (yO rfl (yPd rfl rfl (yQ (pw_ct rfl (pw_skip (pw_seq (pw_block (pw_seq (pw_region ?_))))))))); refine yMd rfl (yMd rfl (yC (k1) rfl rfl (yMd rfl (yMd rfl (yC (k2) rfl rfl (yB rfl rfl rfl rfl (yMd rfl (yB rfl rfl rfl rfl (yAd rfl ?_))))))))); refine yQ (pw_seq (pw_region (yMt rfl (yMd rfl (yB rfl rfl rfl rfl ?_))))); refine yR (es := [[_]]) rfl rfl rfl rfl rfl ?_
    refine yT (es' := (p ++ [s % 1000000000]).map dJ) (m := ((p ++ [s % 1000000000]).map dJ).length) (by simp; omega) (by simp; omega) rfl rfl rfl rfl rfl (by simp [w1, w12] <;> rfl) (by simp) ?_; refine yAt rfl (yQ (pw_region (yMd rfl (yB rfl rfl rfl rfl (yAd rfl (yQ (pw_region (yMd rfl (yB rfl rfl rfl rfl ?_))))))))); refine yAd rfl (yQ (q_then ?_)); rw [w1]
    rw [w2]; rw [wq]
    exact ⟨i + 1, ⟨by omega, fun e => by rw [hnx]; exact hcar (by omega)⟩, by omega, rfl, ⟨.refl _, .refl _, .of_eq (by rw [hnx] <;> rfl), .of_eq (by rw [hnx] <;> rfl), .of_eq (congrArg (fun n => SV.d (dI n)) hwi), trivial⟩, trivial, ⟨(by rw [hnx] <;> rfl), trivial⟩, rfl⟩
  have t2 : decide ((i : Int) < ((n.map dJ).length : Int)) = false := decide_eq_false (by rw [List.length_map]; omega)
  rcases Nat.eq_zero_or_pos c with hc | hc
  · subst hc
    have k3 := wTrimJ p (by omega)
    obtain ⟨e1, e2⟩ := hend hm2 hn2 rfl
    rw [cutG_grp e1, e2, ← hr] at k3
    refine pw_seq (pw_seq (pw_region (yMd rfl (yMd rfl (yN rfl (yB rfl rfl rfl rfl (yMd rfl ?_))))))); rw [t1]; refine yMd rfl (yMd rfl (yN rfl (yB rfl rfl rfl rfl (yVd rfl rfl (yMd rfl ?_))))); rw [t2]; refine yMd rfl (yB rfl rfl rfl rfl (yVd rfl rfl (yQ (pw_cf rfl (pw_exit (pw_seq (pw_region (yMt rfl (yC (k3) rfl rfl ?_))))))))); refine yAd rfl (yQ (pw_ret ?_))
    exact q_ret _ (.tmp rfl .nil) rfl
  · have t3 : decide ((c : Int) > 0) = true := decide_eq_true (by omega)
    have hi2 : i = max m.length n.length := by
      rcases Nat.lt_or_ge i (max m.length n.length + 1) with h | h
      · omega
      · have := hlast (by omega); omega
    refine pw_seq (pw_seq (pw_region (yMd rfl (yMd rfl (yN rfl (yB rfl rfl rfl rfl (yMd rfl ?_))))))); rw [t1]; refine yMd rfl (yMd rfl (yN rfl (yB rfl rfl rfl rfl (yVd rfl rfl (yMd rfl ?_))))); rw [t2]; refine yMd rfl (yB rfl rfl rfl rfl (yVd rfl rfl (yQ (q_then ?_)))); rw [t3]; refine pw_ct rfl (pw_skip (pw_seq (pw_block (pw_seq (pw_region (yMd rfl (yMd rfl (yC (k1) rfl rfl (yMd rfl ?_))))))))); refine yMd rfl (yC (k2) rfl rfl (yB rfl rfl rfl rfl (yMd rfl (yB rfl rfl rfl rfl (yAd rfl (yQ (pw_seq (pw_region (yMt rfl ?_))))))))); refine yMd rfl (yB rfl rfl rfl rfl ?_); refine yR (es := [[_]]) rfl rfl rfl rfl rfl ?_
    refine yT (es' := (p ++ [s % 1000000000]).map dJ) (m := ((p ++ [s % 1000000000]).map dJ).length) (by simp; omega) (by simp; omega) rfl rfl rfl rfl rfl (by simp [w1, w12] <;> rfl) (by simp) ?_; refine yAt rfl (yQ (pw_region (yMd rfl (yB rfl rfl rfl rfl (yAd rfl (yQ (pw_region (yMd rfl (yB rfl rfl rfl rfl ?_))))))))); refine yAd rfl (yQ (q_then ?_)); rw [w1]
    rw [w2]; rw [wq]
    exact ⟨i + 1, ⟨by omega, fun e => by rw [hnx]; exact hcar hi2⟩, by omega, rfl, ⟨.refl _, .refl _, .of_eq (by rw [hnx] <;> rfl), .of_eq (by rw [hnx] <;> rfl), .of_eq (congrArg (fun n => SV.d (dI n)) hwi), trivial⟩, trivial, ⟨(by rw [hnx] <;> rfl), trivial⟩, rfl⟩

set_option maxRecDepth 20000 in
set_option maxHeartbeats 4000000 in
theorem wMinusJ (m n : List Nat) (hgm : gok m) (hgn : gok n) (hle : n.length ≤ m.length) (hv : gval n ≤ gval m) (hlm : m.length ≤ 100000) : PCalls Tryz.prog 110 [.sl 1 (m.map dJ), .sl 1 (n.map dJ)] (.d (.sl 1 ((grp (gval m - gval n)).map dJ))) := by
  obtain ⟨r, hr⟩ : ∃ r, r = grp (gval m - gval n) := ⟨_, rfl⟩
  rw [← hr]
  obtain ⟨s1, s2⟩ := subS_end hgm hgn hle hv
  refine pcalls_of_pw Tryz.func110 rfl Tryz.ntmps110 Tryz.results110 (by simp) fun B w0 => ?_
  refine pw_seq (pw_region (yAd rfl (yQ (pw_seq (pw_region (yRt (E := 3) (t := jT 9) (es := []) rfl rfl rfl rfl rfl rfl rfl rfl (yAt rfl (yQ (pw_seq ?_))))))))); refine pw_region (yAd rfl (yQ (pw_seq (pw_seq (pw_region (yAd rfl (yQ (pw_block ?_)))))))); refine pw_loop (fun i : Nat => ⟨36, [(0, .d (.sl 1 (m.map dJ))), (1, .d (.sl 1 (n.map dJ))), (5, .ts (jT 9) 1 ((subS m n i).1.map dJ)), (6, .d (dI (subS m n i).2)), (7, .d (dI i))], [], [(jT 9, ((subS m n i).1.map dJ).length)]⟩) (fun i => i ≤ m.length) (fun i => m.length - i) 0 (Nat.zero_le _)
    ⟨rfl, ⟨.refl _, .refl _, .refl _, .refl _, .refl _, trivial⟩, trivial, ⟨rfl, trivial⟩, rfl⟩ ?_
  intro i hi
  obtain ⟨h1, h2, h3, -⟩ := subS_spec hgm hgn i
  have hnx := subS_next m n i
  rcases Nat.lt_or_ge i m.length with hi2 | hi2
  rotate_left
  · obtain rfl : i = m.length := by omega
    have t1 : decide ((m.length : Int) < ((m.map dJ).length : Int)) = false := decide_eq_false (by rw [List.length_map]; omega)
    have k3 := wTrimJ (subS m n m.length).1 (by omega)
    rw [cutG_grp s1, s2, ← hr] at k3
    obtain ⟨⟨p, c⟩, hp⟩ : ∃ q, q = subS m n m.length := ⟨_, rfl⟩
    rw [← hp] at k3 ⊢
    refine pw_seq (pw_seq (pw_region (yMd rfl (yMd rfl (yN rfl (yB rfl rfl rfl rfl (yQ (q_then ?_)))))))); rw [t1]; refine pw_cf rfl (pw_exit (pw_seq (pw_region (yMt rfl (yC (k3) rfl rfl (yAd rfl (yQ (pw_ret ?_))))))))
    exact q_ret _ (.tmp rfl .nil) rfl
  obtain ⟨⟨p, c⟩, hp⟩ : ∃ q, q = subS m n i := ⟨_, rfl⟩
  rw [← hp] at h1 h2 h3 hnx ⊢
  simp only at h1 h2 h3 hnx ⊢
  have t1 : decide ((i : Int) < ((m.map dJ).length : Int)) = true := decide_eq_true (by rw [List.length_map]; omega)
  have k2 := wGroup n i
  obtain ⟨x, hx⟩ : ∃ x, m[i]? = some x := ⟨_, List.getElem?_eq_getElem hi2⟩
  have ex := ix dJ m (i : Int) i x rfl hx
  have g1 : x < 1000000000 := hgm x (List.mem_of_getElem? hx)
  have g2 := gat_lt hgn i
  rw [gat_get hx] at hnx
  obtain ⟨y, hy⟩ : ∃ y, y = gat n i := ⟨_, rfl⟩
  rw [← hy] at k2 g2 hnx
  have w1 : IntKind.i64.wrap ((x : Int) - (y : Int)) = (x : Int) - (y : Int) := wrapI _ (by omega)
  have w2 : IntKind.i64.wrap ((x : Int) - (y : Int) - (c : Int)) = (x : Int) - (y : Int) - (c : Int) := wrapI _ (by omega)
  have hwi := wrapI ((i : Int) + 1) (by omega)
  have hl2 : p.length ≤ 1000000 := by omega
  by_cases hlt : x < c + y
  · rw [if_pos hlt] at hnx
    have t2 : decide ((x : Int) - (y : Int) - (c : Int) < 0) = true := decide_eq_true (by omega)
    have w3 : IntKind.i64.wrap ((x : Int) - (y : Int) - (c : Int) + 1000000000) = ((x + 1000000000 - (c + y) : Nat) : Int) := by rw [wrapI _ (by omega)]; omega
    obtain ⟨v, hv2⟩ : ∃ v, v = x + 1000000000 - (c + y) := ⟨_, rfl⟩
    rw [← hv2] at w3 hnx
    refine pw_seq (pw_seq (pw_region (yMd rfl (yMd rfl (yN rfl (yB rfl rfl rfl rfl (yQ (q_then ?_)))))))); rw [t1]; refine pw_ct rfl (pw_skip (pw_seq (pw_block (pw_seq ?_)))); refine pw_draw Tryz.mixed (by kernel_rfl) ?_; refine yMd rfl (yMd rfl ?_); refine yW ex (by omega) rfl rfl ?_; refine yLr rfl rfl (yMd rfl (yMd rfl (yC (k2) rfl rfl (yB rfl rfl rfl rfl (yMd rfl (yB rfl rfl rfl rfl (yAd rfl (yQ (pw_seq ?_))))))))); refine pw_region (yAd rfl (yQ (pw_seq (pw_seq (pw_region (yMd rfl (yB rfl rfl rfl rfl (yQ (q_then ?_))))))))); rw [w1]; rw [w2]; rw [t2]; refine pw_ct rfl (pw_seq (pw_region (yMd rfl (yB rfl rfl rfl rfl (yAd rfl (yQ (pw_region (yAd rfl (yQ ?_))))))))); refine pw_region (yMt rfl (yMd rfl ?_)); refine yR (es := [[_]]) rfl rfl rfl rfl rfl ?_; refine yT (es' := (p ++ [v]).map dJ) (m := ((p ++ [v]).map dJ).length) (by simp; omega) (by simp; omega) rfl rfl rfl rfl rfl (by simp [w3]) (by simp) ?_; refine yAt rfl (yQ (pw_region (yMd rfl (yB rfl rfl rfl rfl (yAd rfl (yQ (q_then ?_))))))); rw [w3]
    exact ⟨i + 1, by omega, by omega, rfl, ⟨.refl _, .refl _, .of_eq (by rw [hnx] <;> rfl), .of_eq (by rw [hnx] <;> rfl), .of_eq (congrArg (fun n => SV.d (dI n)) hwi), trivial⟩, trivial, ⟨(by rw [hnx] <;> rfl), trivial⟩, rfl⟩
  · rw [if_neg hlt] at hnx
    have t2 : decide ((x : Int) - (y : Int) - (c : Int) < 0) = false := decide_eq_false (by omega)
    have w3 : (x : Int) - (y : Int) - (c : Int) = ((x - (c + y) : Nat) : Int) := by omega
    obtain ⟨v, hv2⟩ : ∃ v, v = x - (c + y) := ⟨_, rfl⟩
    rw [← hv2] at w3 hnx
    have w2 := w2.trans w3
    rw [w3] at t2
    refine pw_seq (pw_seq (pw_region (yMd rfl (yMd rfl (yN rfl (yB rfl rfl rfl rfl (yQ (q_then ?_)))))))); rw [t1]; refine pw_ct rfl (pw_skip (pw_seq (pw_block (pw_seq ?_)))); refine pw_draw Tryz.mixed (by kernel_rfl) ?_; refine yMd rfl (yMd rfl ?_); refine yW ex (by omega) rfl rfl ?_; refine yLr rfl rfl (yMd rfl (yMd rfl (yC (k2) rfl rfl (yB rfl rfl rfl rfl (yMd rfl (yB rfl rfl rfl rfl (yAd rfl (yQ (pw_seq ?_))))))))); refine pw_region (yAd rfl (yQ (pw_seq (pw_seq (pw_region (yMd rfl (yB rfl rfl rfl rfl (yQ (q_then ?_))))))))); rw [w1]; rw [w2]; refine pw_cf rfl (pw_skip (pw_region (yMt rfl (yMd rfl ?_)))); refine yR (es := [[_]]) rfl rfl rfl rfl rfl ?_
    refine yT (es' := (p ++ [v]).map dJ) (m := ((p ++ [v]).map dJ).length) (by simp; omega) (by simp; omega) rfl rfl rfl rfl rfl (by simp) (by simp) ?_; refine yAt rfl (yQ (pw_region (yMd rfl (yB rfl rfl rfl rfl (yAd rfl (yQ (q_then ?_))))))); rw [t2]
    exact ⟨i + 1, by omega, by omega, rfl, ⟨.refl _, .refl _, .of_eq (by rw [hnx] <;> rfl), .of_eq (by rw [hnx] <;> rfl), .of_eq (congrArg (fun n => SV.d (dI n)) hwi), trivial⟩, trivial, ⟨(by rw [hnx] <;> rfl), trivial⟩, rfl⟩
end Go.Proofs.YtkfoogabijnamaaGreatDoor
namespace Go.Proofs.YtkfoogabijnamaaGreatDoor
open Go.RowKit Px

abbrev vJ (l : List Nat) : List Value := l.map fun x : Nat => Value.int .i64 (x : Int)
abbrev cJ (l : List Nat) : List SV := (vJ l).map fun u => SV.d (.val u)
structure MulOk (m n : List Nat) (i : Nat) (O : List Nat) : Prop where
  len : O.length = m.length + n.length
  ok : gok O
  val : gval O = gval (m.take i) * gval n
  hi : ∀ j, i + n.length ≤ j → gat O j = 0
theorem MulOk.zero (m n : List Nat) : MulOk m n 0 (List.replicate (m.length + n.length) 0) :=
  ⟨by simp, fun x hx => by rw [List.eq_of_mem_replicate hx]; omega, by simp [gval_zeros, gval], fun j _ => by
    simp only [gat, List.getElem?_replicate]
    split <;> rfl⟩
theorem MulOk.next {m n O : List Nat} {i x k : Nat} (h : MulOk m n i O) (hm : gok m) (hn : gok n) (hx : m[i]? = some x) (hk : n.length ≤ k) (hk2 : k ≤ n.length + 1) (hc : (mulI O x n i k).2 = 0) (hi : i < m.length) : MulOk m n (i + 1) (mulI O x n i k).1 := by
  have hx9 : x < 1000000000 := hm x (List.mem_of_getElem? hx)
  obtain ⟨q1, q2, -, q4, q5⟩ := mulI_spec (i := i) h.ok hn hx9 k (by rw [h.len]; omega)
  rw [hc, List.take_of_length_le hk, Nat.mul_zero, Nat.add_zero] at q4
  refine ⟨q1.trans h.len, q2, ?_, fun j hj => ?_⟩
  · rw [q4, h.val, gval_take, gat_get hx, Nat.add_mul, Nat.mul_assoc]
  · rw [q5 j (by omega)]
    exact h.hi j (by omega)
end Go.Proofs.YtkfoogabijnamaaGreatDoor
namespace Go.Proofs.YtkfoogabijnamaaGreatDoor
open Go.RowKit Px

theorem enc_dig {r : Nat} (h : r < 10) : Utf8.encode (48 + (r : Int)) = ByteArray.mk ([dig r] : Str).toArray := by
  have : r = 0 ∨ r = 1 ∨ r = 2 ∨ r = 3 ∨ r = 4 ∨ r = 5 ∨ r = 6 ∨ r = 7 ∨ r = 8 ∨ r = 9 := by omega
  rcases this with rfl | rfl | rfl | rfl | rfl | rfl | rfl | rfl | rfl | rfl <;> rfl
theorem wrap32 {r : Nat} (h : r < 10) : IntKind.i32.wrap (48 + (r : Int)) = 48 + (r : Int) := by
  have : r = 0 ∨ r = 1 ∨ r = 2 ∨ r = 3 ∨ r = 4 ∨ r = 5 ∨ r = 6 ∨ r = 7 ∨ r = 8 ∨ r = 9 := by omega
  rcases this with rfl | rfl | rfl | rfl | rfl | rfl | rfl | rfl | rfl | rfl <;> rfl
set_option maxRecDepth 20000 in
set_option maxHeartbeats 1000000 in
theorem wROf (n : Int) (h0 : -9223372036854775808 ≤ n) (h1 : n ≤ 9223372036854775807) : PCalls Tryz.prog 83 [dI n] (.d (dS (canon n))) := by
  refine pcalls_of_pw Tryz.func83 rfl Tryz.ntmps83 Tryz.results83 (by simp) fun B w0 => ?_
  cases t1 : (n == 0) with
  | true =>
    have e : n = 0 := by simpa using t1
    subst e
    rw [show canon 0 = [] from by unfold canon; simp [dec_zero]]
    refine pw_seq (pw_region (yAd rfl (yQ (pw_seq (pw_seq (pw_region (yMd rfl (yB rfl rfl rfl rfl (yQ ?_))))))))); refine pw_ct rfl (pw_seq (pw_region (yAd rfl (yQ (pw_ret (q_then_ret ?_))))))
    exact q_ret _ (.tmp rfl .nil) rfl
  | false =>
  have hn : n ≠ 0 := by simpa using t1
  refine pw_seq (pw_region (yAd rfl (yQ (pw_seq (pw_seq (pw_region (yMd rfl (yB rfl rfl rfl rfl (yQ ?_))))))))); refine q_then ?_; rw [t1]
  refine pw_cf rfl (pw_skip (pw_seq (pw_region (yAd rfl (yQ (pw_seq (pw_seq (pw_region (yMd rfl ?_))))))))); refine yAd rfl (yQ (pw_block ?_)); refine pw_loop (fun p : Nat × Str => ⟨30, [(0, .d (dI n)), (3, .d (dS p.2)), (4, .d (dI (sg (decide (n < 0)) p.1)))], [], []⟩) (fun p => p.1 ≤ n.natAbs ∧ dec n.natAbs = dec p.1 ++ p.2) (fun p => p.1) (n.natAbs, []) ⟨Nat.le_refl _, by simp⟩ ⟨rfl, ⟨.refl _, .refl _, .of_eq (congrArg (fun n => SV.d (dI n)) (sg_of n)), trivial⟩, trivial, trivial, rfl⟩ ?_
  rintro ⟨m, t⟩ ⟨hm, ht⟩
  simp only at hm ht
  have hlen : t.length ≤ 20 := by
    have h5 := dec_len20 (n := n.natAbs) (by omega)
    rw [ht] at h5
    simp at h5
    omega
  obtain ⟨b, hb⟩ : ∃ b, b = decide (n < 0) := ⟨_, rfl⟩
  have hq := sg_quo b m
  have hr := sg_rem b m
  simp only [← hb]
  by_cases h2 : m = 0
  · subst h2
    rw [dec_zero, List.nil_append] at ht
    have t2 : (sg b 0 != 0) = false := by cases b <;> rfl
    have hc : canon n = if n < 0 then 45 :: t else t := by unfold canon; rw [ht]
    by_cases h3 : n < 0
    · have t3 : decide (n < 0) = true := decide_eq_true h3
      rw [hc, if_pos h3]
      refine pw_seq (pw_seq (pw_region (yMd rfl (yB rfl rfl rfl rfl (yQ (q_then ?_)))))); rw [t2]; refine pw_cf rfl (pw_exit (pw_seq (pw_seq (pw_region (yMd rfl (yB rfl rfl rfl rfl (yQ (q_then ?_)))))))); rw [t3]; refine pw_ct rfl (pw_region (yMd rfl ?_)); refine yBsa (l1 := [45]) (by simp; omega) rfl rfl ?_
      refine yAd rfl (yQ (pw_seq (pw_region (yMd rfl (yAd rfl (yQ (pw_ret ?_)))))))
      exact q_ret _ (.tmp rfl .nil) rfl
    · have t3 : decide (n < 0) = false := decide_eq_false h3
      rw [hc, if_neg h3]
      refine pw_seq (pw_seq (pw_region (yMd rfl (yB rfl rfl rfl rfl (yQ (q_then ?_)))))); rw [t2]; refine pw_cf rfl (pw_exit (pw_seq (pw_seq (pw_region (yMd rfl (yB rfl rfl rfl rfl (yQ (q_then ?_)))))))); rw [t3]; refine pw_cf rfl (pw_skip (pw_seq (pw_region (yMd rfl (yAd rfl (yQ (pw_ret ?_)))))))
      exact q_ret _ (.tmp rfl .nil) rfl
  · have t2 : (sg b m != 0) = true := by
      have := (sg_zero b m)
      simp [this, h2]
    have hdec : dec n.natAbs = dec (m / 10) ++ (dig (m % 10) :: t) := by rw [ht, dec_pos h2]; simp
    have hr10 : m % 10 < 10 := Nat.mod_lt _ (by omega)
    obtain ⟨r, hr2⟩ : ∃ r, r = m % 10 := ⟨_, rfl⟩
    rw [← hr2] at hr hdec hr10
    have henc := enc_dig hr10
    have hw48 : IntKind.i64.wrap (48 + (r : Int)) = 48 + (r : Int) := wrapI _ (by omega)
    have hw32 : IntKind.i32.wrap (48 + (r : Int)) = 48 + (r : Int) := wrap32 hr10
    have hmu : m / 10 < m := by omega
    have hwq : IntKind.i64.wrap (sg b (m / 10)) = sg b (m / 10) := wrapI _ (by unfold sg; cases b <;> simp <;> omega)
    by_cases h3 : sg b r < 0
    · have hb2 : b = true := by
        cases b with
        | true => rfl
        | false => unfold sg at h3; simp at h3; omega
      have t3 : decide (sg b r < 0) = true := decide_eq_true h3
      have hneg : IntKind.i64.wrap (0 - sg b r) = (r : Int) := by
        rw [hb2]; unfold sg; simp only [if_true]; rw [Int.zero_sub, Int.neg_neg]; exact wrapI _ (by omega)
      refine pw_seq (pw_seq (pw_region (yMd rfl (yB rfl rfl rfl rfl (yQ (q_then ?_)))))); rw [t2]; refine pw_ct rfl (pw_skip (pw_seq (pw_block (pw_seq (pw_region (yMd rfl (yB rfl rfl rfl rfl (yAd rfl (yQ ?_))))))))); refine pw_seq (pw_seq (pw_region (yMd rfl (yB rfl rfl rfl rfl (yQ (q_then ?_)))))); rw [hr]; rw [t3]; refine pw_ct rfl (pw_region (yMd rfl (yU rfl rfl rfl (yAd rfl (yQ (pw_region (yMd rfl (yB rfl rfl rfl rfl (yJ rfl ?_))))))))); rw [hneg]; rw [hw48]; rw [hw32]; refine yJs henc rfl (yMd rfl ?_); refine yBsa (l1 := [dig r]) (by simp; omega) rfl rfl ?_; refine yAd rfl (yQ (pw_region (yMd rfl (yB rfl rfl rfl rfl (yAd rfl (yQ (q_then ?_))))))); rw [hq]; rw [hwq]
      refine ⟨(m / 10, dig r :: t), ⟨by simp only; omega, by rw [hdec]⟩, hmu, rfl, ⟨.refl _, .refl _, .refl _, trivial⟩, trivial, trivial, rfl⟩
    · have t3 : decide (sg b r < 0) = false := decide_eq_false h3
      have hpos : sg b r = (r : Int) := by
        cases b with
        | false => rfl
        | true => unfold sg at h3 ⊢; simp at h3 ⊢; omega
      refine pw_seq (pw_seq (pw_region (yMd rfl (yB rfl rfl rfl rfl (yQ (q_then ?_)))))); rw [t2]; refine pw_ct rfl (pw_skip (pw_seq (pw_block (pw_seq (pw_region (yMd rfl (yB rfl rfl rfl rfl (yAd rfl (yQ ?_))))))))); refine pw_seq (pw_seq (pw_region (yMd rfl (yB rfl rfl rfl rfl (yQ (q_then ?_)))))); rw [hr]; rw [t3]; refine pw_cf rfl (pw_skip (pw_region (yMd rfl (yB rfl rfl rfl rfl (yJ rfl ?_))))); rw [hpos]; rw [hw48]; rw [hw32]
      refine yJs henc rfl (yMd rfl ?_); refine yBsa (l1 := [dig r]) (by simp; omega) rfl rfl ?_; refine yAd rfl (yQ (pw_region (yMd rfl (yB rfl rfl rfl rfl (yAd rfl (yQ (q_then ?_))))))); rw [hq]; rw [hwq]
      refine ⟨(m / 10, dig r :: t), ⟨by simp only; omega, by rw [hdec]⟩, hmu, rfl, ⟨.refl _, .refl _, .refl _, trivial⟩, trivial, trivial, rfl⟩
theorem natOf_take {t : Str} (h : t.all isD = true) (h17 : t.length ≤ 17) (i : Nat) : natOf (t.take i) < 100000000000000000 := by
  have h1 : (t.take i).all isD = true := by
    rw [List.all_eq_true] at h ⊢
    exact fun x hx => h x (List.mem_of_mem_take hx)
  have h2 := natOf_lt h1
  have h3 : (10 : Nat) ^ (t.take i).length ≤ 10 ^ 17 := Nat.pow_le_pow_right (by decide) (by rw [List.length_take]; omega)
  have e17 : (10 : Nat) ^ 17 = 100000000000000000 := by decide
  omega
set_option maxRecDepth 20000 in
set_option maxHeartbeats 1000000 in
theorem wRShort (a : Str) (ha : a.length ≤ 1000000) (h17 : (dgs a).1.length ≤ 17) : PCalls Tryz.prog 82 [dS a] (.tup [dI (val a), dB true]) := by
  have c1 := wRDigits a (by omega)
  have hD := dgs_all a
  have hv : val a = if (dgs a).2 then -(natOf (dgs a).1 : Int) else natOf (dgs a).1 := rfl
  obtain ⟨r, hr⟩ : ∃ r, r = val a := ⟨_, rfl⟩
  obtain ⟨⟨t, b⟩, ht⟩ : ∃ p, p = dgs a := ⟨_, rfl⟩
  rw [← hr] at hv ⊢
  rw [← ht] at c1 hD hv h17
  simp only at c1 hD hv h17
  have hnt := natOf_take hD h17
  have hdv : ∀ (i : Nat) c, t[i]? = some c → 48 ≤ c.toNat ∧ c.toNat ≤ 57 := fun i c hc => by
    rw [List.all_eq_true] at hD
    have := hD c (List.mem_of_getElem? hc)
    unfold isD at this
    simpa using this
  clear ht hr
  have u0 : decide ((t.length : Int) > 17) = false := decide_eq_false (by omega)
  refine pcalls_of_pw Tryz.func82 rfl Tryz.ntmps82 Tryz.results82 (by simp) fun B w0 => ?_
  refine pw_seq (pw_region (yAd rfl (yAd rfl (yQ (pw_seq (pw_region (yMd rfl (yC (c1) rfl rfl (yMp rfl ?_))))))))); refine yX rfl rfl (yX rfl rfl (yAd rfl (yAd rfl (yQ (pw_seq (pw_seq (pw_region (yMd rfl (yNs rfl ?_))))))))); refine yB rfl rfl rfl rfl (yQ (q_then ?_))
  rw [u0]; refine pw_cf rfl ?_; refine pw_skip ?_; refine pw_seq ?_; refine pw_region ?_; refine yAd rfl ?_; refine yQ ?_; refine pw_seq ?_; refine pw_seq ?_; refine pw_region ?_; refine yAd rfl ?_; refine yQ ?_; refine pw_block ?_
  refine pw_loop (fun i : Nat => ⟨34, [(4, .d (dS t)), (5, .d (dB b)), (6, .d (dI (natOf (t.take i)))), (7, .d (dI i))], [], []⟩) (fun i => i ≤ t.length) (fun i => t.length - i) 0 (Nat.zero_le _) ⟨rfl, ⟨.refl _, .refl _, .refl _, .refl _, trivial⟩, trivial, trivial, rfl⟩ ?_
  intro i hi
  rcases Nat.lt_or_ge i t.length with h | h
  · have u1 : decide ((i : Int) < (t.length : Int)) = true := decide_eq_true (by omega)
    obtain ⟨c, hc⟩ : ∃ c, t[i]? = some c := ⟨_, List.getElem?_eq_getElem h⟩
    have hci : t[((i : Int)).toNat]? = some c := by rw [Int.toNat_natCast]; exact hc
    obtain ⟨d1, d2⟩ := hdv i c hc
    have hn := hnt i
    have hnx : natOf (t.take (i + 1)) = 10 * natOf (t.take i) + dv c := by rw [List.take_add_one, hc]; exact natOf_snoc _ _
    obtain ⟨n, hnn⟩ : ∃ n, n = natOf (t.take i) := ⟨_, rfl⟩
    rw [← hnn] at hn hnx ⊢
    have w1 : IntKind.i64.wrap (10 * (n : Int)) = 10 * (n : Int) := wrapI _ (by omega)
    have w2 : IntKind.u8.wrap ((c.toNat : Int) - 48) = (dv c : Int) := by
      rw [IntKind.wrap_u8]
      unfold dv
      omega
    have hd9 : dv c ≤ 9 := by unfold dv; omega
    have w3 : IntKind.i64.wrap (dv c : Int) = (dv c : Int) := wrapI _ (by omega)
    have w4 : IntKind.i64.wrap (10 * (n : Int) + (dv c : Int)) = ((10 * n + dv c : Nat) : Int) := by rw [wrapI _ (by omega)]; omega
    have w5 := wrapI ((i : Int) + 1) (by omega)
    refine pw_seq (pw_seq (pw_region (yMd rfl (yMd rfl (yNs rfl (yB rfl rfl rfl rfl (yQ (q_then ?_)))))))); rw [u1]; refine pw_ct rfl (pw_skip (pw_seq (pw_block (pw_region (yMd rfl (yB rfl rfl rfl rfl (yMd rfl (yMd rfl ?_)))))))); refine yIs hci (by omega) rfl rfl ?_; refine yB rfl rfl rfl rfl (yJ rfl (yB rfl rfl rfl rfl (yAd rfl (yQ (pw_region (yMd rfl (yB rfl rfl rfl rfl (yAd rfl (yQ ?_))))))))); refine q_then ?_; rw [w1]; rw [w2]; rw [w3]; rw [w4]
    exact ⟨i + 1, by omega, by omega, rfl, ⟨.refl _, .refl _, .of_eq (by rw [hnx]; rfl), .of_eq (congrArg (fun n => SV.d (dI n)) w5), trivial⟩, trivial, trivial, rfl⟩
  have u1 : decide ((i : Int) < (t.length : Int)) = false := decide_eq_false (by omega)
  have hn := hnt i
  obtain rfl : i = t.length := by omega
  rw [List.take_length] at hn ⊢
  cases b with
  | true =>
    rw [if_pos rfl] at hv
    have w1 : IntKind.i64.wrap (0 - (natOf t : Int)) = -(natOf t : Int) := by rw [wrapI _ (by omega)]; omega
    refine pw_seq (pw_seq (pw_region (yMd rfl (yMd rfl (yNs rfl (yB rfl rfl rfl rfl (yQ (q_then ?_)))))))); rw [u1]; refine pw_cf rfl (pw_exit (pw_seq (pw_seq (pw_region (yMd rfl (yQ (pw_ct rfl (pw_region (yMd rfl ?_))))))))); refine yU rfl rfl rfl (yAd rfl (yQ (pw_seq (pw_region (yMd rfl (yAd rfl (yAd rfl (yQ (pw_ret ?_))))))))); rw [w1]
    rw [hv]
    exact q_ret _ (.tmp rfl (.tmp rfl .nil)) rfl
  | false =>
    rw [if_neg (by decide)] at hv
    refine pw_seq (pw_seq (pw_region (yMd rfl (yMd rfl (yNs rfl (yB rfl rfl rfl rfl (yQ (q_then ?_)))))))); rw [u1]; refine pw_cf rfl (pw_exit (pw_seq (pw_seq (pw_region (yMd rfl (yQ (pw_cf rfl (pw_skip (pw_seq ?_))))))))); refine pw_region (yMd rfl (yAd rfl (yAd rfl (yQ (pw_ret ?_)))))
    rw [hv]
    exact q_ret _ (.tmp rfl (.tmp rfl .nil)) rfl
set_option maxRecDepth 20000 in
set_option maxHeartbeats 1000000 in
theorem wRNeg (a : Str) (ha : a.length ≤ 1000000) : PCalls Tryz.prog 89 [dS a] (.d (dS (canon (-val a)))) := by
  have c1 := wRDigits a (by omega)
  have hv : val a = if (dgs a).2 then -(natOf (dgs a).1 : Int) else natOf (dgs a).1 := rfl
  have hd : dec (natOf (dgs a).1) = (dgs a).1 := dec_natOf (dgs_all a) (dgs_head a)
  have hdn : (dgs a).2 = true → (dgs a).1 ≠ [] := dgs_neg
  have hl : (dgs a).1.length ≤ 1000000 := by
    have hb : (bod a).length ≤ a.length := by unfold bod; split <;> simp
    have h2 : (dgs a).1.length ≤ a.length := by
      unfold dgs
      split
      · exact Nat.le_trans (List.dropWhile_suffix _).length_le hb
      · simp
    omega
  obtain ⟨r, hr⟩ : ∃ r, r = canon (-val a) := ⟨_, rfl⟩
  obtain ⟨⟨t, b⟩, ht⟩ : ∃ p, p = dgs a := ⟨_, rfl⟩
  rw [← hr]
  rw [← ht] at c1 hv hd hdn hl
  simp only at c1 hv hd hdn hl
  refine pcalls_of_pw Tryz.func89 rfl Tryz.ntmps89 Tryz.results89 (by simp) fun B w0 => ?_
  cases b with
  | true =>
    rw [if_pos rfl] at hv
    have : r = t := by
      rw [hr, hv, Int.neg_neg]
      unfold canon
      rw [if_neg (by omega), Int.natAbs_natCast, hd]
    rw [this]
    refine pw_seq (pw_region (yAd rfl (yQ (pw_seq (pw_region (yMd rfl (yC (c1) rfl rfl (yMp rfl (yX rfl rfl ?_))))))))); refine yX rfl rfl (yAd rfl (yAd rfl (yQ (pw_seq (pw_seq (pw_region (yMd rfl (yMd rfl (yO rfl ?_))))))))); refine yO rfl (yPd rfl rfl (yQ (pw_ct rfl (pw_seq (pw_region (yMd rfl (yAd rfl (yQ (pw_ret ?_))))))))); refine q_then_ret ?_
    exact q_ret _ (.tmp rfl .nil) rfl
  | false =>
    rw [if_neg (by decide)] at hv
    cases t with
    | nil =>
      have : r = [] := by
        rw [hr, hv]
        exact canon_zero
      rw [this]
      refine pw_seq (pw_region (yAd rfl (yQ (pw_seq (pw_region (yMd rfl (yC (c1) rfl rfl (yMp rfl (yX rfl rfl ?_))))))))); refine yX rfl rfl (yAd rfl (yAd rfl (yQ (pw_seq (pw_seq (pw_region (yMd rfl (yMd rfl (yMd rfl ?_))))))))); refine yBse rfl rfl (yVd rfl rfl (yQ (pw_ct rfl (pw_seq (pw_region (yMd rfl (yAd rfl (yQ (pw_ret ?_))))))))); refine q_then_ret ?_
      exact q_ret _ (.tmp rfl .nil) rfl
    | cons x l =>
      have hn0 : natOf (x :: l) ≠ 0 := fun e => by
        rw [e, dec_zero] at hd
        cases hd
      have : r = [45] ++ (x :: l) := by
        rw [hr, hv]
        unfold canon
        rw [if_pos (by omega), Int.natAbs_neg, Int.natAbs_natCast, hd]
        rfl
      rw [this]
      refine pw_seq (pw_region (yAd rfl (yQ (pw_seq (pw_region (yMd rfl (yC (c1) rfl rfl (yMp rfl (yX rfl rfl ?_))))))))); refine yX rfl rfl (yAd rfl (yAd rfl (yQ (pw_seq (pw_seq (pw_region (yMd rfl (yMd rfl (yMd rfl ?_))))))))); refine yBse rfl rfl (yVd rfl rfl (yQ (pw_cf rfl (pw_skip (pw_seq (pw_region (yMd rfl ?_))))))); refine yBsa (l1 := [45]) (l2 := x :: l) (by simp only [List.length_cons, List.length_nil] at hl ⊢; omega) rfl rfl ?_
      refine yAd rfl (yQ (pw_ret ?_))
      exact q_ret _ (.tmp rfl .nil) rfl
set_option maxRecDepth 20000 in
theorem wRShortL (a : Str) (ha : a.length ≤ 1000000) (h17 : 17 < (dgs a).1.length) : PCalls Tryz.prog 82 [dS a] (.tup [dI 0, dB false]) := by
  have c1 := wRDigits a (by omega)
  obtain ⟨⟨t, b⟩, ht⟩ : ∃ p, p = dgs a := ⟨_, rfl⟩
  rw [← ht] at c1 h17
  simp only at c1 h17
  have u0 : decide ((t.length : Int) > 17) = true := decide_eq_true (by omega)
  refine pcalls_of_pw Tryz.func82 rfl Tryz.ntmps82 Tryz.results82 (by simp) fun B w0 => ?_
  refine pw_seq (pw_region (yAd rfl (yAd rfl (yQ (pw_seq (pw_region (yMd rfl (yC (c1) rfl rfl (yMp rfl ?_))))))))); refine yX rfl rfl (yX rfl rfl (yAd rfl (yAd rfl (yQ (pw_seq (pw_seq (pw_region (yMd rfl (yNs rfl ?_))))))))); refine yB rfl rfl rfl rfl (yQ (q_then ?_))
  rw [u0]; refine pw_ct rfl ?_; refine pw_seq ?_; refine pw_region ?_; refine yAd rfl ?_; refine yAd rfl ?_; refine yQ ?_; refine pw_ret ?_; refine q_then_ret ?_
  exact q_ret _ (.tmp rfl (.tmp rfl .nil)) rfl
theorem natOf_next {t : Str} {lo j : Nat} {c : UInt8} (hc : t[j]? = some c) (hlo : lo ≤ j) : natOf ((t.take (j + 1)).drop lo) = 10 * natOf ((t.take j).drop lo) + dv c := by
  have hj := (List.getElem?_eq_some_iff.1 hc).1
  rw [List.take_add_one, hc, Option.toList, List.drop_append_of_le_length (by rw [List.length_take]; omega)]
  exact natOf_snoc _ _
theorem natOf_9 {t : Str} (h : t.all isD = true) (lo j : Nat) (hj : j ≤ lo + 9) : natOf ((t.take j).drop lo) < 1000000000 := by
  have h1 : ((t.take j).drop lo).all isD = true := all_sub h j lo
  have h2 := natOf_lt h1
  have h3 : (10 : Nat) ^ ((t.take j).drop lo).length ≤ 10 ^ 9 := Nat.pow_le_pow_right (by decide) (by rw [List.length_drop, List.length_take]; omega)
  have e9 : (10 : Nat) ^ 9 = 1000000000 := by decide
  omega
set_option maxRecDepth 20000 in
set_option maxHeartbeats 4000000 in
theorem wReadJ (a : Str) (ha : a.length ≤ 1000000) : PCalls Tryz.prog 86 [dS a] (.d (.agg (dJm (dgs a).2 (rdG (dgs a).1)))) := by
  have c1 := wRDigits a (by omega)
  have hl : (dgs a).1.length ≤ 1000000 := Nat.le_trans (dgs_len a) ha
  have hD := dgs_all a
  obtain ⟨t, ht⟩ : ∃ t, t = (dgs a).1 := ⟨_, rfl⟩
  obtain ⟨b, hb⟩ : ∃ t, t = (dgs a).2 := ⟨_, rfl⟩
  rw [← ht, ← hb] at c1
  rw [← ht] at hl hD
  rw [← ht, ← hb]
  clear ht hb
  have hsz := rdG_size t
  have hdv : ∀ (i : Nat) c, t[i]? = some c → 48 ≤ c.toNat ∧ c.toNat ≤ 57 := fun i c hc => by
    rw [List.all_eq_true] at hD
    have := hD c (List.mem_of_getElem? hc)
    unfold isD at this
    simpa using this
  refine pcalls_of_pw Tryz.func86 rfl Tryz.ntmps86 Tryz.results86 (by simp) fun B w0 => ?_
  refine pw_seq (pw_region (yZ (cs := [_, _]) rfl rfl (yQ (pw_seq (pw_region (yMd rfl (yC (c1) rfl rfl (yMp rfl (yX rfl rfl ?_))))))))); refine yX rfl rfl (yAd rfl (yAd rfl (yQ (pw_seq (pw_region (yMd rfl (yG (ys := [_, _]) rfl rfl (yZ (cs := [_, _]) rfl rfl (yS (cs' := [_, _]) rfl rfl rfl rfl rfl ?_))))))))); refine yQ ?_; refine pw_tokb 5 1 (jT 5) 1 rfl rfl rfl rfl ?_; refine pw_seq (pw_seq (pw_region (yMd rfl (yNs rfl (yAd rfl (yQ (pw_block ?_))))))); refine pw_loop (fun i : Nat => ⟨45, [(2, .bx 2 0), (3, .d (dS t)), (5, .bx 5 0), (6, .d (dI ((t.length : Int) - 9 * i)))], [(2, [.d (dB false), .d (.val (.slice none 0 0))]), (5, [.d (dB b), .ts (jT 5) 1 (((rdG t).take i).map dJ)])], [(jT 5, (((rdG t).take i).map dJ).length)]⟩) (fun i => 9 * i < t.length + 9) (fun i => t.length + 9 - 9 * i) 0 (by omega)
    ⟨rfl, ⟨.refl _, .refl _, .refl _, .of_eq (congrArg (fun n : Int => SV.d (dI n)) (by simp)), trivial⟩, ⟨⟨_, rfl, .refl _, .refl _, trivial⟩, ⟨_, rfl, .refl _, .refl _, trivial⟩, trivial⟩, ⟨rfl, trivial⟩, rfl⟩ ?_
  intro i hi
  rcases Nat.lt_or_ge (9 * i) t.length with h9 | h9
  rotate_left
  · have u1 : decide ((t.length : Int) - 9 * i > 0) = false := decide_eq_false (by omega)
    have e : (rdG t).take i = rdG t := List.take_of_length_le (rdG_len (by omega))
    rw [e]
    refine pw_seq (pw_seq (pw_region (yMd rfl (yB rfl rfl rfl rfl (yQ (q_then ?_)))))); rw [u1]; refine pw_cf rfl (pw_exit (pw_seq (pw_region (yLa (ys := [_, _]) rfl rfl rfl rfl (yS (cs' := [_, _]) rfl rfl rfl rfl rfl (yQ (pw_ret ?_)))))))
    exact q_ret _ (.agg inferInstance rfl rfl rfl rfl .nil) rfl
  have u1 : decide ((t.length : Int) - 9 * i > 0) = true := decide_eq_true (by omega)
  have hn := rdG_next h9
  have hw1 : IntKind.i64.wrap ((t.length : Int) - 9 * i - 9) = (t.length : Int) - 9 * i - 9 := wrapI _ (by omega)
  have hm : (if (t.length : Int) - 9 * i - 9 > 0 then (t.length : Int) - 9 * i - 9 else 0) = ((t.length - 9 * i - 9 : Nat) : Int) := by split <;> omega
  obtain ⟨lo, hlo⟩ : ∃ lo, lo = t.length - 9 * i - 9 := ⟨_, rfl⟩
  obtain ⟨tp, hto⟩ : ∃ tp, tp = t.length - 9 * i := ⟨_, rfl⟩
  have hti : (t.length : Int) - 9 * i = (tp : Int) := by omega
  have hbl : lo ≤ tp := by omega
  have hbt : tp ≤ t.length := by omega
  have hb9 : tp ≤ lo + 9 := by omega
  rw [← hlo] at hm
  rw [← hlo, ← hto] at hn
  have hnx : ((t.length : Int) - 9 * (i + 1 : Nat)) = (tp : Int) - 9 := by omega
  rw [hti] at hw1 hm u1 ⊢
  obtain ⟨zs, hzs⟩ : ∃ zs, zs = (rdG t).take i := ⟨_, rfl⟩
  have hzl : zs.length ≤ 1000000 := by rw [hzs, List.length_take]; omega
  rw [← hzs] at hn ⊢
  clear hlo hto hzs
  refine pw_seq (pw_seq (pw_region (yMd rfl (yB rfl rfl rfl rfl (yQ (q_then ?_)))))); rw [u1]; refine pw_ct rfl (pw_skip (pw_seq (pw_block (pw_seq (pw_region (yAd rfl (yQ (pw_seq (pw_seq ?_))))))))); refine pw_region (yMd rfl (yB rfl rfl rfl rfl (yI rfl rfl rfl (yAd rfl (yQ (pw_block ?_)))))); rw [hw1]; rw [hm]
  refine pw_loop (fun j : Nat => ⟨45, [(2, .bx 2 0), (3, .d (dS t)), (5, .bx 5 0), (6, .d (dI tp)), (7, .d (dI (natOf ((t.take j).drop lo)))), (8, .d (dI j))], [(2, [.d (dB false), .d (.val (.slice none 0 0))]), (5, [.d (dB b), .ts (jT 5) 1 (zs.map dJ)])], [(jT 5, (zs.map dJ).length)]⟩) (fun j => lo ≤ j ∧ j ≤ tp) (fun j => tp - j) lo ⟨Nat.le_refl _, hbl⟩
    ⟨rfl, ⟨.refl _, .refl _, .refl _, .refl _, .of_eq (congrArg (fun n : Nat => SV.d (dI n)) (by rw [List.drop_of_length_le (by rw [List.length_take]; omega)]; rfl)), .refl _, trivial⟩, ⟨⟨_, rfl, .refl _, .refl _, trivial⟩, ⟨_, rfl, .refl _, .refl _, trivial⟩, trivial⟩, ⟨rfl, trivial⟩, rfl⟩ ?_
  rintro j ⟨hj1, hj2⟩
  rcases Nat.lt_or_ge j tp with hj | hj
  · have u2 : decide ((j : Int) < (tp : Int)) = true := decide_eq_true (by omega)
    obtain ⟨c, hc⟩ : ∃ c, t[j]? = some c := ⟨_, List.getElem?_eq_getElem (by omega)⟩
    have hci : t[((j : Int)).toNat]? = some c := by rw [Int.toNat_natCast]; exact hc
    obtain ⟨d1, d2⟩ := hdv j c hc
    have hnn := natOf_next hc hj1
    have hn9 := natOf_9 hD lo j (by omega)
    obtain ⟨n, hnm⟩ : ∃ n, n = natOf ((t.take j).drop lo) := ⟨_, rfl⟩
    rw [← hnm] at hnn hn9 ⊢
    have w1 : IntKind.i64.wrap (10 * (n : Int)) = 10 * (n : Int) := wrapI _ (by omega)
    have w2 : IntKind.u8.wrap ((c.toNat : Int) - 48) = (dv c : Int) := by
      rw [IntKind.wrap_u8]
      unfold dv
      omega
    have hd9 : dv c ≤ 9 := by unfold dv; omega
    have w3 : IntKind.i64.wrap (dv c : Int) = (dv c : Int) := wrapI _ (by omega)
    have w4 : IntKind.i64.wrap (10 * (n : Int) + (dv c : Int)) = ((10 * n + dv c : Nat) : Int) := by rw [wrapI _ (by omega)]; omega
    have w5 := wrapI ((j : Int) + 1) (by omega)
    refine pw_seq (pw_seq (pw_region (yMd rfl (yMd rfl (yB rfl rfl rfl rfl (yQ (q_then ?_))))))); rw [u2]; refine pw_ct rfl (pw_skip (pw_seq (pw_block (pw_region (yMd rfl (yB rfl rfl rfl rfl (yMd rfl (yMd rfl ?_)))))))); refine yIs hci (by omega) rfl rfl ?_; refine yB rfl rfl rfl rfl (yJ rfl (yB rfl rfl rfl rfl (yAd rfl (yQ (pw_region (yMd rfl (yB rfl rfl rfl rfl (yAd rfl (yQ ?_))))))))); refine q_then ?_; rw [w1]; rw [w2]; rw [w3]; rw [w4]
    exact ⟨j + 1, ⟨by omega, by omega⟩, by omega, rfl, ⟨.refl _, .refl _, .refl _, .refl _, .of_eq (by rw [hnn] <;> rfl), .of_eq (congrArg (fun n => SV.d (dI n)) w5), trivial⟩, ⟨⟨_, rfl, .refl _, .refl _, trivial⟩, ⟨_, rfl, .refl _, .refl _, trivial⟩, trivial⟩, ⟨rfl, trivial⟩, rfl⟩
  · have u2 : decide ((j : Int) < (tp : Int)) = false := decide_eq_false (by omega)
    obtain rfl : j = tp := by omega
    obtain ⟨x, hx⟩ : ∃ x, x = natOf ((t.take j).drop lo) := ⟨_, rfl⟩
    rw [← hx] at hn ⊢
    refine pw_seq (pw_seq (pw_region (yMd rfl (yMd rfl (yB rfl rfl rfl rfl (yQ (q_then ?_))))))); rw [u2]; refine pw_cf rfl (pw_exit (pw_region (yFb rfl (yLt rfl rfl rfl (yMd rfl ?_))))); refine yR (es := [[_]]) rfl rfl rfl rfl rfl ?_
    refine yT (es' := (zs ++ [x]).map dJ) (m := ((zs ++ [x]).map dJ).length) (by simp; omega) (by simp; omega) rfl rfl rfl rfl rfl (by simp) (by simp) ?_; refine yFb rfl (ySt (cs' := [_, _]) rfl rfl rfl rfl (yQ (pw_region (yMd rfl (yB rfl rfl rfl rfl (yAd rfl (yQ (q_then ?_)))))))); rw [hw1]
    exact ⟨i + 1, by omega, by omega, rfl, ⟨.refl _, .refl _, .refl _, .of_eq (congrArg (fun n => SV.d (dI n)) hnx.symm), trivial⟩, ⟨⟨_, rfl, .refl _, .refl _, trivial⟩, ⟨_, rfl, .refl _, .of_eq (by rw [hn] <;> rfl), trivial⟩, trivial⟩, ⟨(by rw [hn] <;> rfl), trivial⟩, rfl⟩

def lowd (y : Nat) : Nat → Str
  | 0 => []
  | k + 1 => dig (y / 10 ^ k % 10) :: lowd y k
theorem lowd_snoc (y k : Nat) : lowd y (k + 1) = lowd (y / 10) k ++ [dig (y % 10)] := by
  induction k with
  | zero => simp [lowd]
  | succ k ih =>
    rw [lowd, ih, lowd, List.cons_append, Nat.div_div_eq_div_mul, Nat.pow_succ, Nat.mul_comm 10]
theorem lowd_padk (k y : Nat) : lowd y k = padk k y := by
  induction k generalizing y with
  | zero => rfl
  | succ k ih => rw [lowd_snoc, ih, padk]
theorem lowd_len (y k : Nat) : (lowd y k).length = k := by rw [lowd_padk, padk_length]
theorem pads_snoc (l : List Nat) (y : Nat) : pads (l ++ [y]) = padk 9 y ++ pads l := by
  induction l with
  | nil => simp [pads]
  | cons x l ih => rw [List.cons_append, pads, ih, pads, List.append_assoc]
theorem val_pads (b : Bool) {l : List Nat} (h : gok l) : val ((if b then [45] else []) ++ pads l) = sg b (gval l) := by
  have hp := pads_all l
  have hh : (pads l).head? ≠ some 45 := fun e => by
    cases h1 : pads l with
    | nil => rw [h1] at e; cases e
    | cons x t =>
      rw [h1] at e hp
      have hx : x = 45 := by simpa using e
      rw [hx] at hp
      simp [isD] at hp
  have hd : natOf ((pads l).dropWhile (· == 48)) = gval l := by rw [dropZ_natOf, natOf_pads h]
  cases b with
  | true =>
    have hb : bod ((if true then [45] else []) ++ pads l) = pads l := by simp [bod]
    unfold val dgs
    rw [hb, hp]
    simp only [if_true]
    by_cases h0 : (pads l).dropWhile (· == 48) = []
    · rw [h0] at hd
      rw [h0]
      have : gval l = 0 := by rw [← hd]; rfl
      simp [this, sg]
      rfl
    · have h1 : ((pads l).dropWhile (· == 48)).isEmpty = false := by cases h2 : (pads l).dropWhile (· == 48) with
        | nil => exact absurd h2 h0
        | cons x t => rfl
      rw [h1, hd]
      simp [sg]
  | false =>
    have hb : bod ((if false then [45] else []) ++ pads l) = pads l := by simp [bod, hh]
    have hn : decide ((([] : Str) ++ pads l).head? = some 45) = false := by simpa using hh
    unfold val dgs
    rw [hb, hp]
    simp only [if_true, Bool.false_eq_true, if_false] at hn ⊢
    rw [hn, hd]
    simp [sg]
set_option maxRecDepth 20000 in
set_option maxHeartbeats 4000000 in
theorem wWriteJ (b : Bool) (l : List Nat) (hg : gok l) (hl : l.length ≤ 100000) : PCalls Tryz.prog 84 [.agg (dJm b l)] (.d (dS (canon (sg b (gval l))))) := by
  have hv := val_pads b hg
  have hpl := pads_length l
  obtain ⟨r, hr⟩ : ∃ r, r = canon (sg b (gval l)) := ⟨_, rfl⟩
  rw [← hr]
  refine pcalls_of_pw Tryz.func84 rfl Tryz.ntmps84 Tryz.results84 (by simp) fun B w0 => ?_
  refine pw_seq (pw_region (yK (cs := [_, _]) rfl rfl (yAd rfl (yQ (pw_seq (pw_region (yAd rfl (yQ (pw_seq ?_))))))))); refine pw_seq (pw_region (yAd rfl (yQ (pw_block ?_)))); refine pw_loop (fun i : Nat => ⟨38, [(1, .bx 1 0), (3, .d (dS (pads (l.take i)))), (4, .d (dI i))], [(1, [.d (dB b), .d (.sl 1 (l.map dJ))])], []⟩) (fun i => i ≤ l.length) (fun i => l.length - i) 0 (Nat.zero_le _)
    ⟨rfl, ⟨.refl _, .refl _, .refl _, trivial⟩, ⟨⟨_, rfl, .refl _, .refl _, trivial⟩, trivial⟩, trivial, rfl⟩ ?_
  intro i hi
  rcases Nat.lt_or_ge i l.length with h | h
  rotate_left
  · have u1 : decide ((i : Int) < ((l.map dJ).length : Int)) = false := decide_eq_false (by rw [List.length_map]; omega)
    obtain rfl : i = l.length := by omega
    rw [List.take_length]
    cases b with
    | true =>
      have hc := wRCanonical ([45] ++ pads l) (by simp; omega)
      rw [show ([45] ++ pads l : Str) = (if true then [45] else []) ++ pads l from rfl, hv, ← hr] at hc
      obtain ⟨p, hp⟩ : ∃ p, p = pads l := ⟨_, rfl⟩
      rw [← hp] at hc hpl ⊢
      have hc : PCalls Tryz.prog 106 [dS ([45] ++ p)] (.d (dS r)) := hc
      clear hp hv hr
      refine pw_seq (pw_seq (pw_region (yMd rfl (yFb rfl (yLd rfl rfl rfl (yN rfl (yB rfl rfl rfl rfl (yQ (q_then ?_))))))))); rw [u1]; refine pw_cf rfl (pw_exit (pw_seq (pw_seq (pw_region (yFb rfl (yLd rfl rfl rfl (yQ (pw_ct rfl (pw_region ?_))))))))); refine yMd rfl ?_; refine yBsa (l1 := [45]) (l2 := p) (by simp; omega) rfl rfl ?_; refine yAd rfl (yQ (pw_seq (pw_region (yMd rfl (yC (hc) rfl rfl (yAd rfl (yQ (pw_ret ?_))))))))
      exact q_ret _ (.tmp rfl .nil) rfl
    | false =>
      have hc := wRCanonical (pads l) (by omega)
      rw [show (pads l : Str) = (if false then [45] else []) ++ pads l from rfl, hv, ← hr] at hc
      obtain ⟨p, hp⟩ : ∃ p, p = pads l := ⟨_, rfl⟩
      rw [← hp] at hc ⊢
      have hc : PCalls Tryz.prog 106 [dS p] (.d (dS r)) := hc
      clear hp hv hr
      refine pw_seq (pw_seq (pw_region (yMd rfl (yFb rfl (yLd rfl rfl rfl (yN rfl (yB rfl rfl rfl rfl (yQ (q_then ?_))))))))); rw [u1]; refine pw_cf rfl (pw_exit (pw_seq (pw_seq (pw_region (yFb rfl (yLd rfl rfl rfl (yQ (pw_cf rfl (pw_skip ?_))))))))); refine pw_seq (pw_region (yMd rfl (yC (hc) rfl rfl (yAd rfl (yQ (pw_ret ?_))))))
      exact q_ret _ (.tmp rfl .nil) rfl
  have u1 : decide ((i : Int) < ((l.map dJ).length : Int)) = true := decide_eq_true (by rw [List.length_map]; omega)
  obtain ⟨y, hy⟩ : ∃ y, l[i]? = some y := ⟨_, List.getElem?_eq_getElem h⟩
  have ey := ix dJ l i i y rfl hy
  have hy9 : y < 1000000000 := hg y (List.mem_of_getElem? hy)
  have hnx : pads (l.take (i + 1)) = lowd y 9 ++ pads (l.take i) := by rw [List.take_add_one, hy, Option.toList, pads_snoc, lowd_padk]
  have hp9 : (pads (l.take i)).length ≤ 900000 := by rw [pads_length, List.length_take]; omega
  obtain ⟨p, hp⟩ : ∃ p, p = pads (l.take i) := ⟨_, rfl⟩
  rw [← hp] at hnx hp9 ⊢
  have hwi := wrapI ((i : Int) + 1) (by omega)
  clear hp hv hr hpl
  refine pw_seq (pw_seq (pw_region (yMd rfl (yFb rfl (yLd rfl rfl rfl (yN rfl (yB rfl rfl rfl rfl (yQ (q_then ?_))))))))); rw [u1]; refine pw_ct rfl (pw_skip (pw_seq (pw_block (pw_seq (pw_region (yFb rfl (yLd rfl rfl rfl (yMd rfl ?_)))))))); refine yW ey (by omega) rfl rfl ?_; refine yLr rfl rfl (yAd rfl (yQ (pw_seq (pw_region (yAd rfl (yQ (pw_block ?_))))))); refine pw_loop (fun k : Nat => ⟨38, [(1, .bx 1 0), (3, .d (dS (lowd y k ++ p))), (4, .d (dI i)), (5, .d (dI ((y / 10 ^ k : Nat) : Int))), (6, .d (dI k))], [(1, [.d (dB b), .d (.sl 1 (l.map dJ))])], []⟩) (fun k => k ≤ 9) (fun k => 9 - k) 0 (Nat.zero_le _)
    ⟨rfl, ⟨.refl _, .refl _, .refl _, .of_eq (congrArg (fun n : Nat => SV.d (dI n)) (by simp)), .refl _, trivial⟩, ⟨⟨_, rfl, .refl _, .refl _, trivial⟩, trivial⟩, trivial, rfl⟩ ?_
  intro k hk
  rcases Nat.lt_or_ge k 9 with hk9 | hk9
  · have u2 : decide ((k : Int) < 9) = true := decide_eq_true (by omega)
    have hdl := lowd_len y k
    have hm9 : y / 10 ^ k < 1000000000 := Nat.lt_of_le_of_lt (Nat.div_le_self _ _) hy9
    have hlk : lowd y (k + 1) = dig (y / 10 ^ k % 10) :: lowd y k := rfl
    have hdk : y / 10 ^ (k + 1) = y / 10 ^ k / 10 := by rw [Nat.div_div_eq_div_mul, Nat.pow_succ]
    obtain ⟨m, hm⟩ : ∃ m, m = y / 10 ^ k := ⟨_, rfl⟩
    rw [← hm] at hm9 hlk hdk ⊢
    have hr10 : m % 10 < 10 := Nat.mod_lt _ (by omega)
    have htm : ((m : Int)).tmod 10 = ((m % 10 : Nat) : Int) := rfl
    obtain ⟨r', hr2⟩ : ∃ r, r = m % 10 := ⟨_, rfl⟩
    rw [← hr2] at hr10 hlk htm
    have henc := enc_dig hr10
    have hw48 : IntKind.i64.wrap (48 + (r' : Int)) = 48 + (r' : Int) := wrapI _ (by omega)
    have hw32 : IntKind.i32.wrap (48 + (r' : Int)) = 48 + (r' : Int) := wrap32 hr10
    have hwq : IntKind.i64.wrap ((m : Int).tdiv 10) = ((m / 10 : Nat) : Int) := wrapI ((m / 10 : Nat) : Int) (by omega)
    have hwk := wrapI ((k : Int) + 1) (by omega)
    refine pw_seq (pw_seq (pw_region (yMd rfl (yB rfl rfl rfl rfl (yQ (q_then ?_)))))); rw [u2]; refine pw_ct rfl (pw_skip (pw_seq (pw_block (pw_seq (pw_region (yMd rfl (yB rfl rfl rfl rfl (yB rfl rfl rfl rfl (yJ rfl ?_))))))))); rw [htm]; rw [hw48]; rw [hw32]; refine yJs henc rfl (yMd rfl ?_); refine yBsa (l1 := [dig r']) (l2 := lowd y k ++ p) (by simp; omega) rfl rfl ?_; refine yAd rfl (yQ (pw_region (yMd rfl (yB rfl rfl rfl rfl (yAd rfl (yQ (pw_region (yMd rfl (yB rfl rfl rfl rfl ?_))))))))); refine yAd rfl (yQ (q_then ?_)); rw [hwq]
    exact ⟨k + 1, by omega, by omega, rfl, ⟨.refl _, .of_eq (by rw [hlk] <;> rfl), .refl _, .of_eq (by rw [hdk] <;> rfl), .of_eq (congrArg (fun n => SV.d (dI n)) hwk), trivial⟩, ⟨⟨_, rfl, .refl _, .refl _, trivial⟩, trivial⟩, trivial, rfl⟩
  · have u2 : decide ((k : Int) < 9) = false := decide_eq_false (by omega)
    obtain rfl : k = 9 := by omega
    refine pw_seq (pw_seq (pw_region (yMd rfl (yB rfl rfl rfl rfl (yQ (pw_cf rfl (pw_exit (pw_region (yMd rfl ?_))))))))); refine yB rfl rfl rfl rfl (yAd rfl (yQ (q_then ?_))); rw [u2]
    exact ⟨i + 1, by omega, by omega, rfl, ⟨.refl _, .of_eq (by rw [hnx] <;> rfl), .of_eq (congrArg (fun n => SV.d (dI n)) hwi), trivial⟩, ⟨⟨_, rfl, .refl _, .refl _, trivial⟩, trivial⟩, trivial, rfl⟩
end Go.Proofs.YtkfoogabijnamaaGreatDoor
namespace Go.Proofs.YtkfoogabijnamaaGreatDoor
open Go.RowKit Px

set_option maxRecDepth 20000 in
set_option maxHeartbeats 1000000 in
theorem wSubT (a b : Str) (ha : a.length ≤ 100000) (hb : b.length ≤ 100000) : PCalls Tryz.prog 33 [dS a, dS b] (.d (dS (canon (val a - val b)))) := by
  have c1 := wReadM a (by omega)
  have c2 := wReadM b (by omega)
  have h1 := Nat.le_trans (rdG_size (dgs a).1) (dgs_len a)
  have h2 := Nat.le_trans (rdG_size (dgs b).1) (dgs_len b)
  rw [rdG_dgs] at c1 c2 h1 h2
  have c3 := wNAdd (dgs a).2 (!(dgs b).2) (natOf (dgs a).1) (natOf (dgs b).1) (by omega) (by omega)
  obtain ⟨s1, s2⟩ := addN_spec (dgs a).2 (!(dgs b).2) (natOf (dgs a).1) (natOf (dgs b).1)
  have s3 := addN_len (dgs a).2 (!(dgs b).2) (gok_grp (natOf (dgs a).1)) (gok_grp (natOf (dgs b).1))
  rw [sg_not, ← val_sg, ← val_sg, ← Int.sub_eq_add_neg] at s2
  obtain ⟨z, hz⟩ : ∃ z, z = addN (dgs a).2 (grp (natOf (dgs a).1)) (!(dgs b).2) (grp (natOf (dgs b).1)) := ⟨_, rfl⟩
  rw [← hz] at c3 s1 s2 s3
  have c4 := wText z.1 z.2 s1 (by omega)
  rw [s2] at c4
  obtain ⟨r, hr⟩ : ∃ r, r = canon (val a - val b) := ⟨_, rfl⟩
  rw [← hr] at c4 ⊢
  obtain ⟨n1, hn1⟩ : ∃ d, d = dNm (dgs a).2 (grp (natOf (dgs a).1)) := ⟨_, rfl⟩
  obtain ⟨n2, hn2⟩ : ∃ d, d = dMg (grp (natOf (dgs b).1)) := ⟨_, rfl⟩
  obtain ⟨n3, hn3⟩ : ∃ d, d = dNum z.1 z.2 := ⟨_, rfl⟩
  rw [← hn1] at c1 c3
  rw [dNm, ← hn2] at c2 c3
  rw [← hn3] at c3 c4
  obtain ⟨t, ht⟩ : ∃ t, t = (dgs b).2 := ⟨_, rfl⟩
  rw [← ht] at c2 c3
  clear hn1 hn2 hn3 hz s1 s2 s3 ht
  refine pcalls_of_pw Tryz.func33 rfl Tryz.ntmps33 Tryz.results33 (by simp) fun B w0 => ?_
  refine pw_seq (pw_region (yAd rfl (yQ (pw_seq (pw_region (yMd rfl (yC (c2) rfl rfl (yZ (cs := [_, _]) rfl rfl (yS (cs' := [_, _]) rfl rfl rfl rfl rfl ?_))))))))); refine yQ (pw_seq (pw_region (yFb rfl (yLd rfl rfl rfl (yU rfl rfl rfl (yFb rfl (ySd (cs' := [_, _]) rfl rfl rfl rfl (yQ (pw_seq ?_))))))))); refine pw_draw Tryz.mixed (by kernel_rfl) ?_; refine yMd rfl (yC (c1) rfl rfl (yLa (ys := [_, _]) rfl rfl rfl rfl (yC (c3) rfl rfl (yC (c4) rfl rfl (yAd rfl (yQ (pw_ret ?_)))))))
  exact q_ret _ (.tmp rfl .nil) rfl
end Go.Proofs.YtkfoogabijnamaaGreatDoor
namespace Go.Proofs.YtkfoogabijnamaaGreatDoor
open Go.RowKit Px

def sgnT (a : Str) : Int := if val a < 0 then -1 else if 0 < val a then 1 else 0
theorem dgs_empty : dgs [] = ([], false) := by decide
theorem natOf_zero {t : Str} (h : t.all isD = true) (h0 : t.head? ≠ some 48) (hz : natOf t = 0) : t = [] := by
  refine Decidable.byContradiction fun hn => ?_
  exact natOf_pos h h0 hn hz
set_option maxRecDepth 20000 in
set_option maxHeartbeats 1000000 in
theorem wCmp0 (a : Str) (ha : a.length ≤ 100000) : PCalls Tryz.prog 29 [dS a, dS []] (.d (dI (sgnT a))) := by
  have c1 := wRead a (by omega)
  have c2 := wRead [] (by simp)
  rw [dgs_empty, rdG_nil] at c2
  have h1 := Nat.le_trans (rdG_size (dgs a).1) (dgs_len a)
  have c3 := wCompare (rdG (dgs a).1) [] (by omega) (by simp)
  have hneg := neg_dgs a
  have hv := val_sg a
  have hr : cmpG (rdG (dgs a).1) [] = ((rdG (dgs a).1).length : Int) := by
    unfold cmpG
    by_cases h : (rdG (dgs a).1).length = 0
    · rw [List.eq_nil_of_length_eq_zero h]; rfl
    · rw [if_pos (by simpa using h)]; simp
  rw [hr] at c3
  have hz : (rdG (dgs a).1).length = 0 ↔ natOf (dgs a).1 = 0 := by
    rw [rdG_dgs]
    constructor
    · intro h; exact grp_nil.1 (List.eq_nil_of_length_eq_zero h)
    · intro h; rw [h, grp_zero]; rfl
  have hz2 : natOf (dgs a).1 = (val a).natAbs := natOf_dgs a
  obtain ⟨l, hl⟩ : ∃ l, l = rdG (dgs a).1 := ⟨_, rfl⟩
  obtain ⟨b, hb⟩ : ∃ b, b = (dgs a).2 := ⟨_, rfl⟩
  rw [← hl, ← hb] at c1
  rw [← hl] at c3 hz h1
  rw [← hb] at hneg
  clear hr hv hl hb
  obtain ⟨r, hr⟩ : ∃ r, r = sgnT a := ⟨_, rfl⟩
  rw [← hr]
  unfold sgnT at hr
  cases b with
  | true =>
    have h0 : val a < 0 := by simpa using hneg.symm
    rw [if_pos h0] at hr
    subst hr
    refine pcalls_of_pw Tryz.func29 rfl Tryz.ntmps29 Tryz.results29 (by simp) fun B w0 => ?_
    refine pw_seq (pw_region (yAd rfl (yQ (pw_seq (pw_region (yMd rfl (yC (c1) rfl rfl (yMd rfl (yC (c2) rfl rfl ?_))))))))); refine yZ (cs := [_, _]) rfl rfl (yZ (cs := [_, _]) rfl rfl (yS (cs' := [_, _]) rfl rfl rfl rfl rfl (yS (cs' := [_, _]) rfl rfl rfl rfl rfl (yQ (pw_seq (pw_region (yFb rfl (yLd rfl rfl rfl (yFb rfl ?_))))))))); refine yLd rfl rfl rfl (yC (c3) rfl rfl (yAd rfl (yQ (pw_seq (pw_block (pw_seq (pw_region (yFb rfl (yLd rfl rfl rfl ?_))))))))); refine yFb rfl (yLd rfl rfl rfl (yBbn Tryz.underlying4 rfl rfl rfl (yAd rfl (yQ (pw_ct rfl (pw_seq (pw_region (yAd rfl (yQ ?_))))))))); refine pw_seq (pw_region (yFb rfl (yLd rfl rfl rfl (yQ (pw_ct rfl (pw_region (yAd rfl (yQ (pw_seq ?_))))))))); refine pw_region (yMd rfl (yI rfl rfl rfl (yI rfl rfl rfl (yAd rfl (yQ (pw_ret ?_))))))
    exact q_ret _ (.tmp rfl .nil) rfl
  | false =>
    have h0 : ¬ val a < 0 := by simpa using hneg.symm
    rw [if_neg h0] at hr
    obtain ⟨n, hn⟩ : ∃ n, n = l.length := ⟨_, rfl⟩
    rw [← hn] at c3 hz
    have hr : r = if 0 < n then 1 else 0 := by
      rw [hr]
      by_cases h2 : 0 < n
      · rw [if_pos h2, if_pos (by omega)]
      · rw [if_neg h2, if_neg (by omega)]
    clear hn
    refine pcalls_of_pw Tryz.func29 rfl Tryz.ntmps29 Tryz.results29 (by simp) fun B w0 => ?_
    refine pw_seq (pw_region (yAd rfl (yQ (pw_seq (pw_region (yMd rfl (yC (c1) rfl rfl (yMd rfl (yC (c2) rfl rfl ?_))))))))); refine yZ (cs := [_, _]) rfl rfl (yZ (cs := [_, _]) rfl rfl (yS (cs' := [_, _]) rfl rfl rfl rfl rfl (yS (cs' := [_, _]) rfl rfl rfl rfl rfl (yQ (pw_seq (pw_region (yFb rfl (yLd rfl rfl rfl (yFb rfl ?_))))))))); refine yLd rfl rfl rfl (yC (c3) rfl rfl (yAd rfl (yQ (pw_seq (pw_block (pw_seq (pw_region (yFb rfl (yLd rfl rfl rfl ?_))))))))); refine yFb rfl (yLd rfl rfl rfl (yBbn Tryz.underlying4 rfl rfl rfl (yAd rfl (yQ (pw_cf rfl (pw_seq (pw_region (yFb rfl (yLd rfl rfl rfl ?_))))))))); refine yAd rfl (yQ (pw_cf rfl (pw_skip (pw_seq (pw_region (yMd rfl (yI rfl rfl rfl (yI rfl rfl rfl (yAd rfl ?_))))))))); refine yQ (pw_ret ?_); refine q_ret _ (.tmp rfl .nil) (congrArg (fun n => SV.d (dI n)) ?_)
    rw [hr]
    by_cases h2 : 0 < n
    · simp [h2]; repeat' (first | omega | split)
    · have : n = 0 := by omega
      subst this
      rfl
end Go.Proofs.YtkfoogabijnamaaGreatDoor
namespace Go.Proofs.YtkfoogabijnamaaGreatDoor
open Go.RowKit Px

def addJ (b1 : Bool) (x : Nat) (b2 : Bool) (y : Nat) : Bool × Nat := if b1 = b2 then (b1, x + y) else if y ≤ x then (b1, x - y) else (b2, y - x)
theorem addJ_sg (b1 : Bool) (x : Nat) (b2 : Bool) (y : Nat) : sg (addJ b1 x b2 y).1 (addJ b1 x b2 y).2 = sg b1 x + sg b2 y := by
  unfold addJ
  by_cases h : b1 = b2
  · rw [if_pos h]
    subst h
    cases b1 <;> simp [sg] <;> omega
  · rw [if_neg h]
    by_cases h2 : y ≤ x
    · rw [if_pos h2]
      cases b1 <;> cases b2 <;> simp [sg] at h ⊢ <;> omega
    · rw [if_neg h2]
      cases b1 <;> cases b2 <;> simp [sg] at h ⊢ <;> omega
set_option maxRecDepth 20000 in
set_option maxHeartbeats 2000000 in
theorem wNAddJ (b1 b2 : Bool) (x y : Nat) (h1 : (grp x).length ≤ 100000) (h2 : (grp y).length ≤ 100000) : PCalls Tryz.prog 85 [.agg (dJm b1 (grp x)), .agg (dJm b2 (grp y))] (.d (.agg (dJm (addJ b1 x b2 y).1 (grp (addJ b1 x b2 y).2)))) := by
  have c1 := wPlusJ (grp x) (grp y) (gok_grp x) (gok_grp y) h1 h2
  have c2 := wOrder (grp x) (grp y) (by omega)
  rw [gval_grp, gval_grp] at c1
  have hge := ordR_ge x y
  have c3 : y ≤ x → PCalls Tryz.prog 110 [.sl 1 ((grp x).map dJ), .sl 1 ((grp y).map dJ)] (.d (.sl 1 ((grp (x - y)).map dJ))) := fun h => by
    have := wMinusJ (grp x) (grp y) (gok_grp x) (gok_grp y) (grp_len_le h) (by rw [gval_grp, gval_grp]; exact h) h1
    rwa [gval_grp, gval_grp] at this
  have c4 : ¬ y ≤ x → PCalls Tryz.prog 110 [.sl 1 ((grp y).map dJ), .sl 1 ((grp x).map dJ)] (.d (.sl 1 ((grp (y - x)).map dJ))) := fun h => by
    have := wMinusJ (grp y) (grp x) (gok_grp y) (gok_grp x) (grp_len_le (by omega)) (by rw [gval_grp, gval_grp]; omega) h2
    rwa [gval_grp, gval_grp] at this
  obtain ⟨k, hk⟩ : ∃ k, k = ordR (grp x) (grp y) := ⟨_, rfl⟩
  rw [← hk] at c2 hge
  unfold addJ
  obtain ⟨l1, hl1⟩ : ∃ l, l = (grp x).map dJ := ⟨_, rfl⟩
  obtain ⟨l2, hl2⟩ : ∃ l, l = (grp y).map dJ := ⟨_, rfl⟩
  show PCalls Tryz.prog 85 [.agg [dB b1, .sl 1 ((grp x).map dJ)], .agg [dB b2, .sl 1 ((grp y).map dJ)]] _
  rw [← hl1, ← hl2] at c1 c2 c3 ⊢
  rw [← hl1, ← hl2] at c4
  clear hl1 hl2 hk
  by_cases hb : b1 = b2
  · rw [if_pos hb]
    subst hb
    have hbb : (b1 == b1) = true := by simp
    obtain ⟨r, hr⟩ : ∃ l, l = (grp (x + y)).map dJ := ⟨_, rfl⟩
    rw [← hr] at c1
    show PCalls Tryz.prog 85 _ (.d (.agg [dB b1, .sl 1 ((grp (x + y)).map dJ)]))
    rw [← hr]
    refine pcalls_of_pw Tryz.func85 rfl Tryz.ntmps85 Tryz.results85 (by simp) fun B w0 => ?_
    refine pw_seq (pw_region (yK (cs := [_, _]) rfl rfl (yK (cs := [_, _]) rfl rfl (yZ (cs := [_, _]) rfl rfl (yQ (pw_seq (pw_seq (pw_region (yFb rfl ?_))))))))); refine yLd rfl rfl rfl (yFb rfl (yLd rfl rfl rfl (yBb (c := true) Tryz.underlying4 hbb rfl rfl (yQ (pw_ct rfl (pw_seq ?_)))))); refine pw_draw2 (id := 2) Tryz.mixed (by kernel_rfl) ?_; refine yFb rfl (yLd rfl rfl rfl (yFb rfl (yLd rfl rfl rfl (yFb rfl (yLd rfl rfl rfl (yC (c1) rfl rfl (yG (ys := [_, _]) rfl rfl (yS (cs' := [_, _]) rfl rfl rfl rfl rfl (yQ ?_))))))))); refine Px.Sep.mk (by kernel_rfl) ?_; refine pw_ret (q_then_ret ?_)
    exact q_ret _ (.agg inferInstance rfl rfl rfl rfl .nil) rfl
  rw [if_neg hb]
  have hbb : (b1 == b2) = false := by simpa using hb
  by_cases hle : y ≤ x
  · rw [if_pos hle]
    have c3 := c3 hle
    have u : decide (k ≥ 0) = true := decide_eq_true (hge.2 hle)
    obtain ⟨r, hr⟩ : ∃ l, l = (grp (x - y)).map dJ := ⟨_, rfl⟩
    rw [← hr] at c3
    show PCalls Tryz.prog 85 _ (.d (.agg [dB b1, .sl 1 ((grp (x - y)).map dJ)]))
    rw [← hr]
    refine pcalls_of_pw Tryz.func85 rfl Tryz.ntmps85 Tryz.results85 (by simp) fun B w0 => ?_
    refine pw_seq (pw_region (yK (cs := [_, _]) rfl rfl (yK (cs := [_, _]) rfl rfl (yZ (cs := [_, _]) rfl rfl (yQ (pw_seq (pw_seq (pw_region (yFb rfl ?_))))))))); refine yLd rfl rfl rfl (yFb rfl (yLd rfl rfl rfl (yBb (c := false) Tryz.underlying4 hbb rfl rfl (yQ (pw_cf rfl (pw_skip (pw_seq (pw_seq (pw_region ?_))))))))); refine yFb rfl (yLd rfl rfl rfl (yFb rfl (yLd rfl rfl rfl (yC (c2) rfl rfl (yB rfl rfl rfl rfl (yQ (q_then ?_))))))); rw [u]
    refine pw_ct rfl (pw_seq ?_); refine pw_draw2 (id := 4) Tryz.mixed (by kernel_rfl) ?_; refine yFb rfl (yLd rfl rfl rfl (yFb rfl (yLd rfl rfl rfl (yFb rfl (yLd rfl rfl rfl (yC (c3) rfl rfl (yG (ys := [_, _]) rfl rfl (yS (cs' := [_, _]) rfl rfl rfl rfl rfl (yQ ?_))))))))); refine Px.Sep.mk (by kernel_rfl) ?_; refine pw_ret (q_then_ret ?_)
    exact q_ret _ (.agg inferInstance rfl rfl rfl rfl .nil) rfl
  · rw [if_neg hle]
    have c4 := c4 hle
    have u : decide (k ≥ 0) = false := decide_eq_false fun h => hle (hge.1 h)
    obtain ⟨r, hr⟩ : ∃ l, l = (grp (y - x)).map dJ := ⟨_, rfl⟩
    rw [← hr] at c4
    show PCalls Tryz.prog 85 _ (.d (.agg [dB b2, .sl 1 ((grp (y - x)).map dJ)]))
    rw [← hr]
    refine pcalls_of_pw Tryz.func85 rfl Tryz.ntmps85 Tryz.results85 (by simp) fun B w0 => ?_
    refine pw_seq (pw_region (yK (cs := [_, _]) rfl rfl (yK (cs := [_, _]) rfl rfl (yZ (cs := [_, _]) rfl rfl (yQ (pw_seq (pw_seq (pw_region (yFb rfl ?_))))))))); refine yLd rfl rfl rfl (yFb rfl (yLd rfl rfl rfl (yBb (c := false) Tryz.underlying4 hbb rfl rfl (yQ (pw_cf rfl (pw_skip (pw_seq (pw_seq (pw_region ?_))))))))); refine yFb rfl (yLd rfl rfl rfl (yFb rfl (yLd rfl rfl rfl (yC (c2) rfl rfl (yB rfl rfl rfl rfl (yQ (q_then ?_))))))); rw [u]
    refine pw_cf rfl (pw_skip (pw_seq ?_)); refine pw_draw2 (id := 5) Tryz.mixed (by kernel_rfl) ?_; refine yFb rfl (yLd rfl rfl rfl (yFb rfl (yLd rfl rfl rfl (yFb rfl (yLd rfl rfl rfl (yC (c4) rfl rfl (yG (ys := [_, _]) rfl rfl (yS (cs' := [_, _]) rfl rfl rfl rfl rfl (yQ ?_))))))))); refine Px.Sep.mk (by kernel_rfl) ?_; refine pw_ret ?_
    exact q_ret _ (.agg inferInstance rfl rfl rfl rfl .nil) rfl
theorem val17 {a : Str} (h : (dgs a).1.length ≤ 17) : (val a).natAbs < 100000000000000000 := by
  have h1 := natOf_lt (dgs_all a)
  rw [natOf_dgs] at h1
  have h2 : (10 : Nat) ^ (dgs a).1.length ≤ 10 ^ 17 := Nat.pow_le_pow_right (by decide) h
  have e17 : (10 : Nat) ^ 17 = 100000000000000000 := by decide
  omega
theorem wRShortA (a : Str) (ha : a.length ≤ 1000000) : PCalls Tryz.prog 82 [dS a] (.tup [dI (if (dgs a).1.length ≤ 17 then val a else 0), dB (decide ((dgs a).1.length ≤ 17))]) := by
  by_cases h : (dgs a).1.length ≤ 17
  · rw [if_pos h, decide_eq_true h]; exact wRShort a ha h
  · rw [if_neg h, decide_eq_false h]; exact wRShortL a ha (by omega)
set_option maxRecDepth 20000 in
set_option maxHeartbeats 2000000 in
theorem wRAddG (a b : Str) (ha : a.length ≤ 90000) (hb : b.length ≤ 90000) : PCalls Tryz.prog 61 [dS a, dS b] (.d (dS (canon (val a + val b)))) := by
  have c1 := wRShortA a (by omega)
  have c2 := wRShortA b (by omega)
  by_cases h : (dgs a).1.length ≤ 17 ∧ (dgs b).1.length ≤ 17
  · have va := val17 h.1
    have vb := val17 h.2
    rw [if_pos h.1, decide_eq_true h.1] at c1
    rw [if_pos h.2, decide_eq_true h.2] at c2
    have hw : IntKind.i64.wrap (val a + val b) = val a + val b := wrapI _ (by omega)
    have c3 := wROf (val a + val b) (by omega) (by omega)
    obtain ⟨r, hr⟩ : ∃ r, r = canon (val a + val b) := ⟨_, rfl⟩
    rw [← hr] at c3 ⊢
    obtain ⟨u, hu⟩ : ∃ u, u = val a := ⟨_, rfl⟩
    obtain ⟨v, hv⟩ : ∃ u, u = val b := ⟨_, rfl⟩
    rw [← hu] at c1
    rw [← hv] at c2
    rw [← hu, ← hv] at c3 hw
    refine pcalls_of_pw Tryz.func61 rfl Tryz.ntmps61 Tryz.results61 (by simp) fun B w0 => ?_
    refine pw_seq (pw_region (yAd rfl (yQ (pw_seq (pw_region (yMd rfl (yC (c1) rfl rfl (yMp rfl (yX rfl rfl ?_))))))))); refine yX rfl rfl (yAd rfl (yAd rfl (yQ (pw_seq (pw_region (yMd rfl (yC (c2) rfl rfl (yMp rfl (yX rfl rfl ?_))))))))); refine yX rfl rfl (yAd rfl (yAd rfl (yQ (pw_seq (pw_seq (pw_region (yMd rfl (yMd rfl (yMd rfl ?_))))))))); refine yPd rfl rfl (yQ (pw_ct rfl (pw_seq (pw_region (yMd rfl (yMd rfl (yB rfl rfl rfl rfl ?_))))))); rw [hw]; refine yC (c3) rfl rfl (yAd rfl (yQ (pw_ret (q_then_ret ?_))))
    exact q_ret _ (.tmp rfl .nil) rfl
  have hf : ((decide ((dgs a).1.length ≤ 17)) && (decide ((dgs b).1.length ≤ 17))) = false := by
    rw [Bool.and_eq_false_iff, decide_eq_false_iff_not, decide_eq_false_iff_not]
    rcases Decidable.em ((dgs a).1.length ≤ 17) with h1 | h1
    · exact .inr fun h2 => h ⟨h1, h2⟩
    · exact .inl h1
  have h1 := Nat.le_trans (rdG_size (dgs a).1) (dgs_len a)
  have h2 := Nat.le_trans (rdG_size (dgs b).1) (dgs_len b)
  have c3 := wReadJ a (by omega)
  have c4 := wReadJ b (by omega)
  rw [rdG_dgs] at c3 c4 h1 h2
  have c5 := wNAddJ (dgs a).2 (dgs b).2 (natOf (dgs a).1) (natOf (dgs b).1) (by omega) (by omega)
  have s2 := addJ_sg (dgs a).2 (natOf (dgs a).1) (dgs b).2 (natOf (dgs b).1)
  rw [← val_sg, ← val_sg] at s2
  have hlz : (grp (addJ (dgs a).2 (natOf (dgs a).1) (dgs b).2 (natOf (dgs b).1)).2).length ≤ 100000 := by
    have hle : (addJ (dgs a).2 (natOf (dgs a).1) (dgs b).2 (natOf (dgs b).1)).2 ≤ natOf (dgs a).1 + natOf (dgs b).1 := by
      unfold addJ
      split
      · exact Nat.le_refl _
      · split <;> show _ - _ ≤ _ <;> omega
    refine Nat.le_trans (grp_len_le hle) ?_
    have q1 := natOf_lt (dgs_all a)
    have q2 := natOf_lt (dgs_all b)
    have q3 := dgs_len a
    have q4 := dgs_len b
    obtain ⟨K, hK⟩ : ∃ K, K = 90000 := ⟨_, rfl⟩
    rw [← hK] at ha hb
    have q5 : natOf (dgs a).1 + natOf (dgs b).1 < 1000000000 ^ (K + 1) := by
      have e1 : (10 : Nat) ^ (dgs a).1.length ≤ 1000000000 ^ K := Nat.le_trans (Nat.pow_le_pow_right (by decide) (Nat.le_trans q3 ha)) (Nat.pow_le_pow_left (by decide) _)
      have e2 : (10 : Nat) ^ (dgs b).1.length ≤ 1000000000 ^ K := Nat.le_trans (Nat.pow_le_pow_right (by decide) (Nat.le_trans q4 hb)) (Nat.pow_le_pow_left (by decide) _)
      have e3 : (1000000000 : Nat) ^ (K + 1) = 1000000000 ^ K * 1000000000 := Nat.pow_succ ..
      obtain ⟨p, hp⟩ : ∃ p, p = (1000000000 : Nat) ^ K := ⟨_, rfl⟩
      rw [← hp] at e1 e2 e3
      rw [e3]
      omega
    refine Decidable.byContradiction fun hgt => ?_
    have hx0 : natOf (dgs a).1 + natOf (dgs b).1 ≠ 0 := fun e => by rw [e, grp_zero] at hgt; simp at hgt
    have q6 := grp_ge hx0
    have q7 : (1000000000 : Nat) ^ (K + 1) ≤ 1000000000 ^ ((grp (natOf (dgs a).1 + natOf (dgs b).1)).length - 1) := Nat.pow_le_pow_right (by decide) (by omega)
    omega
  obtain ⟨z, hz⟩ : ∃ z, z = addJ (dgs a).2 (natOf (dgs a).1) (dgs b).2 (natOf (dgs b).1) := ⟨_, rfl⟩
  rw [← hz] at c5 s2 hlz
  have c6 := wWriteJ z.1 (grp z.2) (gok_grp z.2) hlz
  rw [gval_grp, s2] at c6
  obtain ⟨r, hr⟩ : ∃ r, r = canon (val a + val b) := ⟨_, rfl⟩
  rw [← hr] at c6 ⊢
  obtain ⟨n1, hn1⟩ : ∃ d, d = dJm (dgs a).2 (grp (natOf (dgs a).1)) := ⟨_, rfl⟩
  obtain ⟨n2, hn2⟩ : ∃ d, d = dJm (dgs b).2 (grp (natOf (dgs b).1)) := ⟨_, rfl⟩
  obtain ⟨n3, hn3⟩ : ∃ d, d = dJm z.1 (grp z.2) := ⟨_, rfl⟩
  rw [← hn1] at c3 c5
  rw [← hn2] at c4 c5
  rw [← hn3] at c5 c6
  obtain ⟨p1, hp1⟩ : ∃ p, p = decide ((dgs a).1.length ≤ 17) := ⟨_, rfl⟩
  obtain ⟨p2, hp2⟩ : ∃ p, p = decide ((dgs b).1.length ≤ 17) := ⟨_, rfl⟩
  obtain ⟨u, hu⟩ : ∃ u, u = if (dgs a).1.length ≤ 17 then val a else 0 := ⟨_, rfl⟩
  obtain ⟨v, hv⟩ : ∃ u, u = if (dgs b).1.length ≤ 17 then val b else 0 := ⟨_, rfl⟩
  rw [← hp1, ← hu] at c1
  rw [← hp2, ← hv] at c2
  rw [← hp1, ← hp2] at hf
  clear hn1 hn2 hn3 hz s2 hp1 hp2 hu hv hlz h1 h2 h
  cases p1 with
  | false =>
    refine pcalls_of_pw Tryz.func61 rfl Tryz.ntmps61 Tryz.results61 (by simp) fun B w0 => ?_
    refine pw_seq (pw_region (yAd rfl (yQ (pw_seq (pw_region (yMd rfl (yC (c1) rfl rfl (yMp rfl (yX rfl rfl ?_))))))))); refine yX rfl rfl (yAd rfl (yAd rfl (yQ (pw_seq (pw_region (yMd rfl (yC (c2) rfl rfl (yMp rfl (yX rfl rfl ?_))))))))); refine yX rfl rfl (yAd rfl (yAd rfl (yQ (pw_seq (pw_seq (pw_region (yMd rfl (yMd rfl (yO rfl ?_))))))))); refine yVd rfl rfl (yQ (pw_cf rfl (pw_skip (pw_seq (pw_region (yMd rfl (yC (c3) rfl rfl (yMd rfl (yC (c4) rfl rfl ?_))))))))); refine yC (c5) rfl rfl (yC (c6) rfl rfl (yAd rfl (yQ (pw_ret ?_))))
    exact q_ret _ (.tmp rfl .nil) rfl
  | true =>
    have hp : p2 = false := by simpa using hf
    subst hp
    refine pcalls_of_pw Tryz.func61 rfl Tryz.ntmps61 Tryz.results61 (by simp) fun B w0 => ?_
    refine pw_seq (pw_region (yAd rfl (yQ (pw_seq (pw_region (yMd rfl (yC (c1) rfl rfl (yMp rfl (yX rfl rfl ?_))))))))); refine yX rfl rfl (yAd rfl (yAd rfl (yQ (pw_seq (pw_region (yMd rfl (yC (c2) rfl rfl (yMp rfl (yX rfl rfl ?_))))))))); refine yX rfl rfl (yAd rfl (yAd rfl (yQ (pw_seq (pw_seq (pw_region (yMd rfl (yMd rfl (yMd rfl ?_))))))))); refine yPd rfl rfl (yQ (pw_cf rfl (pw_skip (pw_seq (pw_region (yMd rfl (yC (c3) rfl rfl (yMd rfl (yC (c4) rfl rfl ?_))))))))); refine yC (c5) rfl rfl (yC (c6) rfl rfl (yAd rfl (yQ (pw_ret ?_))))
    exact q_ret _ (.tmp rfl .nil) rfl
set_option maxRecDepth 20000 in
set_option maxHeartbeats 1000000 in
theorem wRCmp0 (a : Str) (ha : a.length ≤ 100000) : PCalls Tryz.prog 90 [dS a, dS []] (.d (dI (sgnT a))) := by
  have c1 := wRDigits a (by omega)
  have c2 := wRDigits [] (by simp)
  rw [dgs_empty] at c2
  have hneg := neg_dgs a
  have hz : (dgs a).1.length = 0 ↔ val a = 0 := by
    have h1 := natOf_dgs a
    constructor
    · intro h
      rw [List.eq_nil_of_length_eq_zero h] at h1
      have : natOf [] = 0 := rfl
      omega
    · intro h
      rw [h] at h1
      rw [natOf_zero (dgs_all a) (dgs_head a) h1]
      rfl
  obtain ⟨t, ht⟩ : ∃ t, t = (dgs a).1 := ⟨_, rfl⟩
  obtain ⟨b, hb⟩ : ∃ b, b = (dgs a).2 := ⟨_, rfl⟩
  rw [← ht, ← hb] at c1
  rw [← ht] at hz
  rw [← hb] at hneg
  clear ht hb
  obtain ⟨r, hr⟩ : ∃ r, r = sgnT a := ⟨_, rfl⟩
  rw [← hr]
  unfold sgnT at hr
  cases b with
  | true =>
    have h0 : val a < 0 := by simpa using hneg.symm
    rw [if_pos h0] at hr
    subst hr
    refine pcalls_of_pw Tryz.func90 rfl Tryz.ntmps90 Tryz.results90 (by simp) fun B w0 => ?_
    refine pw_seq (pw_region (yAd rfl (yQ (pw_seq (pw_region (yMd rfl (yC (c1) rfl rfl (yMp rfl (yX rfl rfl ?_))))))))); refine yX rfl rfl (yAd rfl (yAd rfl (yQ (pw_seq (pw_region (yMd rfl (yC (c2) rfl rfl (yMp rfl (yX rfl rfl ?_))))))))); refine yX rfl rfl (yAd rfl (yAd rfl (yQ (pw_seq (pw_seq (pw_region (yMd rfl (yMd rfl (yBbn Tryz.underlying4 rfl rfl rfl ?_))))))))); refine yQ (pw_ct rfl (pw_seq (pw_seq (pw_region (yMd rfl (yQ (pw_ct rfl (pw_seq (pw_region ?_))))))))); refine yAd rfl (yQ (pw_ret (q_then_ret (q_then_ret ?_))))
    exact q_ret _ (.tmp rfl .nil) rfl
  | false =>
    have h0 : ¬ val a < 0 := by simpa using hneg.symm
    rw [if_neg h0] at hr
    by_cases h2 : t.length = 0
    · have ht0 : t = [] := List.eq_nil_of_length_eq_zero h2
      rw [if_neg (by have := hz.1 h2; omega)] at hr
      subst hr
      subst ht0
      refine pcalls_of_pw Tryz.func90 rfl Tryz.ntmps90 Tryz.results90 (by simp) fun B w0 => ?_
      refine pw_seq (pw_region (yAd rfl (yQ (pw_seq (pw_region (yMd rfl (yC (c1) rfl rfl (yMp rfl (yX rfl rfl ?_))))))))); refine yX rfl rfl (yAd rfl (yAd rfl (yQ (pw_seq (pw_region (yMd rfl (yC (c2) rfl rfl (yMp rfl (yX rfl rfl ?_))))))))); refine yX rfl rfl (yAd rfl (yAd rfl (yQ (pw_seq (pw_seq (pw_region (yMd rfl (yMd rfl (yBbn Tryz.underlying4 rfl rfl rfl ?_))))))))); refine yQ (pw_cf rfl (pw_skip (pw_seq (pw_region (yAd rfl (yQ (pw_seq (pw_seq (pw_region ?_))))))))); refine yMd rfl (yQ (pw_cf rfl (pw_skip (pw_seq (pw_seq (pw_region (yMd rfl (yNs rfl (yMd rfl ?_))))))))); refine yNs rfl (yB rfl rfl rfl rfl (yQ (pw_cf rfl (pw_skip (pw_seq (pw_seq (pw_region (yMd rfl (yMd rfl ?_))))))))); refine yBsl rfl rfl (yQ (pw_cf rfl (pw_skip (pw_seq (pw_seq (pw_region (yMd rfl (yMd rfl (yBsg rfl rfl ?_))))))))); refine yQ (pw_cf rfl (pw_skip (pw_seq (pw_region (yAd rfl (yQ (pw_ret ?_)))))))
      exact q_ret _ (.tmp rfl .nil) rfl
    · have h3 : val a ≠ 0 := fun e => h2 (hz.2 e)
      rw [if_pos (by omega)] at hr
      subst hr
      have u1 : ((t.length : Int) != (([] : Str).length : Int)) = true := by simp; intro e; exact h2 (by rw [e]; rfl)
      have u2 : decide ((t.length : Int) < (([] : Str).length : Int)) = false := decide_eq_false (by simp)
      refine pcalls_of_pw Tryz.func90 rfl Tryz.ntmps90 Tryz.results90 (by simp) fun B w0 => ?_
      refine pw_seq (pw_region (yAd rfl (yQ (pw_seq (pw_region (yMd rfl (yC (c1) rfl rfl (yMp rfl (yX rfl rfl ?_))))))))); refine yX rfl rfl (yAd rfl (yAd rfl (yQ (pw_seq (pw_region (yMd rfl (yC (c2) rfl rfl (yMp rfl (yX rfl rfl ?_))))))))); refine yX rfl rfl (yAd rfl (yAd rfl (yQ (pw_seq (pw_seq (pw_region (yMd rfl (yMd rfl (yBbn Tryz.underlying4 rfl rfl rfl ?_))))))))); refine yQ (pw_cf rfl (pw_skip (pw_seq (pw_region (yAd rfl (yQ (pw_seq (pw_seq (pw_region ?_))))))))); refine yMd rfl (yQ (pw_cf rfl (pw_skip (pw_seq (pw_seq (pw_region (yMd rfl (yNs rfl (yMd rfl ?_))))))))); refine yNs rfl (yB rfl rfl rfl rfl (yQ (q_then ?_))); rw [u1]; refine pw_ct rfl (pw_seq (pw_seq (pw_region (yMd rfl (yNs rfl (yMd rfl (yNs rfl (yB rfl rfl rfl rfl (yQ ?_))))))))); refine pw_cf rfl (pw_skip (pw_seq (pw_region (yMd rfl (yAd rfl (yQ (pw_ret (q_then_ret ?_)))))))); rw [u2]
      exact q_ret _ (.tmp rfl .nil) rfl
end Go.Proofs.YtkfoogabijnamaaGreatDoor
namespace Go.Proofs.YtkfoogabijnamaaGreatDoor
open Go.RowKit Px

theorem cmp_lt (n : Str) : decide (sgnT n < 0) = !decide (0 ≤ val n) := by
  unfold sgnT
  by_cases h : val n < 0
  · rw [if_pos h]; simp [h]
  · rw [if_neg h]
    have : 0 ≤ val n := by omega
    split <;> simp [this]
theorem nm_at {s : Stp} {i : Nat} {x : Str} (h : [s.q, s.m, s.k][i]? = some x) (hx : numB x = false) : nmE s = 1 := by
  unfold nmE
  match i with
  | 0 => cases h; rw [hx]; simp
  | 1 => cases h; rw [hx]; simp
  | 2 => cases h; rw [hx]; simp
  | i + 3 => simp at h
set_option maxRecDepth 20000 in
set_option maxHeartbeats 4000000 in
theorem wNums (s : Stp) (hb : bdS 1000 s) : PCalls Tryz.prog 77 [.agg (dSp s)] (.d (dI (nmE s))) := by
  obtain ⟨L, hL⟩ : ∃ L, L = [s.q, s.m, s.k] := ⟨_, rfl⟩
  obtain ⟨r, hr⟩ : ∃ r, r = nmE s := ⟨_, rfl⟩
  rw [← hr]
  have hLl : ∀ x ∈ L, x.length ≤ 1000 := fun x hx => by
    rw [hL] at hx
    simp only [List.mem_cons, List.not_mem_nil, or_false] at hx
    rcases hx with rfl | rfl | rfl
    · exact hb.2.2.2.1
    · exact hb.2.2.2.2.1
    · exact hb.2.2.2.2.2
  refine pcalls_of_pw Tryz.func77 rfl Tryz.ntmps77 Tryz.results77 (by simp) fun B w0 => ?_
  refine pw_seq (pw_region (yK (cs := [_, _, _, _, _, _]) rfl rfl (yAd rfl (yQ (pw_seq (pw_seq (pw_region (yFb rfl (yLd rfl rfl rfl ?_))))))))); refine yFb rfl (yLd rfl rfl rfl (yFb rfl (yLd rfl rfl rfl ?_))); refine yR (es := [[_], [_], [_]]) rfl rfl rfl rfl rfl ?_; refine yN rfl (yMd rfl (yQ (pw_block ?_))); refine pw_loop (fun i : Nat => ⟨44, [(11, .d (.sl 1 (L.map fun x => [dS x]))), (12, .d (dI 3)), (13, .d (dI i)), (1, .bx 1 0)], [(1, (dSp s).map SV.d)], []⟩) (fun i => i ≤ 3 ∧ ∀ j x, j < i → L[j]? = some x → numB x = true) (fun i => 3 - i) 0 ⟨Nat.zero_le _, fun j x hj => absurd hj (Nat.not_lt_zero _)⟩ ⟨rfl, ⟨.of_eq (by rw [hL]; rfl), .refl _, .refl _, .refl _, trivial⟩, ⟨⟨_, rfl, lesC_refl _⟩, trivial⟩, trivial, rfl⟩ ?_
  rintro i ⟨hi, h0⟩
  rcases Nat.lt_or_ge i 3 with h | h
  · have u1 : decide ((i : Int) < 3) = true := decide_eq_true (by omega)
    obtain ⟨x, hx⟩ : ∃ a, L[i]? = some a := ⟨_, List.getElem?_eq_getElem (by rw [hL]; exact h)⟩
    have ex := ix (fun s => [dS s]) L i i x rfl hx
    have hxl := hLl x (List.mem_of_getElem? hx)
    have c1 := wCheck x (by omega)
    have c2 := wCmp0 x (by omega)
    have hw := wrapI ((i : Int) + 1) (by omega)
    have t2 := cmp_lt x
    cases hc : isC x with
    | false =>
      rw [hc] at c1
      have hn : r = 1 := by rw [hr]; exact nm_at (by rw [← hL]; exact hx) (by rw [numB, hc]; rfl)
      subst hn
      refine pw_seq (pw_region (yB rfl rfl rfl rfl (yQ (pw_seq ?_)))); rw [u1]; refine pw_ct rfl (pw_skip (pw_seq (pw_block (pw_seq (pw_region ?_))))); refine yW ex (by omega) rfl rfl ?_; refine yLr rfl rfl (yAd rfl (yQ (pw_seq (pw_region (yMd rfl (yC (c1) rfl rfl (yB rfl rfl rfl rfl (yMd rfl (yO rfl ?_))))))))); refine yO rfl (yO rfl (yPd rfl rfl (yQ (pw_ct rfl (pw_seq (pw_region (yAd rfl (yQ (pw_ret ?_))))))))); refine q_blk_ret (q_then_ret (q_then_ret (q_blk_ret (q_then_ret ?_))))
      exact q_ret _ (.tmp rfl .nil) rfl
    | true =>
      rw [hc] at c1
      by_cases hv : 0 ≤ val x
      · have hn : numB x = true := by rw [numB, hc]; simpa using hv
        rw [decide_eq_true hv] at t2
        refine pw_seq (pw_region (yB rfl rfl rfl rfl (yQ (pw_seq ?_)))); rw [u1]; refine pw_ct rfl (pw_skip (pw_seq (pw_block (pw_seq (pw_region ?_))))); refine yW ex (by omega) rfl rfl ?_; refine yLr rfl rfl (yAd rfl (yQ (pw_seq (pw_region (yMd rfl (yC (c1) rfl rfl (yB rfl rfl rfl rfl (yMd rfl (yMd rfl ?_))))))))); refine yC (c2) rfl rfl (yB rfl rfl rfl rfl (yVd rfl rfl (yQ (q_then ?_)))); rw [t2]; refine pw_cf rfl (pw_skip (pw_region (yB rfl rfl rfl rfl (yMd rfl (yQ (q_then ?_))))))
        exact ⟨i + 1, ⟨h, fun j y hj hy => by
          rcases Nat.lt_or_ge j i with h1 | h1
          · exact h0 j y h1 hy
          · obtain rfl : j = i := by omega
            rw [hx] at hy; cases hy; exact hn⟩, by omega, rfl, ⟨.refl _, .refl _, .of_eq (congrArg (fun n => SV.d (dI n)) hw), .refl _, trivial⟩, ⟨⟨_, rfl, lesC_refl _⟩, trivial⟩, trivial, rfl⟩
      · have hn : r = 1 := by rw [hr]; exact nm_at (by rw [← hL]; exact hx) (by rw [numB, hc]; simpa using hv)
        subst hn
        rw [decide_eq_false hv] at t2
        refine pw_seq (pw_region (yB rfl rfl rfl rfl (yQ (pw_seq ?_)))); rw [u1]; refine pw_ct rfl (pw_skip (pw_seq (pw_block (pw_seq (pw_region ?_))))); refine yW ex (by omega) rfl rfl ?_; refine yLr rfl rfl (yAd rfl (yQ (pw_seq (pw_region (yMd rfl (yC (c1) rfl rfl (yB rfl rfl rfl rfl (yMd rfl (yMd rfl ?_))))))))); refine yC (c2) rfl rfl (yB rfl rfl rfl rfl (yVd rfl rfl (yQ (q_then ?_)))); rw [t2]; refine pw_ct rfl (pw_seq (pw_region (yAd rfl (yQ (pw_ret (q_blk_ret (q_then_ret (q_then_ret (q_blk_ret ?_))))))))); refine q_then_ret ?_
        exact q_ret _ (.tmp rfl .nil) rfl
  · have u1 : decide ((i : Int) < 3) = false := decide_eq_false (by omega)
    have h1 : numB s.q = true := h0 0 _ (by omega) (by rw [hL]; rfl)
    have h2 : numB s.m = true := h0 1 _ (by omega) (by rw [hL]; rfl)
    have h3 : numB s.k = true := h0 2 _ (by omega) (by rw [hL]; rfl)
    rw [nmE, h1, h2, h3] at hr
    by_cases e1 : s.f = []
    · have a1 : (s.f == []) = true := by simp [e1]
      by_cases e2 : s.q = []
      · have a2 : (!s.q == []) = false := by simp [e2]
        by_cases e3 : s.t = []
        · have a3 : (s.t == []) = true := by simp [e3]
          by_cases e4 : s.m = []
          · have a4 : (!s.m == []) = false := by simp [e4]
            have hn : r = 0 := by rw [hr]; simp [e1, e2, e3, e4]
            subst hn
            refine pw_seq (pw_region (yB rfl rfl rfl rfl (yQ (pw_seq ?_)))); rw [u1]; refine pw_cf rfl (pw_exit (pw_seq (pw_seq (pw_region (yFb rfl (yLd rfl rfl rfl (yBse rfl rfl (yMd rfl ?_)))))))); rw [a1]; refine yFb rfl (yLd rfl rfl rfl (yBsn rfl rfl (yPd rfl rfl (yMd rfl ?_)))); rw [a2]; refine yFb rfl (yLd rfl rfl rfl (yBse rfl rfl (yMd rfl ?_))); rw [a3]; refine yFb rfl (yLd rfl rfl rfl (yBsn rfl rfl (yPd rfl rfl (yVd rfl rfl (yQ (q_then ?_))))))
            rw [a4]; refine pw_cf rfl ?_; refine pw_skip ?_; refine pw_seq ?_; refine pw_region ?_; refine yAd rfl ?_; refine yQ ?_; refine pw_ret ?_
            exact q_ret _ (.tmp rfl .nil) rfl
          · have a4 : (!s.m == []) = true := by simp [e4]
            have hn : r = 1 := by rw [hr]; simp [e1, e2, e3, e4]
            subst hn
            refine pw_seq (pw_region (yB rfl rfl rfl rfl (yQ (pw_seq ?_)))); rw [u1]; refine pw_cf rfl (pw_exit (pw_seq (pw_seq (pw_region (yFb rfl (yLd rfl rfl rfl (yBse rfl rfl (yMd rfl ?_)))))))); rw [a1]; refine yFb rfl (yLd rfl rfl rfl (yBsn rfl rfl (yPd rfl rfl (yMd rfl ?_)))); rw [a2]; refine yFb rfl (yLd rfl rfl rfl (yBse rfl rfl (yMd rfl ?_))); rw [a3]; refine yFb rfl (yLd rfl rfl rfl (yBsn rfl rfl (yPd rfl rfl (yVd rfl rfl (yQ (q_then ?_))))))
            rw [a4]; refine pw_ct rfl ?_; refine pw_seq ?_; refine pw_region ?_; refine yAd rfl ?_; refine yQ ?_; refine pw_ret ?_; refine q_then_ret ?_
            exact q_ret _ (.tmp rfl .nil) rfl
        · have a3 : (s.t == []) = false := by simp [e3]
          have hn : r = 0 := by rw [hr]; simp [e1, e2, e3]
          subst hn
          refine pw_seq (pw_region (yB rfl rfl rfl rfl (yQ (pw_seq ?_)))); rw [u1]; refine pw_cf rfl (pw_exit (pw_seq (pw_seq (pw_region (yFb rfl (yLd rfl rfl rfl (yBse rfl rfl (yMd rfl ?_)))))))); rw [a1]; refine yFb rfl (yLd rfl rfl rfl (yBsn rfl rfl (yPd rfl rfl (yMd rfl ?_)))); rw [a2]; refine yFb rfl (yLd rfl rfl rfl (yBse rfl rfl (yMd rfl ?_))); rw [a3]; refine yO rfl (yO rfl (yO rfl (yVd rfl rfl (yVd rfl rfl (yQ (pw_cf rfl (pw_skip (pw_seq (pw_region ?_))))))))); refine yAd rfl (yQ (pw_ret ?_))
          exact q_ret _ (.tmp rfl .nil) rfl
      · have a2 : (!s.q == []) = true := by simp [e2]
        have hn : r = 1 := by rw [hr]; simp [e1, e2]
        subst hn
        refine pw_seq (pw_region (yB rfl rfl rfl rfl (yQ (pw_seq ?_)))); rw [u1]; refine pw_cf rfl (pw_exit (pw_seq (pw_seq (pw_region (yFb rfl (yLd rfl rfl rfl (yBse rfl rfl (yMd rfl ?_)))))))); rw [a1]; refine yFb rfl (yLd rfl rfl rfl (yBsn rfl rfl (yPd rfl rfl (yMd rfl ?_)))); rw [a2]; refine yO rfl (yO rfl (yO rfl (yO rfl (yO rfl (yO rfl (yO rfl (yO rfl (yPd rfl rfl (yQ ?_))))))))); refine pw_ct rfl (pw_seq (pw_region (yAd rfl (yQ (pw_ret (q_then_ret ?_))))))
        exact q_ret _ (.tmp rfl .nil) rfl
    · have a1 : (s.f == []) = false := by simp [e1]
      by_cases e3 : s.t = []
      · have a3 : (s.t == []) = true := by simp [e3]
        by_cases e4 : s.m = []
        · have a4 : (!s.m == []) = false := by simp [e4]
          have hn : r = 0 := by rw [hr]; simp [e1, e3, e4]
          subst hn
          refine pw_seq (pw_region (yB rfl rfl rfl rfl (yQ (pw_seq ?_)))); rw [u1]; refine pw_cf rfl (pw_exit (pw_seq (pw_seq (pw_region (yFb rfl (yLd rfl rfl rfl (yBse rfl rfl (yMd rfl ?_)))))))); rw [a1]; refine yO rfl (yO rfl (yO rfl (yVd rfl rfl (yMd rfl (yFb rfl (yLd rfl rfl rfl (yBse rfl rfl (yMd rfl ?_)))))))); rw [a3]; refine yFb rfl (yLd rfl rfl rfl (yBsn rfl rfl (yPd rfl rfl (yVd rfl rfl (yQ (q_then ?_)))))); rw [a4]; refine pw_cf rfl (pw_skip (pw_seq (pw_region (yAd rfl (yQ (pw_ret ?_))))))
          exact q_ret _ (.tmp rfl .nil) rfl
        · have a4 : (!s.m == []) = true := by simp [e4]
          have hn : r = 1 := by rw [hr]; simp [e1, e3, e4]
          subst hn
          refine pw_seq (pw_region (yB rfl rfl rfl rfl (yQ (pw_seq ?_)))); rw [u1]; refine pw_cf rfl (pw_exit (pw_seq (pw_seq (pw_region (yFb rfl (yLd rfl rfl rfl (yBse rfl rfl (yMd rfl ?_)))))))); rw [a1]; refine yO rfl (yO rfl (yO rfl (yVd rfl rfl (yMd rfl (yFb rfl (yLd rfl rfl rfl (yBse rfl rfl (yMd rfl ?_)))))))); rw [a3]; refine yFb rfl (yLd rfl rfl rfl (yBsn rfl rfl (yPd rfl rfl (yVd rfl rfl (yQ (q_then ?_)))))); rw [a4]; refine pw_ct rfl (pw_seq (pw_region (yAd rfl (yQ (pw_ret (q_then_ret ?_))))))
          exact q_ret _ (.tmp rfl .nil) rfl
      · have a3 : (s.t == []) = false := by simp [e3]
        have hn : r = 0 := by rw [hr]; simp [e1, e3]
        subst hn
        refine pw_seq (pw_region (yB rfl rfl rfl rfl (yQ (pw_seq ?_)))); rw [u1]; refine pw_cf rfl (pw_exit (pw_seq (pw_seq (pw_region (yFb rfl (yLd rfl rfl rfl (yBse rfl rfl (yMd rfl ?_)))))))); rw [a1]; refine yO rfl (yO rfl (yO rfl (yVd rfl rfl (yMd rfl (yFb rfl (yLd rfl rfl rfl (yBse rfl rfl (yMd rfl ?_)))))))); rw [a3]; refine yO rfl (yO rfl (yO rfl (yVd rfl rfl (yVd rfl rfl (yQ (pw_cf rfl (pw_skip (pw_seq (pw_region ?_))))))))); refine yAd rfl (yQ (pw_ret ?_))
        exact q_ret _ (.tmp rfl .nil) rfl
set_option maxRecDepth 20000 in
set_option maxHeartbeats 4000000 in
theorem wStep (s : Stp) (hb : bdS 1000 s) : PCalls Tryz.prog 58 [.agg (dSp s)] (.d (dI (stE s))) := by
  have c1 := wNums s hb
  obtain ⟨r, hr⟩ : ∃ r, r = stE s := ⟨_, rfl⟩
  rw [← hr]
  rw [stE] at hr
  obtain ⟨e, he⟩ : ∃ e, e = nmE s := ⟨_, rfl⟩
  rw [← he] at c1 hr
  refine pcalls_of_pw Tryz.func58 rfl Tryz.ntmps58 Tryz.results58 (by simp) fun B w0 => ?_
  by_cases e0 : s.c = []
  · have a0 : (s.c == []) = true := by simp [e0]
    have hn : r = 11 := by rw [hr]; simp [e0]
    subst hn
    refine pw_seq (pw_region (yK (cs := [_, _, _, _, _, _]) rfl rfl (yAd rfl (yQ (pw_seq (pw_block (pw_seq (pw_region (yFb rfl ?_))))))))); refine yLd rfl rfl rfl (yBse rfl rfl (yMd rfl ?_)); rw [a0]; refine yO rfl (yO rfl (yO rfl (yO rfl (yO rfl (yO rfl (yO rfl (yO rfl (yPd rfl rfl (yAd rfl ?_))))))))); refine yQ (pw_ct rfl (pw_seq (pw_region (yAd rfl (yQ (pw_ret (q_blk_ret (q_then_ret ?_))))))))
    exact q_ret _ (.tmp rfl .nil) rfl
  have a0 : (s.c == []) = false := by simp [e0]
  by_cases e3 : s.f = s.t
  · have a3 : (s.f == s.t) = true := by simp [e3]
    by_cases e1 : s.f = []
    · have a1 : (s.f == []) = true := by simp [e1]
      have e2 : s.t = [] := by rw [← e3]; exact e1
      have a2 : (s.t == []) = true := by simp [e2]
      have hn : r = 11 := by rw [hr]; simp [e1, e2]
      subst hn
      refine pw_seq (pw_region (yK (cs := [_, _, _, _, _, _]) rfl rfl (yAd rfl (yQ (pw_seq (pw_block (pw_seq (pw_region (yFb rfl ?_))))))))); refine yLd rfl rfl rfl (yBse rfl rfl (yMd rfl ?_)); rw [a0]; refine yFb rfl (yLd rfl rfl rfl (yBse rfl rfl (yMd rfl ?_))); rw [a1]; refine yFb rfl (yLd rfl rfl rfl (yBse rfl rfl (yPd rfl rfl (yVd rfl rfl (yAd rfl (yQ (q_then ?_))))))); rw [a2]; refine pw_ct rfl (pw_seq (pw_region (yAd rfl (yQ (pw_ret (q_blk_ret (q_then_ret ?_)))))))
      exact q_ret _ (.tmp rfl .nil) rfl
    · have a1 : (s.f == []) = false := by simp [e1]
      have hn : r = 18 := by rw [hr, if_neg (by simp [e0, e1]), if_pos e3]
      subst hn
      refine pw_seq (pw_region (yK (cs := [_, _, _, _, _, _]) rfl rfl (yAd rfl (yQ (pw_seq (pw_block (pw_seq (pw_region (yFb rfl ?_))))))))); refine yLd rfl rfl rfl (yBse rfl rfl (yMd rfl ?_)); rw [a0]; refine yFb rfl (yLd rfl rfl rfl (yBse rfl rfl (yMd rfl ?_))); rw [a1]; refine yO rfl (yO rfl (yO rfl (yVd rfl rfl (yVd rfl rfl (yAd rfl (yQ (pw_cf rfl (pw_seq (pw_region ?_))))))))); refine yFb rfl (yLd rfl rfl rfl (yFb rfl (yLd rfl rfl rfl (yBse rfl rfl (yAd rfl (yQ (q_then ?_))))))); rw [a3]; refine pw_ct rfl (pw_seq (pw_region (yAd rfl (yQ (pw_ret (q_blk_ret (q_then_ret ?_)))))))
      exact q_ret _ (.tmp rfl .nil) rfl
  · have a3 : (s.f == s.t) = false := by simp [e3]
    by_cases e1 : s.f = []
    · have a1 : (s.f == []) = true := by simp [e1]
      have e2 : s.t ≠ [] := fun h => e3 (by rw [e1, h])
      have a2 : (s.t == []) = false := by simp [e2]
      have hn : r = e := by rw [hr, if_neg (by simp [e0, e2]), if_neg e3]
      subst hn
      refine pw_seq (pw_region (yK (cs := [_, _, _, _, _, _]) rfl rfl (yAd rfl (yQ (pw_seq (pw_block (pw_seq (pw_region (yFb rfl ?_))))))))); refine yLd rfl rfl rfl (yBse rfl rfl (yMd rfl ?_)); rw [a0]; refine yFb rfl (yLd rfl rfl rfl (yBse rfl rfl (yMd rfl ?_))); rw [a1]; refine yFb rfl (yLd rfl rfl rfl (yBse rfl rfl (yPd rfl rfl (yVd rfl rfl (yAd rfl (yQ (q_then ?_))))))); rw [a2]; refine pw_cf rfl (pw_seq (pw_region (yFb rfl (yLd rfl rfl rfl (yFb rfl (yLd rfl rfl rfl (yBse rfl rfl (yAd rfl (yQ ?_))))))))); refine q_then ?_; rw [a3]; refine pw_cf rfl (pw_skip (pw_seq (pw_region (yLa (ys := [_, _, _, _, _, _]) rfl rfl rfl rfl (yC (c1) rfl rfl (yAd rfl (yQ (pw_ret ?_))))))))
      exact q_ret _ (.tmp rfl .nil) rfl
    · have a1 : (s.f == []) = false := by simp [e1]
      have hn : r = e := by rw [hr, if_neg (by simp [e0, e1]), if_neg e3]
      subst hn
      refine pw_seq (pw_region (yK (cs := [_, _, _, _, _, _]) rfl rfl (yAd rfl (yQ (pw_seq (pw_block (pw_seq (pw_region (yFb rfl ?_))))))))); refine yLd rfl rfl rfl (yBse rfl rfl (yMd rfl ?_)); rw [a0]; refine yFb rfl (yLd rfl rfl rfl (yBse rfl rfl (yMd rfl ?_))); rw [a1]; refine yO rfl (yO rfl (yO rfl (yVd rfl rfl (yVd rfl rfl (yAd rfl (yQ (pw_cf rfl (pw_seq (pw_region ?_))))))))); refine yFb rfl (yLd rfl rfl rfl (yFb rfl (yLd rfl rfl rfl (yBse rfl rfl (yAd rfl (yQ (q_then ?_))))))); rw [a3]; refine pw_cf rfl (pw_skip (pw_seq (pw_region (yLa (ys := [_, _, _, _, _, _]) rfl rfl rfl rfl (yC (c1) rfl rfl (yAd rfl (yQ (pw_ret ?_))))))))
      exact q_ret _ (.tmp rfl .nil) rfl
set_option maxRecDepth 20000 in
set_option maxHeartbeats 4000000 in
theorem wChk (l : List Stp) (hb : bdL 1000 l) : PCalls Tryz.prog 21 [dSl l] (.d (dI (chkE l))) := by
  obtain ⟨hl, hs⟩ := hb
  have c1 := wPars l (by omega)
  have hk : ∀ q ∈ parG l, q.1.length ≤ 1000000 := fun q hq => by
    obtain ⟨s, h1, h2, -⟩ := parG_keys l q.1 (List.mem_map.2 ⟨q, hq, rfl⟩)
    have := (hs s h1).2.2.1
    rw [← h2]; omega
  have c2 := wCyclic (parG l) (fun q hq => by have := parG_rows l q hq; omega) (by have := parG_count l; omega) hk (cycB (parG l)) fun ks h => cyc_root _ ks h
  obtain ⟨r, hr⟩ : ∃ r, r = chkE l := ⟨_, rfl⟩
  rw [← hr]
  rw [chkE] at hr
  by_cases h4 : 4000 < l.length
  · have a1 : decide (((l.map dSp).length : Int) > 4000) = true := by rw [List.length_map]; exact decide_eq_true (by omega)
    rw [if_pos h4] at hr
    subst hr
    refine pcalls_of_pw Tryz.func21 rfl Tryz.ntmps21 Tryz.results21 (by simp) fun B w0 => ?_
    refine pw_seq (pw_region (yAd rfl (yQ (pw_seq (pw_seq (pw_region (yMd rfl (yN rfl (yB rfl rfl rfl rfl ?_))))))))); refine yQ (q_then ?_)
    rw [a1]; refine pw_ct rfl ?_; refine pw_seq ?_; refine pw_region ?_; refine yAd rfl ?_; refine yQ ?_; refine pw_ret ?_; refine q_then_ret ?_
    exact q_ret _ (.tmp rfl .nil) rfl
  rw [if_neg h4] at hr
  have a1 : decide (((l.map dSp).length : Int) > 4000) = false := by rw [List.length_map]; exact decide_eq_false (by omega)
  refine pcalls_of_pw Tryz.func21 rfl Tryz.ntmps21 Tryz.results21 (by simp) fun B w0 => ?_
  refine pw_seq (pw_region (yAd rfl (yQ (pw_seq (pw_seq (pw_region (yMd rfl (yN rfl (yB rfl rfl rfl rfl ?_))))))))); refine yQ (q_then ?_)
  rw [a1]; refine pw_cf rfl ?_; refine pw_skip ?_; refine pw_seq ?_; refine pw_seq ?_; refine pw_region ?_; refine yMd rfl ?_; refine yN rfl ?_; refine yMd rfl ?_; refine yQ ?_; refine pw_block ?_
  refine pw_loop (fun i : Nat => ⟨24, [(0, .d (dSl l)), (9, .d (dSl l)), (10, .d (dI l.length)), (11, .d (dI i))], [], []⟩) (fun i => i ≤ l.length ∧ ∀ j x, j < i → l[j]? = some x → stE x = 0) (fun i => l.length - i) 0 ⟨Nat.zero_le _, fun j x hj => absurd hj (Nat.not_lt_zero _)⟩ ⟨rfl, ⟨.refl _, .refl _, .of_eq (congrArg (fun n : Nat => SV.d (dI n)) (by simp)), .refl _, trivial⟩, trivial, trivial, rfl⟩ ?_
  rintro i ⟨hi, h0⟩
  rcases Nat.lt_or_ge i l.length with h | h
  · have u1 : decide ((i : Int) < (l.length : Int)) = true := decide_eq_true (by omega)
    obtain ⟨s, hx⟩ : ∃ a, l[i]? = some a := ⟨_, List.getElem?_eq_getElem h⟩
    have ex := ix dSp l i i s rfl hx
    have hw := wrapI ((i : Int) + 1) (by omega)
    have c3 := wStep s (hs s (List.mem_of_getElem? hx))
    by_cases e : stE s = 0
    · rw [e] at c3
      refine pw_seq (pw_region (yB rfl rfl rfl rfl (yQ (pw_seq ?_)))); rw [u1]; refine pw_ct rfl (pw_skip (pw_seq (pw_block (pw_seq (pw_region ?_))))); refine yW ex (by omega) rfl rfl ?_; refine yLs (ys := [_, _, _, _, _, _]) rfl rfl rfl (yZ (cs := [_, _, _, _, _, _]) rfl rfl (yS (cs' := [_, _, _, _, _, _]) rfl rfl rfl rfl rfl (yQ (pw_seq (pw_region (yLa (ys := [_, _, _, _, _, _]) rfl rfl rfl rfl (yC (c3) rfl rfl (yAd rfl (yQ ?_))))))))); refine pw_seq (pw_region (yMd rfl (yB rfl rfl rfl rfl (yQ (pw_cf rfl (pw_skip (pw_region (yB rfl rfl rfl rfl (yMd rfl ?_))))))))); refine yQ (q_then ?_)
      exact ⟨i + 1, ⟨h, fun j y hj hy => by
        rcases Nat.lt_or_ge j i with h1 | h1
        · exact h0 j y h1 hy
        · obtain rfl : j = i := by omega
          rw [hx] at hy; cases hy; exact e⟩, by omega, rfl, ⟨.refl _, .refl _, .refl _, .of_eq (congrArg (fun n => SV.d (dI n)) hw), trivial⟩, trivial, trivial, rfl⟩
    · have hf := firstE_at hx h0 e
      rw [hf, if_neg e] at hr
      subst hr
      have u2 : (stE s != 0) = true := by simpa using e
      refine pw_seq (pw_region (yB rfl rfl rfl rfl (yQ (pw_seq ?_)))); rw [u1]; refine pw_ct rfl (pw_skip (pw_seq (pw_block (pw_seq (pw_region ?_))))); refine yW ex (by omega) rfl rfl ?_; refine yLs (ys := [_, _, _, _, _, _]) rfl rfl rfl (yZ (cs := [_, _, _, _, _, _]) rfl rfl (yS (cs' := [_, _, _, _, _, _]) rfl rfl rfl rfl rfl (yQ (pw_seq (pw_region (yLa (ys := [_, _, _, _, _, _]) rfl rfl rfl rfl (yC (c3) rfl rfl (yAd rfl (yQ ?_))))))))); refine pw_seq (pw_region (yMd rfl (yB rfl rfl rfl rfl (yQ (q_then ?_))))); rw [u2]; refine pw_ct rfl (pw_seq (pw_region (yMd rfl (yAd rfl (yQ (pw_ret (q_blk_ret (q_then_ret (q_then_ret ?_))))))))); refine q_blk_ret (q_then_ret ?_)
      exact q_ret _ (.tmp rfl .nil) rfl
  · have u1 : decide ((i : Int) < (l.length : Int)) = false := decide_eq_false (by omega)
    have hf : firstE l = 0 := firstE_ok fun j x hx => h0 j x (by have := (List.getElem?_eq_some_iff.1 hx).1; omega) hx
    rw [if_pos hf] at hr
    cases hc : cycB (parG l) with
    | true =>
      rw [hc] at c2 hr
      rw [if_pos rfl] at hr
      subst hr
      refine pw_seq (pw_region (yB rfl rfl rfl rfl (yQ (pw_seq ?_)))); rw [u1]; refine pw_cf rfl (pw_exit (pw_seq (pw_seq (pw_region (yMd rfl (yC (c1) rfl rfl (yC (c2) rfl rfl (yQ (pw_ct rfl ?_))))))))); refine pw_seq (pw_region (yAd rfl (yQ (pw_ret (q_then_ret ?_)))))
      exact q_ret _ (.tmp rfl .nil) rfl
    | false =>
      rw [hc] at c2 hr
      rw [if_neg (by simp)] at hr
      subst hr
      refine pw_seq (pw_region (yB rfl rfl rfl rfl (yQ (pw_seq ?_)))); rw [u1]; refine pw_cf rfl (pw_exit (pw_seq (pw_seq (pw_region (yMd rfl (yC (c1) rfl rfl (yC (c2) rfl rfl (yQ (pw_cf rfl ?_))))))))); refine pw_skip (pw_seq (pw_region (yAd rfl (yQ (pw_ret ?_)))))
      exact q_ret _ (.tmp rfl .nil) rfl
end Go.Proofs.YtkfoogabijnamaaGreatDoor
namespace Go.Proofs.YtkfoogabijnamaaGreatDoor
open Go.RowKit Px

def dStrs (L : List Str) : DV := .sl 1 (L.map fun s => [dS s])
def okR (l : List Stp) (r : List Str) : List Str := if chkE l = 0 then r else []
def okE (l : List Stp) : Int := if chkE l = 0 then 0 else 1
def setF (f : Stp → Bool) (g : Stp → Str) (l : List Stp) : List Str := ((l.filter f).map g).foldl addB []
theorem setF_next {f : Stp → Bool} {g : Stp → Str} {l : List Stp} {n : Nat} {s : Stp} (h : l[n]? = some s) : setF f g (l.take (n + 1)) = if f s then addB (setF f g (l.take n)) (g s) else setF f g (l.take n) := by
  unfold setF
  rw [List.take_add_one, h, Option.toList, List.filter_append, List.map_append, List.foldl_append]
  cases hf : f s with
  | true => simp [hf]
  | false => simp [hf]
theorem setF_len (f : Stp → Bool) (g : Stp → Str) (l : List Stp) : (setF f g l).length ≤ l.length := by
  have h1 := (fold_addB ((l.filter f).map g) []).2.2
  have h2 := List.length_filter_le f l
  rw [List.length_map, List.length_nil] at h1
  exact Nat.le_trans h1 (by omega)
theorem setF_all {p : Str → Prop} (f : Stp → Bool) (g : Stp → Str) (l : List Stp) (h : ∀ s ∈ l, p (g s)) : ∀ x ∈ setF f g l, p x := fun x hx => by
  rcases ((fold_addB ((l.filter f).map g) []).1 x).1 hx with h1 | h1
  · cases h1
  · obtain ⟨s, h2, rfl⟩ := List.mem_map.1 h1
    exact h s (List.mem_filter.1 h2).1
theorem setF_nodup (f : Stp → Bool) (g : Stp → Str) (l : List Stp) : (setF f g l).Nodup := (fold_addB _ _).2.1 List.nodup_nil
theorem setF_sort (f : Stp → Bool) (g : Stp → Str) (l : List Stp) : (setF f g l).mergeSort leB = uniS ((l.filter f).map g) := by
  rw [sort_uni (setF_nodup f g l)]
  exact fold_uni _
theorem addB_contains (S : List Str) (id x : Str) : (addB S id).contains x = (S.contains x || x == id) := by
  rw [Bool.eq_iff_iff]
  simp only [List.contains_iff_mem, addB_mem, Bool.or_eq_true, beq_iff_eq]
theorem pcalls_abs {P : Program} {f : FuncId} {R : (Nat → Nat → Prop) → World → Value → Prop} {rest : List DV} {r : SV} (h : ∀ F w v, R F w v → ∃ x, DRep F w v x ∧ PCalls P f (x :: rest) r) : PCalls P f (.abs R :: rest) r := by
  intro F w vals hl hv hg
  match vals, hl with
  | v :: vals, hl =>
    have h1 := hv 0 v _ rfl rfl
    cases h1 with
    | abs hR h1c hr =>
      obtain ⟨x, hx, hc⟩ := h F w v hr
      refine hc F w (v :: vals) (by simpa using hl) (fun i u y hu hy => ?_) hg
      match i with
      | 0 => cases hu; cases hy; exact hx
      | i + 1 => exact hv (i + 1) u y hu hy
theorem pcalls_weak {P : Program} {f : FuncId} {args : List DV} {x y : DV} (h : ∀ F w v, DRep F w v x → DRep F w v y) (hc : PCalls P f args (.d x)) : PCalls P f args (.d y) := fun F w vals hl hv hg =>
  (hc F w vals hl hv hg).mono fun _ _ ⟨v, h1, h2, h3⟩ => ⟨v, h1, h _ _ _ h2, h3⟩
def dSetP (p : Str → Prop) : DV := .abs fun F w v => ∃ S : List Str, S.Nodup ∧ S.length ≤ 100000 ∧ (∀ s ∈ S, s.length ≤ 1000000) ∧ (∀ x, x ∈ S ↔ p x) ∧ DRep F w v (dSet S)
theorem DRep.setp {F : Nat → Nat → Prop} {w : World} {v : Value} {p : Str → Prop} (S : List Str) (h1 : S.Nodup) (h2 : S.length ≤ 100000) (h3 : ∀ s ∈ S, s.length ≤ 1000000) (h4 : ∀ x, x ∈ S ↔ p x) (h : DRep F w v (dSet S)) : DRep F w v (dSetP p) := by
  refine .abs (fun F F' w w' v ⟨S, q1, q2, q3, q4, q5⟩ k => ⟨S, q1, q2, q3, q4, q5.mono k⟩) ?_ ⟨S, h1, h2, h3, h4, h⟩
  obtain ⟨b, es, c, rfl, -⟩ := DRep.mapd h
  rfl
theorem wSortedP {p : Str → Prop} {R : List Str} (hR : ascS R) (h : ∀ x, x ∈ R ↔ p x) : PCalls Tryz.prog 49 [dSetP p] (.d (dStrs R)) :=
  pcalls_abs fun F w v ⟨S, h1, h2, h3, h4, h5⟩ => ⟨dSet S, h5, by
    have c1 := wSorted S h2 h3
    have : S.mergeSort leB = R := (sort_uni h1).trans (uniS_of hR fun x => (h x).trans (h4 x).symm).symm
    rw [this] at c1
    exact c1⟩
theorem lotL_len : ∀ l : List Stp, (lotL l).length ≤ 2 * l.length
  | [] => Nat.le_refl _
  | s :: l => by
    have h1 : (lotS s).length ≤ 2 := by unfold lotS; rw [List.length_append]; split <;> split <;> simp
    have h2 := lotL_len l
    have h3 : lotL (s :: l) = lotS s ++ lotL l := rfl
    rw [h3, List.length_append, List.length_cons]
    omega
theorem wReachT (l : List Stp) (id : Str) (hb : bdL 1000 l) : PCalls Tryz.prog 56 [dTn (parG l), dS id] (.d (dSetP fun x => Rch (parG l) x id)) :=
  pcalls_abs fun F w v ⟨o, ⟨ms, hms, ho⟩, hd⟩ => ⟨dLk o, hd, by
    have hm := fun a b => turn_mem (a := a) (b := b) (parG_nodup l) ms hms ho
    have htot : totG ms ≤ l.length := by rw [totG_perm hms]; exact parG_tot l
    have hall : ∀ x ∈ reach o id, x ∈ lotL l := fun x hx => rch_lot ((turn_rch hm).1 ((reach_iff _ _ _).1 hx))
    refine pcalls_weak (fun F w v h => DRep.setp (reach o id) (reach_nodup o id) ?_ (fun x hx => ?_) (fun x => (reach_iff o id x).trans (turn_rch hm)) h) (wReach o id fun q hq => ?_)
    · have h1 := nodup_sub (reach_nodup o id) hall
      have h2 := lotL_len l
      have := hb.1
      omega
    · obtain ⟨-, s, h1, h2⟩ := mem_lotL.1 (hall x hx)
      have := hb.2 s h1
      rcases h2 with h2 | h2
      · rw [← h2]; have := this.2.1; omega
      · rw [← h2]; have := this.2.2.1; omega
    · rw [ho] at hq
      have := turnG_len ms q hq
      have := hb.1
      omega⟩
set_option maxRecDepth 20000 in
set_option maxHeartbeats 4000000 in
theorem wHeirs (l : List Stp) (id : Str) (hb : bdL 1000 l) : PCalls Tryz.prog 17 [dSl l, dS id] (.tup [dStrs (okR l (heiR l id)), dI (okE l)]) := by
  have c0 := wChk l hb
  have hl := hb.1
  have c1 := wPars l (by omega)
  have c2 := wTurn (parG l) (by have := parG_tot l; omega)
  have c3 := wReachT l id hb
  have c4 := wSortedP (heiR_asc l id) fun x => mem_heiR (l := l) (id := id)
  by_cases h0 : chkE l = 0
  · rw [okR, okE, if_pos h0, if_pos h0]
    rw [h0] at c0
    refine pcalls_of_pw Tryz.func17 rfl Tryz.ntmps17 Tryz.results17 (by simp) fun B w0 => ?_
    refine pw_seq (pw_region (yAd rfl (yAd rfl (yQ (pw_seq (pw_seq (pw_region (yMd rfl (yC (c0) rfl rfl ?_))))))))); refine yB rfl rfl rfl rfl (yQ (pw_cf rfl (pw_skip (pw_seq (pw_region (yMd rfl (yC (c1) rfl rfl (yC (c2) rfl rfl (yMd rfl ?_))))))))); refine yC (c3) rfl rfl (yC (c4) rfl rfl (yAd rfl (yAd rfl (yQ (pw_ret ?_)))))
    exact q_ret _ (.tmp rfl (.tmp rfl .nil)) rfl
  · rw [okR, okE, if_neg h0, if_neg h0]
    have t1 : (chkE l != 0) = true := by simpa using h0
    refine pcalls_of_pw Tryz.func17 rfl Tryz.ntmps17 Tryz.results17 (by simp) fun B w0 => ?_
    refine pw_seq (pw_region (yAd rfl (yAd rfl (yQ (pw_seq (pw_seq (pw_region (yMd rfl (yC (c0) rfl rfl ?_))))))))); refine yB rfl rfl rfl rfl (yQ (q_then ?_)); rw [t1]; refine pw_ct rfl (pw_seq (pw_region (yAd rfl (yAd rfl (yQ (pw_ret (q_then_ret ?_)))))))
    exact q_ret _ (.tnil 1 rfl (.tmp rfl .nil)) rfl
set_option maxRecDepth 20000 in
set_option maxHeartbeats 4000000 in
theorem wParents (l : List Stp) (id : Str) (hb : bdL 1000 l) : PCalls Tryz.prog 13 [dSl l, dS id] (.tup [dStrs (okR l (parR l id)), dI (okE l)]) := by
  have c0 := wChk l hb
  have hl := hb.1
  have c1 := wPars l (by omega)
  by_cases h0 : chkE l = 0
  rotate_left
  · rw [okR, okE, if_neg h0, if_neg h0]
    have t1 : (chkE l != 0) = true := by simpa using h0
    refine pcalls_of_pw Tryz.func13 rfl Tryz.ntmps13 Tryz.results13 (by simp) fun B w0 => ?_
    refine pw_seq (pw_region (yAd rfl (yAd rfl (yQ (pw_seq (pw_seq (pw_region (yMd rfl (yC (c0) rfl rfl ?_))))))))); refine yB rfl rfl rfl rfl (yQ (q_then ?_)); rw [t1]; refine pw_ct rfl (pw_seq (pw_region (yAd rfl (yAd rfl (yQ (pw_ret (q_then_ret ?_)))))))
    exact q_ret _ (.tnil 1 rfl (.tmp rfl .nil)) rfl
  rw [okR, okE, if_pos h0, if_pos h0]
  rw [h0] at c0
  have hg := mget_gD id (parG l)
  have hrow := gGet_len (k := id) (parG_rows l)
  have hbd : ∀ x ∈ gGet id (parG l), x.length ≤ 1000 := fun x hx => allG_bd hb.2 x (gGet_mem hx)
  rw [parR]
  obtain ⟨row, hr⟩ : ∃ r, r = gGet id (parG l) := ⟨_, rfl⟩
  rw [← hr] at hg hrow hbd ⊢
  refine pcalls_of_pw Tryz.func13 rfl Tryz.ntmps13 Tryz.results13 (by simp) fun B w0 => ?_
  refine pw_seq (pw_region (yAd rfl (yAd rfl (yQ (pw_seq (pw_seq (pw_region (yMd rfl (yC (c0) rfl rfl ?_))))))))); refine yB rfl rfl rfl rfl (yQ (pw_cf rfl (pw_skip (pw_seq (pw_region (yKm rfl (yAm rfl (yQ (pw_seq ?_))))))))); refine pw_seq (pw_region (yMd rfl (yC (c1) rfl rfl (yMd rfl (yKe (hM := hMl2) (l := gD (parG l)) rfl rfl hg (yN rfl (yMd rfl (yQ (pw_block ?_))))))))); refine pw_loop (fun i : Nat => ⟨27, [(6, .mb 500012), (16, .d (dStrs row)), (17, .d (dI row.length)), (18, .d (dI i))], [(500012, [.mc (kmap (bS ((row.take i).foldl addB [])))])], []⟩) (fun i => i ≤ row.length) (fun i => row.length - i) 0 (Nat.zero_le _) ⟨rfl, ⟨.refl _, .refl _, .of_eq (congrArg (fun n : Nat => SV.d (dI n)) (by simp)), .refl _, trivial⟩, ⟨⟨_, rfl, lesC_refl _⟩, trivial⟩, trivial, rfl⟩ ?_
  intro i hi
  rcases Nat.lt_or_ge i row.length with h | h
  · have u1 : decide ((i : Int) < (row.length : Int)) = true := decide_eq_true (by omega)
    obtain ⟨x, hx⟩ : ∃ a, row[i]? = some a := ⟨_, List.getElem?_eq_getElem h⟩
    have ex := ix (fun s => [dS s]) row i i x rfl hx
    have hw := wrapI ((i : Int) + 1) (by omega)
    have hnx := fold_next addB [] hx
    have hms : mset x (dB true) (bS ((row.take i).foldl addB [])) = bS ((row.take (i + 1)).foldl addB []) := by rw [mset_bS, hnx]; rfl
    refine pw_seq (pw_region (yB rfl rfl rfl rfl (yQ (pw_seq ?_)))); rw [u1]; refine pw_ct rfl (pw_skip (pw_seq (pw_block (pw_seq (pw_region ?_))))); refine yW ex (by omega) rfl rfl ?_; refine yLr rfl rfl (yAd rfl (yQ (pw_region (yMm rfl (yMd rfl (yKu (hM := hMb) rfl rfl rfl rfl hms (yQ (pw_region (yB rfl rfl rfl rfl ?_))))))))); refine yMd rfl (yQ (q_then ?_))
    exact ⟨i + 1, h, by omega, rfl, ⟨.refl _, .refl _, .refl _, .of_eq (congrArg (fun n => SV.d (dI n)) hw), trivial⟩, ⟨⟨_, rfl, lesC_refl _⟩, trivial⟩, trivial, rfl⟩
  · have u1 : decide ((i : Int) < (row.length : Int)) = false := decide_eq_false (by omega)
    rw [List.take_of_length_le h]
    obtain ⟨f1, f2, f3⟩ := fold_addB row []
    have c2 := wSorted (row.foldl addB []) (by simp at f3; omega) (fun s hs => by
      rcases (f1 s).1 hs with h | h
      · cases h
      · have := hbd s h; omega)
    rw [sort_uni (f2 List.nodup_nil), fold_uni] at c2
    refine pw_frzm 6 500012 rfl rfl ?_; refine pw_seq (pw_region (yB rfl rfl rfl rfl (yQ (pw_seq ?_)))); rw [u1]; refine pw_cf rfl (pw_exit (pw_seq (pw_region (yMd rfl (yC (c2) rfl rfl (yAd rfl (yAd rfl (yQ (pw_ret ?_)))))))))
    exact q_ret _ (.tmp rfl (.tmp rfl .nil)) rfl
set_option maxRecDepth 20000 in
set_option maxHeartbeats 4000000 in
theorem wSrc (l : List Stp) (id : Str) (hb : bdL 1000 l) : PCalls Tryz.prog 51 [dSl l, dS id] (.d (dSet (addB (reach (parG l) id) id))) := by
  have hl := hb.1
  have c1 := wPars l (by omega)
  have c2 := wReachM (parG l) id (fun q hq => by have := parG_rows l q hq; omega)
  have hms := mset_bS id (reach (parG l) id)
  refine pcalls_of_pw Tryz.func51 rfl Tryz.ntmps51 Tryz.results51 (by simp) fun B w0 => ?_
  refine pw_seq (pw_region (yAd rfl (yQ (pw_seq (pw_region (yMd rfl (yC (c1) rfl rfl (yMd rfl (yCmk c2 rfl rfl ?_))))))))); refine yAm rfl (yQ (pw_seq (pw_region (yMm rfl (yMd rfl (yKu (hM := hMb) rfl rfl rfl rfl hms (yQ (pw_seq (pw_region ?_))))))))); refine yMm rfl (yAm rfl (yQ ?_)); refine pw_frzm 4 500009 rfl rfl ?_; refine pw_ret ?_
  exact q_ret _ (.tmp rfl .nil) rfl
set_option maxRecDepth 20000 in
set_option maxHeartbeats 4000000 in
theorem wOrigins (l : List Stp) (id : Str) (hb : bdL 1000 l) : PCalls Tryz.prog 15 [dSl l, dS id] (.tup [dStrs (okR l (orgR l id)), dI (okE l)]) := by
  have c0 := wChk l hb
  have hl := hb.1
  have c1 := wSrc l id hb
  by_cases h0 : chkE l = 0
  rotate_left
  · rw [okR, okE, if_neg h0, if_neg h0]
    have t1 : (chkE l != 0) = true := by simpa using h0
    refine pcalls_of_pw Tryz.func15 rfl Tryz.ntmps15 Tryz.results15 (by simp) fun B w0 => ?_
    refine pw_seq (pw_region (yAd rfl (yAd rfl (yQ (pw_seq (pw_seq (pw_region (yMd rfl (yC (c0) rfl rfl ?_))))))))); refine yB rfl rfl rfl rfl (yQ (q_then ?_)); rw [t1]; refine pw_ct rfl (pw_seq (pw_region (yAd rfl (yAd rfl (yQ (pw_ret (q_then_ret ?_)))))))
    exact q_ret _ (.tnil 1 rfl (.tmp rfl .nil)) rfl
  rw [okR, okE, if_pos h0, if_pos h0]
  rw [h0] at c0
  obtain ⟨A, hA⟩ : ∃ A, A = addB (reach (parG l) id) id := ⟨_, rfl⟩
  have hAc : ∀ x, A.contains x = srcB l id x := fun x => by rw [hA, addB_contains]; rfl
  rw [← hA] at c1
  refine pcalls_of_pw Tryz.func15 rfl Tryz.ntmps15 Tryz.results15 (by simp) fun B w0 => ?_
  refine pw_seq (pw_region (yAd rfl (yAd rfl (yQ (pw_seq (pw_seq (pw_region (yMd rfl (yC (c0) rfl rfl ?_))))))))); refine yB rfl rfl rfl rfl (yQ (pw_cf rfl (pw_skip (pw_seq (pw_region (yMd rfl (yMd rfl (yC (c1) rfl rfl (yKm rfl ?_))))))))); refine yAd rfl (yAm rfl (yQ (pw_seq (pw_seq (pw_region (yMd rfl (yN rfl (yMd rfl (yQ ?_))))))))); refine pw_block ?_; refine pw_loop (fun i : Nat => ⟨38, [(6, .d (dSet A)), (7, .mb 500016), (17, .d (dSl l)), (18, .d (dI l.length)), (19, .d (dI i))], [(500016, [.mc (kmap (bS (setF (orgF l id) (fun s => s.t) (l.take i))))])], []⟩) (fun i => i ≤ l.length) (fun i => l.length - i) 0 (Nat.zero_le _) ⟨rfl, ⟨.refl _, .refl _, .refl _, .of_eq (congrArg (fun n : Nat => SV.d (dI n)) (by simp)), .refl _, trivial⟩, ⟨⟨_, rfl, lesC_refl _⟩, trivial⟩, trivial, rfl⟩ ?_
  intro i hi
  rcases Nat.lt_or_ge i l.length with h | h
  · have u1 : decide ((i : Int) < (l.length : Int)) = true := decide_eq_true (by omega)
    obtain ⟨s, hx⟩ : ∃ a, l[i]? = some a := ⟨_, List.getElem?_eq_getElem h⟩
    have ex := ix dSp l i i s rfl hx
    have hw := wrapI ((i : Int) + 1) (by omega)
    have hnx := setF_next (f := orgF l id) (g := (fun s => s.t)) hx
    have hgs := mget_bS s.t A
    rw [hAc] at hgs
    cases t1 : (s.f == []) with
    | false =>
      have hf : orgF l id s = false := by rw [orgF, t1]; rfl
      rw [hf, if_neg (by simp)] at hnx
      refine pw_seq (pw_region (yB rfl rfl rfl rfl (yQ (pw_seq ?_)))); rw [u1]; refine pw_ct rfl (pw_skip (pw_seq (pw_block (pw_seq (pw_region ?_))))); refine yW ex (by omega) rfl rfl ?_; refine yLs (ys := [_, _, _, _, _, _]) rfl rfl rfl (yZ (cs := [_, _, _, _, _, _]) rfl rfl (yS (cs' := [_, _, _, _, _, _]) rfl rfl rfl rfl rfl (yQ (pw_seq (pw_region (yFb rfl (yLd rfl rfl rfl (yBse rfl rfl (yMd rfl ?_))))))))); rw [t1]; refine yO rfl (yO rfl (yO rfl (yO rfl (yVd rfl rfl (yQ (pw_cf rfl (pw_skip (pw_region (yB rfl rfl rfl rfl ?_))))))))); refine yMd rfl (yQ (q_then ?_))
      exact ⟨i + 1, h, by omega, rfl, ⟨.refl _, .refl _, .refl _, .refl _, .of_eq (congrArg (fun n => SV.d (dI n)) hw), trivial⟩, ⟨⟨_, rfl, lesC_eq (by rw [hnx])⟩, trivial⟩, trivial, rfl⟩
    | true =>
      cases t2 : srcB l id s.t with
      | false =>
        rw [t2] at hgs
        have hf : orgF l id s = false := by rw [orgF, t1, t2]; rfl
        rw [hf, if_neg (by simp)] at hnx
        refine pw_seq (pw_region (yB rfl rfl rfl rfl (yQ (pw_seq ?_)))); rw [u1]; refine pw_ct rfl (pw_skip (pw_seq (pw_block (pw_seq (pw_region ?_))))); refine yW ex (by omega) rfl rfl ?_; refine yLs (ys := [_, _, _, _, _, _]) rfl rfl rfl (yZ (cs := [_, _, _, _, _, _]) rfl rfl (yS (cs' := [_, _, _, _, _, _]) rfl rfl rfl rfl rfl (yQ (pw_seq (pw_region (yFb rfl (yLd rfl rfl rfl (yBse rfl rfl (yMd rfl ?_))))))))); rw [t1]; refine yMd rfl (yFb rfl (yLd rfl rfl rfl (yKe (hM := hMb) (l := bS A) rfl rfl hgs (yPd rfl rfl (yQ (pw_cf rfl (pw_skip (pw_region (yB rfl rfl rfl rfl ?_))))))))); refine yMd rfl (yQ (q_then ?_))
        exact ⟨i + 1, h, by omega, rfl, ⟨.refl _, .refl _, .refl _, .refl _, .of_eq (congrArg (fun n => SV.d (dI n)) hw), trivial⟩, ⟨⟨_, rfl, lesC_eq (by rw [hnx])⟩, trivial⟩, trivial, rfl⟩
      | true =>
        rw [t2] at hgs
        have hf : orgF l id s = true := by rw [orgF, t1, t2]; rfl
        rw [hf, if_pos rfl] at hnx
        have hms : mset (s.t) (dB true) (bS (setF (orgF l id) (fun s => s.t) (l.take i))) = bS (setF (orgF l id) (fun s => s.t) (l.take (i + 1))) := by rw [mset_bS, hnx]; rfl
        refine pw_seq (pw_region (yB rfl rfl rfl rfl (yQ (pw_seq ?_)))); rw [u1]; refine pw_ct rfl (pw_skip (pw_seq (pw_block (pw_seq (pw_region ?_))))); refine yW ex (by omega) rfl rfl ?_; refine yLs (ys := [_, _, _, _, _, _]) rfl rfl rfl (yZ (cs := [_, _, _, _, _, _]) rfl rfl (yS (cs' := [_, _, _, _, _, _]) rfl rfl rfl rfl rfl (yQ (pw_seq (pw_region (yFb rfl (yLd rfl rfl rfl (yBse rfl rfl (yMd rfl ?_))))))))); rw [t1]; refine yMd rfl (yFb rfl (yLd rfl rfl rfl (yKe (hM := hMb) (l := bS A) rfl rfl hgs (yPd rfl rfl (yQ (pw_ct rfl (pw_region (yMm rfl (yFb rfl ?_))))))))); refine yLd rfl rfl rfl (yKu (hM := hMb) rfl rfl rfl rfl hms (yQ (pw_region (yB rfl rfl rfl rfl (yMd rfl (yQ (q_then ?_)))))))
        exact ⟨i + 1, h, by omega, rfl, ⟨.refl _, .refl _, .refl _, .refl _, .of_eq (congrArg (fun n => SV.d (dI n)) hw), trivial⟩, ⟨⟨_, rfl, lesC_refl _⟩, trivial⟩, trivial, rfl⟩
  · have u1 : decide ((i : Int) < (l.length : Int)) = false := decide_eq_false (by omega)
    rw [List.take_of_length_le h]
    have f3 := setF_len (orgF l id) (fun s => s.t) l
    have c2 := wSorted (setF (orgF l id) (fun s => s.t) l) (by omega) (setF_all (p := fun x => x.length ≤ 1000000) _ _ _ fun s hs => by have := hb.2 s hs; unfold bdS at this; show (s.t).length ≤ 1000000; omega)
    rw [setF_sort] at c2
    refine pw_frzm 7 500016 rfl rfl ?_; refine pw_seq (pw_region (yB rfl rfl rfl rfl (yQ (pw_seq ?_)))); rw [u1]; refine pw_cf rfl (pw_exit (pw_seq (pw_region (yMd rfl (yC (c2) rfl rfl (yAd rfl (yAd rfl (yQ (pw_ret ?_)))))))))
    exact q_ret _ (.tmp rfl (.tmp rfl .nil)) rfl
set_option maxRecDepth 20000 in
set_option maxHeartbeats 4000000 in
theorem wCauses (l : List Stp) (id : Str) (hb : bdL 1000 l) : PCalls Tryz.prog 19 [dSl l, dS id] (.tup [dStrs (okR l (cauR l id)), dI (okE l)]) := by
  have c0 := wChk l hb
  have hl := hb.1
  have c1 := wSrc l id hb
  by_cases h0 : chkE l = 0
  rotate_left
  · rw [okR, okE, if_neg h0, if_neg h0]
    have t1 : (chkE l != 0) = true := by simpa using h0
    refine pcalls_of_pw Tryz.func19 rfl Tryz.ntmps19 Tryz.results19 (by simp) fun B w0 => ?_
    refine pw_seq (pw_region (yAd rfl (yAd rfl (yQ (pw_seq (pw_seq (pw_region (yMd rfl (yC (c0) rfl rfl ?_))))))))); refine yB rfl rfl rfl rfl (yQ (q_then ?_)); rw [t1]; refine pw_ct rfl (pw_seq (pw_region (yAd rfl (yAd rfl (yQ (pw_ret (q_then_ret ?_)))))))
    exact q_ret _ (.tnil 1 rfl (.tmp rfl .nil)) rfl
  rw [okR, okE, if_pos h0, if_pos h0]
  rw [h0] at c0
  obtain ⟨A, hA⟩ : ∃ A, A = addB (reach (parG l) id) id := ⟨_, rfl⟩
  have hAc : ∀ x, A.contains x = srcB l id x := fun x => by rw [hA, addB_contains]; rfl
  rw [← hA] at c1
  refine pcalls_of_pw Tryz.func19 rfl Tryz.ntmps19 Tryz.results19 (by simp) fun B w0 => ?_
  refine pw_seq (pw_region (yAd rfl (yAd rfl (yQ (pw_seq (pw_seq (pw_region (yMd rfl (yC (c0) rfl rfl ?_))))))))); refine yB rfl rfl rfl rfl (yQ (pw_cf rfl (pw_skip (pw_seq (pw_region (yMd rfl (yMd rfl (yC (c1) rfl rfl (yKm rfl ?_))))))))); refine yAd rfl (yAm rfl (yQ (pw_seq (pw_seq (pw_region (yMd rfl (yN rfl (yMd rfl (yQ ?_))))))))); refine pw_block ?_; refine pw_loop (fun i : Nat => ⟨38, [(6, .d (dSet A)), (7, .mb 500016), (17, .d (dSl l)), (18, .d (dI l.length)), (19, .d (dI i))], [(500016, [.mc (kmap (bS (setF (cauF l id) (fun s => s.c) (l.take i))))])], []⟩) (fun i => i ≤ l.length) (fun i => l.length - i) 0 (Nat.zero_le _) ⟨rfl, ⟨.refl _, .refl _, .refl _, .of_eq (congrArg (fun n : Nat => SV.d (dI n)) (by simp)), .refl _, trivial⟩, ⟨⟨_, rfl, lesC_refl _⟩, trivial⟩, trivial, rfl⟩ ?_
  intro i hi
  rcases Nat.lt_or_ge i l.length with h | h
  · have u1 : decide ((i : Int) < (l.length : Int)) = true := decide_eq_true (by omega)
    obtain ⟨s, hx⟩ : ∃ a, l[i]? = some a := ⟨_, List.getElem?_eq_getElem h⟩
    have ex := ix dSp l i i s rfl hx
    have hw := wrapI ((i : Int) + 1) (by omega)
    have hnx := setF_next (f := cauF l id) (g := (fun s => s.c)) hx
    have hgs := mget_bS s.t A
    rw [hAc] at hgs
    cases t1 : (!s.t == []) with
    | false =>
      have hf : cauF l id s = false := by rw [cauF, t1]; rfl
      rw [hf, if_neg (by simp)] at hnx
      refine pw_seq (pw_region (yB rfl rfl rfl rfl (yQ (pw_seq ?_)))); rw [u1]; refine pw_ct rfl (pw_skip (pw_seq (pw_block (pw_seq (pw_region ?_))))); refine yW ex (by omega) rfl rfl ?_; refine yLs (ys := [_, _, _, _, _, _]) rfl rfl rfl (yZ (cs := [_, _, _, _, _, _]) rfl rfl (yS (cs' := [_, _, _, _, _, _]) rfl rfl rfl rfl rfl (yQ (pw_seq (pw_region (yFb rfl (yLd rfl rfl rfl (yBsn rfl rfl (yMd rfl ?_))))))))); rw [t1]; refine yO rfl (yO rfl (yO rfl (yO rfl (yVd rfl rfl (yQ (pw_cf rfl (pw_skip (pw_region (yB rfl rfl rfl rfl ?_))))))))); refine yMd rfl (yQ (q_then ?_))
      exact ⟨i + 1, h, by omega, rfl, ⟨.refl _, .refl _, .refl _, .refl _, .of_eq (congrArg (fun n => SV.d (dI n)) hw), trivial⟩, ⟨⟨_, rfl, lesC_eq (by rw [hnx])⟩, trivial⟩, trivial, rfl⟩
    | true =>
      cases t2 : srcB l id s.t with
      | false =>
        rw [t2] at hgs
        have hf : cauF l id s = false := by rw [cauF, t1, t2]; rfl
        rw [hf, if_neg (by simp)] at hnx
        refine pw_seq (pw_region (yB rfl rfl rfl rfl (yQ (pw_seq ?_)))); rw [u1]; refine pw_ct rfl (pw_skip (pw_seq (pw_block (pw_seq (pw_region ?_))))); refine yW ex (by omega) rfl rfl ?_; refine yLs (ys := [_, _, _, _, _, _]) rfl rfl rfl (yZ (cs := [_, _, _, _, _, _]) rfl rfl (yS (cs' := [_, _, _, _, _, _]) rfl rfl rfl rfl rfl (yQ (pw_seq (pw_region (yFb rfl (yLd rfl rfl rfl (yBsn rfl rfl (yMd rfl ?_))))))))); rw [t1]; refine yMd rfl (yFb rfl (yLd rfl rfl rfl (yKe (hM := hMb) (l := bS A) rfl rfl hgs (yPd rfl rfl (yQ (pw_cf rfl (pw_skip (pw_region (yB rfl rfl rfl rfl ?_))))))))); refine yMd rfl (yQ (q_then ?_))
        exact ⟨i + 1, h, by omega, rfl, ⟨.refl _, .refl _, .refl _, .refl _, .of_eq (congrArg (fun n => SV.d (dI n)) hw), trivial⟩, ⟨⟨_, rfl, lesC_eq (by rw [hnx])⟩, trivial⟩, trivial, rfl⟩
      | true =>
        rw [t2] at hgs
        have hf : cauF l id s = true := by rw [cauF, t1, t2]; rfl
        rw [hf, if_pos rfl] at hnx
        have hms : mset (s.c) (dB true) (bS (setF (cauF l id) (fun s => s.c) (l.take i))) = bS (setF (cauF l id) (fun s => s.c) (l.take (i + 1))) := by rw [mset_bS, hnx]; rfl
        refine pw_seq (pw_region (yB rfl rfl rfl rfl (yQ (pw_seq ?_)))); rw [u1]; refine pw_ct rfl (pw_skip (pw_seq (pw_block (pw_seq (pw_region ?_))))); refine yW ex (by omega) rfl rfl ?_; refine yLs (ys := [_, _, _, _, _, _]) rfl rfl rfl (yZ (cs := [_, _, _, _, _, _]) rfl rfl (yS (cs' := [_, _, _, _, _, _]) rfl rfl rfl rfl rfl (yQ (pw_seq (pw_region (yFb rfl (yLd rfl rfl rfl (yBsn rfl rfl (yMd rfl ?_))))))))); rw [t1]; refine yMd rfl (yFb rfl (yLd rfl rfl rfl (yKe (hM := hMb) (l := bS A) rfl rfl hgs (yPd rfl rfl (yQ (pw_ct rfl (pw_region (yMm rfl (yFb rfl ?_))))))))); refine yLd rfl rfl rfl (yKu (hM := hMb) rfl rfl rfl rfl hms (yQ (pw_region (yB rfl rfl rfl rfl (yMd rfl (yQ (q_then ?_)))))))
        exact ⟨i + 1, h, by omega, rfl, ⟨.refl _, .refl _, .refl _, .refl _, .of_eq (congrArg (fun n => SV.d (dI n)) hw), trivial⟩, ⟨⟨_, rfl, lesC_refl _⟩, trivial⟩, trivial, rfl⟩
  · have u1 : decide ((i : Int) < (l.length : Int)) = false := decide_eq_false (by omega)
    rw [List.take_of_length_le h]
    have f3 := setF_len (cauF l id) (fun s => s.c) l
    have c2 := wSorted (setF (cauF l id) (fun s => s.c) l) (by omega) (setF_all (p := fun x => x.length ≤ 1000000) _ _ _ fun s hs => by have := hb.2 s hs; unfold bdS at this; show (s.c).length ≤ 1000000; omega)
    rw [setF_sort] at c2
    refine pw_frzm 7 500016 rfl rfl ?_; refine pw_seq (pw_region (yB rfl rfl rfl rfl (yQ (pw_seq ?_)))); rw [u1]; refine pw_cf rfl (pw_exit (pw_seq (pw_region (yMd rfl (yC (c2) rfl rfl (yAd rfl (yAd rfl (yQ (pw_ret ?_)))))))))
    exact q_ret _ (.tmp rfl (.tmp rfl .nil)) rfl
end Go.Proofs.YtkfoogabijnamaaGreatDoor
namespace Go.Proofs.YtkfoogabijnamaaGreatDoor
open Go.RowKit Px

set_option maxRecDepth 20000 in
set_option maxHeartbeats 4000000 in
theorem wIns (zs : List Str) (x : Str) (hz : zs.length ≤ 1000000) : PCalls Tryz.prog 52 [dStrs zs, dS x] (.d (dStrs (insS x zs))) := by
  have hn := insS_ltN x zs
  obtain ⟨r, hr⟩ : ∃ r, r = insS x zs := ⟨_, rfl⟩
  rw [← hr] at hn ⊢
  have hkl := ltN_le x zs
  refine pcalls_of_pw Tryz.func52 rfl Tryz.ntmps52 Tryz.results52 (by simp) fun B w0 => ?_
  refine pw_seq (pw_region (yAd rfl (yQ (pw_seq (pw_region (yAd rfl (yQ (pw_seq (pw_block ?_))))))))); refine pw_loop (fun k : Nat => ⟨44, [(0, .d (dStrs zs)), (1, .d (dS x)), (5, .d (dI k))], [], []⟩) (fun k => k ≤ ltN x zs) (fun k => zs.length - k) 0 (Nat.zero_le _) ⟨rfl, ⟨.refl _, .refl _, .refl _, trivial⟩, trivial, trivial, rfl⟩ ?_
  intro k hk
  have hwk := wrapI ((k : Int) + 1) (by omega)
  by_cases hkz : k < zs.length
  · obtain ⟨z, hz2⟩ : ∃ z, zs[k]? = some z := ⟨_, List.getElem?_eq_getElem hkz⟩
    have ez := ix (fun s => [dS s]) zs k k z rfl hz2
    have u1 : decide ((k : Int) < ((zs.map fun s => [dS s]).length : Int)) = true := by simpa using hkz
    by_cases hlt : k < ltN x zs
    · have t1 : lt8 z x = true := ltN_lt hlt hz2
      refine pw_seq (pw_seq (pw_region (yMd rfl (yMd rfl (yN rfl (yB rfl rfl rfl rfl (yMd rfl ?_))))))); rw [u1]; refine yMd rfl (yMd rfl ?_); refine yW ez (by omega) rfl rfl ?_; refine yLr rfl rfl (yMd rfl (yBsl rfl rfl (yPd rfl rfl (yQ (q_then ?_))))); rw [t1]; refine pw_ct rfl (pw_skip (pw_block (pw_region (yMd rfl (yB rfl rfl rfl rfl (yAd rfl (yQ (q_blk (q_then ?_)))))))))
      exact ⟨k + 1, by omega, by omega, rfl, ⟨.refl _, .refl _, .of_eq (congrArg (fun n => SV.d (dI n)) hwk), trivial⟩, trivial, trivial, rfl⟩
    · obtain rfl : k = ltN x zs := by omega
      have t1 : lt8 z x = false := ltN_at hz2
      by_cases e : z = x
      · have t2 : (z == x) = true := by simpa using e
        rw [if_pos (by rw [hz2, e])] at hn
        subst hn
        refine pw_seq (pw_seq (pw_region (yMd rfl (yMd rfl (yN rfl (yB rfl rfl rfl rfl (yMd rfl ?_))))))); rw [u1]; refine yMd rfl (yMd rfl ?_); refine yW ez (by omega) rfl rfl ?_; refine yLr rfl rfl (yMd rfl (yBsl rfl rfl (yPd rfl rfl (yQ (q_then ?_))))); rw [t1]; refine pw_cf rfl (pw_exit (pw_seq (pw_seq (pw_region (yMd rfl (yMd rfl (yN rfl (yB rfl rfl rfl rfl (yMd rfl ?_))))))))); rw [u1]; refine yMd rfl (yMd rfl ?_); refine yW ez (by omega) rfl rfl ?_
        refine yLr rfl rfl (yMd rfl (yBse rfl rfl (yPd rfl rfl (yQ (q_then ?_))))); rw [t2]; refine pw_ct rfl (pw_seq (pw_region (yMd rfl (yAd rfl (yQ (pw_ret (q_then_ret ?_)))))))
        exact q_ret _ (.tmp rfl .nil) rfl
      · have t2 : (z == x) = false := by simpa using e
        rw [if_neg (by rw [hz2]; simpa using e)] at hn
        subst hn
        refine pw_seq (pw_seq (pw_region (yMd rfl (yMd rfl (yN rfl (yB rfl rfl rfl rfl (yMd rfl ?_))))))); rw [u1]; refine yMd rfl (yMd rfl ?_); refine yW ez (by omega) rfl rfl ?_; refine yLr rfl rfl (yMd rfl (yBsl rfl rfl (yPd rfl rfl (yQ (q_then ?_))))); rw [t1]; refine pw_cf rfl (pw_exit (pw_seq (pw_seq (pw_region (yMd rfl (yMd rfl (yN rfl (yB rfl rfl rfl rfl (yMd rfl ?_))))))))); rw [u1]; refine yMd rfl (yMd rfl ?_); refine yW ez (by omega) rfl rfl ?_
        refine yLr rfl rfl (yMd rfl (yBse rfl rfl (yPd rfl rfl (yQ (q_then ?_))))); rw [t2]; refine pw_cf rfl (pw_skip (pw_seq ?_)); refine pw_draw Tryz.mixed (by kernel_rfl) ?_
        refine yMd rfl (yMd rfl (yMd rfl ?_)); refine yDc (es' := (zs.take (ltN x zs)).map fun s => [dS s]) (by omega) (by simp; omega) (by rw [Int.toNat_natCast, List.map_take]) rfl rfl rfl ?_; refine yMd rfl (yRl (es := [[dS x]]) rfl rfl rfl rfl rfl (yMd rfl (yMd rfl ?_))); refine yDl (by omega) (by simp; omega) rfl rfl ?_
        refine yTf (es := [[dS x]]) (es' := (x :: zs.drop (ltN x zs)).map fun s => [dS s]) (by omega) (by simp; omega) (by simp; omega) (by simp) rfl rfl ?_
        refine yTf (es := (zs.take (ltN x zs)).map fun s => [dS s]) (es' := (zs.take (ltN x zs) ++ x :: zs.drop (ltN x zs)).map fun s => [dS s]) (by omega) (by simp; omega) (by simp; omega) (by simp) rfl rfl ?_; refine yAd rfl (yQ (pw_ret ?_))
        exact q_ret _ (.tmp rfl .nil) rfl
  · obtain rfl : k = ltN x zs := by omega
    have u1 : decide ((ltN x zs : Int) < ((zs.map fun s => [dS s]).length : Int)) = false := by simp; omega
    rw [if_neg (by rw [List.getElem?_eq_none (by omega)]; simp)] at hn
    subst hn
    refine pw_seq (pw_seq (pw_region (yMd rfl (yMd rfl (yN rfl (yB rfl rfl rfl rfl (yMd rfl ?_))))))); rw [u1]; refine yO rfl (yO rfl (yO rfl (yO rfl (yO rfl (yO rfl (yVd rfl rfl (yQ (pw_cf rfl (pw_exit ?_))))))))); refine pw_seq (pw_seq (pw_region (yMd rfl (yMd rfl (yN rfl (yB rfl rfl rfl rfl (yMd rfl ?_))))))); rw [u1]; refine yO rfl (yO rfl (yO rfl (yO rfl (yO rfl (yO rfl (yVd rfl rfl (yQ (pw_cf rfl (pw_skip ?_))))))))); refine pw_seq ?_; refine pw_draw Tryz.mixed (by kernel_rfl) ?_; refine yMd rfl (yMd rfl (yMd rfl ?_)); refine yDc (es' := (zs.take (ltN x zs)).map fun s => [dS s]) (by omega) (by simp; omega) (by rw [Int.toNat_natCast, List.map_take]) rfl rfl rfl ?_; refine yMd rfl (yRl (es := [[dS x]]) rfl rfl rfl rfl rfl (yMd rfl (yMd rfl ?_))); refine yDl (by omega) (by simp; omega) rfl rfl ?_
    refine yTf (es := [[dS x]]) (es' := (x :: zs.drop (ltN x zs)).map fun s => [dS s]) (by omega) (by simp; omega) (by simp; omega) (by simp) rfl rfl ?_
    refine yTf (es := (zs.take (ltN x zs)).map fun s => [dS s]) (es' := (zs.take (ltN x zs) ++ x :: zs.drop (ltN x zs)).map fun s => [dS s]) (by omega) (by simp; omega) (by simp; omega) (by simp) rfl rfl ?_; refine yAd rfl (yQ (pw_ret ?_))
    exact q_ret _ (.tmp rfl .nil) rfl
set_option maxRecDepth 20000 in
set_option maxHeartbeats 4000000 in
theorem wHas (zs : List Str) (x : Str) (hz : zs.length ≤ 1000000) : PCalls Tryz.prog 54 [dStrs zs, dS x] (.d (dB (zs.contains x))) := by
  obtain ⟨r, hr⟩ : ∃ r, r = zs.contains x := ⟨_, rfl⟩
  rw [← hr]
  refine pcalls_of_pw Tryz.func54 rfl Tryz.ntmps54 Tryz.results54 (by simp) fun B w0 => ?_
  refine pw_seq (pw_region (yAd rfl (yQ (pw_seq (pw_seq (pw_region (yAd rfl (yQ (pw_block ?_))))))))); refine pw_loop (fun k : Nat => ⟨18, [(0, .d (dStrs zs)), (1, .d (dS x)), (5, .d (dI k))], [], []⟩) (fun k => k ≤ zs.length ∧ ∀ j y, j < k → zs[j]? = some y → y ≠ x) (fun k => zs.length - k) 0 ⟨Nat.zero_le _, fun j y h => absurd h (Nat.not_lt_zero _)⟩ ⟨rfl, ⟨.refl _, .refl _, .refl _, trivial⟩, trivial, trivial, rfl⟩ ?_
  rintro k ⟨hk, h0⟩
  have hwk := wrapI ((k : Int) + 1) (by omega)
  by_cases hkz : k < zs.length
  · obtain ⟨z, hz2⟩ : ∃ z, zs[k]? = some z := ⟨_, List.getElem?_eq_getElem hkz⟩
    have ez := ix (fun s => [dS s]) zs k k z rfl hz2
    have u1 : decide ((k : Int) < ((zs.map fun s => [dS s]).length : Int)) = true := by simpa using hkz
    by_cases e : z = x
    · have t2 : (z == x) = true := by simpa using e
      have hn : r = true := by rw [hr, List.contains_iff_mem, ← e]; exact List.mem_of_getElem? hz2
      subst hn
      refine pw_seq (pw_seq (pw_region (yMd rfl (yMd rfl (yN rfl (yB rfl rfl rfl rfl (yQ (q_then ?_)))))))); rw [u1]; refine pw_ct rfl (pw_skip (pw_seq (pw_block (pw_seq (pw_region (yMd rfl (yMd rfl ?_))))))); refine yW ez (by omega) rfl rfl ?_; refine yLr rfl rfl (yMd rfl (yBse rfl rfl (yQ (q_then ?_)))); rw [t2]; refine pw_ct rfl (pw_seq (pw_region (yAd rfl (yQ (pw_ret (q_blk_ret (q_then_ret (q_then_ret (q_blk_ret ?_))))))))); refine q_then_ret ?_
      exact q_ret _ (.tmp rfl .nil) rfl
    · have t2 : (z == x) = false := by simpa using e
      refine pw_seq (pw_seq (pw_region (yMd rfl (yMd rfl (yN rfl (yB rfl rfl rfl rfl (yQ (q_then ?_)))))))); rw [u1]; refine pw_ct rfl (pw_skip (pw_seq (pw_block (pw_seq (pw_region (yMd rfl (yMd rfl ?_))))))); refine yW ez (by omega) rfl rfl ?_; refine yLr rfl rfl (yMd rfl (yBse rfl rfl (yQ (q_then ?_)))); rw [t2]; refine pw_cf rfl (pw_skip (pw_region (yMd rfl (yB rfl rfl rfl rfl (yAd rfl (yQ (q_then ?_)))))))
      exact ⟨k + 1, ⟨hkz, fun j y hj hy => by
        rcases Nat.lt_or_ge j k with h1 | h1
        · exact h0 j y h1 hy
        · obtain rfl : j = k := by omega
          rw [hz2] at hy; cases hy; exact e⟩, by omega, rfl, ⟨.refl _, .refl _, .of_eq (congrArg (fun n => SV.d (dI n)) hwk), trivial⟩, trivial, trivial, rfl⟩
  · have u1 : decide ((k : Int) < ((zs.map fun s => [dS s]).length : Int)) = false := by simp; omega
    have hn : r = false := by
      rw [hr, ← Bool.not_eq_true, List.contains_iff_mem]
      intro hm
      obtain ⟨j, hj⟩ := List.mem_iff_getElem?.1 hm
      exact h0 j x (by have := (List.getElem?_eq_some_iff.1 hj).1; omega) hj rfl
    subst hn
    refine pw_seq (pw_seq (pw_region (yMd rfl (yMd rfl (yN rfl (yB rfl rfl rfl rfl (yQ (q_then ?_)))))))); rw [u1]; refine pw_cf rfl (pw_exit (pw_seq (pw_region (yAd rfl (yQ (pw_ret ?_))))))
    exact q_ret _ (.tmp rfl .nil) rfl
set_option maxRecDepth 20000 in
set_option maxHeartbeats 4000000 in
theorem wRPar (l : List Stp) (id : Str) (hl : l.length ≤ 100000) : PCalls Tryz.prog 50 [dSl l, dS id] (.d (dStrs (parR l id))) := by
  rw [← par_uni]
  refine pcalls_of_pw Tryz.func50 rfl Tryz.ntmps50 Tryz.results50 (by simp) fun B w0 => ?_
  refine pw_seq (pw_region (yAd rfl (yQ (pw_seq (pw_region ?_))))); refine yR (es := []) rfl rfl rfl rfl rfl ?_; refine yAd rfl (yQ (pw_seq (pw_seq (pw_region (yAd rfl (yQ (pw_block ?_))))))); refine pw_loop (fun i : Nat => ⟨41, [(0, .d (dSl l)), (1, .d (dS id)), (5, .d (dStrs (uniS (((l.take i).filter (parF id)).map (·.f))))), (6, .d (dI i))], [], []⟩) (fun i => i ≤ l.length) (fun i => l.length - i) 0 (Nat.zero_le _) ⟨rfl, ⟨.refl _, .refl _, .refl _, .refl _, trivial⟩, trivial, trivial, rfl⟩ ?_
  intro i hi
  rcases Nat.lt_or_ge i l.length with h | h
  · have u1 : decide ((i : Int) < ((l.map dSp).length : Int)) = true := by simpa using h
    obtain ⟨s, hx⟩ : ∃ a, l[i]? = some a := ⟨_, List.getElem?_eq_getElem h⟩
    have ex := ix dSp l i i s rfl hx
    have hw := wrapI ((i : Int) + 1) (by omega)
    have hnx := filt_next (f := parF id) (g := (·.f)) hx
    have hlen := filt_len (parF id) (·.f) (l.take i)
    rw [List.length_take] at hlen
    obtain ⟨zs, hzs⟩ : ∃ zs, zs = uniS (((l.take i).filter (parF id)).map (·.f)) := ⟨_, rfl⟩
    rw [← hzs] at hnx hlen ⊢
    have c1 := wIns zs s.f (by omega)
    cases t1 : (s.t == id) with
    | false =>
      rw [parF, t1, Bool.false_and, Bool.false_and, if_neg (by simp)] at hnx
      refine pw_seq (pw_seq (pw_region (yMd rfl (yMd rfl (yN rfl (yB rfl rfl rfl rfl (yQ (q_then ?_)))))))); rw [u1]; refine pw_ct rfl (pw_skip (pw_seq (pw_block (pw_seq (pw_region (yMd rfl (yMd rfl ?_))))))); refine yW ex (by omega) rfl rfl ?_; refine yFr rfl rfl (yLr rfl rfl (yMd rfl (yBse rfl rfl (yMd rfl ?_)))); rw [t1]; refine yO rfl (yO rfl (yVd rfl rfl (yMd rfl (yO rfl (yO rfl (yO rfl (yO rfl (yO rfl (yO rfl ?_))))))))); refine yVd rfl rfl (yQ (pw_cf rfl (pw_skip (pw_region (yMd rfl (yB rfl rfl rfl rfl (yAd rfl (yQ (q_then ?_)))))))))
      exact ⟨i + 1, h, by omega, rfl, ⟨.refl _, .refl _, .of_eq (by rw [hnx]; rfl), .of_eq (congrArg (fun n => SV.d (dI n)) hw), trivial⟩, trivial, trivial, rfl⟩
    | true =>
      cases t2 : (!id == []) with
      | false =>
        rw [parF, t1, t2, Bool.true_and, Bool.false_and, if_neg (by simp)] at hnx
        refine pw_seq (pw_seq (pw_region (yMd rfl (yMd rfl (yN rfl (yB rfl rfl rfl rfl (yQ (q_then ?_)))))))); rw [u1]; refine pw_ct rfl (pw_skip (pw_seq (pw_block (pw_seq (pw_region (yMd rfl (yMd rfl ?_))))))); refine yW ex (by omega) rfl rfl ?_; refine yFr rfl rfl (yLr rfl rfl (yMd rfl (yBse rfl rfl (yMd rfl ?_)))); rw [t1]; refine yMd rfl (yBsn rfl rfl (yPd rfl rfl (yMd rfl ?_))); rw [t2]; refine yO rfl (yO rfl (yO rfl (yO rfl (yO rfl (yO rfl (yVd rfl rfl (yQ (pw_cf rfl (pw_skip ?_))))))))); refine pw_region (yMd rfl (yB rfl rfl rfl rfl (yAd rfl (yQ (q_then ?_)))))
        exact ⟨i + 1, h, by omega, rfl, ⟨.refl _, .refl _, .of_eq (by rw [hnx]; rfl), .of_eq (congrArg (fun n => SV.d (dI n)) hw), trivial⟩, trivial, trivial, rfl⟩
      | true =>
        cases t3 : (!s.f == []) with
        | false =>
          rw [parF, t1, t2, t3, Bool.and_false, if_neg (by simp)] at hnx
          refine pw_seq (pw_seq (pw_region (yMd rfl (yMd rfl (yN rfl (yB rfl rfl rfl rfl (yQ (q_then ?_)))))))); rw [u1]; refine pw_ct rfl (pw_skip (pw_seq (pw_block (pw_seq (pw_region (yMd rfl (yMd rfl ?_))))))); refine yW ex (by omega) rfl rfl ?_; refine yFr rfl rfl (yLr rfl rfl (yMd rfl (yBse rfl rfl (yMd rfl ?_)))); rw [t1]; refine yMd rfl (yBsn rfl rfl (yPd rfl rfl (yMd rfl ?_))); rw [t2]; refine yMd rfl (yMd rfl ?_); refine yW ex (by omega) rfl rfl ?_
          refine yFr rfl rfl (yLr rfl rfl (yBsn rfl rfl (yPd rfl rfl (yQ (q_then ?_))))); rw [t3]; refine pw_cf rfl (pw_skip (pw_region (yMd rfl (yB rfl rfl rfl rfl (yAd rfl (yQ (q_then ?_)))))))
          exact ⟨i + 1, h, by omega, rfl, ⟨.refl _, .refl _, .of_eq (by rw [hnx]; rfl), .of_eq (congrArg (fun n => SV.d (dI n)) hw), trivial⟩, trivial, trivial, rfl⟩
        | true =>
          rw [parF, t1, t2, t3, if_pos (by rfl)] at hnx
          refine pw_seq (pw_seq (pw_region (yMd rfl (yMd rfl (yN rfl (yB rfl rfl rfl rfl (yQ (q_then ?_)))))))); rw [u1]; refine pw_ct rfl (pw_skip (pw_seq (pw_block (pw_seq (pw_region (yMd rfl (yMd rfl ?_))))))); refine yW ex (by omega) rfl rfl ?_; refine yFr rfl rfl (yLr rfl rfl (yMd rfl (yBse rfl rfl (yMd rfl ?_)))); rw [t1]; refine yMd rfl (yBsn rfl rfl (yPd rfl rfl (yMd rfl ?_))); rw [t2]; refine yMd rfl (yMd rfl ?_); refine yW ex (by omega) rfl rfl ?_
          refine yFr rfl rfl (yLr rfl rfl (yBsn rfl rfl (yPd rfl rfl (yQ (q_then ?_))))); rw [t3]; refine pw_ct rfl (pw_region (yMd rfl (yMd rfl (yMd rfl ?_)))); refine yW ex (by omega) rfl rfl ?_; refine yFr rfl rfl (yLr rfl rfl (yC (c1) rfl rfl (yAd rfl (yQ (pw_region (yMd rfl (yB rfl rfl rfl rfl (yAd rfl (yQ ?_))))))))); refine q_then ?_
          exact ⟨i + 1, h, by omega, rfl, ⟨.refl _, .refl _, .of_eq (by rw [hnx]; rfl), .of_eq (congrArg (fun n => SV.d (dI n)) hw), trivial⟩, trivial, trivial, rfl⟩
  · have u1 : decide ((i : Int) < ((l.map dSp).length : Int)) = false := by simp; omega
    rw [List.take_of_length_le h]
    refine pw_seq (pw_seq (pw_region (yMd rfl (yMd rfl (yN rfl (yB rfl rfl rfl rfl (yQ (q_then ?_)))))))); rw [u1]; refine pw_cf rfl (pw_exit (pw_seq (pw_region (yMd rfl (yAd rfl (yQ (pw_ret ?_)))))))
    exact q_ret _ (.tmp rfl .nil) rfl
set_option maxRecDepth 20000 in
set_option maxHeartbeats 4000000 in
theorem wRLots (l : List Stp) (hl : l.length ≤ 100000) : PCalls Tryz.prog 57 [dSl l] (.d (dStrs (uniS (lotL l)))) := by
  refine pcalls_of_pw Tryz.func57 rfl Tryz.ntmps57 Tryz.results57 (by simp) fun B w0 => ?_
  refine pw_seq (pw_region (yAd rfl (yQ (pw_seq (pw_region ?_))))); refine yR (es := []) rfl rfl rfl rfl rfl ?_; refine yAd rfl (yQ (pw_seq (pw_seq (pw_region (yAd rfl (yQ (pw_block ?_))))))); refine pw_loop (fun i : Nat => ⟨39, [(0, .d (dSl l)), (3, .d (dStrs (uniS (lotL (l.take i))))), (4, .d (dI i))], [], []⟩) (fun i => i ≤ l.length) (fun i => l.length - i) 0 (Nat.zero_le _) ⟨rfl, ⟨.refl _, .refl _, .refl _, trivial⟩, trivial, trivial, rfl⟩ ?_
  intro i hi
  rcases Nat.lt_or_ge i l.length with h | h
  · have u1 : decide ((i : Int) < ((l.map dSp).length : Int)) = true := by simpa using h
    obtain ⟨s, hx⟩ : ∃ a, l[i]? = some a := ⟨_, List.getElem?_eq_getElem h⟩
    have ex := ix dSp l i i s rfl hx
    have hw := wrapI ((i : Int) + 1) (by omega)
    have hnx := congrArg uniS (lotL_next hx)
    have hlen := lotU_len (l.take i)
    rw [List.length_take] at hlen
    obtain ⟨L, hL⟩ : ∃ L, L = lotL (l.take i) := ⟨_, rfl⟩
    rw [← hL] at hnx hlen ⊢
    have c1 := wIns (uniS L) s.f (by omega)
    have c2 := wIns (uniS L) s.t (by omega)
    have c3 := wIns (insS s.f (uniS L)) s.t (by have := insS_length s.f (uniS L); omega)
    by_cases e1 : s.f = []
    · have t1 : (!s.f == []) = false := by simp [e1]
      by_cases e2 : s.t = []
      · have t2 : (!s.t == []) = false := by simp [e2]
        have hnx : uniS (lotL (l.take (i + 1))) = uniS L := by rw [hnx, lotS, if_pos e1, if_pos e2, List.append_nil, List.append_nil]
        refine pw_seq (pw_seq (pw_region (yMd rfl (yMd rfl (yN rfl (yB rfl rfl rfl rfl (yQ (q_then ?_)))))))); rw [u1]; refine pw_ct rfl (pw_skip (pw_seq (pw_block (pw_seq (pw_seq (pw_region (yMd rfl (yMd rfl ?_)))))))); refine yW ex (by omega) rfl rfl ?_; refine yFr rfl rfl (yLr rfl rfl (yBsn rfl rfl (yQ (q_then ?_)))); rw [t1]; refine pw_cf rfl (pw_skip (pw_seq (pw_region (yMd rfl (yMd rfl ?_))))); refine yW ex (by omega) rfl rfl ?_
        refine yFr rfl rfl (yLr rfl rfl (yBsn rfl rfl (yQ (q_then ?_)))); rw [t2]; refine pw_cf rfl (pw_skip (pw_region (yMd rfl (yB rfl rfl rfl rfl (yAd rfl (yQ (q_then ?_)))))))
        exact ⟨i + 1, h, by omega, rfl, ⟨.refl _, .of_eq (by rw [hnx]; rfl), .of_eq (congrArg (fun n => SV.d (dI n)) hw), trivial⟩, trivial, trivial, rfl⟩
      · have t2 : (!s.t == []) = true := by simp [e2]
        have hnx : uniS (lotL (l.take (i + 1))) = insS s.t (uniS L) := by rw [hnx, lotS, if_pos e1, if_neg e2, List.nil_append, uniS_snoc]
        refine pw_seq (pw_seq (pw_region (yMd rfl (yMd rfl (yN rfl (yB rfl rfl rfl rfl (yQ (q_then ?_)))))))); rw [u1]; refine pw_ct rfl (pw_skip (pw_seq (pw_block (pw_seq (pw_seq (pw_region (yMd rfl (yMd rfl ?_)))))))); refine yW ex (by omega) rfl rfl ?_; refine yFr rfl rfl (yLr rfl rfl (yBsn rfl rfl (yQ (q_then ?_)))); rw [t1]; refine pw_cf rfl (pw_skip (pw_seq (pw_region (yMd rfl (yMd rfl ?_))))); refine yW ex (by omega) rfl rfl ?_
        refine yFr rfl rfl (yLr rfl rfl (yBsn rfl rfl (yQ (q_then ?_)))); rw [t2]; refine pw_ct rfl (pw_region (yMd rfl (yMd rfl (yMd rfl ?_)))); refine yW ex (by omega) rfl rfl ?_; refine yFr rfl rfl (yLr rfl rfl (yC (c2) rfl rfl (yAd rfl (yQ (pw_region (yMd rfl (yB rfl rfl rfl rfl (yAd rfl (yQ ?_))))))))); refine q_then ?_
        exact ⟨i + 1, h, by omega, rfl, ⟨.refl _, .of_eq (by rw [hnx]; rfl), .of_eq (congrArg (fun n => SV.d (dI n)) hw), trivial⟩, trivial, trivial, rfl⟩
    · have t1 : (!s.f == []) = true := by simp [e1]
      by_cases e2 : s.t = []
      · have t2 : (!s.t == []) = false := by simp [e2]
        have hnx : uniS (lotL (l.take (i + 1))) = insS s.f (uniS L) := by rw [hnx, lotS, if_neg e1, if_pos e2, List.append_nil, uniS_snoc]
        refine pw_seq (pw_seq (pw_region (yMd rfl (yMd rfl (yN rfl (yB rfl rfl rfl rfl (yQ (q_then ?_)))))))); rw [u1]; refine pw_ct rfl (pw_skip (pw_seq (pw_block (pw_seq (pw_seq (pw_region (yMd rfl (yMd rfl ?_)))))))); refine yW ex (by omega) rfl rfl ?_; refine yFr rfl rfl (yLr rfl rfl (yBsn rfl rfl (yQ (q_then ?_)))); rw [t1]; refine pw_ct rfl (pw_region (yMd rfl (yMd rfl (yMd rfl ?_)))); refine yW ex (by omega) rfl rfl ?_; refine yFr rfl rfl (yLr rfl rfl (yC (c1) rfl rfl (yAd rfl (yQ (pw_seq (pw_region (yMd rfl (yMd rfl ?_)))))))); refine yW ex (by omega) rfl rfl ?_; refine yFr rfl rfl (yLr rfl rfl (yBsn rfl rfl (yQ (q_then ?_)))); rw [t2]; refine pw_cf rfl (pw_skip (pw_region (yMd rfl (yB rfl rfl rfl rfl (yAd rfl (yQ (q_then ?_)))))))
        exact ⟨i + 1, h, by omega, rfl, ⟨.refl _, .of_eq (by rw [hnx]; rfl), .of_eq (congrArg (fun n => SV.d (dI n)) hw), trivial⟩, trivial, trivial, rfl⟩
      · have t2 : (!s.t == []) = true := by simp [e2]
        have hnx : uniS (lotL (l.take (i + 1))) = insS s.t (insS s.f (uniS L)) := by rw [hnx, lotS, if_neg e1, if_neg e2, ← List.append_assoc, uniS_snoc, uniS_snoc]
        refine pw_seq (pw_seq (pw_region (yMd rfl (yMd rfl (yN rfl (yB rfl rfl rfl rfl (yQ (q_then ?_)))))))); rw [u1]; refine pw_ct rfl (pw_skip (pw_seq (pw_block (pw_seq (pw_seq (pw_region (yMd rfl (yMd rfl ?_)))))))); refine yW ex (by omega) rfl rfl ?_; refine yFr rfl rfl (yLr rfl rfl (yBsn rfl rfl (yQ (q_then ?_)))); rw [t1]; refine pw_ct rfl (pw_region (yMd rfl (yMd rfl (yMd rfl ?_)))); refine yW ex (by omega) rfl rfl ?_; refine yFr rfl rfl (yLr rfl rfl (yC (c1) rfl rfl (yAd rfl (yQ (pw_seq (pw_region (yMd rfl (yMd rfl ?_)))))))); refine yW ex (by omega) rfl rfl ?_; refine yFr rfl rfl (yLr rfl rfl (yBsn rfl rfl (yQ (q_then ?_)))); rw [t2]; refine pw_ct rfl (pw_region (yMd rfl (yMd rfl (yMd rfl ?_)))); refine yW ex (by omega) rfl rfl ?_
        refine yFr rfl rfl (yLr rfl rfl (yC (c3) rfl rfl (yAd rfl (yQ (pw_region (yMd rfl (yB rfl rfl rfl rfl (yAd rfl (yQ ?_))))))))); refine q_then ?_
        exact ⟨i + 1, h, by omega, rfl, ⟨.refl _, .of_eq (by rw [hnx]; rfl), .of_eq (congrArg (fun n => SV.d (dI n)) hw), trivial⟩, trivial, trivial, rfl⟩
  · have u1 : decide ((i : Int) < ((l.map dSp).length : Int)) = false := by simp; omega
    rw [List.take_of_length_le h]
    refine pw_seq (pw_seq (pw_region (yMd rfl (yMd rfl (yN rfl (yB rfl rfl rfl rfl (yQ (q_then ?_)))))))); rw [u1]; refine pw_cf rfl (pw_exit (pw_seq (pw_region (yMd rfl (yAd rfl (yQ (pw_ret ?_)))))))
    exact q_ret _ (.tmp rfl .nil) rfl
end Go.Proofs.YtkfoogabijnamaaGreatDoor
namespace Go.Proofs.YtkfoogabijnamaaGreatDoor
open Go.RowKit Px

theorem wRSign (a : Str) (ha : a.length ≤ 100000) : PCalls Tryz.prog 65 [dS a] (.d (dI (sgnT a))) := by
  have c1 := wRCmp0 a ha
  obtain ⟨r, hr⟩ : ∃ r, r = sgnT a := ⟨_, rfl⟩
  rw [← hr] at c1 ⊢
  refine pcalls_of_pw Tryz.func65 rfl Tryz.ntmps65 Tryz.results65 (by simp) fun B w0 => ?_
  refine pw_seq (pw_region (yAd rfl (yQ (pw_seq (pw_region (yMd rfl (yC (c1) rfl rfl (yAd rfl (yQ ?_))))))))); refine pw_ret ?_
  exact q_ret _ (.tmp rfl .nil) rfl
theorem wRSubG (a b : Str) (ha : a.length ≤ 90000) (hb : b.length ≤ 80000) : PCalls Tryz.prog 64 [dS a, dS b] (.d (dS (canon (val a - val b)))) := by
  have c1 := wRNeg b (by omega)
  have hl : (canon (-val b)).length ≤ b.length + 1 := by
    have h1 := val_lt (Nat.le_refl b.length)
    exact canon_le (k := b.length) (by omega)
  have c2 := wRAddG a (canon (-val b)) ha (by omega)
  rw [val_canon, ← Int.sub_eq_add_neg] at c2
  obtain ⟨r, hr⟩ : ∃ r, r = canon (val a - val b) := ⟨_, rfl⟩
  rw [← hr] at c2 ⊢
  obtain ⟨x, hx⟩ : ∃ x, x = canon (-val b) := ⟨_, rfl⟩
  rw [← hx] at c1 c2
  refine pcalls_of_pw Tryz.func64 rfl Tryz.ntmps64 Tryz.results64 (by simp) fun B w0 => ?_
  refine pw_seq (pw_region (yAd rfl (yQ (pw_seq (pw_region (yMd rfl (yMd rfl (yC (c1) rfl rfl (yC (c2) rfl rfl ?_))))))))); refine yAd rfl (yQ (pw_ret ?_))
  exact q_ret _ (.tmp rfl .nil) rfl
theorem sgn_ge (n : Str) : decide (sgnT n ≥ 0) = decide (0 ≤ val n) := by
  unfold sgnT
  by_cases h : val n < 0
  · rw [if_pos h]; simp [h]
  · rw [if_neg h]
    have : 0 ≤ val n := by omega
    split <;> simp [this]
theorem wRNum (a : Str) (ha : a.length ≤ 100000) : PCalls Tryz.prog 60 [dS a] (.d (dB (numB a))) := by
  have c1 := wRCheck a (by omega)
  have c2 := wRSign a ha
  have t1 := sgn_ge a
  obtain ⟨r, hr⟩ : ∃ r, r = numB a := ⟨_, rfl⟩
  rw [← hr]
  rw [numB] at hr
  refine pcalls_of_pw Tryz.func60 rfl Tryz.ntmps60 Tryz.results60 (by simp) fun B w0 => ?_
  cases hc : isC a with
  | false =>
    rw [hc] at c1 hr
    rw [Bool.false_and] at hr
    subst hr
    refine pw_seq (pw_region (yAd rfl (yQ (pw_seq (pw_region (yMd rfl (yC (c1) rfl rfl (yB rfl rfl rfl rfl (yMd rfl ?_))))))))); refine yO rfl (yO rfl (yO rfl (yVd rfl rfl (yAd rfl (yQ (pw_ret ?_))))))
    exact q_ret _ (.tmp rfl .nil) rfl
  | true =>
    rw [hc] at c1 hr
    rw [Bool.true_and, ← t1] at hr
    subst hr
    refine pw_seq (pw_region (yAd rfl (yQ (pw_seq (pw_region (yMd rfl (yC (c1) rfl rfl (yB rfl rfl rfl rfl (yMd rfl ?_))))))))); refine yMd rfl (yC (c2) rfl rfl (yB rfl rfl rfl rfl (yPd rfl rfl (yAd rfl (yQ (pw_ret ?_))))))
    exact q_ret _ (.tmp rfl .nil) rfl
abbrev sT : Nat := 9 * 100000 + 6
set_option maxRecDepth 20000 in
set_option maxHeartbeats 4000000 in
theorem wAbove (l : List Stp) (id : Str) (hl : l.length ≤ 5000) : PCalls Tryz.prog 53 [dSl l, dS id] (.d (dStrs (uniS (reach (parG l) id)))) := by
  obtain ⟨m, hm⟩ : ∃ m, m = parG l := ⟨_, rfl⟩
  have hall : (allG m).length ≤ 5000 := by rw [hm, allG_len]; have := parG_tot l; omega
  have hpar : ∀ x y, y ∈ parR l x ↔ y ∈ gGet x m := fun x y => by rw [hm]; exact uniS_mem
  obtain ⟨R, hR⟩ : ∃ R, R = uniS (reach (parG l) id) := ⟨_, rfl⟩
  rw [← hR]
  rw [← hm] at hR
  refine pcalls_of_pw Tryz.func53 rfl Tryz.ntmps53 Tryz.results53 (by simp) fun B w0 => ?_
  refine pw_seq (pw_region (yAd rfl (yQ (pw_seq (pw_region ?_))))); refine yR (es := []) rfl rfl rfl rfl rfl ?_; refine yAd rfl (yQ (pw_seq (pw_region (yMd rfl (yRt (E := 9) (t := sT) (es := [[dS id]]) rfl rfl rfl rfl rfl rfl rfl rfl (yAt rfl (yQ (pw_seq (pw_seq ?_))))))))); refine pw_region (yAd rfl (yQ (pw_block ?_))); refine pw_loop (fun q : Nat × List Str => ⟨52, [(0, .d (dSl l)), (5, .d (dStrs (uniS q.2))), (6, .ts sT 1 ((id :: q.2).map fun s => [dS s])), (7, .d (dI q.1))], [], [(sT, q.2.length + 1)]⟩) (fun q => Wid m id q.2 ∧ q.1 ≤ q.2.length + 1 ∧ ∀ j y, j < q.1 → (id :: q.2)[j]? = some y → ∀ x ∈ gGet y m, x ∈ q.2) (fun q => (allG m).length + 2 - q.1) (0, []) ⟨⟨List.nodup_nil, fun x hx => by cases hx⟩, Nat.zero_le _, fun j y h => absurd h (Nat.not_lt_zero _)⟩ ⟨rfl, ⟨.refl _, .refl _, .refl _, .refl _, trivial⟩, trivial, ⟨rfl, trivial⟩, rfl⟩ ?_
  rintro ⟨i, T⟩ ⟨hW, hi, hc⟩
  have hTl : T.length ≤ (allG m).length := hW.len
  rcases Nat.lt_or_ge i (T.length + 1) with h | h
  · have u1 : decide ((i : Int) < (((id :: T).map fun s => [dS s]).length : Int)) = true := decide_eq_true (by rw [List.length_map, List.length_cons]; omega)
    obtain ⟨y, hy⟩ : ∃ a, (id :: T)[i]? = some a := ⟨_, List.getElem?_eq_getElem (by simpa using h)⟩
    have ey := ix (fun s => [dS s]) (id :: T) i i y rfl hy
    have hw := wrapI ((i : Int) + 1) (by omega)
    have c1 := wRPar l y (by omega)
    have hPl := parR_len l y
    have hPm := hpar y
    have hym : y = id ∨ y ∈ T := by have := List.mem_of_getElem? hy; simpa using this
    obtain ⟨P, hP⟩ : ∃ P, P = parR l y := ⟨_, rfl⟩
    rw [← hP] at c1 hPl hPm
    refine pw_seq (pw_seq (pw_region (yMd rfl (yMt rfl (yN rfl (yB rfl rfl rfl rfl (yQ (q_then ?_)))))))); rw [u1]; refine pw_ct rfl (pw_skip (pw_seq (pw_block (pw_seq (pw_region (yMd rfl (yMt rfl (yMd rfl ?_)))))))); refine yW ey (by omega) rfl rfl ?_; refine yLr rfl rfl (yC (c1) rfl rfl (yAd rfl (yQ (pw_seq (pw_region (yAd rfl (yQ (pw_block ?_)))))))); refine pw_loop (fun q : Nat × List Str => ⟨52, [(0, .d (dSl l)), (5, .d (dStrs (uniS (T ++ q.2)))), (6, .ts sT 1 ((id :: (T ++ q.2)).map fun s => [dS s])), (7, .d (dI i)), (8, .d (dStrs P)), (9, .d (dI q.1))], [], [(sT, (T ++ q.2).length + 1)]⟩) (fun q => Wid m id (T ++ q.2) ∧ q.1 ≤ P.length ∧ ∀ j x, j < q.1 → P[j]? = some x → x ∈ T ++ q.2) (fun q => P.length - q.1) (0, []) ⟨by rw [List.append_nil]; exact hW, Nat.zero_le _, fun j y h => absurd h (Nat.not_lt_zero _)⟩ ⟨rfl, ⟨.refl _, .of_eq (by simp only [List.append_nil]; rfl), .of_eq (by simp only [List.append_nil]; rfl), .refl _, .refl _, .refl _, trivial⟩, trivial, ⟨(by simp only [List.append_nil]; rfl), trivial⟩, rfl⟩ ?_
    rintro ⟨k, E⟩ ⟨hW2, hk, hk2⟩
    have hTl2 : (T ++ E).length ≤ (allG m).length := hW2.len
    rcases Nat.lt_or_ge k P.length with h2 | h2
    · have u2 : decide ((k : Int) < ((P.map fun s => [dS s]).length : Int)) = true := decide_eq_true (by rw [List.length_map]; omega)
      obtain ⟨x, hx⟩ : ∃ a, P[k]? = some a := ⟨_, List.getElem?_eq_getElem h2⟩
      have ex := ix (fun s => [dS s]) P k k x rfl hx
      have hwk := wrapI ((k : Int) + 1) (by omega)
      have hul := uniS_length (T ++ E)
      have c2 := wHas (uniS (T ++ E)) x (by omega)
      have c3 := wIns (uniS (T ++ E)) x (by omega)
      rw [← uniS_snoc] at c3
      rw [uniS_contains] at c2
      have hgx : x ∈ gGet y m := (hPm x).1 (List.mem_of_getElem? hx)
      have hdone : ∀ T2 : List Str, (∀ z ∈ T ++ E, z ∈ T2) → x ∈ T2 → ∀ j z, j < k + 1 → P[j]? = some z → z ∈ T2 := fun T2 hs hx2 j z hj hz => by
        rcases Nat.lt_or_ge j k with h1 | h1
        · exact hs z (hk2 j z h1 hz)
        · obtain rfl : j = k := by omega
          rw [hx] at hz; cases hz; exact hx2
      cases hcx : (T ++ E).contains x with
      | true =>
        rw [hcx] at c2
        refine pw_seq (pw_seq (pw_region (yMd rfl (yMd rfl (yN rfl (yB rfl rfl rfl rfl (yQ (q_then ?_)))))))); rw [u2]; refine pw_ct rfl (pw_skip (pw_seq (pw_block (pw_seq (pw_region (yMd rfl (yMd rfl (yMd rfl ?_)))))))); refine yW ex (by omega) rfl rfl ?_; refine yLr rfl rfl (yC (c2) rfl rfl (yU rfl rfl rfl (yQ (pw_cf rfl (pw_skip (pw_region (yMd rfl (yB rfl rfl rfl rfl (yAd rfl ?_))))))))); refine yQ (q_then ?_)
        exact ⟨(k + 1, E), ⟨hW2, h2, hdone _ (fun _ h => h) (by simpa using hcx)⟩, by show P.length - (k + 1) < P.length - k; omega, rfl, ⟨.refl _, .refl _, .refl _, .refl _, .refl _, .of_eq (congrArg (fun n => SV.d (dI n)) hwk), trivial⟩, trivial, ⟨rfl, trivial⟩, rfl⟩
      | false =>
        rw [hcx] at c2
        have hW3 := hW2.add (x := x) (y := y) (hym.elim .inl fun h => .inr (List.mem_append_left _ h)) hgx hcx
        have hlen3 : (T ++ E ++ [x]).length ≤ (allG m).length := hW3.len
        have hb1 : (((id :: (T ++ E)).map fun s => [dS s]).length + [[dS x]].length) * 16 ≤ 140737488351232 := by simp at hlen3 ⊢; omega
        have hb2 : ((id :: (T ++ E)).map fun s => [dS s]).length + [[dS x]].length ≤ 140737488351232 := by simp at hlen3 ⊢; omega
        have e3 : T ++ (E ++ [x]) = (T ++ E) ++ [x] := (List.append_assoc _ _ _).symm
        refine pw_seq (pw_seq (pw_region (yMd rfl (yMd rfl (yN rfl (yB rfl rfl rfl rfl (yQ (q_then ?_)))))))); rw [u2]; refine pw_ct rfl (pw_skip (pw_seq (pw_block (pw_seq (pw_region (yMd rfl (yMd rfl (yMd rfl ?_)))))))); refine yW ex (by omega) rfl rfl ?_; refine yLr rfl rfl (yC (c2) rfl rfl (yU rfl rfl rfl (yQ (pw_ct rfl (pw_seq (pw_region (yMd rfl (yMd rfl (yMd rfl ?_))))))))); refine yW ex (by omega) rfl rfl ?_; refine yLr rfl rfl (yC (c3) rfl rfl (yAd rfl (yQ (pw_region (yMt rfl (yMd rfl (yMd rfl ?_))))))); refine yW ex (by omega) rfl rfl ?_; refine yLr rfl rfl ?_; refine yR (es := [[_]]) rfl rfl rfl rfl rfl ?_; refine yT hb1 hb2 rfl rfl (by simp) rfl rfl rfl rfl ?_; refine yAt rfl (yQ (pw_region (yMd rfl (yB rfl rfl rfl rfl (yAd rfl (yQ (q_then ?_)))))))
        exact ⟨(k + 1, E ++ [x]), ⟨e3 ▸ hW3, h2, fun j z hj hz => by
          show z ∈ T ++ (E ++ [x])
          rw [e3]
          exact hdone _ (fun z h => List.mem_append_left _ h) (by simp) j z hj hz⟩, by show P.length - (k + 1) < P.length - k; omega, rfl, ⟨.refl _, .of_eq (by show _ = SV.d (dStrs (uniS (T ++ (E ++ [x])))); rw [e3]; rfl), .of_eq (by show _ = SV.ts sT 1 ((id :: (T ++ (E ++ [x]))).map fun s => [dS s]); rw [e3]; simp only [List.map_cons, List.map_append, List.map_nil]; rfl), .refl _, .refl _, .of_eq (congrArg (fun n => SV.d (dI n)) hwk), trivial⟩, trivial, ⟨(by show some (((id :: (T ++ E)).map fun s => [dS s]).length + [[dS x]].length) = some ((T ++ (E ++ [x])).length + 1); simp; omega), trivial⟩, rfl⟩
    · have u2 : decide ((k : Int) < ((P.map fun s => [dS s]).length : Int)) = false := decide_eq_false (by rw [List.length_map]; omega)
      refine pw_seq (pw_seq (pw_region (yMd rfl (yMd rfl (yN rfl (yB rfl rfl rfl rfl (yQ (q_then ?_)))))))); rw [u2]; refine pw_cf rfl (pw_exit (pw_region (yMd rfl (yB rfl rfl rfl rfl (yAd rfl (yQ (q_then ?_)))))))
      exact ⟨(i + 1, T ++ E), ⟨hW2, by show i + 1 ≤ (T ++ E).length + 1; rw [List.length_append]; omega, fun j z hj hz x hx => by
        rcases Nat.lt_or_ge j i with h1 | h1
        · have hz2 : (id :: T)[j]? = some z := by
            have hjl : j < (id :: T).length := by rw [List.length_cons]; omega
            rw [← hz, ← List.cons_append, List.getElem?_append_left hjl]
          exact List.mem_append_left _ (hc j z h1 hz2 x hx)
        · obtain rfl : j = i := by omega
          have hz2 : (id :: T)[j]? = some z := by
            have hjl : j < (id :: T).length := by rw [List.length_cons]; omega
            rw [← hz, ← List.cons_append, List.getElem?_append_left hjl]
          rw [hy] at hz2
          cases hz2
          obtain ⟨j2, hj2⟩ := List.mem_iff_getElem?.1 ((hPm x).2 hx)
          exact hk2 j2 x (by have := (List.getElem?_eq_some_iff.1 hj2).1; omega) hj2⟩, by show (allG m).length + 2 - (i + 1) < (allG m).length + 2 - i; omega, rfl, ⟨.refl _, .refl _, .refl _, .of_eq (congrArg (fun n => SV.d (dI n)) hw), trivial⟩, trivial, ⟨rfl, trivial⟩, rfl⟩
  · have u1 : decide ((i : Int) < (((id :: T).map fun s => [dS s]).length : Int)) = false := decide_eq_false (by rw [List.length_map, List.length_cons]; omega)
    have hn : R = uniS T := by
      rw [hR]
      exact (hW.full fun y hy x hx => by
        obtain ⟨j, hj⟩ := List.mem_iff_getElem?.1 hy
        exact hc j y (show j < i by have h9 : j < (id :: T).length := (List.getElem?_eq_some_iff.1 hj).1; rw [List.length_cons] at h9; omega) hj x hx).symm
    subst hn
    refine pw_seq (pw_seq (pw_region (yMd rfl (yMt rfl (yN rfl (yB rfl rfl rfl rfl (yQ (q_then ?_)))))))); rw [u1]; refine pw_cf rfl (pw_exit (pw_seq (pw_region (yMd rfl (yAd rfl (yQ (pw_ret ?_)))))))
    exact q_ret _ (.tmp rfl .nil) rfl
end Go.Proofs.YtkfoogabijnamaaGreatDoor
