/- Walks: the reference's long numbers: groups, comparisons, sums, differences, products. -/
import Derived.Test.YtddfimjiihggmaaGreatDoorB9
set_option maxHeartbeats 16000000
set_option maxRecDepth 20000
namespace Go.Proofs.YtddfimjiihggmaaGreatDoor
open Go.RowKit Px
variable {r : Nat}
abbrev dJ (x : Nat) : List DV := [dI x]
abbrev dJm (b : Bool) (l : List Nat) : List DV := [dB b, .sl 1 (l.map dJ)]
theorem Kb (l : List Nat) (i : Nat) : PCalls Tryz.prog 263 [.sl 1 (l.map dJ), dI i] (.d (dI (Q4 l i))) := by
 refine B3 Tryz.func263 V Tryz.ntmps263 Tryz.results263 (by simp) fun B w0 => ?_
 rcases D2 i l.length with h | h
 · have t1 : decide ((i : Int) < ((l.map dJ).length : Int)) = true := B0 (by rw [A7]; omega)
   obtain ⟨x, hx⟩ := Bq h
   have ex := ix dJ l i i x rfl hx
   rw [T3 hx]
   refine D8 (B5 V (I0 V (C3 V (yN V (H3 V (B1 (J8 t1 V (H8 V (C3 V (yW ex (by omega) rfl rfl (K5 rfl rfl (B5 rfl (C4 (A4 ?_))))))))))))))
   exact C9 _ (.tmp V .nil) V
 · have t1 : decide ((i : Int) < ((l.map dJ).length : Int)) = false := A9 (by rw [A7]; omega)
   rw [Ce h]
   refine D8 (B5 V (I0 V (C3 V (yN V (H3 V (B1 (L9 t1 V (B2 (D8 (B5 V (C4 ?_)))))))))))
   exact C9 _ (.tmp V .nil) V
theorem OU (l : List Nat) (hl : l.length ≤ 1000000) : PCalls Tryz.prog 264 [.sl 1 (l.map dJ)] (.d (.sl 1 ((R0 l).map dJ))) := by
 obtain ⟨r, hr⟩ := H7 (R0 l)
 rw [← hr]
 refine B3 Tryz.func264 V Tryz.ntmps264 Tryz.results264 (by simp) fun B w0 => ?_
 refine D8 (B5 V (A8 (B6 ?_))); refine H2 (fun n : Nat => ⟨21, [(0, .d (.sl 1 ((l.take n).map dJ)))], [], []⟩) (fun n => n ≤ l.length ∧ R0 (l.take n) = r) (fun n => n) l.length ⟨E3 _, by rw [I3, hr]⟩
  ⟨rfl, ⟨.of_eq (by rw [I3]; rfl), D4⟩, D4, D4, rfl⟩ ?_
 rintro n ⟨hn, hc⟩
 have hlen : (l.take n).length = n := by rw [E4]; omega
 have hnx : ∀ x, (l.take n)[n - 1]? = some x → 0 < n → l.take n = l.take (n - 1) ++ [x] := fun x hx h0 => by
  obtain ⟨m, rfl⟩ : ∃ m, n = m + 1 := ⟨n - 1, by omega⟩
  rw [E7 (by omega)] at hx
  rw [G8, Nat.add_sub_cancel] at *
  rw [hx]; rfl
 have htk : ((l.take n).map dJ).take (((n - 1 : Nat) : Int)).toNat = (l.take (n - 1)).map dJ := by
  rw [H5, ← List.map_take, List.take_take, Nat.min_eq_left (by omega)]
 obtain ⟨c, hcc⟩ := H7 (l.take n)
 rw [← hcc] at hc hlen hnx htk ⊢
 rcases G9 n with h0 | h0
 · have hc0 : c = [] := List.length_eq_zero_iff.1 (by omega)
   subst hc0
   have hr0 : r = [] := hc.symm
   subst hr0
   refine I0 V (yN V (G3 V (C3 V (yO V (yO V (yO V (yO V (yO V (yO V (yO V (K7 V V (yQ (F6 V (G1 (H8 V (B5 V (C4 ?_)))))))))))))))))
   exact C9 _ (.tmp V .nil) V
 have u1 : decide (((c.map dJ).length : Int) > 0) = true := B0 (by rw [A7]; omega)
 obtain ⟨x, hx⟩ : ∃ x, c[n - 1]? = some x := ⟨_, A5 (by omega)⟩
 have ex := ix dJ c ((n - 1 : Nat) : Int) (n - 1) x rfl hx
 have hw : IntKind.i64.wrap (((c.map dJ).length : Int) - 1) = ((n - 1 : Nat) : Int) := by rw [A7, I5 _ (by omega)]; omega
 have hcl : ((n - 1 : Nat) : Int) ≤ ((c.map dJ).length : Int) := by rw [A7]; omega
 have hs := hnx x hx h0
 have hcs := HU (l.take (n - 1)) x
 rw [← hs, hc] at hcs
 rcases G9 x with hx0 | hx0
 · subst hx0
   rw [C5 rfl] at hcs
   refine I0 V (yN V (G3 V (C3 V ?_))); rw [u1]; refine C3 V (C3 V (yN V (G3 V ?_))); rw [hw]; refine yW ex (by omega) rfl rfl (K5 rfl rfl (G3 rfl (K8 rfl rfl (yQ (G5 rfl (B2 (B6 (B4 (C3 rfl (C3 rfl (yN rfl (G3 rfl ?_)))))))))))); rw [hw]; refine OR (by omega) hcl rfl rfl (B5 rfl (CR (B1 ?_)))
   exact ⟨n - 1, ⟨by omega, hcs.symm⟩, by omega, rfl, ⟨.of_eq (by rw [← htk]; rfl), D4⟩, D4, D4, rfl⟩
 · rw [B9 (by omega)] at hcs
   have u2 : ((x : Int) == 0) = false := by simp; omega
   refine I0 V (yN V (G3 V (C3 V ?_))); rw [u1]; refine C3 V (C3 V (yN V (G3 V ?_))); rw [hw]; refine yW ex (by omega) rfl rfl (K5 rfl rfl (G3 rfl (K8 rfl rfl (yQ (B1 (L9 u2 rfl (G1 (H8 rfl (B5 rfl (C4 ?_))))))))))
   rw [hcs]
   exact C9 _ (.tmp V .nil) V
def Pf (l r : List Nat) : Int := if l.length < r.length then -1 else if r.length < l.length then 1 else EX l r l.length
theorem ordR_ge (x y : Nat) : (0 ≤ Pf (M4 x) (M4 y)) ↔ y ≤ x := by
 unfold Pf
 by_cases h1 : (M4 x).length < (M4 y).length
 · rw [C5 h1]
   have := S7 h1
   omega
 · rw [B9 h1]
   by_cases h2 : (M4 y).length < (M4 x).length
   · rw [C5 h2]
     have := S7 h2
     omega
   · rw [B9 h2, HW (M7 x) (M7 y), E9 (E3 _), E9 (by omega), M0, M0]
     split
     · omega
     · split <;> omega
theorem wOrder (l r : List Nat) (hl : l.length ≤ 1000000) : PCalls Tryz.prog 241 [.sl 1 (l.map dJ), .sl 1 (r.map dJ)] (.d (dI (Pf l r))) := by
 unfold Pf
 by_cases h1 : l.length < r.length
 · rw [C5 h1]
   have u1 : (((l.map dJ).length : Int) != ((r.map dJ).length : Int)) = true := by simp; omega
   have u2 : decide (((l.map dJ).length : Int) < ((r.map dJ).length : Int)) = true := B0 (by simp; omega)
   refine B3 Tryz.func241 V Tryz.ntmps241 Tryz.results241 (by simp) fun B w0 => ?_
   refine D8 (B5 V (I0 V (yN V (C3 V (yN V (H3 V (B1 (J8 u1 V (I0 V (yN V (C3 V (yN V (H3 V (B1 (J8 u2 V (D8 (B5 V (C4 (A4 (A4 ?_))))))))))))))))))))
   exact C9 _ (.tmp V .nil) V
 rw [B9 h1]
 by_cases h2 : r.length < l.length
 · rw [C5 h2]
   have u1 : (((l.map dJ).length : Int) != ((r.map dJ).length : Int)) = true := by simp; omega
   have u2 : decide (((l.map dJ).length : Int) < ((r.map dJ).length : Int)) = false := A9 (by simp; omega)
   refine B3 Tryz.func241 V Tryz.ntmps241 Tryz.results241 (by simp) fun B w0 => ?_
   refine D8 (B5 V (I0 V (yN V (C3 V (yN V (H3 V (B1 (J8 u1 V (I0 V (yN V (C3 V (yN V (H3 V (B1 (L9 u2 V (B2 (D8 (B5 V (C4 (A4 ?_))))))))))))))))))))
   exact C9 _ (.tmp V .nil) V
 rw [B9 h2]
 have hlr : l.length = r.length := by omega
 have u1 : (((l.map dJ).length : Int) != ((r.map dJ).length : Int)) = false := by simp; omega
 obtain ⟨z, hz⟩ := H7 (EX l r l.length)
 rw [← hz]
 have hw : IntKind.i64.wrap (((l.map dJ).length : Int) - 1) = (l.length : Int) - 1 := by rw [A7, I5 _ (by omega)]
 refine B3 Tryz.func241 V Tryz.ntmps241 Tryz.results241 (by simp) fun B w0 => ?_
 refine D8 (B5 V (I0 V (yN V (C3 V (yN V (H3 V (B1 (L9 u1 V (B2 (I0 V (yN V (G3 V (B5 V (B6 ?_)))))))))))))); rw [hw]
 refine H2 (fun i : Nat => ⟨41, [(0, .d (.sl 1 (l.map dJ))), (1, .d (.sl 1 (r.map dJ))), (5, .d (dI ((i : Int) - 1)))], [], []⟩) (fun i => i ≤ l.length ∧ EX l r i = z) (fun i => i) l.length ⟨E3 _, hz.symm⟩
  ⟨rfl, ⟨E0, E0, E0, D4⟩, D4, D4, rfl⟩ ?_
 rintro i ⟨hi, hc⟩
 rcases G9 i with h0 | h0
 · subst h0
   have hz0 : z = 0 := hc.symm
   subst hz0
   have u2 : decide (((0 : Nat) : Int) - 1 ≥ 0) = false := A9 (by omega)
   refine I0 V (H3 V (F6 V (G1 (D8 (B5 V (C4 ?_)))))); rw [u2]
   exact C9 _ (.tmp V .nil) V
 obtain ⟨j, rfl⟩ : ∃ j, i = j + 1 := ⟨i - 1, by omega⟩
 have u2 : decide (((j + 1 : Nat) : Int) - 1 ≥ 0) = true := B0 (by omega)
 obtain ⟨x, hx⟩ : ∃ x, l[j]? = some x := ⟨_, A5 (by omega)⟩
 obtain ⟨y, hy⟩ : ∃ y, r[j]? = some y := ⟨_, A5 (by omega)⟩
 have ex := ix dJ l (((j + 1 : Nat) : Int) - 1) j x (by omega) hx
 have ey := ix dJ r (((j + 1 : Nat) : Int) - 1) j y (by omega) hy
 have hn := Ha j hx hy
 rw [hc] at hn
 have hw2 : IntKind.i64.wrap (((j + 1 : Nat) : Int) - 1 - 1) = (j : Int) - 1 := by rw [I5 _ (by omega)]; omega
 by_cases hxy : x < y
 · rw [C5 hxy] at hn
   have u3 : decide ((x : Int) < (y : Int)) = true := B0 (by omega)
   subst hn
   refine I0 V (H3 V (B1 (J8 u2 V (B2 (A8 (B6 (A8 (A8 ?_)))))))); refine I7 Tryz.mixed (by kernel_rfl) ?_; refine C3 V (C3 V (yW ex (by omega) rfl rfl (K5 rfl rfl (C3 rfl (C3 rfl (yW ey (by omega) rfl rfl (K5 rfl rfl (H3 rfl (B1 (J8 u3 rfl (D8 (B5 rfl (C4 (A4 (B8 (A4 (A4 (B8 (A4 ?_)))))))))))))))))))
   exact C9 _ (.tmp V .nil) V
 rw [B9 hxy] at hn
 have u3 : decide ((x : Int) < (y : Int)) = false := A9 (by omega)
 by_cases hyx : y < x
 · rw [C5 hyx] at hn
   have u4 : decide ((x : Int) > (y : Int)) = true := B0 (by omega)
   subst hn
   refine I0 V (H3 V (B1 (J8 u2 V (B2 (A8 (B6 (A8 (A8 ?_)))))))); refine I7 Tryz.mixed (by kernel_rfl) ?_; refine C3 V (C3 V (yW ex (by omega) rfl rfl (K5 rfl rfl (C3 rfl (C3 rfl (yW ey (by omega) rfl rfl (K5 rfl rfl (H3 rfl (B1 (L9 u3 rfl (B2 (A8 ?_)))))))))))); refine I7 Tryz.mixed (by kernel_rfl) ?_; refine C3 V (C3 V (yW ex (by omega) rfl rfl (K5 rfl rfl (C3 rfl (C3 rfl (yW ey (by omega) rfl rfl (K5 rfl rfl (H3 rfl (B1 (J8 u4 rfl (D8 (B5 rfl (C4 (B8 (A4 (A4 (B8 (A4 ?_))))))))))))))))))
   exact C9 _ (.tmp V .nil) V
 rw [B9 hyx] at hn
 have u4 : decide ((x : Int) > (y : Int)) = false := A9 (by omega)
 refine I0 V (H3 V (B1 (J8 u2 V (B2 (A8 (B6 (A8 (A8 ?_)))))))); refine I7 Tryz.mixed (by kernel_rfl) ?_; refine C3 V (C3 V (yW ex (by omega) rfl rfl (K5 rfl rfl (C3 rfl (C3 rfl (yW ey (by omega) rfl rfl (K5 rfl rfl (H3 rfl (B1 (L9 u3 rfl (B2 (A8 ?_)))))))))))); refine I7 Tryz.mixed (by kernel_rfl) ?_; refine C3 V (C3 V (yW ex (by omega) rfl rfl (K5 rfl rfl (C3 rfl (C3 rfl (yW ey (by omega) rfl rfl (K5 rfl rfl (H3 rfl (B1 (L9 u4 rfl (B2 (B4 (C3 rfl (G3 rfl (B5 rfl (B1 ?_)))))))))))))))); rw [hw2]
 exact ⟨j, ⟨by omega, hn.symm⟩, by omega, rfl, ⟨E0, E0, E0, D4⟩, D4, D4, rfl⟩
abbrev jT (n : Nat) : Nat := 3 * 100000 + n
theorem Qx {m n : List Nat} (hm : gok m) (hn : gok n) {i : Nat} (h1 : m.length ≤ i) (h2 : n.length ≤ i) (h3 : (O3 m n i).2 = 0) : gok (O3 m n i).1 ∧ K0 (O3 m n i).1 = K0 m + K0 n := by
 obtain ⟨-, q1, -, q2⟩ := Z7 hm hn i
 rw [h3, E9 h1, E9 h2] at q2
 exact ⟨q1, by omega⟩
theorem wPlusJ (m n : List Nat) (hgm : gok m) (hgn : gok n) (hlm : m.length ≤ 100000) (hln : n.length ≤ 100000) : PCalls Tryz.prog 240 [.sl 1 (m.map dJ), .sl 1 (n.map dJ)] (.d (.sl 1 ((M4 (K0 m + K0 n)).map dJ))) := by
 obtain ⟨r, hr⟩ := H7 (M4 (K0 m + K0 n))
 rw [← hr]
 have hml : ((m.map dJ).length : Int) = (m.length : Int) := by simp
 have hnl : ((n.map dJ).length : Int) = (n.length : Int) := by simp
 refine B3 Tryz.func240 V Tryz.ntmps240 Tryz.results240 (by simp) fun B w0 => ?_
 refine D8 (B5 V (D8 (yRt (E := 3) (t := jT 9) (es := []) V V V V V V V V (Hi V (yQ (D8 (B5 V (A8 (D8 (B5 V (B6 ?_))))))))))); refine H2 (fun i : Nat => ⟨44, [(0, .d (.sl 1 (m.map dJ))), (1, .d (.sl 1 (n.map dJ))), (5, .ts (jT 9) 1 ((O3 m n i).1.map dJ)), (6, .d (dI (O3 m n i).2)), (7, .d (dI i))], [], [(jT 9, ((O3 m n i).1.map dJ).length)]⟩) (fun i => i ≤ max m.length n.length + 1 ∧ (i = max m.length n.length + 1 → (O3 m n i).2 = 0)) (fun i => max m.length n.length + 1 - i) 0 ⟨D9 _, fun h => by omega⟩
  ⟨rfl, ⟨E0, E0, E0, E0, E0, D4⟩, D4, ⟨rfl, D4⟩, rfl⟩ ?_
 rintro i ⟨hi, hlast⟩
 obtain ⟨h1, h2, h3, -⟩ := Z7 hgm hgn i
 have hend := Qx hgm hgn (i := i)
 have hnx := Eg m n i
 obtain ⟨⟨p, c⟩, hp⟩ := H7 (O3 m n i)
 rw [← hp] at h1 h2 h3 hnx hlast hend ⊢
 simp only at h1 h2 h3 hnx hlast hend ⊢
 have step : (i < m.length ∨ i < n.length ∨ 0 < c) → ∀ b : Bool, True := fun _ _ => trivial
 clear step
 have k1 := Kb m i
 have k2 := Kb n i
 have g1 := BJ hgm i
 have g2 := BJ hgn i
 have gm0 : m.length ≤ i → Q4 m i = 0 := fun h => Ce h
 have gn0 : n.length ≤ i → Q4 n i = 0 := fun h => Ce h
 obtain ⟨x, hx⟩ := H7 (Q4 m i)
 obtain ⟨y, hy⟩ := H7 (Q4 n i)
 rw [← hx] at k1 g1 gm0 hnx
 rw [← hy] at k2 g2 gn0 hnx
 have w1 : IntKind.i64.wrap ((x : Int) + (y : Int)) = ((x + y : Nat) : Int) := by rw [I5 _ (by omega)]; omega
 have w2 : IntKind.i64.wrap (((x + y : Nat) : Int) + (c : Int)) = ((x + y + c : Nat) : Int) := by rw [I5 _ (by omega)]; omega
 have hsw : x + c + y = x + y + c := by omega
 rw [hsw] at hnx
 obtain ⟨s, hs⟩ := H7 (x + y + c)
 rw [← hs] at w2 hnx
 have wq : IntKind.i64.wrap ((s : Int).tdiv 1000000000) = ((s / 1000000000 : Nat) : Int) := I5 (((s / 1000000000 : Nat)) : Int) (by omega)
 have w12 : IntKind.i64.wrap ((x : Int) + (y : Int) + (c : Int)) = (s : Int) := by rw [I5 _ (by omega)]; omega
 have hwi := I5 ((i : Int) + 1) (by omega)
 have hcar : i = max m.length n.length → s / 1000000000 = 0 := fun e => by
  have := gm0 (by omega)
  have := gn0 (by omega)
  omega
 have hl2 : p.length ≤ 1000000 := by omega
 rcases D2 i m.length with hm2 | hm2
 · have t1 : decide ((i : Int) < ((m.map dJ).length : Int)) = true := B0 (by rw [A7]; omega)
   refine I0 V (C3 V (yN V (G3 V (C3 V ?_)))); rw [t1]; refine yO V (yO V (yO V (yO V (K8 V V (C3 V (yO V (yO V (K8 V V (yQ (G5 V (B2 (A8 (B6 (H8 V (C3 V (yC (k1) V V (C3 V (C3 V (yC (k2) V V (G3 V (C3 V (G3 V (B5 V (D8 (Hh V (C3 V (G3 V ?_))))))))))))))))))))))))))); refine yR (es := [[_]]) V V V V V ?_; refine yT (es' := (p ++ [s % 1000000000]).map dJ) (m := ((p ++ [s % 1000000000]).map dJ).length) (by simp; omega) (by simp; omega) rfl rfl rfl rfl rfl (by simp [w1, w12] <;> rfl) (by simp) ?_; refine Hi V (yQ (B4 (C3 V (G3 V (B5 V (B4 (C3 V (G3 V (B5 V (B1 ?_)))))))))); rw [w1]
   rw [w2]; rw [wq]
   exact ⟨i + 1, ⟨by omega, fun e => by rw [hnx]; exact hcar (by omega)⟩, by omega, rfl, ⟨E0, E0, .of_eq (by rw [hnx] <;> rfl), .of_eq (by rw [hnx] <;> rfl), .of_eq (C7 (fun n => SV.d (dI n)) hwi), D4⟩, D4, ⟨(by rw [hnx] <;> rfl), D4⟩, rfl⟩
 have t1 : decide ((i : Int) < ((m.map dJ).length : Int)) = false := A9 (by rw [A7]; omega)
 rcases D2 i n.length with hn2 | hn2
 · have t2 : decide ((i : Int) < ((n.map dJ).length : Int)) = true := B0 (by rw [A7]; omega)
   refine I0 V (C3 V (yN V (G3 V (C3 V ?_)))); rw [t1]; refine C3 V (C3 V (yN V (G3 V (K7 V V (C3 V ?_))))); rw [t2]; refine yO V (yO V (K8 V V (yQ (G5 V (B2 (A8 (B6 (H8 V (C3 V (yC (k1) V V (C3 V (C3 V (yC (k2) V V (G3 V (C3 V (G3 V (B5 V (D8 (Hh V (C3 V (G3 V ?_))))))))))))))))))))); refine yR (es := [[_]]) V V V V V ?_; refine yT (es' := (p ++ [s % 1000000000]).map dJ) (m := ((p ++ [s % 1000000000]).map dJ).length) (by simp; omega) (by simp; omega) rfl rfl rfl rfl rfl (by simp [w1, w12] <;> rfl) (by simp) ?_; refine Hi V (yQ (B4 (C3 V (G3 V (B5 V (B4 (C3 V (G3 V (B5 V (B1 ?_)))))))))); rw [w1]
   rw [w2]; rw [wq]
   exact ⟨i + 1, ⟨by omega, fun e => by rw [hnx]; exact hcar (by omega)⟩, by omega, rfl, ⟨E0, E0, .of_eq (by rw [hnx] <;> rfl), .of_eq (by rw [hnx] <;> rfl), .of_eq (C7 (fun n => SV.d (dI n)) hwi), D4⟩, D4, ⟨(by rw [hnx] <;> rfl), D4⟩, rfl⟩
 have t2 : decide ((i : Int) < ((n.map dJ).length : Int)) = false := A9 (by rw [A7]; omega)
 rcases G9 c with hc | hc
 · subst hc
   have k3 := OU p (by omega)
   obtain ⟨e1, e2⟩ := hend hm2 hn2 rfl
   rw [KE e1, e2, ← hr] at k3
   refine I0 V (C3 V (yN V (G3 V (C3 V ?_)))); rw [t1]; refine C3 V (C3 V (yN V (G3 V (K7 V V (C3 V ?_))))); rw [t2]; refine C3 V (G3 V (K7 V V (yQ (F6 V (G1 (D8 (Hh V (yC (k3) V V (B5 V (C4 ?_))))))))))
   exact C9 _ (.tmp V .nil) V
 · have t3 : decide ((c : Int) > 0) = true := B0 (by omega)
   have hi2 : i = max m.length n.length := by
    rcases D2 i (max m.length n.length + 1) with h | h
    · omega
    · have := hlast (by omega); omega
   refine I0 V (C3 V (yN V (G3 V (C3 V ?_)))); rw [t1]; refine C3 V (C3 V (yN V (G3 V (K7 V V (C3 V ?_))))); rw [t2]; refine C3 V (G3 V (K7 V V (yQ (B1 (J8 t3 V (B2 (A8 (B6 (H8 V (C3 V (yC (k1) V V (C3 V (C3 V (yC (k2) V V (G3 V (C3 V (G3 V (B5 V (D8 (Hh V (C3 V (G3 V ?_)))))))))))))))))))))); refine yR (es := [[_]]) V V V V V ?_; refine yT (es' := (p ++ [s % 1000000000]).map dJ) (m := ((p ++ [s % 1000000000]).map dJ).length) (by simp; omega) (by simp; omega) rfl rfl rfl rfl rfl (by simp [w1, w12] <;> rfl) (by simp) ?_; refine Hi V (yQ (B4 (C3 V (G3 V (B5 V (B4 (C3 V (G3 V (B5 V (B1 ?_)))))))))); rw [w1]
   rw [w2]; rw [wq]
   exact ⟨i + 1, ⟨by omega, fun e => by rw [hnx]; exact hcar hi2⟩, by omega, rfl, ⟨E0, E0, .of_eq (by rw [hnx] <;> rfl), .of_eq (by rw [hnx] <;> rfl), .of_eq (C7 (fun n => SV.d (dI n)) hwi), D4⟩, D4, ⟨(by rw [hnx] <;> rfl), D4⟩, rfl⟩
theorem Lq (m n : List Nat) (hgm : gok m) (hgn : gok n) (hle : n.length ≤ m.length) (hv : K0 n ≤ K0 m) (hlm : m.length ≤ 100000) : PCalls Tryz.prog 242 [.sl 1 (m.map dJ), .sl 1 (n.map dJ)] (.d (.sl 1 ((M4 (K0 m - K0 n)).map dJ))) := by
 obtain ⟨r, hr⟩ := H7 (M4 (K0 m - K0 n))
 rw [← hr]
 obtain ⟨s1, s2⟩ := JG hgm hgn hle hv
 refine B3 Tryz.func242 V Tryz.ntmps242 Tryz.results242 (by simp) fun B w0 => ?_
 refine D8 (B5 V (D8 (yRt (E := 3) (t := jT 9) (es := []) V V V V V V V V (Hi V (yQ (D8 (B5 V (A8 (D8 (B5 V (B6 ?_))))))))))); refine H2 (fun i : Nat => ⟨36, [(0, .d (.sl 1 (m.map dJ))), (1, .d (.sl 1 (n.map dJ))), (5, .ts (jT 9) 1 ((P8 m n i).1.map dJ)), (6, .d (dI (P8 m n i).2)), (7, .d (dI i))], [], [(jT 9, ((P8 m n i).1.map dJ).length)]⟩) (fun i => i ≤ m.length) (fun i => m.length - i) 0 (D9 _)
  ⟨rfl, ⟨E0, E0, E0, E0, E0, D4⟩, D4, ⟨rfl, D4⟩, rfl⟩ ?_
 intro i hi
 obtain ⟨h1, h2, h3, -⟩ := Z3 hgm hgn i
 have hnx := Gi m n i
 rcases D2 i m.length with hi2 | hi2
 rotate_left
 · obtain rfl : i = m.length := by omega
   have t1 : decide ((m.length : Int) < ((m.map dJ).length : Int)) = false := A9 (by rw [A7]; omega)
   have k3 := OU (P8 m n m.length).1 (by omega)
   rw [KE s1, s2, ← hr] at k3
   obtain ⟨⟨p, c⟩, hp⟩ := H7 (P8 m n m.length)
   rw [← hp] at k3 ⊢
   refine I0 V (C3 V (yN V (H3 V (B1 (L9 t1 V (G1 (D8 (Hh V (yC (k3) V V (B5 V (C4 ?_)))))))))))
   exact C9 _ (.tmp V .nil) V
 obtain ⟨⟨p, c⟩, hp⟩ := H7 (P8 m n i)
 rw [← hp] at h1 h2 h3 hnx ⊢
 simp only at h1 h2 h3 hnx ⊢
 have t1 : decide ((i : Int) < ((m.map dJ).length : Int)) = true := B0 (by rw [A7]; omega)
 have k2 := Kb n i
 obtain ⟨x, hx⟩ := Bq hi2
 have ex := ix dJ m (i : Int) i x rfl hx
 have g1 : x < 1000000000 := hgm x (B7 hx)
 have g2 := BJ hgn i
 rw [T3 hx] at hnx
 obtain ⟨y, hy⟩ := H7 (Q4 n i)
 rw [← hy] at k2 g2 hnx
 have w1 : IntKind.i64.wrap ((x : Int) - (y : Int)) = (x : Int) - (y : Int) := I5 _ (by omega)
 have w2 : IntKind.i64.wrap ((x : Int) - (y : Int) - (c : Int)) = (x : Int) - (y : Int) - (c : Int) := I5 _ (by omega)
 have hwi := I5 ((i : Int) + 1) (by omega)
 have hl2 : p.length ≤ 1000000 := by omega
 by_cases hlt : x < c + y
 · rw [C5 hlt] at hnx
   have t2 : decide ((x : Int) - (y : Int) - (c : Int) < 0) = true := B0 (by omega)
   have w3 : IntKind.i64.wrap ((x : Int) - (y : Int) - (c : Int) + 1000000000) = ((x + 1000000000 - (c + y) : Nat) : Int) := by rw [I5 _ (by omega)]; omega
   obtain ⟨v, hv2⟩ := H7 (x + 1000000000 - (c + y))
   rw [← hv2] at w3 hnx
   refine I0 V (C3 V (yN V (H3 V (B1 (J8 t1 V (B2 (A8 (B6 (A8 ?_))))))))); refine I7 Tryz.mixed (by kernel_rfl) ?_; refine C3 V (C3 V (yW ex (by omega) rfl rfl (K5 rfl rfl (C3 rfl (C3 rfl (yC (k2) rfl rfl (G3 rfl (C3 rfl (G3 rfl (B5 rfl (D8 (B5 rfl (I0 rfl (H3 rfl (B1 ?_))))))))))))))); rw [w1]; rw [w2]; rw [t2]; refine G5 V (H8 V (G3 V (B5 V (B4 (B5 V (B4 (Hh V (C3 V ?_)))))))); refine yR (es := [[_]]) V V V V V ?_; refine yT (es' := (p ++ [v]).map dJ) (m := ((p ++ [v]).map dJ).length) (by simp; omega) (by simp; omega) rfl rfl rfl rfl rfl (by simp [w3]) (by simp) ?_; refine Hi V (yQ (B4 (C3 V (G3 V (B5 V (B1 ?_)))))); rw [w3]
   exact ⟨i + 1, by omega, by omega, rfl, ⟨E0, E0, .of_eq (by rw [hnx] <;> rfl), .of_eq (by rw [hnx] <;> rfl), .of_eq (C7 (fun n => SV.d (dI n)) hwi), D4⟩, D4, ⟨(by rw [hnx] <;> rfl), D4⟩, rfl⟩
 · rw [B9 hlt] at hnx
   have t2 : decide ((x : Int) - (y : Int) - (c : Int) < 0) = false := A9 (by omega)
   have w3 : (x : Int) - (y : Int) - (c : Int) = ((x - (c + y) : Nat) : Int) := by omega
   obtain ⟨v, hv2⟩ := H7 (x - (c + y))
   rw [← hv2] at w3 hnx
   have w2 := w2.trans w3
   rw [w3] at t2
   refine I0 V (C3 V (yN V (H3 V (B1 (J8 t1 V (B2 (A8 (B6 (A8 ?_))))))))); refine I7 Tryz.mixed (by kernel_rfl) ?_; refine C3 V (C3 V (yW ex (by omega) rfl rfl (K5 rfl rfl (C3 rfl (C3 rfl (yC (k2) rfl rfl (G3 rfl (C3 rfl (G3 rfl (B5 rfl (D8 (B5 rfl (I0 rfl (H3 rfl (B1 ?_))))))))))))))); rw [w1]; rw [w2]; refine F6 V (B2 (B4 (Hh V (C3 V ?_)))); refine yR (es := [[_]]) V V V V V ?_; refine yT (es' := (p ++ [v]).map dJ) (m := ((p ++ [v]).map dJ).length) (by simp; omega) (by simp; omega) rfl rfl rfl rfl rfl (by simp) (by simp) ?_; refine Hi V (yQ (B4 (C3 V (G3 V (B5 V (B1 ?_)))))); rw [t2]
   exact ⟨i + 1, by omega, by omega, rfl, ⟨E0, E0, .of_eq (by rw [hnx] <;> rfl), .of_eq (by rw [hnx] <;> rfl), .of_eq (C7 (fun n => SV.d (dI n)) hwi), D4⟩, D4, ⟨(by rw [hnx] <;> rfl), D4⟩, rfl⟩
structure MulOk (m n : List Nat) (i : Nat) (O : List Nat) : Prop where
 len : O.length = m.length + n.length
 ok : gok O
 val : K0 O = K0 (m.take i) * K0 n
 hi : ∀ j, i + n.length ≤ j → Q4 O j = 0
theorem MulOk.zero (m n : List Nat) : MulOk m n 0 (List.replicate (m.length + n.length) 0) :=
 ⟨by simp, fun x hx => by rw [List.eq_of_mem_replicate hx]; omega, by simp [LL, K0], fun j _ => by
  simp only [Q4, List.getElem?_replicate]
  split <;> rfl⟩
theorem MulOk.next {m n O : List Nat} {i x k : Nat} (h : MulOk m n i O) (hm : gok m) (hn : gok n) (hx : m[i]? = some x) (hk : n.length ≤ k) (hk2 : k ≤ n.length + 1) (hc : (Bf O x n i k).2 = 0) (hi : i < m.length) : MulOk m n (i + 1) (Bf O x n i k).1 := by
 have hx9 : x < 1000000000 := hm x (B7 hx)
 obtain ⟨q1, q2, -, q4, q5⟩ := NV (i := i) h.ok hn hx9 k (by rw [h.len]; omega)
 rw [hc, E9 hk, Nat.mul_zero, Nat.add_zero] at q4
 refine ⟨q1.trans h.len, q2, ?_, fun j hj => ?_⟩
 · rw [q4, h.val, U1, T3 hx, Nat.add_mul, Nat.mul_assoc]
 · rw [q5 j (by omega)]
   exact h.hi j (by omega)
theorem Ma (h : r < 10) : Utf8.encode (48 + (r : Int)) = ByteArray.mk ([dig r] : G0).toArray := by
 have : r = 0 ∨ r = 1 ∨ r = 2 ∨ r = 3 ∨ r = 4 ∨ r = 5 ∨ r = 6 ∨ r = 7 ∨ r = 8 ∨ r = 9 := by omega
 rcases this with rfl | rfl | rfl | rfl | rfl | rfl | rfl | rfl | rfl | rfl <;> rfl
theorem OS (h : r < 10) : IntKind.i32.wrap (48 + (r : Int)) = 48 + (r : Int) := by
 have : r = 0 ∨ r = 1 ∨ r = 2 ∨ r = 3 ∨ r = 4 ∨ r = 5 ∨ r = 6 ∨ r = 7 ∨ r = 8 ∨ r = 9 := by omega
 rcases this with rfl | rfl | rfl | rfl | rfl | rfl | rfl | rfl | rfl | rfl <;> rfl
theorem wROf (n : Int) (h0 : -9223372036854775808 ≤ n) (h1 : n ≤ 9223372036854775807) : PCalls Tryz.prog 206 [dI n] (.d (dS (I6 n))) := by
 refine B3 Tryz.func206 V Tryz.ntmps206 Tryz.results206 (by simp) fun B w0 => ?_
 cases t1 : (n == 0) with
 | true =>
  have e : n = 0 := by simpa using t1
  subst e
  rw [show I6 0 = [] from by unfold I6; simp [M9]]
  refine D8 (B5 V (I0 V (H3 V (G5 V (D8 (B5 V (C4 (A4 ?_))))))))
  exact C9 _ (.tmp V .nil) V
 | false =>
 have hn : n ≠ 0 := by simpa using t1
 refine D8 (B5 V (I0 V (H3 V (B1 ?_)))); rw [t1]
 refine F6 V (B2 (D8 (B5 V (I0 V (B5 V (B6 ?_)))))); refine H2 (fun p : Nat × G0 => ⟨30, [(0, .d (dI n)), (3, .d (dS p.2)), (4, .d (dI (sg (decide (n < 0)) p.1)))], [], []⟩) (fun p => p.1 ≤ n.natAbs ∧ AY n.natAbs = AY p.1 ++ p.2) (fun p => p.1) (n.natAbs, []) ⟨E3 _, by simp⟩ ⟨rfl, ⟨E0, E0, .of_eq (C7 (fun n => SV.d (dI n)) (sg_of n)), D4⟩, D4, D4, rfl⟩ ?_
 rintro ⟨m, t⟩ ⟨hm, ht⟩
 simp only at hm ht
 have hlen : t.length ≤ 20 := by
  have h5 := OA (n := n.natAbs) (by omega)
  rw [ht] at h5
  simp at h5
  omega
 obtain ⟨b, hb⟩ := H7 (decide (n < 0))
 have hq := sg_quo b m
 have hr := sg_rem b m
 simp only [← hb]
 by_cases h2 : m = 0
 · subst h2
   rw [M9, List.nil_append] at ht
   have t2 : (sg b 0 != 0) = false := by cases b <;> rfl
   have hc : I6 n = if n < 0 then 45 :: t else t := by unfold I6; rw [ht]
   by_cases h3 : n < 0
   · have t3 : decide (n < 0) = true := B0 h3
     rw [hc, C5 h3]
     refine I0 V (H3 V (B1 (L9 t2 V (G1 (I0 V (H3 V (B1 (J8 t3 V (B4 (C3 V ?_)))))))))); refine GQ (l1 := [45]) (by simp; omega) rfl rfl ?_; refine B5 V (H8 V (B5 V (C4 ?_)))
     exact C9 _ (.tmp V .nil) V
   · have t3 : decide (n < 0) = false := A9 h3
     rw [hc, B9 h3]
     refine I0 V (H3 V (B1 (L9 t2 V (G1 (I0 V (H3 V (B1 (L9 t3 V (B2 (H8 V (B5 V (C4 ?_))))))))))))
     exact C9 _ (.tmp V .nil) V
 · have t2 : (sg b m != 0) = true := by
    have := (sg_zero b m)
    simp [this, h2]
   have hdec : AY n.natAbs = AY (m / 10) ++ (dig (m % 10) :: t) := by rw [ht, Z1 h2]; simp
   have hr10 : m % 10 < 10 := Nat.mod_lt _ (by omega)
   obtain ⟨r, hr2⟩ := H7 (m % 10)
   rw [← hr2] at hr hdec hr10
   have henc := Ma hr10
   have hw48 : IntKind.i64.wrap (48 + (r : Int)) = 48 + (r : Int) := I5 _ (by omega)
   have hw32 : IntKind.i32.wrap (48 + (r : Int)) = 48 + (r : Int) := OS hr10
   have hmu : m / 10 < m := by omega
   have hwq : IntKind.i64.wrap (sg b (m / 10)) = sg b (m / 10) := I5 _ (by unfold sg; cases b <;> simp <;> omega)
   by_cases h3 : sg b r < 0
   · have hb2 : b = true := by
      cases b with
      | true => rfl
      | false => unfold sg at h3; simp at h3; omega
     have t3 : decide (sg b r < 0) = true := B0 h3
     have hneg : IntKind.i64.wrap (0 - sg b r) = (r : Int) := by
      rw [hb2]; unfold sg; simp only [if_true]; rw [Int.zero_sub, Int.neg_neg]; exact I5 _ (by omega)
     refine I0 V (H3 V (B1 (J8 t2 V (B2 (A8 (B6 (H8 V (G3 V (B5 V (I0 V (H3 V (B1 ?_)))))))))))); rw [hr]; rw [t3]; refine G5 V (B4 (C3 V (yU V V V (B5 V (B4 (C3 V (G3 V (yJ V ?_)))))))); rw [hneg]; rw [hw48]; rw [hw32]; refine yJs henc V (C3 V ?_); refine GQ (l1 := [dig r]) (by simp; omega) rfl rfl ?_; refine B5 V (B4 (C3 V (G3 V (B5 V (B1 ?_))))); rw [hq]; rw [hwq]
     refine ⟨(m / 10, dig r :: t), ⟨by simp only; omega, by rw [hdec]⟩, hmu, rfl, ⟨E0, E0, E0, D4⟩, D4, D4, rfl⟩
   · have t3 : decide (sg b r < 0) = false := A9 h3
     have hpos : sg b r = (r : Int) := by
      cases b with
      | false => rfl
      | true => unfold sg at h3 ⊢; simp at h3 ⊢; omega
     refine I0 V (H3 V (B1 (J8 t2 V (B2 (A8 (B6 (H8 V (G3 V (B5 V (I0 V (H3 V (B1 ?_)))))))))))); rw [hr]; rw [t3]; refine F6 V (B2 (B4 (C3 V (G3 V (yJ V ?_))))); rw [hpos]; rw [hw48]; rw [hw32]
     refine yJs henc V (C3 V ?_); refine GQ (l1 := [dig r]) (by simp; omega) rfl rfl ?_; refine B5 V (B4 (C3 V (G3 V (B5 V (B1 ?_))))); rw [hq]; rw [hwq]
     refine ⟨(m / 10, dig r :: t), ⟨by simp only; omega, by rw [hdec]⟩, hmu, rfl, ⟨E0, E0, E0, D4⟩, D4, D4, rfl⟩
theorem Kx {t : G0} (h : t.all V1 = true) (h17 : t.length ≤ 17) (i : Nat) : natOf (t.take i) < 100000000000000000 := by
 have h1 : (t.take i).all V1 = true := by
  rw [E5] at h ⊢
  exact fun x hx => h x (List.mem_of_mem_take hx)
 have h2 := AL h1
 have h3 : (10 : Nat) ^ (t.take i).length ≤ 10 ^ 17 := Nat.pow_le_pow_right (by decide) (by rw [E4]; omega)
 have e17 : (10 : Nat) ^ 17 = 100000000000000000 := by decide
 omega
theorem wRShort (a : G0) (ha : a.length ≤ 1000000) (h17 : (L3 a).1.length ≤ 17) : PCalls Tryz.prog 205 [dS a] (.tup [dI (val a), dB true]) := by
 have c1 := BW a (by omega)
 have hD := V2 a
 have hv : val a = if (L3 a).2 then -(natOf (L3 a).1 : Int) else natOf (L3 a).1 := rfl
 obtain ⟨r, hr⟩ := H7 (val a)
 obtain ⟨⟨t, b⟩, ht⟩ := H7 (L3 a)
 rw [← hr] at hv ⊢
 rw [← ht] at c1 hD hv h17
 simp only at c1 hD hv h17
 have hnt := Kx hD h17
 have hdv : ∀ (i : Nat) c, t[i]? = some c → 48 ≤ c.toNat ∧ c.toNat ≤ 57 := fun i c hc => by
  rw [E5] at hD
  have := hD c (B7 hc)
  unfold V1 at this
  simpa using this
 clear ht hr
 have u0 : decide ((t.length : Int) > 17) = false := A9 (by omega)
 refine B3 Tryz.func205 V Tryz.ntmps205 Tryz.results205 (by simp) fun B w0 => ?_
 refine D8 (H4 V (B5 V (H8 V (yC (c1) V V (O5 V (yX V V (yX V V (H4 V (B5 V (I0 V (O4 V (H3 V (B1 ?_)))))))))))))
 rw [u0]; refine F6 V ?_; refine B2 ?_; refine A8 ?_; refine B4 ?_; refine H4 V ?_; refine yQ ?_; refine A8 ?_; refine A8 ?_; refine B4 ?_; refine H4 V ?_; refine yQ ?_; refine B6 ?_
 refine H2 (fun i : Nat => ⟨34, [(4, .d (dS t)), (5, .d (dB b)), (6, .d (dI (natOf (t.take i)))), (7, .d (dI i))], [], []⟩) (fun i => i ≤ t.length) (fun i => t.length - i) 0 (D9 _) ⟨rfl, ⟨E0, E0, E0, E0, D4⟩, D4, D4, V⟩ ?_
 intro i hi
 rcases D2 i t.length with h | h
 · have u1 : decide ((i : Int) < (t.length : Int)) = true := B0 (by omega)
   obtain ⟨c, hc⟩ := Bq h
   have hci : t[((i : Int)).toNat]? = some c := by rw [H5]; exact hc
   obtain ⟨d1, d2⟩ := hdv i c hc
   have hn := hnt i
   have hnx : natOf (t.take (i + 1)) = 10 * natOf (t.take i) + dv c := by rw [G8, hc]; exact Q9 _ _
   obtain ⟨n, hnn⟩ := H7 (natOf (t.take i))
   rw [← hnn] at hn hnx ⊢
   have w1 : IntKind.i64.wrap (10 * (n : Int)) = 10 * (n : Int) := I5 _ (by omega)
   have w2 : IntKind.u8.wrap ((c.toNat : Int) - 48) = (dv c : Int) := by
    rw [IntKind.wrap_u8]
    unfold dv
    omega
   have hd9 : dv c ≤ 9 := by unfold dv; omega
   have w3 : IntKind.i64.wrap (dv c : Int) = (dv c : Int) := I5 _ (by omega)
   have w4 : IntKind.i64.wrap (10 * (n : Int) + (dv c : Int)) = ((10 * n + dv c : Nat) : Int) := by rw [I5 _ (by omega)]; omega
   have w5 := I5 ((i : Int) + 1) (by omega)
   refine I0 V (C3 V (O4 V (H3 V (B1 (J8 u1 V (B2 (A8 (B6 (B4 (C3 V (G3 V (C3 V (C3 V (Ah hci (by omega) rfl rfl (G3 rfl (yJ rfl (G3 rfl (B5 rfl (B4 (C3 rfl (G3 rfl (B5 rfl (B1 ?_))))))))))))))))))))))); rw [w1]; rw [w2]; rw [w3]; rw [w4]
   exact ⟨i + 1, by omega, by omega, rfl, ⟨E0, E0, .of_eq (by rw [hnx]; rfl), .of_eq (C7 (fun n => SV.d (dI n)) w5), D4⟩, D4, D4, rfl⟩
 have u1 : decide ((i : Int) < (t.length : Int)) = false := A9 (by omega)
 have hn := hnt i
 obtain rfl : i = t.length := by omega
 rw [I3] at hn ⊢
 cases b with
 | true =>
  rw [C5 rfl] at hv
  have w1 : IntKind.i64.wrap (0 - (natOf t : Int)) = -(natOf t : Int) := by rw [I5 _ (by omega)]; omega
  refine I0 V (C3 V (O4 V (H3 V (B1 (L9 u1 V (G1 (I0 V (yQ (G5 V (B4 (C3 V (yU V V V (B5 V (H8 V (H4 V (B5 V (C4 ?_))))))))))))))))); rw [w1]
  rw [hv]
  exact C9 _ (.tmp V (.tmp V .nil)) V
 | false =>
  rw [B9 (by decide)] at hv
  refine I0 V (C3 V (O4 V (H3 V (B1 (L9 u1 V (G1 (I0 V (yQ (F6 V (B2 (H8 V (H4 V (B5 V (C4 ?_))))))))))))))
  rw [hv]
  exact C9 _ (.tmp V (.tmp V .nil)) V
theorem wRNeg (a : G0) (ha : a.length ≤ 1000000) : PCalls Tryz.prog 137 [dS a] (.d (dS (I6 (-val a)))) := by
 have c1 := BW a (by omega)
 have hv : val a = if (L3 a).2 then -(natOf (L3 a).1 : Int) else natOf (L3 a).1 := rfl
 have hd : AY (natOf (L3 a).1) = (L3 a).1 := CC (V2 a) (DQ a)
 have hdn : (L3 a).2 = true → (L3 a).1 ≠ [] := Ic
 have hl : (L3 a).1.length ≤ 1000000 := by
  have hb : (Ax a).length ≤ a.length := by unfold Ax; split <;> simp
  have h2 : (L3 a).1.length ≤ a.length := by
   unfold L3
   split
   · exact E8 (List.dropWhile_suffix _).length_le hb
   · simp
  omega
 obtain ⟨r, hr⟩ := H7 (I6 (-val a))
 obtain ⟨⟨t, b⟩, ht⟩ := H7 (L3 a)
 rw [← hr]
 rw [← ht] at c1 hv hd hdn hl
 simp only at c1 hv hd hdn hl
 refine B3 Tryz.func137 V Tryz.ntmps137 Tryz.results137 (by simp) fun B w0 => ?_
 cases b with
 | true =>
  rw [C5 rfl] at hv
  have : r = t := by
   rw [hr, hv, Int.neg_neg]
   unfold I6
   rw [B9 (by omega), Int.natAbs_natCast, hd]
  rw [this]
  refine D8 (B5 V (H8 V (yC (c1) V V (O5 V (yX V V (yX V V (H4 V (B5 V (I0 V (C3 V (yO V (yO V (K8 V V (yQ (G5 V (H8 V (B5 V (C4 (A4 ?_)))))))))))))))))))
  exact C9 _ (.tmp V .nil) V
 | false =>
  rw [B9 (by decide)] at hv
  cases t with
  | nil =>
   have : r = [] := by
    rw [hr, hv]
    exact O2
   rw [this]
   refine D8 (B5 V (H8 V (yC (c1) V V (O5 V (yX V V (yX V V (H4 V (B5 V (I0 V (C3 V (C3 V (O9 V V (K7 V V (yQ (G5 V (H8 V (B5 V (C4 (A4 ?_)))))))))))))))))))
   exact C9 _ (.tmp V .nil) V
  | cons x l =>
   have hn0 : natOf (x :: l) ≠ 0 := fun e => by
    rw [e, M9] at hd
    cases hd
   have : r = [45] ++ (x :: l) := by
    rw [hr, hv]
    unfold I6
    rw [C5 (by omega), Int.natAbs_neg, Int.natAbs_natCast, hd]
    rfl
   rw [this]
   refine D8 (B5 V (H8 V (yC (c1) V V (O5 V (yX V V (yX V V (H4 V (B5 V (I0 V (C3 V (C3 V (O9 V V (K7 V V (yQ (F6 V (B2 (H8 V ?_))))))))))))))))); refine GQ (l1 := [45]) (l2 := x :: l) (by simp only [List.length_cons, List.length_nil] at hl ⊢; omega) rfl rfl ?_; refine B5 V (C4 ?_)
   exact C9 _ (.tmp V .nil) V
theorem OZ (a : G0) (ha : a.length ≤ 1000000) (h17 : 17 < (L3 a).1.length) : PCalls Tryz.prog 205 [dS a] (.tup [dI 0, dB false]) := by
 have c1 := BW a (by omega)
 obtain ⟨⟨t, b⟩, ht⟩ := H7 (L3 a)
 rw [← ht] at c1 h17
 simp only at c1 h17
 have u0 : decide ((t.length : Int) > 17) = true := B0 (by omega)
 refine B3 Tryz.func205 V Tryz.ntmps205 Tryz.results205 (by simp) fun B w0 => ?_
 refine D8 (H4 V (B5 V (H8 V (yC (c1) V V (O5 V (yX V V (yX V V (H4 V (B5 V (I0 V (O4 V (H3 V (B1 ?_)))))))))))))
 rw [u0]; refine G5 V ?_; refine A8 ?_; refine B4 ?_; refine H4 V ?_; refine H4 V ?_; refine yQ ?_; refine C4 ?_; refine A4 ?_
 exact C9 _ (.tmp V (.tmp V .nil)) V
theorem LA {t : G0} {lo j : Nat} {c : UInt8} (hc : t[j]? = some c) (hlo : lo ≤ j) : natOf ((t.take (j + 1)).drop lo) = 10 * natOf ((t.take j).drop lo) + dv c := by
 have hj := (A6.1 hc).1
 rw [G8, hc, Option.toList, List.drop_append_of_le_length (by rw [E4]; omega)]
 exact Q9 _ _
theorem natOf_9 {t : G0} (h : t.all V1 = true) (lo j : Nat) (hj : j ≤ lo + 9) : natOf ((t.take j).drop lo) < 1000000000 := by
 have h1 : ((t.take j).drop lo).all V1 = true := Mj h j lo
 have h2 := AL h1
 have h3 : (10 : Nat) ^ ((t.take j).drop lo).length ≤ 10 ^ 9 := Nat.pow_le_pow_right (by decide) (by rw [N2, E4]; omega)
 have e9 : (10 : Nat) ^ 9 = 1000000000 := by decide
 omega
theorem OY (a : G0) (ha : a.length ≤ 1000000) : PCalls Tryz.prog 209 [dS a] (.d (.agg (dJm (L3 a).2 (EH (L3 a).1)))) := by
 have c1 := BW a (by omega)
 have hl : (L3 a).1.length ≤ 1000000 := E8 (Z0 a) ha
 have hD := V2 a
 obtain ⟨t, ht⟩ := H7 ((L3 a).1)
 obtain ⟨b, hb⟩ := H7 ((L3 a).2)
 rw [← ht, ← hb] at c1
 rw [← ht] at hl hD
 rw [← ht, ← hb]
 clear ht hb
 have hsz := AF t
 have hdv : ∀ (i : Nat) c, t[i]? = some c → 48 ≤ c.toNat ∧ c.toNat ≤ 57 := fun i c hc => by
  rw [E5] at hD
  have := hD c (B7 hc)
  unfold V1 at this
  simpa using this
 refine B3 Tryz.func209 V Tryz.ntmps209 Tryz.results209 (by simp) fun B w0 => ?_
 refine D8 (yZ (cs := [_, _]) V V (yQ (H8 V (yC (c1) V V (O5 V (yX V V (yX V V (H4 V (B5 V (H8 V (yG (ys := [_, _]) V V (yZ (cs := [_, _]) V V (yS (cs' := [_, _]) V V V V V (yQ ?_)))))))))))))); refine Cu 5 1 (jT 5) 1 V V V V ?_; refine I0 V (O4 V (B5 V (B6 ?_))); refine H2 (fun i : Nat => ⟨45, [(2, .bx 2 0), (3, .d (dS t)), (5, .bx 5 0), (6, .d (dI ((t.length : Int) - 9 * i)))], [(2, [.d (dB false), .d (.val (.slice none 0 0))]), (5, [.d (dB b), .ts (jT 5) 1 (((EH t).take i).map dJ)])], [(jT 5, (((EH t).take i).map dJ).length)]⟩) (fun i => 9 * i < t.length + 9) (fun i => t.length + 9 - 9 * i) 0 (by omega)
  ⟨rfl, ⟨E0, E0, E0, .of_eq (C7 (fun n : Int => SV.d (dI n)) (by simp)), D4⟩, ⟨⟨_, rfl, E0, E0, D4⟩, ⟨_, rfl, E0, E0, D4⟩, D4⟩, ⟨rfl, D4⟩, rfl⟩ ?_
 intro i hi
 rcases D2 (9 * i) t.length with h9 | h9
 rotate_left
 · have u1 : decide ((t.length : Int) - 9 * i > 0) = false := A9 (by omega)
   have e : (EH t).take i = EH t := E9 (Hy (by omega))
   rw [e]
   refine I0 V (H3 V (B1 (L9 u1 V (G1 (D8 (BU (ys := [_, _]) V V V V (yS (cs' := [_, _]) V V V V V (yQ (C4 ?_)))))))))
   exact C9 _ (.agg E6 V V V V .nil) V
 have u1 : decide ((t.length : Int) - 9 * i > 0) = true := B0 (by omega)
 have hn := JT h9
 have hw1 : IntKind.i64.wrap ((t.length : Int) - 9 * i - 9) = (t.length : Int) - 9 * i - 9 := I5 _ (by omega)
 have hm : (if (t.length : Int) - 9 * i - 9 > 0 then (t.length : Int) - 9 * i - 9 else 0) = ((t.length - 9 * i - 9 : Nat) : Int) := by split <;> omega
 obtain ⟨lo, hlo⟩ := H7 (t.length - 9 * i - 9)
 obtain ⟨tp, hto⟩ := H7 (t.length - 9 * i)
 have hti : (t.length : Int) - 9 * i = (tp : Int) := by omega
 have hbl : lo ≤ tp := by omega
 have hbt : tp ≤ t.length := by omega
 have hb9 : tp ≤ lo + 9 := by omega
 rw [← hlo] at hm
 rw [← hlo, ← hto] at hn
 have hnx : ((t.length : Int) - 9 * (i + 1 : Nat)) = (tp : Int) - 9 := by omega
 rw [hti] at hw1 hm u1 ⊢
 obtain ⟨zs, hzs⟩ := H7 ((EH t).take i)
 have hzl : zs.length ≤ 1000000 := by rw [hzs, E4]; omega
 rw [← hzs] at hn ⊢
 clear hlo hto hzs
 refine I0 V (H3 V (B1 (J8 u1 V (B2 (A8 (B6 (D8 (B5 V (I0 V (G3 V (yI V V V (B5 V (B6 ?_))))))))))))); rw [hw1]; rw [hm]
 refine H2 (fun j : Nat => ⟨45, [(2, .bx 2 0), (3, .d (dS t)), (5, .bx 5 0), (6, .d (dI tp)), (7, .d (dI (natOf ((t.take j).drop lo)))), (8, .d (dI j))], [(2, [.d (dB false), .d (.val (.slice none 0 0))]), (5, [.d (dB b), .ts (jT 5) 1 (zs.map dJ)])], [(jT 5, (zs.map dJ).length)]⟩) (fun j => lo ≤ j ∧ j ≤ tp) (fun j => tp - j) lo ⟨E3 _, hbl⟩
  ⟨rfl, ⟨E0, E0, E0, E0, .of_eq (C7 (fun n : Nat => SV.d (dI n)) (by rw [List.drop_of_length_le (by rw [E4]; omega)]; rfl)), E0, D4⟩, ⟨⟨_, rfl, E0, E0, D4⟩, ⟨_, rfl, E0, E0, D4⟩, D4⟩, ⟨rfl, D4⟩, rfl⟩ ?_
 rintro j ⟨hj1, hj2⟩
 rcases D2 j tp with hj | hj
 · have u2 : decide ((j : Int) < (tp : Int)) = true := B0 (by omega)
   obtain ⟨c, hc⟩ : ∃ c, t[j]? = some c := ⟨_, A5 (by omega)⟩
   have hci : t[((j : Int)).toNat]? = some c := by rw [H5]; exact hc
   obtain ⟨d1, d2⟩ := hdv j c hc
   have hnn := LA hc hj1
   have hn9 := natOf_9 hD lo j (by omega)
   obtain ⟨n, hnm⟩ := H7 (natOf ((t.take j).drop lo))
   rw [← hnm] at hnn hn9 ⊢
   have w1 : IntKind.i64.wrap (10 * (n : Int)) = 10 * (n : Int) := I5 _ (by omega)
   have w2 : IntKind.u8.wrap ((c.toNat : Int) - 48) = (dv c : Int) := by
    rw [IntKind.wrap_u8]
    unfold dv
    omega
   have hd9 : dv c ≤ 9 := by unfold dv; omega
   have w3 : IntKind.i64.wrap (dv c : Int) = (dv c : Int) := I5 _ (by omega)
   have w4 : IntKind.i64.wrap (10 * (n : Int) + (dv c : Int)) = ((10 * n + dv c : Nat) : Int) := by rw [I5 _ (by omega)]; omega
   have w5 := I5 ((j : Int) + 1) (by omega)
   refine I0 V (C3 V (H3 V (B1 (J8 u2 V (B2 (A8 (B6 (B4 (C3 V (G3 V (C3 V (C3 V (Ah hci (by omega) rfl rfl (G3 rfl (yJ rfl (G3 rfl (B5 rfl (B4 (C3 rfl (G3 rfl (B5 rfl (B1 ?_)))))))))))))))))))))); rw [w1]; rw [w2]; rw [w3]; rw [w4]
   exact ⟨j + 1, ⟨by omega, by omega⟩, by omega, rfl, ⟨E0, E0, E0, E0, .of_eq (by rw [hnn] <;> rfl), .of_eq (C7 (fun n => SV.d (dI n)) w5), D4⟩, ⟨⟨_, rfl, E0, E0, D4⟩, ⟨_, rfl, E0, E0, D4⟩, D4⟩, ⟨rfl, D4⟩, rfl⟩
 · have u2 : decide ((j : Int) < (tp : Int)) = false := A9 (by omega)
   obtain rfl : j = tp := by omega
   obtain ⟨x, hx⟩ := H7 (natOf ((t.take j).drop lo))
   rw [← hx] at hn ⊢
   refine I0 V (C3 V (H3 V (B1 (L9 u2 V (G1 (B4 (CO V (Mo V V V (C3 V ?_))))))))); refine yR (es := [[_]]) V V V V V ?_; refine yT (es' := (zs ++ [x]).map dJ) (m := ((zs ++ [x]).map dJ).length) (by simp; omega) (by simp; omega) rfl rfl rfl rfl rfl (by simp) (by simp) ?_; refine CO V (ySt (cs' := [_, _]) V V V V (yQ (B4 (C3 V (G3 V (B5 V (B1 ?_))))))); rw [hw1]
   exact ⟨i + 1, by omega, by omega, rfl, ⟨E0, E0, E0, .of_eq (C7 (fun n => SV.d (dI n)) hnx.symm), D4⟩, ⟨⟨_, rfl, E0, E0, D4⟩, ⟨_, rfl, E0, .of_eq (by rw [hn] <;> rfl), D4⟩, D4⟩, ⟨(by rw [hn] <;> rfl), D4⟩, rfl⟩
def EO (y : Nat) : Nat → G0
 | 0 => []
 | k + 1 => dig (y / 10 ^ k % 10) :: EO y k
theorem Ng (y k : Nat) : EO y (k + 1) = EO (y / 10) k ++ [dig (y % 10)] := by
 induction k with
 | zero => simp [EO]
 | succ k ih =>
  rw [EO, ih, EO, List.cons_append, Nat.div_div_eq_div_mul, Nat.pow_succ, Nat.mul_comm 10]
theorem Gt (k y : Nat) : EO y k = Ao k y := by
 induction k generalizing y with
 | zero => rfl
 | succ k ih => rw [Ng, ih, Ao]
theorem Py (y k : Nat) : (EO y k).length = k := by rw [Gt, AW]
theorem NL (l : List Nat) (y : Nat) : pads (l ++ [y]) = Ao 9 y ++ pads l := by
 induction l with
 | nil => simp [pads]
 | cons x l ih => rw [List.cons_append, pads, ih, pads, H1]
theorem Oq (b : Bool) {l : List Nat} (h : gok l) : val ((if b then [45] else []) ++ pads l) = sg b (K0 l) := by
 have hp := Pc l
 have hh : (pads l).head? ≠ some 45 := fun e => by
  cases h1 : pads l with
  | nil => rw [h1] at e; cases e
  | cons x t =>
   rw [h1] at e hp
   have hx : x = 45 := by simpa using e
   rw [hx] at hp
   simp [V1] at hp
 have hd : natOf ((pads l).dropWhile (· == 48)) = K0 l := by rw [KB, Ky h]
 cases b with
 | true =>
  have hb : Ax ((if true then [45] else []) ++ pads l) = pads l := by simp [Ax]
  unfold val L3
  rw [hb, hp]
  simp only [if_true]
  by_cases h0 : (pads l).dropWhile (· == 48) = []
  · rw [h0] at hd
    rw [h0]
    have : K0 l = 0 := by rw [← hd]; rfl
    simp [this, sg]
    rfl
  · have h1 : ((pads l).dropWhile (· == 48)).isEmpty = false := by cases h2 : (pads l).dropWhile (· == 48) with
     | nil => exact G7 h2 h0
     | cons x t => rfl
    rw [h1, hd]
    simp [sg]
 | false =>
  have hb : Ax ((if false then [45] else []) ++ pads l) = pads l := by simp [Ax, hh]
  have hn : decide ((([] : G0) ++ pads l).head? = some 45) = false := by simpa using hh
  unfold val L3
  rw [hb, hp]
  simp only [if_true, Bool.false_eq_true, if_false] at hn ⊢
  rw [hn, hd]
  simp [sg]
theorem wWriteJ (b : Bool) (l : List Nat) (hg : gok l) (hl : l.length ≤ 100000) : PCalls Tryz.prog 207 [.agg (dJm b l)] (.d (dS (I6 (sg b (K0 l))))) := by
 have hv := Oq b hg
 have hpl := AV l
 obtain ⟨r, hr⟩ := H7 (I6 (sg b (K0 l)))
 rw [← hr]
 refine B3 Tryz.func207 V Tryz.ntmps207 Tryz.results207 (by simp) fun B w0 => ?_
 refine D8 (yK (cs := [_, _]) V V (B5 V (D8 (B5 V (A8 (D8 (B5 V (B6 ?_)))))))); refine H2 (fun i : Nat => ⟨38, [(1, .bx 1 0), (3, .d (dS (pads (l.take i)))), (4, .d (dI i))], [(1, [.d (dB b), .d (.sl 1 (l.map dJ))])], []⟩) (fun i => i ≤ l.length) (fun i => l.length - i) 0 (D9 _)
  ⟨rfl, ⟨E0, E0, E0, D4⟩, ⟨⟨_, rfl, E0, E0, D4⟩, D4⟩, D4, rfl⟩ ?_
 intro i hi
 rcases D2 i l.length with h | h
 rotate_left
 · have u1 : decide ((i : Int) < ((l.map dJ).length : Int)) = false := A9 (by rw [A7]; omega)
   obtain rfl : i = l.length := by omega
   rw [I3]
   cases b with
   | true =>
    have hc := BX ([45] ++ pads l) (by simp; omega)
    rw [show ([45] ++ pads l : G0) = (if true then [45] else []) ++ pads l from rfl, hv, ← hr] at hc
    obtain ⟨p, hp⟩ := H7 (pads l)
    rw [← hp] at hc hpl ⊢
    have hc : PCalls Tryz.prog 204 [dS ([45] ++ p)] (.d (dS r)) := hc
    clear hp hv hr
    refine I0 V (J6 V (yN V (H3 V (B1 (L9 u1 V (G1 (A8 (D8 (J6 V (yQ (G5 V (B4 (C3 V ?_))))))))))))); refine GQ (l1 := [45]) (l2 := p) (by simp; omega) rfl rfl ?_; refine B5 V (H8 V (yC (hc) V V (B5 V (C4 ?_))))
    exact C9 _ (.tmp V .nil) V
   | false =>
    have hc := BX (pads l) (by omega)
    rw [show (pads l : G0) = (if false then [45] else []) ++ pads l from rfl, hv, ← hr] at hc
    obtain ⟨p, hp⟩ := H7 (pads l)
    rw [← hp] at hc ⊢
    have hc : PCalls Tryz.prog 204 [dS p] (.d (dS r)) := hc
    clear hp hv hr
    refine I0 V (J6 V (yN V (H3 V (B1 (L9 u1 V (G1 (A8 (D8 (J6 V (yQ (F6 V (B2 (H8 V (yC (hc) V V (B5 V (C4 ?_))))))))))))))))
    exact C9 _ (.tmp V .nil) V
 have u1 : decide ((i : Int) < ((l.map dJ).length : Int)) = true := B0 (by rw [A7]; omega)
 obtain ⟨y, hy⟩ := Bq h
 have ey := ix dJ l i i y rfl hy
 have hy9 : y < 1000000000 := hg y (B7 hy)
 have hnx : pads (l.take (i + 1)) = EO y 9 ++ pads (l.take i) := by rw [G8, hy, Option.toList, NL, Gt]
 have hp9 : (pads (l.take i)).length ≤ 900000 := by rw [AV, E4]; omega
 obtain ⟨p, hp⟩ := H7 (pads (l.take i))
 rw [← hp] at hnx hp9 ⊢
 have hwi := I5 ((i : Int) + 1) (by omega)
 clear hp hv hr hpl
 refine I0 V (J6 V (yN V (H3 V (B1 (J8 u1 V (B2 (A8 (B6 (D8 (J6 V (C3 V (yW ey (by omega) rfl rfl (K5 rfl rfl (B5 rfl (D8 (B5 rfl (B6 ?_))))))))))))))))); refine H2 (fun k : Nat => ⟨38, [(1, .bx 1 0), (3, .d (dS (EO y k ++ p))), (4, .d (dI i)), (5, .d (dI ((y / 10 ^ k : Nat) : Int))), (6, .d (dI k))], [(1, [.d (dB b), .d (.sl 1 (l.map dJ))])], []⟩) (fun k => k ≤ 9) (fun k => 9 - k) 0 (D9 _)
  ⟨rfl, ⟨E0, E0, E0, .of_eq (C7 (fun n : Nat => SV.d (dI n)) (by simp)), E0, D4⟩, ⟨⟨_, rfl, E0, E0, D4⟩, D4⟩, D4, rfl⟩ ?_
 intro k hk
 rcases D2 k 9 with hk9 | hk9
 · have u2 : decide ((k : Int) < 9) = true := B0 (by omega)
   have hdl := Py y k
   have hm9 : y / 10 ^ k < 1000000000 := Nat.lt_of_le_of_lt (Nat.div_le_self _ _) hy9
   have hlk : EO y (k + 1) = dig (y / 10 ^ k % 10) :: EO y k := rfl
   have hdk : y / 10 ^ (k + 1) = y / 10 ^ k / 10 := by rw [Nat.div_div_eq_div_mul, Nat.pow_succ]
   obtain ⟨m, hm⟩ := H7 (y / 10 ^ k)
   rw [← hm] at hm9 hlk hdk ⊢
   have hr10 : m % 10 < 10 := Nat.mod_lt _ (by omega)
   have htm : ((m : Int)).tmod 10 = ((m % 10 : Nat) : Int) := rfl
   obtain ⟨r', hr2⟩ : ∃ r, r = m % 10 := ⟨_, rfl⟩
   rw [← hr2] at hr10 hlk htm
   have henc := Ma hr10
   have hw48 : IntKind.i64.wrap (48 + (r' : Int)) = 48 + (r' : Int) := I5 _ (by omega)
   have hw32 : IntKind.i32.wrap (48 + (r' : Int)) = 48 + (r' : Int) := OS hr10
   have hwq : IntKind.i64.wrap ((m : Int).tdiv 10) = ((m / 10 : Nat) : Int) := I5 ((m / 10 : Nat) : Int) (by omega)
   have hwk := I5 ((k : Int) + 1) (by omega)
   refine I0 V (H3 V (B1 (J8 u2 V (B2 (A8 (B6 (H8 V (G3 V (G3 V (yJ V ?_)))))))))); rw [htm]; rw [hw48]; rw [hw32]; refine yJs henc V (C3 V ?_); refine GQ (l1 := [dig r']) (l2 := EO y k ++ p) (by simp; omega) rfl rfl ?_; refine B5 V (B4 (C3 V (G3 V (B5 V (B4 (C3 V (G3 V (B5 V (B1 ?_))))))))); rw [hwq]
   exact ⟨k + 1, by omega, by omega, rfl, ⟨E0, .of_eq (by rw [hlk] <;> rfl), E0, .of_eq (by rw [hdk] <;> rfl), .of_eq (C7 (fun n => SV.d (dI n)) hwk), D4⟩, ⟨⟨_, rfl, E0, E0, D4⟩, D4⟩, D4, rfl⟩
 · have u2 : decide ((k : Int) < 9) = false := A9 (by omega)
   obtain rfl : k = 9 := by omega
   refine I0 V (H3 V (F6 V (G1 (B4 (C3 V (G3 V (B5 V (B1 ?_)))))))); rw [u2]
   exact ⟨i + 1, by omega, by omega, rfl, ⟨E0, .of_eq (by rw [hnx] <;> rfl), .of_eq (C7 (fun n => SV.d (dI n)) hwi), D4⟩, ⟨⟨_, rfl, E0, E0, D4⟩, D4⟩, D4, rfl⟩
def Gb (b1 : Bool) (x : Nat) (b2 : Bool) (y : Nat) : Bool × Nat := if b1 = b2 then (b1, x + y) else if y ≤ x then (b1, x - y) else (b2, y - x)
theorem addJ_sg (b1 : Bool) (x : Nat) (b2 : Bool) (y : Nat) : sg (Gb b1 x b2 y).1 (Gb b1 x b2 y).2 = sg b1 x + sg b2 y := by
 unfold Gb
 by_cases h : b1 = b2
 · rw [C5 h]
   subst h
   cases b1 <;> simp [sg] <;> omega
 · rw [B9 h]
   by_cases h2 : y ≤ x
   · rw [C5 h2]
     cases b1 <;> cases b2 <;> simp [sg] at h ⊢ <;> omega
   · rw [B9 h2]
     cases b1 <;> cases b2 <;> simp [sg] at h ⊢ <;> omega
theorem wNAddJ (b1 b2 : Bool) (x y : Nat) (h1 : (M4 x).length ≤ 100000) (h2 : (M4 y).length ≤ 100000) : PCalls Tryz.prog 208 [.agg (dJm b1 (M4 x)), .agg (dJm b2 (M4 y))] (.d (.agg (dJm (Gb b1 x b2 y).1 (M4 (Gb b1 x b2 y).2)))) := by
 have c1 := wPlusJ (M4 x) (M4 y) (M7 x) (M7 y) h1 h2
 have c2 := wOrder (M4 x) (M4 y) (by omega)
 rw [M0, M0] at c1
 have hge := ordR_ge x y
 have c3 : y ≤ x → PCalls Tryz.prog 242 [.sl 1 ((M4 x).map dJ), .sl 1 ((M4 y).map dJ)] (.d (.sl 1 ((M4 (x - y)).map dJ))) := fun h => by
  have := Lq (M4 x) (M4 y) (M7 x) (M7 y) (X1 h) (by rw [M0, M0]; exact h) h1
  rwa [M0, M0] at this
 have c4 : ¬ y ≤ x → PCalls Tryz.prog 242 [.sl 1 ((M4 y).map dJ), .sl 1 ((M4 x).map dJ)] (.d (.sl 1 ((M4 (y - x)).map dJ))) := fun h => by
  have := Lq (M4 y) (M4 x) (M7 y) (M7 x) (X1 (by omega)) (by rw [M0, M0]; omega) h2
  rwa [M0, M0] at this
 obtain ⟨k, hk⟩ := H7 (Pf (M4 x) (M4 y))
 rw [← hk] at c2 hge
 unfold Gb
 obtain ⟨l1, hl1⟩ := H7 ((M4 x).map dJ)
 obtain ⟨l2, hl2⟩ := H7 ((M4 y).map dJ)
 show PCalls Tryz.prog 208 [.agg [dB b1, .sl 1 ((M4 x).map dJ)], .agg [dB b2, .sl 1 ((M4 y).map dJ)]] _
 rw [← hl1, ← hl2] at c1 c2 c3 ⊢
 rw [← hl1, ← hl2] at c4
 clear hl1 hl2 hk
 by_cases hb : b1 = b2
 · rw [C5 hb]
   subst hb
   have hbb : (b1 == b1) = true := by simp
   obtain ⟨r, hr⟩ := H7 ((M4 (x + y)).map dJ)
   rw [← hr] at c1
   show PCalls Tryz.prog 208 _ (.d (.agg [dB b1, .sl 1 ((M4 (x + y)).map dJ)]))
   rw [← hr]
   refine B3 Tryz.func208 V Tryz.ntmps208 Tryz.results208 (by simp) fun B w0 => ?_
   refine D8 (yK (cs := [_, _]) V V (yK (cs := [_, _]) V V (yZ (cs := [_, _]) V V (yQ (A8 (D8 (J6 V (J6 V (yBb (c := true) Tryz.underlying4 hbb V V (yQ (G5 V (A8 ?_)))))))))))); refine U9 (id := 2) Tryz.mixed (by kernel_rfl) ?_; refine J6 V (J6 V (J6 V (yC (c1) V V (yG (ys := [_, _]) V V (yS (cs' := [_, _]) V V V V V (yQ ?_)))))); refine Px.Sep.mk (by kernel_rfl) ?_; refine C4 (A4 ?_)
   exact C9 _ (.agg E6 V V V V .nil) V
 rw [B9 hb]
 have hbb : (b1 == b2) = false := by simpa using hb
 by_cases hle : y ≤ x
 · rw [C5 hle]
   have c3 := c3 hle
   have u : decide (k ≥ 0) = true := B0 (hge.2 hle)
   obtain ⟨r, hr⟩ := H7 ((M4 (x - y)).map dJ)
   rw [← hr] at c3
   show PCalls Tryz.prog 208 _ (.d (.agg [dB b1, .sl 1 ((M4 (x - y)).map dJ)]))
   rw [← hr]
   refine B3 Tryz.func208 V Tryz.ntmps208 Tryz.results208 (by simp) fun B w0 => ?_
   refine D8 (yK (cs := [_, _]) V V (yK (cs := [_, _]) V V (yZ (cs := [_, _]) V V (yQ (A8 (D8 (J6 V (J6 V (yBb (c := false) Tryz.underlying4 hbb V V (yQ (F6 V (B2 (A8 (D8 (J6 V (J6 V (yC (c2) V V (H3 V (B1 ?_))))))))))))))))))); rw [u]
   refine G5 V (A8 ?_); refine U9 (id := 4) Tryz.mixed (by kernel_rfl) ?_; refine J6 V (J6 V (J6 V (yC (c3) V V (yG (ys := [_, _]) V V (yS (cs' := [_, _]) V V V V V (yQ ?_)))))); refine Px.Sep.mk (by kernel_rfl) ?_; refine C4 (A4 ?_)
   exact C9 _ (.agg E6 V V V V .nil) V
 · rw [B9 hle]
   have c4 := c4 hle
   have u : decide (k ≥ 0) = false := A9 fun h => hle (hge.1 h)
   obtain ⟨r, hr⟩ := H7 ((M4 (y - x)).map dJ)
   rw [← hr] at c4
   show PCalls Tryz.prog 208 _ (.d (.agg [dB b2, .sl 1 ((M4 (y - x)).map dJ)]))
   rw [← hr]
   refine B3 Tryz.func208 V Tryz.ntmps208 Tryz.results208 (by simp) fun B w0 => ?_
   refine D8 (yK (cs := [_, _]) V V (yK (cs := [_, _]) V V (yZ (cs := [_, _]) V V (yQ (A8 (D8 (J6 V (J6 V (yBb (c := false) Tryz.underlying4 hbb V V (yQ (F6 V (B2 (A8 (D8 (J6 V (J6 V (yC (c2) V V (H3 V (B1 ?_))))))))))))))))))); rw [u]
   refine F6 V (B2 (A8 ?_)); refine U9 (id := 5) Tryz.mixed (by kernel_rfl) ?_; refine J6 V (J6 V (J6 V (yC (c4) V V (yG (ys := [_, _]) V V (yS (cs' := [_, _]) V V V V V (yQ ?_)))))); refine Px.Sep.mk (by kernel_rfl) ?_; refine C4 ?_
   exact C9 _ (.agg E6 V V V V .nil) V
theorem val17 {a : G0} (h : (L3 a).1.length ≤ 17) : (val a).natAbs < 100000000000000000 := by
 have h1 := AL (V2 a)
 rw [EL] at h1
 have h2 : (10 : Nat) ^ (L3 a).1.length ≤ 10 ^ 17 := Nat.pow_le_pow_right (by decide) h
 have e17 : (10 : Nat) ^ 17 = 100000000000000000 := by decide
 omega
theorem Im (a : G0) (ha : a.length ≤ 1000000) : PCalls Tryz.prog 205 [dS a] (.tup [dI (if (L3 a).1.length ≤ 17 then val a else 0), dB (decide ((L3 a).1.length ≤ 17))]) := by
 by_cases h : (L3 a).1.length ≤ 17
 · rw [C5 h, B0 h]; exact wRShort a ha h
 · rw [B9 h, A9 h]; exact OZ a ha (by omega)
theorem KZ (a b : G0) (ha : a.length ≤ 90000) (hb : b.length ≤ 90000) : PCalls Tryz.prog 162 [dS a, dS b] (.d (dS (I6 (val a + val b)))) := by
 have c1 := Im a (by omega)
 have c2 := Im b (by omega)
 by_cases h : (L3 a).1.length ≤ 17 ∧ (L3 b).1.length ≤ 17
 · have va := val17 h.1
   have vb := val17 h.2
   rw [C5 h.1, B0 h.1] at c1
   rw [C5 h.2, B0 h.2] at c2
   have hw : IntKind.i64.wrap (val a + val b) = val a + val b := I5 _ (by omega)
   have c3 := wROf (val a + val b) (by omega) (by omega)
   obtain ⟨r, hr⟩ := H7 (I6 (val a + val b))
   rw [← hr] at c3 ⊢
   obtain ⟨u, hu⟩ := H7 (val a)
   obtain ⟨v, hv⟩ := H7 (val b)
   rw [← hu] at c1
   rw [← hv] at c2
   rw [← hu, ← hv] at c3 hw
   refine B3 Tryz.func162 V Tryz.ntmps162 Tryz.results162 (by simp) fun B w0 => ?_
   refine D8 (B5 V (H8 V (yC (c1) V V (O5 V (yX V V (yX V V (H4 V (B5 V (H8 V (yC (c2) V V (O5 V (yX V V (yX V V (H4 V (B5 V (I0 V (C3 V (C3 V (K8 V V (yQ (G5 V (H8 V (C3 V (G3 V ?_)))))))))))))))))))))))); rw [hw]; refine yC (c3) V V (B5 V (C4 (A4 ?_)))
   exact C9 _ (.tmp V .nil) V
 have hf : ((decide ((L3 a).1.length ≤ 17)) && (decide ((L3 b).1.length ≤ 17))) = false := by
  rw [Bool.and_eq_false_iff, decide_eq_false_iff_not, decide_eq_false_iff_not]
  rcases Decidable.em ((L3 a).1.length ≤ 17) with h1 | h1
  · exact .inr fun h2 => h ⟨h1, h2⟩
  · exact .inl h1
 have h1 := E8 (AF (L3 a).1) (Z0 a)
 have h2 := E8 (AF (L3 b).1) (Z0 b)
 have c3 := OY a (by omega)
 have c4 := OY b (by omega)
 rw [Hz] at c3 c4 h1 h2
 have c5 := wNAddJ (L3 a).2 (L3 b).2 (natOf (L3 a).1) (natOf (L3 b).1) (by omega) (by omega)
 have s2 := addJ_sg (L3 a).2 (natOf (L3 a).1) (L3 b).2 (natOf (L3 b).1)
 rw [← Fe, ← Fe] at s2
 have hlz : (M4 (Gb (L3 a).2 (natOf (L3 a).1) (L3 b).2 (natOf (L3 b).1)).2).length ≤ 100000 := by
  have hle : (Gb (L3 a).2 (natOf (L3 a).1) (L3 b).2 (natOf (L3 b).1)).2 ≤ natOf (L3 a).1 + natOf (L3 b).1 := by
   unfold Gb
   split
   · exact E3 _
   · split <;> show _ - _ ≤ _ <;> omega
  refine E8 (X1 hle) ?_
  have q1 := AL (V2 a)
  have q2 := AL (V2 b)
  have q3 := Z0 a
  have q4 := Z0 b
  obtain ⟨K, hK⟩ := H7 (90000)
  rw [← hK] at ha hb
  have q5 : natOf (L3 a).1 + natOf (L3 b).1 < 1000000000 ^ (K + 1) := by
   have e1 : (10 : Nat) ^ (L3 a).1.length ≤ 1000000000 ^ K := E8 (Nat.pow_le_pow_right (by decide) (E8 q3 ha)) (Nat.pow_le_pow_left (by decide) _)
   have e2 : (10 : Nat) ^ (L3 b).1.length ≤ 1000000000 ^ K := E8 (Nat.pow_le_pow_right (by decide) (E8 q4 hb)) (Nat.pow_le_pow_left (by decide) _)
   have e3 : (1000000000 : Nat) ^ (K + 1) = 1000000000 ^ K * 1000000000 := Nat.pow_succ ..
   obtain ⟨p, hp⟩ := H7 ((1000000000 : Nat) ^ K)
   rw [← hp] at e1 e2 e3
   rw [e3]
   omega
  refine Decidable.byContradiction fun hgt => ?_
  have hx0 : natOf (L3 a).1 + natOf (L3 b).1 ≠ 0 := fun e => by rw [e, S6] at hgt; simp at hgt
  have q6 := QT hx0
  have q7 : (1000000000 : Nat) ^ (K + 1) ≤ 1000000000 ^ ((M4 (natOf (L3 a).1 + natOf (L3 b).1)).length - 1) := Nat.pow_le_pow_right (by decide) (by omega)
  omega
 obtain ⟨z, hz⟩ := H7 (Gb (L3 a).2 (natOf (L3 a).1) (L3 b).2 (natOf (L3 b).1))
 rw [← hz] at c5 s2 hlz
 have c6 := wWriteJ z.1 (M4 z.2) (M7 z.2) hlz
 rw [M0, s2] at c6
 obtain ⟨r, hr⟩ := H7 (I6 (val a + val b))
 rw [← hr] at c6 ⊢
 obtain ⟨n1, hn1⟩ := H7 (dJm (L3 a).2 (M4 (natOf (L3 a).1)))
 obtain ⟨n2, hn2⟩ := H7 (dJm (L3 b).2 (M4 (natOf (L3 b).1)))
 obtain ⟨n3, hn3⟩ := H7 (dJm z.1 (M4 z.2))
 rw [← hn1] at c3 c5
 rw [← hn2] at c4 c5
 rw [← hn3] at c5 c6
 obtain ⟨p1, hp1⟩ := H7 (decide ((L3 a).1.length ≤ 17))
 obtain ⟨p2, hp2⟩ := H7 (decide ((L3 b).1.length ≤ 17))
 obtain ⟨u, hu⟩ := H7 (if (L3 a).1.length ≤ 17 then val a else 0)
 obtain ⟨v, hv⟩ := H7 (if (L3 b).1.length ≤ 17 then val b else 0)
 rw [← hp1, ← hu] at c1
 rw [← hp2, ← hv] at c2
 rw [← hp1, ← hp2] at hf
 clear hn1 hn2 hn3 hz s2 hp1 hp2 hu hv hlz h1 h2 h
 cases p1 with
 | false =>
  refine B3 Tryz.func162 V Tryz.ntmps162 Tryz.results162 (by simp) fun B w0 => ?_
  refine D8 (B5 V (H8 V (yC (c1) V V (O5 V (yX V V (yX V V (H4 V (B5 V (H8 V (yC (c2) V V (O5 V (yX V V (yX V V (H4 V (B5 V (I0 V (C3 V (yO V (K7 V V (yQ (F6 V (B2 (H8 V (yC (c3) V V (C3 V (yC (c4) V V (yC (c5) V V (yC (c6) V V (B5 V (C4 ?_))))))))))))))))))))))))))))))
  exact C9 _ (.tmp V .nil) V
 | true =>
  have hp : p2 = false := by simpa using hf
  subst hp
  refine B3 Tryz.func162 V Tryz.ntmps162 Tryz.results162 (by simp) fun B w0 => ?_
  refine D8 (B5 V (H8 V (yC (c1) V V (O5 V (yX V V (yX V V (H4 V (B5 V (H8 V (yC (c2) V V (O5 V (yX V V (yX V V (H4 V (B5 V (I0 V (C3 V (C3 V (K8 V V (yQ (F6 V (B2 (H8 V (yC (c3) V V (C3 V (yC (c4) V V (yC (c5) V V (yC (c6) V V (B5 V (C4 ?_))))))))))))))))))))))))))))))
  exact C9 _ (.tmp V .nil) V
open Go.RowKit Px Go.Sort Go.Lib
def AH (O : List Cf) (nm : G0) : Nat := (O.takeWhile fun d => ltS d.1 nm).length
def Ae (c : Cf) (O : List Cf) : List Cf := match O[AH O c.1]? with
 | some d => if d.1 = c.1 then O.set (AH O c.1) (d.1, BO d.2 c.2) else O.take (AH O c.1) ++ c :: O.drop (AH O c.1)
 | none => O.take (AH O c.1) ++ c :: O.drop (AH O c.1)
theorem posC_le (O : List Cf) (nm : G0) : AH O nm ≤ O.length := (List.takeWhile_prefix _).length_le
theorem posC_lt {O : List Cf} {nm : G0} {j : Nat} {d : Cf} (h : O[j]? = some d) (hj : j < AH O nm) : ltS d.1 nm = true := by
 induction O generalizing j with
 | nil => simp at h
 | cons x O ih =>
  unfold AH at hj
  rw [List.takeWhile_cons] at hj
  split at hj
  · rename_i hx
    cases j with
    | zero => cases h; exact hx
    | succ j => exact ih (j := j) (by simpa using h) (by simpa [AH] using hj)
  · simp at hj
theorem posC_at {O : List Cf} {nm : G0} {d : Cf} (h : O[AH O nm]? = some d) : ltS d.1 nm = false := by
 induction O with
 | nil => simp at h
 | cons x O ih =>
  unfold AH at h ih
  rw [List.takeWhile_cons] at h
  split at h
  · rw [List.length_cons, List.getElem?_cons_succ] at h
    exact ih h
  · rename_i hx
    simp at h
    rw [← h]
    simpa using hx
theorem MI {O : List Cf} {nm : G0} {k : Nat} (h1 : ∀ j d, j < k → O[j]? = some d → ltS d.1 nm = true) (h2 : ∀ d, O[k]? = some d → ltS d.1 nm = false) (h3 : k ≤ O.length) : AH O nm = k := by
 have hl := posC_le O nm
 rcases Nat.lt_trichotomy (AH O nm) k with h | h | h
 · obtain ⟨d, hd⟩ : ∃ d, O[AH O nm]? = some d := ⟨_, A5 (by omega)⟩
   have := h1 _ d h hd
   rw [posC_at hd] at this
   cases this
 · exact h
 · obtain ⟨d, hd⟩ : ∃ d, O[k]? = some d := ⟨_, A5 (by omega)⟩
   have := h2 d hd
   rw [posC_lt hd h] at this
   cases this
theorem Ar (c : Cf) : Ae c [] = [c] := rfl
theorem Z5 (c d : Cf) (O : List Cf) : Ae c (d :: O) = if ltS d.1 c.1 then d :: Ae c O else if d.1 = c.1 then (d.1, BO d.2 c.2) :: O else c :: d :: O := by
 by_cases h : ltS d.1 c.1 = true
 · have hp : AH (d :: O) c.1 = AH O c.1 + 1 := by simp [AH, List.takeWhile_cons, h]
   rw [C5 h]
   unfold Ae
   rw [hp, List.getElem?_cons_succ]
   cases O[AH O c.1]? with
   | none => simp
   | some x =>
    simp only
    split
    · simp
    · simp
 · have hp : AH (d :: O) c.1 = 0 := by simp [AH, List.takeWhile_cons, h]
   rw [B9 h]
   unfold Ae
   rw [hp]
   simp
theorem insC_ev (A : G0 → Int) (c : Cf) (O : List Cf) : Bm A (Ae c O) = Bm A O + val c.2 * A c.1 := by
 induction O with
 | nil => rw [Ar]; simp [Bm]
 | cons d O ih =>
  rw [Z5]
  split
  · simp only [Bm, ih]; omega
  · split
    · rename_i h
      simp only [Bm, N3, Int.add_mul]
      rw [h]
      omega
    · simp only [Bm]; omega
theorem LJ {c : Cf} {O : List Cf} {p : Cf} (h : p ∈ Ae c O) : p.1 = c.1 ∨ ∃ q ∈ O, q.1 = p.1 := by
 induction O with
 | nil => rw [Ar] at h; simp at h; exact .inl (by rw [h])
 | cons d O ih =>
  rw [Z5] at h
  split at h
  · rcases List.mem_cons.1 h with rfl | h
    · exact .inr ⟨p, by simp, rfl⟩
    · rcases ih h with h | ⟨q, hq, e⟩
      · exact .inl h
      · exact .inr ⟨q, by simp [hq], e⟩
  · split at h
    · rcases List.mem_cons.1 h with rfl | h
      · exact .inr ⟨d, by simp, rfl⟩
      · exact .inr ⟨p, by simp [h], rfl⟩
    · rcases List.mem_cons.1 h with rfl | h
      · exact .inl V
      · exact .inr ⟨p, h, V⟩
theorem QP {c : Cf} {O : List Cf} (h : KK O) : KK (Ae c O) := by
 induction O with
 | nil => rw [Ar]; simp [KK]
 | cons d O ih =>
  obtain ⟨h1, h2⟩ := List.pairwise_cons.1 h
  rw [Z5]
  split
  · rename_i hlt
    refine List.pairwise_cons.2 ⟨fun p hp => ?_, ih h2⟩
    rcases LJ hp with e | ⟨q, hq, e⟩
    · rw [e]; exact hlt
    · rw [← e]; exact h1 q hq
  · rename_i hlt
    split
    · exact List.pairwise_cons.2 ⟨h1, h2⟩
    · rename_i hne
      have hcd : ltS c.1 d.1 = true := by
       rcases T8 d.1 c.1 with h3 | h3 | h3
       · exact G7 h3 hlt
       · exact G7 h3 hne
       · exact h3
      refine List.pairwise_cons.2 ⟨fun p hp => ?_, h⟩
      rcases List.mem_cons.1 hp with rfl | hp
      · exact hcd
      · exact Aq hcd (h1 p hp)
theorem QO {c : Cf} {O : List Cf} (hc : GO c.2 = true) (hO : ∀ p ∈ O, GO p.2 = true) : ∀ p ∈ Ae c O, GO p.2 = true := by
 induction O with
 | nil => intro p hp; rw [Ar] at hp; simp at hp; rw [hp]; exact hc
 | cons d O ih =>
  intro p hp
  rw [Z5] at hp
  split at hp
  · rcases List.mem_cons.1 hp with rfl | hp
    · exact hO p (by simp)
    · exact ih (fun q hq => hO q (by simp [hq])) p hp
  · split at hp
    · rcases List.mem_cons.1 hp with rfl | hp
      · exact Nr _
      · exact hO p (by simp [hp])
    · rcases List.mem_cons.1 hp with rfl | hp
      · exact hc
      · exact hO p hp
theorem Fw (c : Cf) (O : List Cf) : (Ae c O).length ≤ O.length + 1 ∧ 0 < (Ae c O).length := by
 induction O with
 | nil => rw [Ar]; simp
 | cons d O ih =>
  rw [Z5]
  split
  · simp; omega
  · split <;> simp
theorem Ns {c : Cf} {O : List Cf} {B C : Nat} (hc : c.2.length ≤ C) (hO : ∀ p ∈ O, p.2.length ≤ B) (hCB : C ≤ B) : ∀ p ∈ Ae c O, p.2.length ≤ B + 2 := by
 induction O with
 | nil => intro p hp; rw [Ar] at hp; simp at hp; rw [hp]; omega
 | cons d O ih =>
  intro p hp
  rw [Z5] at hp
  split at hp
  · rcases List.mem_cons.1 hp with rfl | hp
    · have := hO p (by simp); omega
    · exact ih (fun q hq => hO q (by simp [hq])) p hp
  · split at hp
    · rcases List.mem_cons.1 hp with rfl | hp
      · exact Da (hO d (by simp)) (by omega)
      · have := hO p (by simp [hp]); omega
    · rcases List.mem_cons.1 hp with rfl | hp
      · omega
      · have := hO p hp; omega
def CQ (e : List Cf) : Nat → List Cf
 | 0 => []
 | i + 1 => match e[i]? with
  | none => CQ e i
  | some c => Ae c (CQ e i)
theorem rnI_ev (A : G0 → Int) (e : List Cf) (i : Nat) : Bm A (CQ e i) = Bm A (e.take i) := by
 induction i with
 | zero => rfl
 | succ i ih =>
  rw [CQ]
  cases h : e[i]? with
  | none =>
   rw [List.getElem?_eq_none_iff] at h
   simp only [ih, E9 h, E9 (Nat.le_succ_of_le h)]
  | some c =>
   simp only
   rw [insC_ev, ih, G8, h, Option.toList, AO]
   simp only [Bm]
   omega
theorem rnI_asc (e : List Cf) (i : Nat) : KK (CQ e i) := by
 induction i with
 | zero => exact List.Pairwise.nil
 | succ i ih =>
  rw [CQ]
  cases e[i]? with
  | none => exact ih
  | some c => exact QP ih
theorem rnI_isC {e : List Cf} (he : ∀ c ∈ e, GO c.2 = true) (i : Nat) : ∀ p ∈ CQ e i, GO p.2 = true := by
 induction i with
 | zero => intro p hp; cases hp
 | succ i ih =>
  rw [CQ]
  cases h : e[i]? with
  | none => exact ih
  | some c => exact QO (he c (B7 h)) ih
theorem MB (e : List Cf) (i : Nat) : (CQ e i).length ≤ i := by
 induction i with
 | zero => exact E3 _
 | succ i ih =>
  rw [CQ]
  cases e[i]? with
  | none => exact Nat.le_succ_of_le ih
  | some c => have := (Fw c (CQ e i)).1; simp only; omega
theorem PJ {e : List Cf} {B : Nat} (h : ∀ c ∈ e, c.2.length ≤ B) (i : Nat) : ∀ p ∈ CQ e i, p.2.length ≤ B + 2 * i := by
 induction i with
 | zero => intro p hp; cases hp
 | succ i ih =>
  rw [CQ]
  cases hc : e[i]? with
  | none => intro p hp; have := ih p hp; omega
  | some c =>
   intro p hp
   have := Ns (B := B + 2 * i) (C := B) (h c (B7 hc)) ih (by omega) p hp
   omega
theorem rnI_nf {e : List Cf} (he : ∀ c ∈ e, GO c.2 = true) : (CQ e e.length).filter (fun c => !(c.2 == [])) = nf e := by
 have hasc := rnI_asc e e.length
 have hic := rnI_isC he e.length
 have hev : ∀ k, cf k (CQ e e.length) = cf k e := fun k => by rw [cf, rnI_ev, I3]
 obtain ⟨O, hO⟩ := H7 (CQ e e.length)
 rw [← hO] at hasc hic hev ⊢
 have hnd : (O.map (·.1)).Nodup := List.pairwise_map.2 (hasc.imp fun {a b} h e => by rw [e, R9] at h; cases h)
 have hval : ∀ p ∈ O, p.2 = I6 (cf p.1 e) := fun p hp => by
  rw [← hev, Qk hnd, IY hnd hp]
  exact (isC_eq (hic p hp)).symm
 refine asc_ext (hasc.filter _) (nf_asc e) fun p => ?_
 rw [List.mem_filter, nf_mem]
 constructor
 · rintro ⟨h1, h2⟩
   have h3 := hval p h1
   refine ⟨fun h => ?_, h3⟩
   rw [h, O2] at h3
   rw [h3] at h2
   simp at h2
 · rintro ⟨h1, h2⟩
   have h3 : p.1 ∈ O.map (·.1) := Decidable.byContradiction fun h => h1 (by rw [← hev]; exact DT h)
   obtain ⟨q, hq, e1⟩ := H0.1 h3
   have h4 := hval q hq
   rw [e1] at h4
   have h5 : q = p := Prod.ext e1 (h4.trans h2.symm)
   rw [h5] at hq
   refine ⟨hq, ?_⟩
   have h6 : p.2 ≠ [] := fun h => h1 (CG.1 (h2 ▸ h))
   simpa using h6
end Go.Proofs.YtddfimjiihggmaaGreatDoor
namespace Go.Proofs.YtddfimjiihggmaaGreatDoor.Px
open Go.RowKit
variable {kd : IntKind} {w : World} {B : Nat} {w0 : Cx} {st : PS} {a : Act} {g : Gh}
def Ib : SV → Bool
 | .d (.sl _ []) => true
 | .ts _ _ [] => true
 | .d (.val (.slice none 0 0)) => true
 | _ => false
theorem LS (hr : Rep B w0 g st a w) {y : Operand} (h : Ib (st.ev y) = true) : ∃ A c, a.eval y = .slice A 0 c := by
 have h1 := hr.eval y
 generalize st.ev y = s at h h1
 unfold Ib at h
 split at h
 · obtain ⟨A, c, news, hv, -⟩ := DRep.row h1
   exact ⟨A, c, hv⟩
 · obtain ⟨A, c, news, hv, -⟩ := DRep.row h1.1
   exact ⟨A, c, hv⟩
 · exact ⟨none, 0, DRep.val_eq h1⟩
 · cases h
section
variable {P : Program} {Q : Exit → PS → Prop} {c : Code}
theorem MF (i q : Nat) {cs cs2 : List SV} (hi : st.bget i = some cs) (hq : cs.take q = cs2) (h : PW P B w0 c Q (st.bput i cs2)) (hlt : Nat.blt i 500000 = true := by rfl) : PW P B w0 c Q st := fun g a w hr => by
 subst hq
 have hlt5 : i < 500000 := C0 hlt
 refine h g a w { hr with lim := hr.lim, size := hr.size, slots := hr.slots, tdom := hr.tdom, tlen := hr.tlen, glob := hr.glob, boxes := fun j cs' hj hj5 => ?_, maps := fun j ms hj hge => ?_, dom := fun j b hj => ?_ }
 · rw [K1] at hj
   by_cases e : j = i
   · subst e
     rw [C5 rfl] at hj
     cases hj
     obtain ⟨b, xs, T, q1, q2, q3, q4, q5⟩ := hr.boxes j cs hi hj5
     refine ⟨b, xs, T, q1, q2, by rw [E4]; omega, fun k c0 hk => ?_, fun k u hk hu => q5 k u (by rw [E4] at hk; omega) hu⟩
     have hk' : k < q := by have := (A6.1 hk).1; rw [E4] at this; omega
     rw [E7 hk'] at hk
     exact q4 k c0 hk
   · rw [B9 e] at hj
     exact hr.boxes j cs' hj hj5
 · rw [K1, B9 (by omega)] at hj
   exact hr.maps j ms hj hge
 · rw [K1]
   by_cases e : j = i
   · rw [C5 e]; simp
   · rw [B9 e]; exact hr.dom j b hj
end
section
variable {P : Program} {sq : Bool} {ops : Array Oper} {K : PS → Prop} {rest : List Oper} {d : Option Nat} {ty : TypeId} {pos : String} {af : Array Edge} {gd : Option (Nat × Bool)}
theorem Jh (T : TypeId) (x y : Operand) {E k bytes i n : Nat} [hA : AppOf P T E k bytes] (hx : st.ev x = .bs i n E k) (hy : Ib (st.ev y) = true) (hd : I2 ⟨d, .call { callee := .builtin .append, args := #[x, y], argTypes := #[T, T] }, ty, pos, af, gd⟩ st = true) :
 L4 P ⟨d, .call { callee := .builtin .append, args := #[x, y], argTypes := #[T, T] }, ty, pos, af, gd⟩ st (.bs i n E k) .no := fun st2 ha =>
 OpS.value (ha.dst hd) fun _ _ g a w h => by
  have h1 := h.eval x
  rw [ha.ev x (by simp [Op.operands, Call.operands]), hx] at h1
  obtain ⟨A2, c2, hv2⟩ := LS h (y := y) (by rw [ha.ev y (by simp [Op.operands, Call.operands])]; exact hy)
  obtain ⟨b, c, q1, q2, q3, q4, q5⟩ := h1
  refine ⟨.slice (some ⟨b, 0, none⟩) n c, w, ?_, Below.refl _ _, b, c, q1, V, q3, q4, q5⟩
  obtain ⟨ti, z, p1, p2, p3, p4, p5⟩ := hA.inf
  simp only [execOp, resolve, invoke, builtin, Sem.run_bind, Sem.run_pure, D6, List.map_toArray, List.map_cons, List.map_nil, q2, hv2]
  cases A2 <;> simp [Builtin.append_, run_underlying hA.und, sizeOf, typeInfo, p1, Builtin.lenOf, Builtin.firstCells, loadCells, loadCellsFrom, q3, storeCells, Result.andThen]
theorem yTe {T E k bytes i n : Nat} {x y : Operand} [AppOf P T E k bytes] (hx : st.ev x = .bs i n E k) (hy : Ib (st.ev y) = true) (h : YR P sq ops K rest (st.put d (.bs i n E k))) (zz : zk ops st ⟨d, .call { callee := .builtin .append, args := #[x, y], argTypes := #[T, T] }, ty, pos, af, gd⟩ .no = true := by kernel_rfl) :
 YR P sq ops K (⟨d, .call { callee := .builtin .append, args := #[x, y], argTypes := #[T, T] }, ty, pos, af, gd⟩ :: rest) st := L0 (Jh T x y hx hy (zd zz)) (zo zz) (zw zz) h
theorem NY (T : TypeId) (x y : Operand) {E k : Nat} [hS : SliceOf P T E k] (hx : st.ev x = .d (.val (.slice none 0 0))) (hy : st.ev y = .d (.val (.int kd 0))) (hd : I2 ⟨d, .slice T x (some y) none none, ty, pos, af, gd⟩ st = true) :
 L4 P ⟨d, .slice T x (some y) none none, ty, pos, af, gd⟩ st (.d (.val (.slice none 0 0))) .no := fun st2 ha =>
 OpS.value (ha.dst hd) fun _ _ g a w h => by
  have h1 := h.eval x
  rw [ha.ev x (by simp [Op.operands]), hx] at h1
  have h2 := h.eval y
  rw [ha.ev y (by simp [Op.operands]), hy] at h2
  refine ⟨.slice none 0 0, w, ?_, Below.refl _ _, DRep.val _ V⟩
  simp [execOp, Instr.sliceAt, Instr.slice, Instr.sliceBounds, Instr.sliceBound, DRep.val_eq h1, DRep.val_eq h2, asIntOf, hS.und, hS.size, Result.andThen]
theorem ySn {T E k : Nat} {x y : Operand} [SliceOf P T E k] (hx : st.ev x = .d (.val (.slice none 0 0))) (hy : st.ev y = .d (.val (.int kd 0))) (h : YR P sq ops K rest (st.put d (.d (.val (.slice none 0 0))))) (zz : zk ops st ⟨d, .slice T x (some y) none none, ty, pos, af, gd⟩ .no = true := by kernel_rfl) :
 YR P sq ops K (⟨d, .slice T x (some y) none none, ty, pos, af, gd⟩ :: rest) st := L0 (NY T x y hx hy (zd zz)) (zo zz) (zw zz) h
end
section
variable {P : Program} {ops : Array Oper} {K : PS → Prop} {rest : List Oper} {ty ty2 : TypeId} {pos pos2 : String} {af af2 : Array Edge} {gd gd2 : Option (Nat × Bool)}
theorem Qa (hr : Rep B w0 g st a w) {e : Nat} (he : e < st.n) (v : Value) : (a.put (some e) v).eval (.tmp e) = v := by
 show (a.tmps.setIfInBounds e v).getD e undef = v
 rw [GD _ _ _ _ _ (by rw [hr.size]; exact he), C5 V]
theorem yTa {T E k bytes n m iz i e1 e2 : Nat} {x y z : Operand} {us vs : List Value} [hA : AppOf P T E k bytes] [hS : SliceOf P T E k]
 (hm : m ≤ n) (hb : n * bytes ≤ 140737488351232) (hn : n ≤ 140737488351232) (hul : us.length = n * k) (hvs : us.drop (m * k) = vs)
 (hx : st.ev x = .bs i n E k) (hi : st.bget i = some (us.map fun u => .d (.val u))) (hy : st.ev y = .d (.val (.int kd m))) (hz : (st.put (some e1) .any).ev z = .bs iz 0 E k) (hiz : st.bget iz = some (([] : List Value).map fun u => .d (.val u)))
 (h : YR P true ops K rest ((((st.put (some e1) .any).kill iz).bput iz (vs.map fun u => .d (.val u))).put (some e2) (.bs iz (n - m) E k)))
 (hd1 : I2 ⟨some e1, .slice T x (some y) none none, ty, pos, af, gd⟩ st = true := by kernel_rfl) (hw1 : st.want ops ⟨some e1, .slice T x (some y) none none, ty, pos, af, gd⟩ = some true := by rfl)
 (hd2 : I2 ⟨some e2, .call { callee := .builtin .append, args := #[z, .tmp e1], argTypes := #[T, T] }, ty2, pos2, af2, gd2⟩ st = true := by kernel_rfl) (hw2 : (st.put (some e1) .any).want ops ⟨some e2, .call { callee := .builtin .append, args := #[z, .tmp e1], argTypes := #[T, T] }, ty2, pos2, af2, gd2⟩ = some true := by rfl)
 (hlt : Nat.blt i 500000 = true := by rfl) (hltz : Nat.blt iz 500000 = true := by rfl) (hsm : Nat.blt (iz % 500000) 10000 = true := by rfl) :
 YR P true ops K (⟨some e1, .slice T x (some y) none none, ty, pos, af, gd⟩ :: ⟨some e2, .call { callee := .builtin .append, args := #[z, .tmp e1], argTypes := #[T, T] }, ty2, pos2, af2, gd2⟩ :: rest) st := by
 subst hvs
 have hlt5 : i < 500000 := C0 hlt
 have hltz5 : iz < 500000 := C0 hltz
 have hsm5 : ND iz := C0 hsm
 clear hlt hltz hsm
 refine .any V fun B w0 Q hQ g a w hr => ?_
 have h1 := hr.eval x
 rw [hx] at h1
 have hy1 := hr.eval y
 rw [hy] at hy1
 obtain ⟨b, c, xs, p1, p2, p3, p4, p5, p6, p7, p8⟩ := Lc hr hlt5 h1 hi hul
 have he1 : e1 < st.n := H6 hd1 e1 rfl
 obtain ⟨A1, hA1⟩ : ∃ A : Option Addr, A = if c = m then some ⟨b, 0, none⟩ else some ⟨b, m * k, none⟩ := ⟨_, rfl⟩
 have hv1 : (execOp a.eval ⟨some e1, .slice T x (some y) none none, ty, pos, af, gd⟩).run P w = .ok (.value (.slice A1 (n - m) (c - m))) w := by
  have hn2 : (0 : Int) ≤ (m : Int) ∧ (m : Int) ≤ (n : Int) := ⟨by omega, by omega⟩
  simp only [execOp, Instr.sliceAt, Instr.slice, Instr.sliceBounds, Instr.sliceBound, p2, DRep.val_eq hy1, asIntOf, Sem.run_bind, Sem.run_pure, D6, hS.und, hn2, and_self, if_true, hS.size, Option.map_some, Option.map_none, Addr.add_lit, H5, F3]
  rw [hA1]
 have hr1 := hr.put (v := .slice A1 (n - m) (c - m)) (x := .any) trivial (some e1) (fun j hj => by cases hj; exact he1)
 unfold wpList
 rw [C5 (M1 hr hw1)]
 refine .inl ?_
 unfold Oper.wp
 rw [hv1]
 have hz1 := hr1.eval z
 rw [hz] at hz1
 obtain ⟨bz, cz, xz, z1, z2, z3, z4, z5, z6, z7, z8⟩ := Lc (vs := []) hr1 hltz5 hz1 (by rw [GL]; exact hiz) (by simp)
 have hcell : ∀ (j : Nat) u, (us.drop (m * k))[j]? = some u → w.cell? ⟨b, m * k + j, none⟩ = some u := fun j u hj => by
  rw [List.getElem?_drop] at hj
  exact Y0 p7 (b := b) (by rw [p2]; rfl) (m * k + j) u hj
 have hone2 : ∀ u ∈ us.drop (m * k), u.oneCell' = true := fun u hu => p8 u (List.mem_of_mem_drop hu)
 obtain ⟨ti, zz, q1, q2, q3, q4, q5⟩ := hA.inf
 have hl2 : (us.drop (m * k)).length = (n - m) * k := by rw [N2, hul, Nat.sub_mul]
 obtain ⟨v', w', r1, r2, r3, r4, r5, r6, r7⟩ := Bt (P := P) w 0 T ty2 E ti zz k bytes hA.und q1 q2 q3 q4 q5 ((a.put (some e1) (.slice A1 (n - m) (c - m))).eval z) 0 [] z7 A1 (n - m) (c - m) (us.drop (m * k)) hl2 (fun h0 => ⟨⟨b, m * k, none⟩, by rw [hA1, B9 (by omega)], fun j u hj => by rw [Addr.add_lit]; exact hcell j u hj⟩) hone2 (by unfold maxLen; omega) (by rw [F3]; exact E8 (Nat.mul_le_mul_right _ (Nat.sub_le _ _)) (by omega)) (D9 _)
 rw [F3, List.nil_append] at r2
 have hob : ((a.put (some e1) (.slice A1 (n - m) (c - m))).eval z).ownBlock = some bz := by rw [z2]; rfl
 have hfin : ∃ gb cap cur, v' = .slice (some ⟨gb, 0, none⟩) (n - m) cap ∧ w'.heap[gb]? = some (.cells cur E (0, 0)) ∧ n - m ≤ cap ∧ cap ≤ maxLen ∧ cur.size = cap * k ∧ cur.toList.take ((n - m) * k) = us.drop (m * k) := by
  obtain ⟨hxl, (⟨q0, q9⟩ | ⟨gb, cap, cur, t0, t1, t2, t3, t4, t5, t6⟩)⟩ := r2
  · have := r7 q9
    rw [q0, z2] at this
    cases this
  · exact ⟨gb, cap, cur, t0, t2, t3, t4, t5, t6⟩
 obtain ⟨gb, cap, cur, rfl, t2, t3, t4, t5, t6⟩ := hfin
 have hbb : gb = bz ∨ w.heap.size ≤ gb := by
  rcases r6 with r6 | r6
  · rw [hob] at r6; exact .inl (by simpa [Value.ownBlock] using r6)
  · exact .inr (by have : gb = w.heap.size := by simpa [Value.ownBlock] using r6
                   omega)
 have hcur : ∀ (j : Nat) (u : Value), (us.drop (m * k))[j]? = some u → cur[j]? = some u ∧ u.oneCell' = true := fun j u hj => by
  refine ⟨?_, hone2 u (B7 hj)⟩
  rw [← t6] at hj
  have hj' : j < (n - m) * k := by have := (A6.1 hj).1; rw [E4] at this; omega
  rw [E7 hj'] at hj
  simpa using hj
 have hr' := hr1.rebox hltz5 hsm5 z1 r3 (fun k hk hne => r4 k hk (by rw [hob]; exact fun e => hne (J2 e).symm)) hbb cur t2 (us.drop (m * k)) (by rw [hl2, t5]; exact Nat.mul_le_mul_right _ t3) hcur
 have hv2 := Qa hr he1 (.slice A1 (n - m) (c - m))
 have hrun : (execOp (a.put (some e1) (.slice A1 (n - m) (c - m))).eval ⟨some e2, .call { callee := .builtin .append, args := #[z, .tmp e1], argTypes := #[T, T] }, ty2, pos2, af2, gd2⟩).run P w = .ok (.value (.slice (some ⟨gb, 0, none⟩) (n - m) cap)) w' := by
  simp only [execOp, resolve, invoke, builtin, Sem.run_bind, Sem.run_pure, D6, List.map_toArray, List.map_cons, List.map_nil, hv2, r1]
 show wpList P ops _ (_ :: rest) _ w
 unfold wpList
 rw [C5 (M1 hr1 hw2)]
 refine .inl ?_
 unfold Oper.wp
 rw [hrun]
 refine h.sound hQ (hr'.put (x := .bs iz (n - m) E k) ⟨gb, cap, by simp [Gh.addb], rfl, t3, t4, by simp [World.shape?, t2, t5]⟩ _ ?_)
 intro j hj
 exact H6 (st := st) hd2 j hj
end
section
variable {P : Program} {l : List Oper}
theorem IB {Q Q' : Exit → PS → Prop} {y : Code} {id bid : Nat} (J : PS) (hm : P.follows .mixedOrders = true) (h : PA P B w0 l J l.length (List.replicate l.length false) st) (hj : PW P B w0 y Q' J) (hp : ∀ c s, ¬ Q (.panic c) s := by exact fun _ _ h => h) (hnd : NS l = true := by rfl) : PW P B w0 (.region id l.toArray true) (AQ bid (S0 (PW P B w0 y Q') Q)) st := fun g a w hr => by
 have hw : Rep B w0 g st a { w with drawn := w.drawn + 1 } := hr.grow ⟨rfl, rfl, rfl, E3 _, fun _ _ => rfl⟩
 have := h (OL (AQ bid (S0 (PW P B w0 y Q') Q))) (fun s hs => PR hs hj) (fun c s hh => hh) g a _ hw
 have pr := AG (B := B) (w0 := w0) (Q := AQ bid (S0 (PW P B w0 y Q') Q))
 refine wpIn_mono (wpIn_region_any hm (Ck pr.1 hnd ?_)) pr.2
 have e : (List.replicate l.length false).toArray = Array.replicate l.toArray.size false := by simp
 rw [e] at this
 simpa using this
end
section
variable {P : Program} {ops : Array Oper} {K : PS → Prop} {rest : List Oper}
end
end Go.Proofs.YtddfimjiihggmaaGreatDoor.Px
namespace Go.Proofs.YtddfimjiihggmaaGreatDoor
open Go.RowKit Px
abbrev vC (l : List Cf) : List Value := l.flatMap fun h => [vS h.1, vS h.2]
abbrev cC (l : List Cf) : List SV := (vC l).map fun u => SV.d (.val u)
theorem Df (l : List Cf) : (vC l).length = l.length * 2 := by
 induction l with
 | nil => rfl
 | cons h l ih =>
  show (vS h.1 :: vS h.2 :: vC l).length = _
  simp only [List.length_cons, ih]
  omega
theorem KG (l : List Cf) {n : Nat} (h : l.length = n) : N5 2 n ((vC l).map .val) = l.map dCf := by
 subst h
 induction l with
 | nil => rfl
 | cons x l ih =>
  show [dS x.1, dS x.2] :: N5 2 l.length ((vC l).map .val) = dCf x :: l.map dCf
  rw [ih]
theorem Lu (vs : List Value) : AA (vs.map fun u => SV.d (.val u)) = some (vs.map DV.val) := JB (fun u => DV.val u) vs
theorem FT (vs : List Value) (i : Nat) : (vs.map fun u => SV.d (.val u)).map (SV.kill i) = vs.map fun u => SV.d (.val u) := by
 rw [List.map_map]
 exact List.map_congr_left fun u _ => V
theorem vC_set (l : List Cf) {k : Nat} {x : Cf} (q : G0) (hx : l[k]? = some x) : (cC l).set (((k : Int)).toNat * 2 + 1) (.d (dS q)) = cC (l.set k (x.1, q)) := by
 rw [H5]
 induction l generalizing k with
 | nil => simp at hx
 | cons h l ih =>
  cases k with
  | zero =>
   simp only [List.getElem?_cons_zero, Option.some.injEq] at hx
   subst hx
   rfl
  | succ k =>
   have := ih (k := k) (by simpa using hx)
   rw [show (k + 1) * 2 + 1 = k * 2 + 1 + 1 + 1 by omega]
   show SV.d (.val (vS h.1)) :: SV.d (.val (vS h.2)) :: (cC l).set (k * 2 + 1) (.d (dS q)) = _
   rw [this]
   rfl
theorem vC_at (l : List Cf) {k : Nat} {x : Cf} (hx : l[k]? = some x) : (cC l)[((k : Int)).toNat * 2 + 0]? = some (.d (dS x.1)) ∧ (cC l)[((k : Int)).toNat * 2 + 1]? = some (.d (dS x.2)) := by
 rw [H5]
 induction l generalizing k with
 | nil => simp at hx
 | cons h l ih =>
  cases k with
  | zero =>
   simp only [List.getElem?_cons_zero, Option.some.injEq] at hx
   subst hx
   exact ⟨rfl, V⟩
  | succ k =>
   have := ih (k := k) (by simpa using hx)
   rw [show (k + 1) * 2 + 1 = k * 2 + 1 + 1 + 1 by omega, show (k + 1) * 2 + 0 = k * 2 + 0 + 1 + 1 by omega]
   exact this
theorem vC_drop (l : List Cf) (k : Nat) : (vC l).drop (k * 2) = vC (l.drop k) := by
 induction l generalizing k with
 | nil => simp [vC]
 | cons h l ih =>
  cases k with
  | zero => rfl
  | succ k =>
   rw [show (k + 1) * 2 = k * 2 + 1 + 1 by omega]
   exact ih k
theorem vC_take (l : List Cf) (k : Nat) : (vC l).take (k * 2) = vC (l.take k) := by
 induction l generalizing k with
 | nil => simp [vC]
 | cons h l ih =>
  cases k with
  | zero => rfl
  | succ k =>
   rw [show (k + 1) * 2 = k * 2 + 1 + 1 by omega]
   show vS h.1 :: vS h.2 :: (vC l).take (k * 2) = vS h.1 :: vS h.2 :: vC (l.take k)
   rw [ih]
theorem Ot (l r : List Cf) : vC (l ++ r) = vC l ++ vC r := List.flatMap_append
theorem cC_lt {l : List Cf} {k : Nat} (h : k < l.length) : Nat.blt (((k : Int)).toNat * 2 + 1) (cC l).length = true := by
 refine Nat.ble_eq_true_of_le ?_
 rw [A7, Df, H5]
 omega
abbrev cT : Nat := 113
abbrev rsS : Nat → List Cf → SV
 | 0, _ => .d (.val (.slice none 0 0))
 | _ + 1, O => .bs 79 O.length cT 2
abbrev rsB : Nat → List Cf → List (Nat × List SV)
 | 0, _ => []
 | _ + 1, O => [(79, cC O)]
abbrev kT : Nat := cT * 100000 + 7
def Bi (c : Cf) : Bool := !(c.2 == [])
theorem Mr (e : List Cf) (hl : e.length ≤ 1000) (hf : ∀ c ∈ e, c.2.length ≤ 70000) : PCalls Tryz.prog 185 [.sl 2 (e.map dCf)] (.d (.sl 2 (((CQ e e.length).filter Bi).map dCf))) := by
 obtain ⟨r, hr⟩ := H7 ((CQ e e.length).filter Bi)
 rw [← hr]
 have hfl := fun i => PJ hf i
 refine B3 Tryz.func185 V Tryz.ntmps185 Tryz.results185 (by simp) fun B w0 => ?_
 refine D8 (B5 V (D8 (B5 V (A8 (D8 (B5 V (B6 ?_))))))); refine H2 (fun i : Nat => ⟨102, [(0, .d (.sl 2 (e.map dCf))), (3, rsS i (CQ e i)), (4, .d (dI i))], rsB i (CQ e i), []⟩) (fun i => i ≤ e.length) (fun i => e.length - i) 0 (D9 _)
  ⟨rfl, ⟨E0, E0, E0, D4⟩, D4, D4, rfl⟩ ?_
 intro i hi
 rcases D2 i e.length with h | h
 rotate_left
 · have u1 : decide ((i : Int) < ((e.map dCf).length : Int)) = false := A9 (by rw [A7]; omega)
   obtain rfl : i = e.length := by omega
   have hrl := MB e e.length
   obtain ⟨O, hO⟩ := H7 (CQ e e.length)
   obtain ⟨i, hi2⟩ := H7 (e.length)
   rw [← hO] at hr hrl ⊢
   rw [← hi2] at hO u1 ⊢
   have hfin : PW Tryz.prog B w0 ((Code.skip).seq Code.skip) (fun _ _ => True) ⟨0, [], [], []⟩ → True := fun _ => trivial
   clear hfin
   cases i with
   | zero =>
    have hO0 : O = [] := by rw [hO]; rfl
    subst hO0
    have hr0 : r = [] := hr
    subst hr0
    refine I0 V (C3 V (yN V (H3 V (B1 (L9 u1 V (G1 (D8 (B5 V (A8 (D8 (B5 V (B6 ?_)))))))))))); refine H2 (fun j : Nat => ⟨102, [(3, .d (.val (.slice none 0 0))), (7, .d (.val (.slice none 0 0))), (8, .d (dI j))], [], []⟩) (fun j => j = 0) (fun _ => 0) 0 V ⟨rfl, ⟨E0, E0, E0, D4⟩, D4, D4, V⟩ ?_
    rintro j rfl
    refine I0 V (C3 V (yNl V (H3 V (F6 V (G1 (H8 V (B5 V (C4 ?_))))))))
    exact C9 _ (.tnil 2 V .nil) V
   | succ i =>
    refine BD 3 79 (es := O.map dCf) (ds := (vC O).map .val) (by rw [A7]; exact Df O) (KG O V) (Lu _) V V ?_; refine I0 V (C3 V (yN V (H3 V (B1 (L9 u1 V (G1 (D8 (B5 V ?_)))))))); refine IA 7 kT 2 V V V ?_; refine A8 (D8 (B5 V (B6 ?_))); refine H2 (fun j : Nat => ⟨102, [(3, .d (.sl 2 (O.map dCf))), (7, .ts kT 2 (((O.take j).filter Bi).map dCf)), (8, .d (dI j))], [], [(kT, (((O.take j).filter Bi).map dCf).length)]⟩) (fun j => j ≤ O.length) (fun j => O.length - j) 0 (D9 _)
     ⟨rfl, ⟨E0, E0, E0, D4⟩, D4, ⟨rfl, D4⟩, rfl⟩ ?_
    intro j hj
    rcases D2 j O.length with h2 | h2
    · have u2 : decide ((j : Int) < ((O.map dCf).length : Int)) = true := B0 (by rw [A7]; omega)
      obtain ⟨⟨c0, c1⟩, hc⟩ : ∃ a, O[j]? = some a := ⟨_, A5 h2⟩
      have em := ix dCf O j j (c0, c1) rfl hc
      have hw := I5 ((j : Int) + 1) (by omega)
      have hnx : (O.take (j + 1)).filter Bi = (O.take j).filter Bi ++ (if c1 = [] then [] else [(c0, c1)]) := by
       rw [G8, hc, Option.toList, List.filter_append]
       by_cases h3 : c1 = []
       · simp [Bi, h3]
       · simp [Bi, h3]
      have hzl : ((O.take j).filter Bi).length ≤ 1000 := E8 (List.length_filter_le _ _) (by rw [E4]; omega)
      obtain ⟨zs, hzs⟩ := H7 ((O.take j).filter Bi)
      rw [← hzs] at hnx hzl ⊢
      clear hzs
      by_cases h3 : c1 = []
      · have u3 : (c1 == []) = true := by simp [h3]
        rw [C5 h3, List.append_nil] at hnx
        refine I0 V (C3 V (yN V (H3 V (B1 (J8 u2 V (B2 (A8 (B6 (H8 V (C3 V (yW em (by omega) rfl rfl (N8 rfl rfl (K5 rfl rfl (O6 rfl rfl (yQ (B1 (pnf u3 rfl (B2 (B4 (C3 rfl (G3 rfl (B5 rfl (B1 ?_)))))))))))))))))))))))
        exact ⟨j + 1, by omega, by omega, rfl, ⟨E0, .of_eq (by rw [hnx] <;> rfl), .of_eq (C7 (fun n => SV.d (dI n)) hw), D4⟩, D4, ⟨(by rw [hnx] <;> rfl), D4⟩, rfl⟩
      · have u3 : (c1 == []) = false := by simp [h3]
        rw [B9 h3] at hnx
        refine I0 V (C3 V (yN V (H3 V (B1 (J8 u2 V (B2 (A8 (B6 (H8 V (C3 V (yW em (by omega) rfl rfl (N8 rfl rfl (K5 rfl rfl (O6 rfl rfl (yQ (B1 (pnt u3 rfl (B4 (Hh rfl (C3 rfl (C3 rfl (yW em (by omega) rfl rfl (R7 (ys := [_, _]) rfl rfl rfl ?_))))))))))))))))))))))); refine yR (es := [[_, _]]) V V V V V ?_; refine yT (es' := (zs ++ [(c0, c1)]).map dCf) (m := ((zs ++ [(c0, c1)]).map dCf).length) (by simp; omega) (by simp; omega) rfl rfl rfl rfl rfl (by simp) (by simp) ?_; refine Hi V (yQ (B4 (C3 V (G3 V (B5 V (B1 ?_))))))
        exact ⟨j + 1, by omega, by omega, rfl, ⟨E0, .of_eq (by rw [hnx] <;> rfl), .of_eq (C7 (fun n => SV.d (dI n)) hw), D4⟩, D4, ⟨(by rw [hnx] <;> rfl), D4⟩, rfl⟩
    · have u2 : decide ((j : Int) < ((O.map dCf).length : Int)) = false := A9 (by rw [A7]; omega)
      obtain rfl : j = O.length := by omega
      rw [I3, ← hr]
      refine I0 V (C3 V (yN V (H3 V (B1 (L9 u2 V (G1 (D8 (Hh V (Hi V (yQ (C4 ?_)))))))))))
      exact C9 _ (.tmp V .nil) V
 have u1 : decide ((i : Int) < ((e.map dCf).length : Int)) = true := B0 (by rw [A7]; omega)
 obtain ⟨⟨c0, c1⟩, hc⟩ : ∃ a, e[i]? = some a := ⟨_, A5 h⟩
 have em := ix dCf e i i (c0, c1) rfl hc
 have hw := I5 ((i : Int) + 1) (by omega)
 have hq := hf _ (B7 hc)
 simp only at hq
 have hnx : CQ e (i + 1) = Ae (c0, c1) (CQ e i) := by rw [CQ, hc]
 have hOl := MB e i
 have hOf := hfl i
 clear hfl hr
 cases i with
 | zero =>
  have hnx : CQ e (0 + 1) = [(c0, c1)] := hnx
  refine I0 V (C3 V (yN V (H3 V (B1 (J8 u1 V (B2 (A8 (B6 (D8 (B5 V (A8 (B6 ?_)))))))))))); refine H2 (fun k : Nat => ⟨102, [(0, .d (.sl 2 (e.map dCf))), (3, .d (.val (.slice none 0 0))), (4, .d (dI (0 : Nat))), (5, .d (dI k))], [], []⟩) (fun k => k = 0) (fun _ => 0) 0 V ⟨rfl, ⟨E0, E0, E0, E0, D4⟩, D4, D4, V⟩ ?_
  rintro k rfl
  refine A8 (A8 ?_); refine I7 Tryz.mixed (by kernel_rfl) ?_; refine C3 V (C3 V (yNl V (G3 V (C3 V (yO V (yO V (yO V (yO V (yO V (yO V (yO V (yO V (yO V (yO V (yO V (K7 V V (yQ (F6 V (G1 (A8 (A8 ?_))))))))))))))))))))); refine I7 Tryz.mixed (by kernel_rfl) ?_; refine C3 V (C3 V (yNl V (G3 V (C3 V (yO V (yO V (yO V (yO V (yO V (yO V (yO V (yO V (yO V (yO V (yO V (K7 V V (yQ (F6 V (B2 (D8 (yEb V (C3 V (C3 V (ySn V V (yTe V V (Dc V (yQ ?_))))))))))))))))))))))))))); refine BD 6 66 (es := []) (ds := []) V V V V V ?_; refine IB ⟨102, [(0, .d (.sl 2 (e.map dCf))), (3, .bs 79 1 cT 2), (4, .d (dI (0 : Nat)))], [(79, cC [(c0, c1)])], []⟩ Tryz.mixed ?_ ?_
  refine Q8 0 V V (by kernel_rfl) (by kernel_rfl) N4 ?_; refine Q8 1 V V (by kernel_rfl) (by kernel_rfl) N4 ?_; refine Q8 3 V V (by kernel_rfl) (by kernel_rfl) N4 ?_
  refine Q8 4 V V (by kernel_rfl) (by kernel_rfl) N4 ?_; refine Q8 9 V V (by kernel_rfl) (by kernel_rfl) N4 ?_; refine I4 [_, _] V V ⟨⟨_, V, ?_⟩, ⟨_, V, ?_⟩, D4⟩; refine ySz V V ?_
  refine yQ ?_; refine I4 [_] V V ⟨⟨_, V, ?_⟩, D4⟩; refine yW em (by omega) rfl rfl (yQ ?_); refine I4 [_] V V ⟨⟨_, V, ?_⟩, D4⟩; refine R7 (ys := [_, _]) V V V (yQ ?_)
  refine I4 [_] V V ⟨⟨_, V, ?_⟩, D4⟩; refine yR (es := [[_, _]]) V V V V V ?_; refine yQ ?_; refine I4 [_] V V ⟨⟨_, V, ?_⟩, D4⟩
  refine yTn (vs := [vS c0, vS c1]) (m := 1) (es := [dCf (c0, c1)]) (by omega) (by omega) (by omega) (by omega) rfl rfl rfl rfl rfl (yQ ?_); refine I4 [_] V V ⟨⟨_, V, ?_⟩, D4⟩; refine yTe V V (yQ ?_); refine I4 [_] V V ⟨⟨_, V, ?_⟩, D4⟩; refine Dc V (yQ ?_); refine Y6 V ⟨rfl, ⟨E0, E0, E0, D4⟩, ⟨⟨_, V, K4 V⟩, D4⟩, D4, V⟩
  refine yW em (by omega) rfl rfl (yQ ?_); refine I4 [_, _] V V ⟨⟨_, V, ?_⟩, ⟨_, V, ?_⟩, D4⟩; refine ySz V V (yQ ?_); refine I4 [_] V V ⟨⟨_, V, ?_⟩, D4⟩
  refine R7 (ys := [_, _]) V V V (yQ ?_); refine I4 [_] V V ⟨⟨_, V, ?_⟩, D4⟩; refine yR (es := [[_, _]]) V V V V V ?_; refine yQ ?_; refine I4 [_] V V ⟨⟨_, V, ?_⟩, D4⟩
  refine yTn (vs := [vS c0, vS c1]) (m := 1) (es := [dCf (c0, c1)]) (by omega) (by omega) (by omega) (by omega) rfl rfl rfl rfl rfl (yQ ?_); refine I4 [_] V V ⟨⟨_, V, ?_⟩, D4⟩; refine yTe V V (yQ ?_); refine I4 [_] V V ⟨⟨_, V, ?_⟩, D4⟩; refine Dc V (yQ ?_); refine Y6 V ⟨rfl, ⟨E0, E0, E0, D4⟩, ⟨⟨_, V, K4 V⟩, D4⟩, D4, V⟩
  refine R7 (ys := [_, _]) V V V (yQ ?_); refine I4 [_, _] V V ⟨⟨_, V, ?_⟩, ⟨_, V, ?_⟩, D4⟩; refine ySz V V (yQ ?_); refine I4 [_] V V ⟨⟨_, V, ?_⟩, D4⟩
  refine yR (es := [[_, _]]) V V V V V ?_; refine yQ ?_; refine I4 [_] V V ⟨⟨_, V, ?_⟩, D4⟩
  refine yTn (vs := [vS c0, vS c1]) (m := 1) (es := [dCf (c0, c1)]) (by omega) (by omega) (by omega) (by omega) rfl rfl rfl rfl rfl (yQ ?_); refine I4 [_] V V ⟨⟨_, V, ?_⟩, D4⟩; refine yTe V V (yQ ?_); refine I4 [_] V V ⟨⟨_, V, ?_⟩, D4⟩; refine Dc V (yQ ?_); refine Y6 V ⟨rfl, ⟨E0, E0, E0, D4⟩, ⟨⟨_, V, K4 V⟩, D4⟩, D4, V⟩
  refine yR (es := [[_, _]]) V V V V V ?_; refine yQ ?_; refine I4 [_] V V ⟨⟨_, V, ?_⟩, D4⟩; refine ySz V V (yQ ?_); refine I4 [_] V V ⟨⟨_, V, ?_⟩, D4⟩
  refine yTn (vs := [vS c0, vS c1]) (m := 1) (es := [dCf (c0, c1)]) (by omega) (by omega) (by omega) (by omega) rfl rfl rfl rfl rfl (yQ ?_); refine I4 [_] V V ⟨⟨_, V, ?_⟩, D4⟩; refine yTe V V (yQ ?_); refine I4 [_] V V ⟨⟨_, V, ?_⟩, D4⟩; refine Dc V (yQ ?_); refine Y6 V ⟨rfl, ⟨E0, E0, E0, D4⟩, ⟨⟨_, V, K4 V⟩, D4⟩, D4, V⟩; refine B4 (C3 V (G3 V (B5 V (B1 ?_))))
  exact ⟨0 + 1, by omega, by omega, rfl, ⟨E0, .of_eq (by rw [hnx] <;> rfl), .of_eq (C7 (fun n => SV.d (dI n)) hw), D4⟩, ⟨⟨_, rfl, K4 (by rw [hnx] <;> rfl)⟩, D4⟩, D4, (by simp [PS.closed, SV.ok, G6, Nat.beq, -List.map_take, -List.map_set])⟩
 | succ i =>
  have hOp : 0 < (CQ e (i + 1)).length := by
   have := (Fw (c0, c1) (CQ e (i + 1)))
   have h2 : CQ e (i + 1) = match e[i]? with
    | none => CQ e i
    | some c => Ae c (CQ e i) := rfl
   rw [h2]
   cases he : e[i]? with
   | none => rw [List.getElem?_eq_none_iff] at he; omega
   | some c => exact (Fw c _).2
  obtain ⟨O, hO⟩ := H7 (CQ e (i + 1))
  rw [← hO] at hnx hOl hOf hOp ⊢
  clear hO
  have hOl2 : O.length ≤ 1000 := by omega
  show PW Tryz.prog B w0 _ _ ⟨102, [(0, .d (.sl 2 (e.map dCf))), (3, .bs 79 O.length cT 2), (4, .d (dI (i + 1 : Nat)))], [(79, cC O)], []⟩
  refine I0 V (C3 V (yN V (H3 V (B1 (J8 u1 V (B2 (A8 (B6 (D8 (B5 V (A8 (B6 ?_)))))))))))); refine H2 (fun k : Nat => ⟨102, [(0, .d (.sl 2 (e.map dCf))), (3, .bs 79 O.length cT 2), (4, .d (dI (i + 1 : Nat))), (5, .d (dI k))], [(79, cC O)], []⟩) (fun k => k ≤ O.length ∧ ∀ j d, j < k → O[j]? = some d → ltS d.1 c0 = true) (fun k => O.length - k) 0 ⟨by omega, fun j d hj => by omega⟩
   ⟨rfl, ⟨E0, E0, E0, E0, D4⟩, ⟨⟨_, rfl, K4 rfl⟩, D4⟩, D4, (by simp [PS.closed, SV.ok, G6, Nat.beq, -List.map_take, -List.map_set])⟩ ?_
  rintro k ⟨hk, hlt⟩
  rcases D2 k O.length with h3 | h3
  · have t1 : decide ((k : Int) < (O.length : Int)) = true := B0 (by omega)
    obtain ⟨⟨d0, d1⟩, hd⟩ : ∃ a, O[k]? = some a := ⟨_, A5 h3⟩
    obtain ⟨a1, a2⟩ := vC_at O hd
    have hwk := I5 ((k : Int) + 1) (by omega)
    rcases Bool.eq_false_or_eq_true (ltS d0 c0) with h4 | h4
    · have h48 : NX d0 c0 = true := h4
      refine A8 (A8 ?_); refine I7 Tryz.mixed (by kernel_rfl) ?_; refine C3 V (Y5 V (yNb V (G3 V (C3 V ?_)))); rw [t1]; refine Y5 V (C3 V (Z8 (by omega) (by omega) rfl rfl rfl (CO rfl (U3 rfl rfl a1 (C3 rfl (C3 rfl (yW em (by omega) rfl rfl (N8 rfl rfl (K5 rfl rfl (yBsl rfl rfl (K8 rfl rfl (yQ (B1 (J8 h48 rfl (B2 (B6 (B4 (C3 rfl (G3 rfl (B5 rfl (CR (B1 ?_)))))))))))))))))))))); rw [hwk]
      exact ⟨k + 1, ⟨by omega, fun j d hj hd2 => by
       rcases D2 j k with h6 | h6
       · exact hlt j d h6 hd2
       · obtain rfl : j = k := by omega
         rw [hd] at hd2
         cases hd2
         exact h4⟩, by omega, rfl, ⟨E0, E0, E0, E0, D4⟩, ⟨⟨_, rfl, K4 rfl⟩, D4⟩, D4, (by simp [PS.closed, SV.ok, G6, Nat.beq, -List.map_take, -List.map_set])⟩
    · have hpos : AH O c0 = k := MI hlt (fun d hd2 => by rw [hd] at hd2; cases hd2; exact h4) hk
      have h48 : NX d0 c0 = false := h4
      by_cases h5 : d0 = c0
      · have u5 : (d0 == c0) = true := by simp [h5]
        have hins : Ae (c0, c1) O = O.set k (d0, I6 (val d1 + val c1)) := by
         unfold Ae
         rw [hpos, hd]
         simp only
         rw [C5 h5]
        have hlen : (O.set k (d0, I6 (val d1 + val c1))).length = O.length := List.length_set ..
        have hfd := hOf _ (B7 hd)
        have k1 := KZ d1 c1 (by simp only at hfd; omega) (by omega)
        have hs := vC_set O (I6 (val d1 + val c1)) hd
        have hl2 := cC_lt h3
        rw [hins] at hnx
        obtain ⟨q, hq2⟩ := H7 (I6 (val d1 + val c1))
        rw [← hq2] at k1 hs hlen hnx
        clear hq2 hins
        refine A8 (A8 ?_); refine I7 Tryz.mixed (by kernel_rfl) ?_; refine C3 V (Y5 V (yNb V (G3 V (C3 V ?_)))); rw [t1]; refine Y5 V (C3 V (Z8 (by omega) (by omega) rfl rfl rfl (CO rfl (U3 rfl rfl a1 (C3 rfl (C3 rfl (yW em (by omega) rfl rfl (N8 rfl rfl (K5 rfl rfl (yBsl rfl rfl (K8 rfl rfl (yQ (B1 (L9 h48 rfl (G1 (A8 (A8 ?_))))))))))))))))); refine I7 Tryz.mixed (by kernel_rfl) ?_; refine C3 V (Y5 V (yNb V (G3 V (C3 V ?_)))); rw [t1]; refine Y5 V (C3 V (Z8 (by omega) (by omega) rfl rfl rfl (CO rfl (U3 rfl rfl a1 (C3 rfl (C3 rfl (yW em (by omega) rfl rfl (N8 rfl rfl (K5 rfl rfl (O9 rfl rfl (K8 rfl rfl (yQ (B1 (J8 u5 rfl (A8 ?_))))))))))))))); refine I7 Tryz.mixed (by kernel_rfl) ?_; refine Y5 V (C3 V (Y5 V (C3 V (Z8 (by omega) (by omega) rfl rfl rfl (CO rfl (U3 rfl rfl a2 (C3 rfl (C3 rfl (yW em (by omega) rfl rfl (N8 rfl rfl (K5 rfl rfl (yC (k1) rfl rfl (Z8 (by omega) (by omega) rfl rfl rfl (CO rfl ?_)))))))))))))); refine Y4 V V V hs ?_ hl2; refine yQ (G1 (B4 (C3 V (G3 V (B5 V (B1 ?_)))))); rw [hw]
        exact ⟨i + 1 + 1, by omega, by omega, rfl, ⟨E0, .of_eq (by rw [hnx]; show SV.bs 79 O.length cT 2 = SV.bs 79 _ cT 2; rw [hlen]), E0, D4⟩, ⟨⟨_, rfl, K4 (by rw [hnx])⟩, D4⟩, D4, (by simp [PS.closed, SV.ok, G6, Nat.beq, -List.map_take, -List.map_set])⟩
      · have u5 : (d0 == c0) = false := by simp [h5]
        have hins : Ae (c0, c1) O = O.take k ++ (c0, c1) :: O.drop k := by
         unfold Ae
         rw [hpos, hd]
         simp only
         rw [B9 h5]
        rw [hins] at hnx
        have hdl : (O.drop k).length = O.length - k := N2
        have htl : (O.take k).length = k := by rw [E4]; omega
        have hlen : (O.take k ++ (c0, c1) :: O.drop k).length = k + 1 + (O.length - k) := by rw [D7, List.length_cons, htl, hdl]; omega
        have hv1 : (vC O).length = O.length * 2 := Df O
        have hv2 := vC_drop O k
        have hv3 : (((cC O).map (SV.kill 66)).map (SV.kill 66)).take (k * 2) = cC (O.take k) := by rw [FT, FT, ← List.map_take, vC_take]
        have hv4 : (vC (O.take k)).length = k * 2 := by rw [Df, htl]
        have hv5 : (vC (O.drop k)).length = (O.length - k) * 2 := by rw [Df, hdl]
        have hv6 : N5 2 (O.length - k) ((vC (O.drop k)).map .val) = (O.drop k).map dCf := KG _ hdl
        have hv7 : (vC (O.take k) ++ [vS c0, vS c1] ++ vC (O.drop k)) = vC (O.take k ++ (c0, c1) :: O.drop k) := by rw [Ot]; show _ = vC (O.take k) ++ ([vS c0, vS c1] ++ vC (O.drop k)); rw [H1]
        obtain ⟨TK, hTK⟩ := H7 (O.take k)
        obtain ⟨DR, hDR⟩ := H7 (O.drop k)
        rw [← hTK, ← hDR] at hnx hlen hv7
        rw [← hTK] at hv3 hv4
        rw [← hDR] at hv2 hv5 hv6 hdl
        clear hTK hDR hins hpos hlt
        refine A8 (A8 ?_); refine I7 Tryz.mixed (by kernel_rfl) ?_; refine C3 V (Y5 V (yNb V (G3 V (C3 V ?_)))); rw [t1]; refine Y5 V (C3 V (Z8 (by omega) (by omega) rfl rfl rfl (CO rfl (U3 rfl rfl a1 (C3 rfl (C3 rfl (yW em (by omega) rfl rfl (N8 rfl rfl (K5 rfl rfl (yBsl rfl rfl (K8 rfl rfl (yQ (B1 (L9 h48 rfl (G1 (A8 (A8 ?_))))))))))))))))); refine I7 Tryz.mixed (by kernel_rfl) ?_; refine C3 V (Y5 V (yNb V (G3 V (C3 V ?_)))); rw [t1]; refine Y5 V (C3 V (Z8 (by omega) (by omega) rfl rfl rfl (CO rfl (U3 rfl rfl a1 (C3 rfl (C3 rfl (yW em (by omega) rfl rfl (N8 rfl rfl (K5 rfl rfl (O9 rfl rfl (K8 rfl rfl (yQ (B1 (L9 u5 rfl (B2 (D8 (yEb rfl (Y5 rfl (C3 rfl (yTa (us := vC O) (vs := vC DR) (n := O.length) (m := k) (i := 79) (iz := 66) (by omega) (by omega) (by omega) hv1 hv2 rfl rfl rfl rfl rfl (Dc rfl (yQ ?_)))))))))))))))))))))); refine BD 6 66 (es := DR.map dCf) (ds := (vC DR).map .val) (by rw [A7, hv5]) hv6 (Lu _) rfl rfl ?_; refine MF 79 (k * 2) V hv3 ?_; refine IB ⟨102, [(0, .d (.sl 2 (e.map dCf))), (3, .bs 79 (k + 1 + (O.length - k)) cT 2), (4, .d (dI (i + 1 : Nat)))], [(79, cC (TK ++ (c0, c1) :: DR))], []⟩ Tryz.mixed ?_ ?_
        refine Q8 0 V V (by kernel_rfl) (by kernel_rfl) N4 ?_; refine Q8 1 V V (by kernel_rfl) (by kernel_rfl) N4 ?_; refine Q8 3 V V (by kernel_rfl) (by kernel_rfl) N4 ?_
        refine Q8 4 V V (by kernel_rfl) (by kernel_rfl) N4 ?_; refine Q8 9 V V (by kernel_rfl) (by kernel_rfl) N4 ?_; refine I4 [_, _] V V ⟨⟨_, V, ?_⟩, ⟨_, V, ?_⟩, D4⟩
        refine yDb (by omega) (by omega) rfl rfl (yQ ?_); refine I4 [_] V V ⟨⟨_, V, ?_⟩, D4⟩; refine yW em (by omega) rfl rfl (yQ ?_); refine I4 [_] V V ⟨⟨_, V, ?_⟩, D4⟩
        refine R7 (ys := [_, _]) V V V (yQ ?_); refine I4 [_] V V ⟨⟨_, V, ?_⟩, D4⟩; refine yR (es := [[_, _]]) V V V V V ?_; refine yQ ?_; refine I4 [_] V V ⟨⟨_, V, ?_⟩, D4⟩
        refine KR (n := k) (us := vC TK) (vs := [vS c0, vS c1]) (m := 1) (es := [dCf (c0, c1)]) (by omega) (by omega) (by omega) rfl rfl hv4 rfl rfl rfl (yQ ?_); refine I4 [_] V V ⟨⟨_, V, ?_⟩, D4⟩
        refine KR (n := k + 1) (us := vC TK ++ [vS c0, vS c1]) (vs := vC DR) (m := O.length - k) (es := DR.map dCf) (by omega) (by omega) (by omega) hv6 hv5 (by rw [D7, hv4]; show k * 2 + 2 = _; omega) rfl rfl rfl ?_; refine yQ ?_; refine I4 [_] V V ⟨⟨_, V, ?_⟩, D4⟩; refine Dc V (yQ ?_)
        refine Y6 V ⟨rfl, ⟨E0, E0, E0, D4⟩, ⟨⟨_, V, K4 (C7 (fun l => List.map (fun u => SV.d (.val u)) l) hv7)⟩, D4⟩, D4, (by simp [PS.closed, SV.ok, G6, Nat.beq, -List.map_take, -List.map_set])⟩
        refine yW em (by omega) rfl rfl (yQ ?_); refine I4 [_, _] V V ⟨⟨_, V, ?_⟩, ⟨_, V, ?_⟩, D4⟩; refine yDb (by omega) (by omega) rfl rfl (yQ ?_); refine I4 [_] V V ⟨⟨_, V, ?_⟩, D4⟩
        refine R7 (ys := [_, _]) V V V (yQ ?_); refine I4 [_] V V ⟨⟨_, V, ?_⟩, D4⟩; refine yR (es := [[_, _]]) V V V V V ?_; refine yQ ?_; refine I4 [_] V V ⟨⟨_, V, ?_⟩, D4⟩
        refine KR (n := k) (us := vC TK) (vs := [vS c0, vS c1]) (m := 1) (es := [dCf (c0, c1)]) (by omega) (by omega) (by omega) rfl rfl hv4 rfl rfl rfl (yQ ?_); refine I4 [_] V V ⟨⟨_, V, ?_⟩, D4⟩
        refine KR (n := k + 1) (us := vC TK ++ [vS c0, vS c1]) (vs := vC DR) (m := O.length - k) (es := DR.map dCf) (by omega) (by omega) (by omega) hv6 hv5 (by rw [D7, hv4]; show k * 2 + 2 = _; omega) rfl rfl rfl ?_; refine yQ ?_; refine I4 [_] V V ⟨⟨_, V, ?_⟩, D4⟩; refine Dc V (yQ ?_)
        refine Y6 V ⟨rfl, ⟨E0, E0, E0, D4⟩, ⟨⟨_, V, K4 (C7 (fun l => List.map (fun u => SV.d (.val u)) l) hv7)⟩, D4⟩, D4, (by simp [PS.closed, SV.ok, G6, Nat.beq, -List.map_take, -List.map_set])⟩
        refine R7 (ys := [_, _]) V V V (yQ ?_); refine I4 [_, _] V V ⟨⟨_, V, ?_⟩, ⟨_, V, ?_⟩, D4⟩; refine yDb (by omega) (by omega) rfl rfl (yQ ?_)
        refine I4 [_] V V ⟨⟨_, V, ?_⟩, D4⟩; refine yR (es := [[_, _]]) V V V V V ?_; refine yQ ?_; refine I4 [_] V V ⟨⟨_, V, ?_⟩, D4⟩
        refine KR (n := k) (us := vC TK) (vs := [vS c0, vS c1]) (m := 1) (es := [dCf (c0, c1)]) (by omega) (by omega) (by omega) rfl rfl hv4 rfl rfl rfl (yQ ?_); refine I4 [_] V V ⟨⟨_, V, ?_⟩, D4⟩
        refine KR (n := k + 1) (us := vC TK ++ [vS c0, vS c1]) (vs := vC DR) (m := O.length - k) (es := DR.map dCf) (by omega) (by omega) (by omega) hv6 hv5 (by rw [D7, hv4]; show k * 2 + 2 = _; omega) rfl rfl rfl ?_; refine yQ ?_; refine I4 [_] V V ⟨⟨_, V, ?_⟩, D4⟩; refine Dc V (yQ ?_)
        refine Y6 V ⟨rfl, ⟨E0, E0, E0, D4⟩, ⟨⟨_, V, K4 (C7 (fun l => List.map (fun u => SV.d (.val u)) l) hv7)⟩, D4⟩, D4, (by simp [PS.closed, SV.ok, G6, Nat.beq, -List.map_take, -List.map_set])⟩
        refine yR (es := [[_, _]]) V V V V V ?_; refine yQ ?_; refine I4 [_] V V ⟨⟨_, V, ?_⟩, D4⟩; refine yDb (by omega) (by omega) rfl rfl (yQ ?_); refine I4 [_] V V ⟨⟨_, V, ?_⟩, D4⟩
        refine KR (n := k) (us := vC TK) (vs := [vS c0, vS c1]) (m := 1) (es := [dCf (c0, c1)]) (by omega) (by omega) (by omega) rfl rfl hv4 rfl rfl rfl (yQ ?_); refine I4 [_] V V ⟨⟨_, V, ?_⟩, D4⟩
        refine KR (n := k + 1) (us := vC TK ++ [vS c0, vS c1]) (vs := vC DR) (m := O.length - k) (es := DR.map dCf) (by omega) (by omega) (by omega) hv6 hv5 (by rw [D7, hv4]; show k * 2 + 2 = _; omega) rfl rfl rfl ?_; refine yQ ?_; refine I4 [_] V V ⟨⟨_, V, ?_⟩, D4⟩; refine Dc V (yQ ?_)
        refine Y6 V ⟨rfl, ⟨E0, E0, E0, D4⟩, ⟨⟨_, V, K4 (C7 (fun l => List.map (fun u => SV.d (.val u)) l) hv7)⟩, D4⟩, D4, (by simp [PS.closed, SV.ok, G6, Nat.beq, -List.map_take, -List.map_set])⟩
        refine B4 (C3 V (G3 V (B5 V (B1 ?_)))); rw [hw]
        exact ⟨i + 1 + 1, by omega, by omega, rfl, ⟨E0, .of_eq (by rw [hnx]; show SV.bs 79 _ cT 2 = SV.bs 79 _ cT 2; rw [hlen]), E0, D4⟩, ⟨⟨_, rfl, K4 (by rw [hnx])⟩, D4⟩, D4, (by simp [PS.closed, SV.ok, G6, Nat.beq, -List.map_take, -List.map_set])⟩
  · have t1 : decide ((k : Int) < (O.length : Int)) = false := A9 (by omega)
    obtain rfl : k = O.length := by omega
    have hpos : AH O c0 = O.length := MI hlt (fun d hd2 => by rw [H9 (E3 _)] at hd2; cases hd2) hk
    have hins : Ae (c0, c1) O = O ++ [(c0, c1)] := by
     unfold Ae
     rw [hpos, H9 (E3 _)]
     simp only
     rw [I3, List.drop_length]
    rw [hins] at hnx
    have hlen : (O ++ [(c0, c1)]).length = O.length + 1 := by simp
    have hv1 : (vC O).length = O.length * 2 := Df O
    have hv2 : (vC O).drop (O.length * 2) = [] := by rw [← hv1, List.drop_length]
    have hv3 : (((cC O).map (SV.kill 66)).map (SV.kill 66)).take (O.length * 2) = cC O := by rw [FT, FT]; exact E9 (by rw [A7, hv1]; omega)
    have hv7 : vC O ++ [vS c0, vS c1] = vC (O ++ [(c0, c1)]) := by rw [Ot]; rfl
    clear hins hpos hlt
    refine A8 (A8 ?_); refine I7 Tryz.mixed (by kernel_rfl) ?_; refine C3 V (Y5 V (yNb V (G3 V (C3 V ?_)))); rw [t1]; refine yO V (yO V (yO V (yO V (yO V (yO V (yO V (yO V (yO V (yO V (yO V (K7 V V (yQ (F6 V (G1 (A8 (A8 ?_)))))))))))))))); refine I7 Tryz.mixed (by kernel_rfl) ?_; refine C3 V (Y5 V (yNb V (G3 V (C3 V ?_)))); rw [t1]; refine yO V (yO V (yO V (yO V (yO V (yO V (yO V (yO V (yO V (yO V (yO V (K7 V V (yQ (F6 V (B2 (D8 (yEb V (Y5 V (C3 V (yTa (us := vC O) (vs := []) (n := O.length) (m := O.length) (i := 79) (iz := 66) (by omega) (by omega) (by omega) hv1 hv2 rfl rfl rfl rfl rfl (Dc rfl (yQ ?_))))))))))))))))))))); refine BD 6 66 (es := []) (ds := []) (by simp) (by rw [Nat.sub_self]; rfl) rfl rfl rfl ?_; refine MF 79 (O.length * 2) V hv3 ?_; refine IB ⟨102, [(0, .d (.sl 2 (e.map dCf))), (3, .bs 79 (O.length + 1) cT 2), (4, .d (dI (i + 1 : Nat)))], [(79, cC (O ++ [(c0, c1)]))], []⟩ Tryz.mixed ?_ ?_
    refine Q8 0 V V (by kernel_rfl) (by kernel_rfl) N4 ?_; refine Q8 1 V V (by kernel_rfl) (by kernel_rfl) N4 ?_; refine Q8 3 V V (by kernel_rfl) (by kernel_rfl) N4 ?_
    refine Q8 4 V V (by kernel_rfl) (by kernel_rfl) N4 ?_; refine Q8 9 V V (by kernel_rfl) (by kernel_rfl) N4 ?_; refine I4 [_, _] V V ⟨⟨_, V, ?_⟩, ⟨_, V, ?_⟩, D4⟩
    refine yDb (by omega) (by omega) rfl rfl (yQ ?_); refine I4 [_] V V ⟨⟨_, V, ?_⟩, D4⟩; refine yW em (by omega) rfl rfl (yQ ?_); refine I4 [_] V V ⟨⟨_, V, ?_⟩, D4⟩
    refine R7 (ys := [_, _]) V V V (yQ ?_); refine I4 [_] V V ⟨⟨_, V, ?_⟩, D4⟩; refine yR (es := [[_, _]]) V V V V V ?_; refine yQ ?_; refine I4 [_] V V ⟨⟨_, V, ?_⟩, D4⟩
    refine KR (n := O.length) (us := vC O) (vs := [vS c0, vS c1]) (m := 1) (es := [dCf (c0, c1)]) (by omega) (by omega) (by omega) rfl rfl hv1 rfl rfl rfl (yQ ?_); refine I4 [_] V V ⟨⟨_, V, ?_⟩, D4⟩
    refine yTe V V (yQ ?_); refine I4 [_] V V ⟨⟨_, V, ?_⟩, D4⟩; refine Dc V (yQ ?_)
    refine Y6 V ⟨rfl, ⟨E0, E0, E0, D4⟩, ⟨⟨_, V, K4 (C7 (fun l => List.map (fun u => SV.d (.val u)) l) hv7)⟩, D4⟩, D4, (by simp [PS.closed, SV.ok, G6, Nat.beq, -List.map_take, -List.map_set])⟩
    refine yW em (by omega) rfl rfl (yQ ?_); refine I4 [_, _] V V ⟨⟨_, V, ?_⟩, ⟨_, V, ?_⟩, D4⟩; refine yDb (by omega) (by omega) rfl rfl (yQ ?_); refine I4 [_] V V ⟨⟨_, V, ?_⟩, D4⟩
    refine R7 (ys := [_, _]) V V V (yQ ?_); refine I4 [_] V V ⟨⟨_, V, ?_⟩, D4⟩; refine yR (es := [[_, _]]) V V V V V ?_; refine yQ ?_; refine I4 [_] V V ⟨⟨_, V, ?_⟩, D4⟩
    refine KR (n := O.length) (us := vC O) (vs := [vS c0, vS c1]) (m := 1) (es := [dCf (c0, c1)]) (by omega) (by omega) (by omega) rfl rfl hv1 rfl rfl rfl (yQ ?_); refine I4 [_] V V ⟨⟨_, V, ?_⟩, D4⟩
    refine yTe V V (yQ ?_); refine I4 [_] V V ⟨⟨_, V, ?_⟩, D4⟩; refine Dc V (yQ ?_)
    refine Y6 V ⟨rfl, ⟨E0, E0, E0, D4⟩, ⟨⟨_, V, K4 (C7 (fun l => List.map (fun u => SV.d (.val u)) l) hv7)⟩, D4⟩, D4, (by simp [PS.closed, SV.ok, G6, Nat.beq, -List.map_take, -List.map_set])⟩
    refine R7 (ys := [_, _]) V V V (yQ ?_); refine I4 [_, _] V V ⟨⟨_, V, ?_⟩, ⟨_, V, ?_⟩, D4⟩; refine yDb (by omega) (by omega) rfl rfl (yQ ?_)
    refine I4 [_] V V ⟨⟨_, V, ?_⟩, D4⟩; refine yR (es := [[_, _]]) V V V V V ?_; refine yQ ?_; refine I4 [_] V V ⟨⟨_, V, ?_⟩, D4⟩
    refine KR (n := O.length) (us := vC O) (vs := [vS c0, vS c1]) (m := 1) (es := [dCf (c0, c1)]) (by omega) (by omega) (by omega) rfl rfl hv1 rfl rfl rfl (yQ ?_); refine I4 [_] V V ⟨⟨_, V, ?_⟩, D4⟩
    refine yTe V V (yQ ?_); refine I4 [_] V V ⟨⟨_, V, ?_⟩, D4⟩; refine Dc V (yQ ?_)
    refine Y6 V ⟨rfl, ⟨E0, E0, E0, D4⟩, ⟨⟨_, V, K4 (C7 (fun l => List.map (fun u => SV.d (.val u)) l) hv7)⟩, D4⟩, D4, (by simp [PS.closed, SV.ok, G6, Nat.beq, -List.map_take, -List.map_set])⟩
    refine yR (es := [[_, _]]) V V V V V ?_; refine yQ ?_; refine I4 [_] V V ⟨⟨_, V, ?_⟩, D4⟩; refine yDb (by omega) (by omega) rfl rfl (yQ ?_); refine I4 [_] V V ⟨⟨_, V, ?_⟩, D4⟩
    refine KR (n := O.length) (us := vC O) (vs := [vS c0, vS c1]) (m := 1) (es := [dCf (c0, c1)]) (by omega) (by omega) (by omega) rfl rfl hv1 rfl rfl rfl (yQ ?_); refine I4 [_] V V ⟨⟨_, V, ?_⟩, D4⟩
    refine yTe V V (yQ ?_); refine I4 [_] V V ⟨⟨_, V, ?_⟩, D4⟩; refine Dc V (yQ ?_)
    refine Y6 V ⟨rfl, ⟨E0, E0, E0, D4⟩, ⟨⟨_, V, K4 (C7 (fun l => List.map (fun u => SV.d (.val u)) l) hv7)⟩, D4⟩, D4, (by simp [PS.closed, SV.ok, G6, Nat.beq, -List.map_take, -List.map_set])⟩
    refine B4 (C3 V (G3 V (B5 V (B1 ?_)))); rw [hw]
    exact ⟨i + 1 + 1, by omega, by omega, rfl, ⟨E0, .of_eq (by rw [hnx]; show SV.bs 79 _ cT 2 = SV.bs 79 _ cT 2; rw [hlen]), E0, D4⟩, ⟨⟨_, rfl, K4 (by rw [hnx])⟩, D4⟩, D4, (by simp [PS.closed, SV.ok, G6, Nat.beq, -List.map_take, -List.map_set])⟩
theorem wRNameE (s : G0) (hs : s.length ≤ 1000000) : PCalls Tryz.prog 159 [dS s] (.d (dB (DB s))) := by
 have c1 := KW s (by omega)
 cases h : J5 s with
 | false =>
  rw [h] at c1
  have e : DB s = false := by simp [DB, h]
  rw [e]
  refine B3 Tryz.func159 V Tryz.ntmps159 Tryz.results159 (by simp) fun B w0 => ?_
  refine D8 (B5 V (H8 V (yC (c1) V V (C3 V (yO V (yO V (yO V (K7 V V (C3 V (yO V (yO V (yO V (K7 V V (B5 V (C4 ?_)))))))))))))))
  exact C9 _ (.tmp V .nil) V
 | true =>
  rw [h] at c1
  obtain ⟨x, l, rfl⟩ : ∃ x l, s = x :: l := by
   cases s with
   | nil => simp [J5] at h
   | cons x l => exact ⟨x, l, V⟩
  have hx : (x :: l : G0)[(0 : Int).toNat]? = some x := rfl
  by_cases h1 : 97 ≤ x.toNat
  · have t1 : decide ((x.toNat : Int) ≥ 97) = true := B0 (by omega)
    have e : DB (x :: l) = decide (x.toNat ≤ 122) := by simp [DB, h, h1]
    rw [e]
    refine B3 Tryz.func159 V Tryz.ntmps159 Tryz.results159 (by simp) fun B w0 => ?_
    refine D8 (B5 V (H8 V (yC (c1) V V (C3 V (C3 V (Ah hx (by omega) rfl rfl (G3 rfl (K8 rfl rfl (C3 rfl ?_))))))))); rw [t1]; refine C3 V (Ah hx (by omega) rfl rfl (G3 rfl (K8 rfl rfl (B5 rfl (C4 ?_)))))
    exact C9 _ (.tmp V .nil) (C7 (fun b => SV.d (dB b)) (decide_eq_decide.2 (by omega)))
  · have t1 : decide ((x.toNat : Int) ≥ 97) = false := A9 (by omega)
    have e : DB (x :: l) = false := by simp [DB, h, h1]
    rw [e]
    refine B3 Tryz.func159 V Tryz.ntmps159 Tryz.results159 (by simp) fun B w0 => ?_
    refine D8 (B5 V (H8 V (yC (c1) V V (C3 V (C3 V (Ah hx (by omega) rfl rfl (G3 rfl (K8 rfl rfl (C3 rfl ?_))))))))); rw [t1]; refine yO V (yO V (yO V (K7 V V (B5 V (C4 ?_)))))
    exact C9 _ (.tmp V .nil) V
theorem Ip (e : List Cf) (hl : e.length ≤ 1000000) (hn : ∀ c ∈ e, c.1.length ≤ 1000000) (hf : ∀ c ∈ e, c.2.length ≤ 1000000) : PCalls Tryz.prog 113 [.sl 2 (e.map dCf)] (.d (dI (BT e))) := by
 obtain ⟨r, hr⟩ := H7 (BT e)
 rw [← hr]
 rw [BT] at hr
 by_cases h16 : 16 < e.length
 · have t0 : decide (((e.map dCf).length : Int) > 16) = true := B0 (by rw [A7]; omega)
   rw [C5 h16] at hr
   subst hr
   refine B3 Tryz.func113 V Tryz.ntmps113 Tryz.results113 (by simp) fun B w0 => ?_
   refine D8 (B5 V (I0 V (yN V (H3 V (B1 ?_)))))
   rw [t0]; refine G5 V ?_; refine A8 ?_; refine B4 ?_; refine H4 V ?_; refine yQ ?_; refine C4 ?_; refine A4 ?_
   exact C9 _ (.tmp V .nil) V
 rw [B9 h16] at hr
 have t0 : decide (((e.map dCf).length : Int) > 16) = false := A9 (by rw [A7]; omega)
 refine B3 Tryz.func113 V Tryz.ntmps113 Tryz.results113 (by simp) fun B w0 => ?_
 refine D8 (B5 V (I0 V (yN V (H3 V (B1 ?_)))))
 rw [t0]; refine F6 V ?_; refine B2 ?_; refine A8 ?_; refine A8 ?_; refine B4 ?_; refine H4 V ?_; refine yQ ?_; refine B6 ?_
 refine H2 (fun i : Nat => ⟨27, [(0, .d (.sl 2 (e.map dCf))), (3, .d (dI i))], [], []⟩) (fun i => i ≤ e.length ∧ ∀ d ∈ e.take i, cE d = 0) (fun i => e.length - i) 0 ⟨D9 _, fun d hd => by simp at hd⟩
  ⟨rfl, ⟨E0, E0, D4⟩, D4, D4, rfl⟩ ?_
 rintro i ⟨hi, hok⟩
 rcases D2 i e.length with h | h
 rotate_left
 · have t1 : decide ((i : Int) < ((e.map dCf).length : Int)) = false := A9 (by rw [A7]; omega)
   obtain rfl : i = e.length := by omega
   rw [I3] at hok
   rw [La hok] at hr
   subst hr
   refine I0 V (C3 V (yN V (H3 V (B1 (L9 t1 V (G1 (D8 (B5 V (C4 ?_)))))))))
   exact C9 _ (.tmp V .nil) V
 have t1 : decide ((i : Int) < ((e.map dCf).length : Int)) = true := B0 (by rw [A7]; omega)
 obtain ⟨⟨c0, c1⟩, hc⟩ : ∃ a, e[i]? = some a := ⟨_, A5 h⟩
 have em := ix dCf e i i (c0, c1) rfl hc
 have hw := I5 ((i : Int) + 1) (by omega)
 have hq := hf _ (B7 hc)
 have hqn := hn _ (B7 hc)
 simp only at hq hqn
 have k1 := wRNameE c0 (by omega)
 have k2 := wRCheck c1 (by omega)
 have hat := Qj hc hok
 have hnx := JE (p := fun d => cE d = 0) hc hok
 simp only [cE] at hat hnx
 cases hn : DB c0 with
 | false =>
  rw [hn] at k1 hat
  rw [hat (by simp)] at hr
  have hr : r = 23 := by simpa using hr
  subst hr
  refine I0 V (C3 V (yN V (H3 V (B1 (J8 t1 V (B2 (A8 (B6 (I0 V (C3 V (yW em (by omega) rfl rfl (N8 rfl rfl (K5 rfl rfl (yC (k1) rfl rfl (yU rfl rfl rfl (yQ (G5 rfl (D8 (B5 rfl (C4 (A4 (B8 (A4 (A4 (B8 (A4 ?_))))))))))))))))))))))))))
  exact C9 _ (.tmp V .nil) V
 | true =>
  rw [hn] at k1 hat hnx
  cases hs : GO c1 with
  | false =>
   rw [hs] at k2 hat
   rw [hat (by simp)] at hr
   have hr : r = 1 := by simpa using hr
   subst hr
   refine I0 V (C3 V (yN V (H3 V (B1 (J8 t1 V (B2 (A8 (B6 (I0 V (C3 V (yW em (by omega) rfl rfl (N8 rfl rfl (K5 rfl rfl (yC (k1) rfl rfl (yU rfl rfl rfl (yQ (F6 rfl (B2 (H8 rfl (C3 rfl (yW em (by omega) rfl rfl (N8 rfl rfl (K5 rfl rfl (yC (k2) rfl rfl (H3 rfl (G5 rfl (D8 (B5 rfl (C4 (B8 (A4 (A4 (B8 (A4 ?_))))))))))))))))))))))))))))))))))
   exact C9 _ (.tmp V .nil) V
  | true =>
   rw [hs] at k2 hnx
   refine I0 V (C3 V (yN V (H3 V (B1 (J8 t1 V (B2 (A8 (B6 (I0 V (C3 V (yW em (by omega) rfl rfl (N8 rfl rfl (K5 rfl rfl (yC (k1) rfl rfl (yU rfl rfl rfl (yQ (F6 rfl (B2 (H8 rfl (C3 rfl (yW em (by omega) rfl rfl (N8 rfl rfl (K5 rfl rfl (yC (k2) rfl rfl (H3 rfl (F6 rfl (B2 (B4 (C3 rfl (G3 rfl (B5 rfl (B1 ?_))))))))))))))))))))))))))))))))
   exact ⟨i + 1, ⟨by omega, hnx (by simp)⟩, by omega, rfl, ⟨E0, .of_eq (C7 (fun n => SV.d (dI n)) hw), D4⟩, D4, D4, rfl⟩
theorem rn_nf {e : List Cf} (he : BT e = 0) : (CQ e e.length).filter Bi = nf e := rnI_nf fun c hc => ((S8.1 he).2 c hc).2
theorem Ms (e : List Cf) (hl : e.length ≤ 1000000) (hn : ∀ c ∈ e, c.1.length ≤ 1000000) (hf : ∀ c ∈ e, c.2.length ≤ 70000) : PCalls Tryz.prog 135 [.sl 2 (e.map dCf)] (.tup [.sl 2 ((NP e).map dCf), dI (BT e)]) := by
 have k1 := Ip e hl hn fun c hc => by have := hf c hc; omega
 by_cases h : BT e = 0
 · obtain ⟨h1, h2⟩ := S8.1 h
   have k2 := Mr e (by omega) hf
   rw [rn_nf h] at k2
   rw [NP, C5 h, h]
   rw [h] at k1
   obtain ⟨r, hr⟩ := H7 (nf e)
   rw [← hr] at k2 ⊢
   refine B3 Tryz.func135 V Tryz.ntmps135 Tryz.results135 (by simp) fun B w0 => ?_
   refine D8 (H4 V (B5 V (I0 V (yC (k1) V V (B5 V (H8 V (H3 V (F6 V (B2 (H8 V (yC (k2) V V (H4 V (B5 V (C4 ?_))))))))))))))
   exact C9 _ (.tmp V (.tmp V .nil)) V
 · have t : (BT e != 0) = true := by simpa using h
   rw [NP, B9 h]
   obtain ⟨x, hx⟩ := H7 (BT e)
   rw [← hx] at k1 t ⊢
   refine B3 Tryz.func135 V Tryz.ntmps135 Tryz.results135 (by simp) fun B w0 => ?_
   refine D8 (H4 V (B5 V (I0 V (yC (k1) V V (B5 V (H8 V (H3 V (B1 (J8 t V (H8 V (H4 V (B5 V (C4 (A4 ?_))))))))))))))
   exact C9 _ (.tnil 2 V (.tmp V .nil)) V
theorem wRNames (e : List Cf) (hl : e.length ≤ 1000000) (hn : ∀ c ∈ e, c.1.length ≤ 1000000) (hf : ∀ c ∈ e, c.2.length ≤ 70000) : PCalls Tryz.prog 116 [.sl 2 (e.map dCf)] (.tup [.sl 1 (((NP e).map (·.1)).map dC), dI (BT e)]) := by
 have k1 := Ms e hl hn hf
 have hnl : (NP e).length ≤ 1000000 := by
  unfold NP
  split
  · exact E8 (Kw e) hl
  · simp
 obtain ⟨r, hr⟩ := H7 (NP e)
 obtain ⟨x, hx⟩ := H7 (BT e)
 rw [← hr, ← hx] at k1
 rw [← hr] at hnl
 rw [← hr, ← hx]
 refine B3 Tryz.func116 V Tryz.ntmps116 Tryz.results116 (by simp) fun B w0 => ?_
 refine D8 (H4 V (B5 V (H8 V (yC (k1) V V (O5 V (yX V V (yX V V (H4 V (B5 V (D8 (B5 V ?_))))))))))); refine IA 6 naT 1 V V V ?_; refine A8 (D8 (B5 V (B6 ?_))); refine H2 (fun i : Nat => ⟨29, [(4, .d (.sl 2 (r.map dCf))), (5, .d (dI x)), (6, .ts naT 1 (((r.take i).map (·.1)).map dC)), (7, .d (dI i))], [], [(naT, (((r.take i).map (·.1)).map dC).length)]⟩) (fun i => i ≤ r.length) (fun i => r.length - i) 0 (D9 _)
  ⟨rfl, ⟨E0, E0, E0, E0, D4⟩, D4, ⟨rfl, D4⟩, rfl⟩ ?_
 intro i hi
 rcases D2 i r.length with h3 | h3
 · have t1 : decide ((i : Int) < ((r.map dCf).length : Int)) = true := B0 (by rw [A7]; omega)
   obtain ⟨⟨c0, c1⟩, hc⟩ : ∃ a, r[i]? = some a := ⟨_, A5 h3⟩
   have em := ix dCf r i i (c0, c1) rfl hc
   have hw := I5 ((i : Int) + 1) (by omega)
   have hnx : (r.take (i + 1)).map (·.1) = (r.take i).map (·.1) ++ [c0] := by rw [G8, hc, List.map_append]; rfl
   have hzl : ((r.take i).map (·.1)).length ≤ 1000000 := by rw [A7, E4]; omega
   obtain ⟨zs, hz⟩ := H7 ((r.take i).map (·.1))
   rw [← hz] at hnx hzl ⊢
   clear hz
   refine I0 V (C3 V (yN V (H3 V (B1 (J8 t1 V (B2 (A8 (B6 (B4 (Hh V (C3 V (C3 V (yW em (by omega) rfl rfl (N8 rfl rfl (K5 rfl rfl ?_))))))))))))))); refine yR (es := [[_]]) V V V V V ?_; refine yT (es' := (zs ++ [c0]).map dC) (m := ((zs ++ [c0]).map dC).length) (by simp; omega) (by simp; omega) rfl rfl rfl rfl rfl (by simp) (by simp) ?_; refine Hi V (yQ (B4 (C3 V (G3 V (B5 V (B1 ?_))))))
   exact ⟨i + 1, by omega, by omega, rfl, ⟨E0, E0, .of_eq (by rw [hnx]; rfl), .of_eq (C7 (fun n => SV.d (dI n)) hw), D4⟩, D4, ⟨(by rw [hnx]; rfl), D4⟩, rfl⟩
 · have t1 : decide ((i : Int) < ((r.map dCf).length : Int)) = false := A9 (by rw [A7]; omega)
   obtain rfl : i = r.length := by omega
   rw [I3]
   refine I0 V (C3 V (yN V (H3 V (B1 (L9 t1 V (G1 (D8 (Hh V (C3 V (Hi V (B5 V (C4 ?_))))))))))))
   exact C9 _ (.tmp V (.tmp V .nil)) V
end Go.Proofs.YtddfimjiihggmaaGreatDoor