/- Walks: the reference's long numbers: groups, comparisons, sums, differences, products. -/
import Derived.Test.YtddfimjiihggmaaGreatDoorB9
set_option maxHeartbeats 16000000
set_option maxRecDepth 20000
namespace Go.Proofs.YtddfimjiihggmaaGreatDoor
open Go.RowKit Px
variable {r : Nat}
abbrev dJ (x : Nat) : List DV := [dI x]
abbrev dJm (b : Bool) (l : List Nat) : List DV := [dB b, .sl 1 (l.map dJ)]
theorem Ni (l : List Nat) (i : Nat) : PCalls Tryz.prog 263 [.sl 1 (l.map dJ), dI i] (.d (dI (S4 l i))) := by
 refine M0 Tryz.func263 V Tryz.ntmps263 Tryz.results263 fun B w0 => ?_
 rcases D6 i l.length with h | h
 · have t1 : decide ((i : Int) < ((l.map dJ).length : Int)) = true := B1 (by rw [A8]; omega)
   obtain ⟨x, hx⟩ := DL h
   have ex := ix dJ l i i x rfl hx
   rw [V7 hx]
   refine E5 (A9 V (H2 V (B4 V (yN V (I3 V (B3 (L8 t1 V (H9 V (B4 V (L6 ex V (K8 V V (A9 V (C4 (A6 ?_))))))))))))))
   exact M8 V V
 · have t1 : decide ((i : Int) < ((l.map dJ).length : Int)) = false := A7 (by rw [A8]; omega)
   rw [EO h]
   refine E5 (A9 V (H2 V (B4 V (yN V (I3 V (B3 (O1 t1 V (B2 (E5 (A9 V (C4 ?_)))))))))))
   exact M8 V V
theorem Sl (l : List Nat) (hl : l.length ≤ 1000000) : PCalls Tryz.prog 264 [.sl 1 (l.map dJ)] (.d (.sl 1 ((T6 l).map dJ))) := by
 obtain ⟨r, hr⟩ := I0 (T6 l)
 rw [← hr]
 refine M0 Tryz.func264 V Tryz.ntmps264 Tryz.results264 fun B w0 => ?_
 refine E5 (A9 V (B0 (B8 ?_))); refine I1 (fun n : Nat => ⟨21, [(0, .d (.sl 1 ((l.take n).map dJ)))], [], []⟩) (fun n => n ≤ l.length ∧ T6 (l.take n) = r) (fun n => n) l.length ⟨D9 _, by rw [I6, hr]⟩
  ⟨rfl, ⟨.of_eq (by rw [I6]; rfl), D5⟩, D5, D5, rfl⟩ ?_
 rintro n ⟨hn, hc⟩
 have hlen : (l.take n).length = n := by rw [E4]; omega
 have K9 : ∀ x, (l.take n)[n - 1]? = some x → 0 < n → l.take n = l.take (n - 1) ++ [x] := fun x hx h0 => by
  obtain ⟨m, rfl⟩ : ∃ m, n = m + 1 := ⟨n - 1, by omega⟩
  rw [E0 (by omega)] at hx
  rw [G8, Nat.add_sub_cancel] at *
  rw [hx]; rfl
 have Af : ((l.take n).map dJ).take (((n - 1 : Nat) : Int)).toNat = (l.take (n - 1)).map dJ := by
  rw [H0, ← List.map_take, List.take_take, Nat.min_eq_left (by omega)]
 obtain ⟨c, hcc⟩ := I0 (l.take n)
 rw [← hcc] at hc hlen K9 Af ⊢
 rcases H1 n with h0 | h0
 · have hc0 : c = [] := List.length_eq_zero_iff.1 (by omega)
   subst hc0
   have FE : r = [] := hc.symm
   subst FE
   refine H2 V (yN V (F9 V (B4 V (L4 V V (L4 V V (L4 V V (yO V (L3 V V (yQ (F4 V (F8 (H9 V (A9 V (C4 ?_))))))))))))))
   exact M8 V V
 have u1 : decide (((c.map dJ).length : Int) > 0) = true := B1 (by rw [A8]; omega)
 obtain ⟨x, hx⟩ : ∃ x, c[n - 1]? = some x := ⟨_, A4 (by omega)⟩
 have ex := ix dJ c ((n - 1 : Nat) : Int) (n - 1) x rfl hx
 have hw : IntKind.i64.wrap (((c.map dJ).length : Int) - 1) = ((n - 1 : Nat) : Int) := by rw [A8, J0 _ (by omega)]; omega
 have DC : ((n - 1 : Nat) : Int) ≤ ((c.map dJ).length : Int) := by rw [A8]; omega
 have hs := K9 x hx h0
 have hcs := KK (l.take (n - 1)) x
 rw [← hs, hc] at hcs
 rcases H1 x with JC | JC
 · subst JC
   rw [B9 rfl] at hcs
   refine H2 V (yN V (F9 V (B4 V ?_))); rw [u1]; refine B4 V (B4 V (yN V (F9 V ?_))); rw [hw]; refine yW ex (by omega) V V (K8 V V (F9 V (L2 V V (yQ (G4 V (B2 (B8 (B6 (B4 V (B4 V (yN V (F9 V ?_)))))))))))); rw [hw]; refine yDh (by omega) DC V V (A9 V (BT (B3 ?_)))
   exact ⟨n - 1, ⟨by omega, hcs.symm⟩, by omega, rfl, ⟨.of_eq (by rw [← Af]; rfl), D5⟩, D5, D5, rfl⟩
 · rw [B5 (by omega)] at hcs
   have u2 : ((x : Int) == 0) = false := by simp; omega
   refine H2 V (yN V (F9 V (B4 V ?_))); rw [u1]; refine B4 V (B4 V (yN V (F9 V ?_))); rw [hw]; refine yW ex (by omega) V V (K8 V V (F9 V (L2 V V (yQ (B3 (O1 u2 V (F8 (H9 V (A9 V (C4 ?_))))))))))
   rw [hcs]
   exact M8 V V
def UG (l r : List Nat) : Int := if l.length < r.length then -1 else if r.length < l.length then 1 else Fz l r l.length
theorem ordR_ge (x y : Nat) : (0 ≤ UG (N6 x) (N6 y)) ↔ y ≤ x := by
 unfold UG
 by_cases h1 : (N6 x).length < (N6 y).length
 · rw [B9 h1]
   have := V4 h1
   omega
 · rw [B5 h1]
   by_cases h2 : (N6 y).length < (N6 x).length
   · rw [B9 h2]
     have := V4 h2
     omega
   · rw [B5 h2, KM (N9 x) (N9 y), D8 (D9 _), D8 (by omega), N3, N3]
     split
     · omega
     · split <;> omega
theorem wOrder (l r : List Nat) (hl : l.length ≤ 1000000) : PCalls Tryz.prog 241 [.sl 1 (l.map dJ), .sl 1 (r.map dJ)] (.d (dI (UG l r))) := by
 unfold UG
 by_cases h1 : l.length < r.length
 · rw [B9 h1]
   have u1 : (((l.map dJ).length : Int) != ((r.map dJ).length : Int)) = true := by simp; omega
   have u2 : decide (((l.map dJ).length : Int) < ((r.map dJ).length : Int)) = true := B1 (by simp; omega)
   refine M0 Tryz.func241 V Tryz.ntmps241 Tryz.results241 fun B w0 => ?_
   refine E5 (A9 V (H2 V (yN V (B4 V (yN V (I3 V (B3 (L8 u1 V (H2 V (yN V (B4 V (yN V (I3 V (B3 (L8 u2 V (E5 (A9 V (C4 (A6 (A6 ?_))))))))))))))))))))
   exact M8 V V
 rw [B5 h1]
 by_cases h2 : r.length < l.length
 · rw [B9 h2]
   have u1 : (((l.map dJ).length : Int) != ((r.map dJ).length : Int)) = true := by simp; omega
   have u2 : decide (((l.map dJ).length : Int) < ((r.map dJ).length : Int)) = false := A7 (by simp; omega)
   refine M0 Tryz.func241 V Tryz.ntmps241 Tryz.results241 fun B w0 => ?_
   refine E5 (A9 V (H2 V (yN V (B4 V (yN V (I3 V (B3 (L8 u1 V (H2 V (yN V (B4 V (yN V (I3 V (B3 (O1 u2 V (B2 (E5 (A9 V (C4 (A6 ?_))))))))))))))))))))
   exact M8 V V
 rw [B5 h2]
 have hlr : l.length = r.length := by omega
 have u1 : (((l.map dJ).length : Int) != ((r.map dJ).length : Int)) = false := by simp; omega
 obtain ⟨z, hz⟩ := I0 (Fz l r l.length)
 rw [← hz]
 have hw : IntKind.i64.wrap (((l.map dJ).length : Int) - 1) = (l.length : Int) - 1 := by rw [A8, J0 _ (by omega)]
 refine M0 Tryz.func241 V Tryz.ntmps241 Tryz.results241 fun B w0 => ?_
 refine E5 (A9 V (H2 V (yN V (B4 V (yN V (I3 V (B3 (O1 u1 V (B2 (H2 V (yN V (F9 V (A9 V (B8 ?_)))))))))))))); rw [hw]
 refine I1 (fun i : Nat => ⟨41, [(0, .d (.sl 1 (l.map dJ))), (1, .d (.sl 1 (r.map dJ))), (5, .d (dI ((i : Int) - 1)))], [], []⟩) (fun i => i ≤ l.length ∧ Fz l r i = z) (fun i => i) l.length ⟨D9 _, hz.symm⟩
  ⟨rfl, ⟨F5, F5, F5, D5⟩, D5, D5, rfl⟩ ?_
 rintro i ⟨hi, hc⟩
 rcases H1 i with h0 | h0
 · subst h0
   have hz0 : z = 0 := hc.symm
   subst hz0
   have u2 : decide (((0 : Nat) : Int) - 1 ≥ 0) = false := A7 (by omega)
   refine H2 V (I3 V (F4 V (F8 (E5 (A9 V (C4 ?_)))))); rw [u2]
   exact M8 V V
 obtain ⟨j, rfl⟩ : ∃ j, i = j + 1 := ⟨i - 1, by omega⟩
 have u2 : decide (((j + 1 : Nat) : Int) - 1 ≥ 0) = true := B1 (by omega)
 obtain ⟨x, hx⟩ : ∃ x, l[j]? = some x := ⟨_, A4 (by omega)⟩
 obtain ⟨y, hy⟩ : ∃ y, r[j]? = some y := ⟨_, A4 (by omega)⟩
 have ex := ix dJ l (((j + 1 : Nat) : Int) - 1) j x (by omega) hx
 have ey := ix dJ r (((j + 1 : Nat) : Int) - 1) j y (by omega) hy
 have hn := KN j hx hy
 rw [hc] at hn
 have HH : IntKind.i64.wrap (((j + 1 : Nat) : Int) - 1 - 1) = (j : Int) - 1 := by rw [J0 _ (by omega)]; omega
 by_cases Mc : x < y
 · rw [B9 Mc] at hn
   have u3 : decide ((x : Int) < (y : Int)) = true := B1 (by omega)
   subst hn
   refine H2 V (I3 V (B3 (L8 u2 V (B2 (B0 (B8 (B0 (B0 ?_)))))))); refine J2 Tryz.mixed (by kernel_rfl) ?_; refine B4 V (B4 V (yW ex (by omega) V V (K8 V V (B4 V (B4 V (yW ey (by omega) V V (K8 V V (I3 V (B3 (L8 u3 V (E5 (A9 V (C4 (A6 (C3 (A6 (A6 (C3 (A6 ?_)))))))))))))))))))
   exact M8 V V
 rw [B5 Mc] at hn
 have u3 : decide ((x : Int) < (y : Int)) = false := A7 (by omega)
 by_cases hyx : y < x
 · rw [B9 hyx] at hn
   have u4 : decide ((x : Int) > (y : Int)) = true := B1 (by omega)
   subst hn
   refine H2 V (I3 V (B3 (L8 u2 V (B2 (B0 (B8 (B0 (B0 ?_)))))))); refine J2 Tryz.mixed (by kernel_rfl) ?_; refine B4 V (B4 V (yW ex (by omega) V V (K8 V V (B4 V (B4 V (yW ey (by omega) V V (K8 V V (I3 V (B3 (O1 u3 V (B2 (B0 ?_)))))))))))); refine J2 Tryz.mixed (by kernel_rfl) ?_; refine B4 V (B4 V (yW ex (by omega) V V (K8 V V (B4 V (B4 V (yW ey (by omega) V V (K8 V V (I3 V (B3 (L8 u4 V (E5 (A9 V (C4 (C3 (A6 (A6 (C3 (A6 ?_))))))))))))))))))
   exact M8 V V
 rw [B5 hyx] at hn
 have u4 : decide ((x : Int) > (y : Int)) = false := A7 (by omega)
 refine H2 V (I3 V (B3 (L8 u2 V (B2 (B0 (B8 (B0 (B0 ?_)))))))); refine J2 Tryz.mixed (by kernel_rfl) ?_; refine B4 V (B4 V (yW ex (by omega) V V (K8 V V (B4 V (B4 V (yW ey (by omega) V V (K8 V V (I3 V (B3 (O1 u3 V (B2 (B0 ?_)))))))))))); refine J2 Tryz.mixed (by kernel_rfl) ?_; refine B4 V (B4 V (yW ex (by omega) V V (K8 V V (B4 V (B4 V (yW ey (by omega) V V (K8 V V (I3 V (B3 (O1 u4 V (B2 (B6 (B4 V (F9 V (A9 V (B3 ?_)))))))))))))))); rw [HH]
 exact ⟨j, ⟨by omega, hn.symm⟩, by omega, rfl, ⟨F5, F5, F5, D5⟩, D5, D5, rfl⟩
abbrev jT (n : Nat) : Nat := 3 * 100000 + n
theorem WD {m n : List Nat} (hm : gok m) (hn : gok n) {i : Nat} (h1 : m.length ≤ i) (h2 : n.length ≤ i) (h3 : (Q4 m n i).2 = 0) : gok (Q4 m n i).1 ∧ K4 (Q4 m n i).1 = K4 m + K4 n := by
 obtain ⟨-, q1, -, q2⟩ := As hm hn i
 rw [h3, D8 h1, D8 h2] at q2
 exact ⟨q1, by omega⟩
theorem wPlusJ (m n : List Nat) (hgm : gok m) (hgn : gok n) (hlm : m.length ≤ 100000) (QH : n.length ≤ 100000) : PCalls Tryz.prog 240 [.sl 1 (m.map dJ), .sl 1 (n.map dJ)] (.d (.sl 1 ((N6 (K4 m + K4 n)).map dJ))) := by
 obtain ⟨r, hr⟩ := I0 (N6 (K4 m + K4 n))
 rw [← hr]
 have VI : ((m.map dJ).length : Int) = (m.length : Int) := by simp
 have JE : ((n.map dJ).length : Int) = (n.length : Int) := by simp
 refine M0 Tryz.func240 V Tryz.ntmps240 Tryz.results240 fun B w0 => ?_
 refine E5 (A9 V (E5 (yRt (E := 3) (t := jT 9) (es := []) V V V V V V V V (Cj V (yQ (E5 (A9 V (B0 (E5 (A9 V (B8 ?_))))))))))); refine I1 (fun i : Nat => ⟨44, [(0, .d (.sl 1 (m.map dJ))), (1, .d (.sl 1 (n.map dJ))), (5, .ts (jT 9) 1 ((Q4 m n i).1.map dJ)), (6, .d (dI (Q4 m n i).2)), (7, .d (dI i))], [], [(jT 9, ((Q4 m n i).1.map dJ).length)]⟩) (fun i => i ≤ max m.length n.length + 1 ∧ (i = max m.length n.length + 1 → (Q4 m n i).2 = 0)) (fun i => max m.length n.length + 1 - i) 0 ⟨E8 _, fun h => by omega⟩
  ⟨rfl, ⟨F5, F5, F5, F5, F5, D5⟩, D5, ⟨rfl, D5⟩, rfl⟩ ?_
 rintro i ⟨hi, X3⟩
 obtain ⟨h1, h2, h3, -⟩ := As hgm hgn i
 have hend := WD hgm hgn (i := i)
 have K9 := GH m n i
 obtain ⟨⟨p, c⟩, hp⟩ := I0 (Q4 m n i)
 rw [← hp] at h1 h2 h3 K9 X3 hend ⊢
 simp only at h1 h2 h3 K9 X3 hend ⊢
 have step : (i < m.length ∨ i < n.length ∨ 0 < c) → ∀ b : Bool, True := fun _ _ => trivial
 clear step
 have k1 := Ni m i
 have k2 := Ni n i
 have g1 := CT hgm i
 have g2 := CT hgn i
 have gm0 : m.length ≤ i → S4 m i = 0 := fun h => EO h
 have gn0 : n.length ≤ i → S4 n i = 0 := fun h => EO h
 obtain ⟨x, hx⟩ := I0 (S4 m i)
 obtain ⟨y, hy⟩ := I0 (S4 n i)
 rw [← hx] at k1 g1 gm0 K9
 rw [← hy] at k2 g2 gn0 K9
 have w1 : IntKind.i64.wrap ((x : Int) + (y : Int)) = ((x + y : Nat) : Int) := by rw [J0 _ (by omega)]; omega
 have w2 : IntKind.i64.wrap (((x + y : Nat) : Int) + (c : Int)) = ((x + y + c : Nat) : Int) := by rw [J0 _ (by omega)]; omega
 have hsw : x + c + y = x + y + c := by omega
 rw [hsw] at K9
 obtain ⟨s, hs⟩ := I0 (x + y + c)
 rw [← hs] at w2 K9
 have wq : IntKind.i64.wrap ((s : Int).tdiv 1000000000) = ((s / 1000000000 : Nat) : Int) := J0 (((s / 1000000000 : Nat)) : Int) (by omega)
 have w12 : IntKind.i64.wrap ((x : Int) + (y : Int) + (c : Int)) = (s : Int) := by rw [J0 _ (by omega)]; omega
 have LG := J0 ((i : Int) + 1) (by omega)
 have hcar : i = max m.length n.length → s / 1000000000 = 0 := fun e => by
  have := gm0 (by omega)
  have := gn0 (by omega)
  omega
 have BN : p.length ≤ 1000000 := by omega
 rcases D6 i m.length with hm2 | hm2
 · have t1 : decide ((i : Int) < ((m.map dJ).length : Int)) = true := B1 (by rw [A8]; omega)
   refine H2 V (B4 V (yN V (F9 V (B4 V ?_)))); rw [t1]; refine L4 V V (L4 V V (L2 V V (B4 V (L4 V V (L2 V V (yQ (G4 V (B2 (B0 (B8 (H9 V (B4 V (yC (k1) V V (B4 V (B4 V (yC (k2) V V (F9 V (B4 V (F9 V (A9 V (E5 (Bk V (B4 V (F9 V ?_)))))))))))))))))))))))); refine yR (es := [[_]]) V V V V V ?_; refine yT (es' := (p ++ [s % 1000000000]).map dJ) (m := ((p ++ [s % 1000000000]).map dJ).length) (by simp; omega) (by simp; omega) V V V V V (by simp [w1, w12] <;> rfl) (by simp) ?_; refine Cj V (yQ (B6 (B4 V (F9 V (A9 V (B6 (B4 V (F9 V (A9 V (B3 ?_)))))))))); rw [w1]
   rw [w2]; rw [wq]
   exact ⟨i + 1, ⟨by omega, fun e => by rw [K9]; exact hcar (by omega)⟩, by omega, rfl, ⟨F5, F5, .of_eq (by rw [K9] <;> rfl), .of_eq (by rw [K9] <;> rfl), Q7 LG, D5⟩, D5, ⟨(by rw [K9] <;> rfl), D5⟩, rfl⟩
 have t1 : decide ((i : Int) < ((m.map dJ).length : Int)) = false := A7 (by rw [A8]; omega)
 rcases D6 i n.length with Eb | Eb
 · have t2 : decide ((i : Int) < ((n.map dJ).length : Int)) = true := B1 (by rw [A8]; omega)
   refine H2 V (B4 V (yN V (F9 V (B4 V ?_)))); rw [t1]; refine B4 V (B4 V (yN V (F9 V (L3 V V (B4 V ?_))))); rw [t2]; refine L4 V V (L2 V V (yQ (G4 V (B2 (B0 (B8 (H9 V (B4 V (yC (k1) V V (B4 V (B4 V (yC (k2) V V (F9 V (B4 V (F9 V (A9 V (E5 (Bk V (B4 V (F9 V ?_)))))))))))))))))))); refine yR (es := [[_]]) V V V V V ?_; refine yT (es' := (p ++ [s % 1000000000]).map dJ) (m := ((p ++ [s % 1000000000]).map dJ).length) (by simp; omega) (by simp; omega) V V V V V (by simp [w1, w12] <;> rfl) (by simp) ?_; refine Cj V (yQ (B6 (B4 V (F9 V (A9 V (B6 (B4 V (F9 V (A9 V (B3 ?_)))))))))); rw [w1]
   rw [w2]; rw [wq]
   exact ⟨i + 1, ⟨by omega, fun e => by rw [K9]; exact hcar (by omega)⟩, by omega, rfl, ⟨F5, F5, .of_eq (by rw [K9] <;> rfl), .of_eq (by rw [K9] <;> rfl), Q7 LG, D5⟩, D5, ⟨(by rw [K9] <;> rfl), D5⟩, rfl⟩
 have t2 : decide ((i : Int) < ((n.map dJ).length : Int)) = false := A7 (by rw [A8]; omega)
 rcases H1 c with hc | hc
 · subst hc
   have k3 := Sl p (by omega)
   obtain ⟨e1, e2⟩ := hend hm2 Eb rfl
   rw [NC e1, e2, ← hr] at k3
   refine H2 V (B4 V (yN V (F9 V (B4 V ?_)))); rw [t1]; refine B4 V (B4 V (yN V (F9 V (L3 V V (B4 V ?_))))); rw [t2]; refine B4 V (F9 V (L3 V V (yQ (F4 V (F8 (E5 (Bk V (yC (k3) V V (A9 V (C4 ?_))))))))))
   exact M8 V V
 · have t3 : decide ((c : Int) > 0) = true := B1 (by omega)
   have Ec : i = max m.length n.length := by
    rcases D6 i (max m.length n.length + 1) with h | h
    · omega
    · have := X3 (by omega); omega
   refine H2 V (B4 V (yN V (F9 V (B4 V ?_)))); rw [t1]; refine B4 V (B4 V (yN V (F9 V (L3 V V (B4 V ?_))))); rw [t2]; refine B4 V (F9 V (L3 V V (yQ (B3 (L8 t3 V (B2 (B0 (B8 (H9 V (B4 V (yC (k1) V V (B4 V (B4 V (yC (k2) V V (F9 V (B4 V (F9 V (A9 V (E5 (Bk V (B4 V (F9 V ?_)))))))))))))))))))))); refine yR (es := [[_]]) V V V V V ?_; refine yT (es' := (p ++ [s % 1000000000]).map dJ) (m := ((p ++ [s % 1000000000]).map dJ).length) (by simp; omega) (by simp; omega) V V V V V (by simp [w1, w12] <;> rfl) (by simp) ?_; refine Cj V (yQ (B6 (B4 V (F9 V (A9 V (B6 (B4 V (F9 V (A9 V (B3 ?_)))))))))); rw [w1]
   rw [w2]; rw [wq]
   exact ⟨i + 1, ⟨by omega, fun e => by rw [K9]; exact hcar Ec⟩, by omega, rfl, ⟨F5, F5, .of_eq (by rw [K9] <;> rfl), .of_eq (by rw [K9] <;> rfl), Q7 LG, D5⟩, D5, ⟨(by rw [K9] <;> rfl), D5⟩, rfl⟩
theorem PJ (m n : List Nat) (hgm : gok m) (hgn : gok n) (hle : n.length ≤ m.length) (hv : K4 n ≤ K4 m) (hlm : m.length ≤ 100000) : PCalls Tryz.prog 242 [.sl 1 (m.map dJ), .sl 1 (n.map dJ)] (.d (.sl 1 ((N6 (K4 m - K4 n)).map dJ))) := by
 obtain ⟨r, hr⟩ := I0 (N6 (K4 m - K4 n))
 rw [← hr]
 obtain ⟨s1, s2⟩ := Ly hgm hgn hle hv
 refine M0 Tryz.func242 V Tryz.ntmps242 Tryz.results242 fun B w0 => ?_
 refine E5 (A9 V (E5 (yRt (E := 3) (t := jT 9) (es := []) V V V V V V V V (Cj V (yQ (E5 (A9 V (B0 (E5 (A9 V (B8 ?_))))))))))); refine I1 (fun i : Nat => ⟨36, [(0, .d (.sl 1 (m.map dJ))), (1, .d (.sl 1 (n.map dJ))), (5, .ts (jT 9) 1 ((R8 m n i).1.map dJ)), (6, .d (dI (R8 m n i).2)), (7, .d (dI i))], [], [(jT 9, ((R8 m n i).1.map dJ).length)]⟩) (fun i => i ≤ m.length) (fun i => m.length - i) 0 (E8 _)
  ⟨rfl, ⟨F5, F5, F5, F5, F5, D5⟩, D5, ⟨rfl, D5⟩, rfl⟩ ?_
 intro i hi
 obtain ⟨h1, h2, h3, -⟩ := An hgm hgn i
 have K9 := Jm m n i
 rcases D6 i m.length with Ec | Ec
 rotate_left
 · obtain rfl : i = m.length := by omega
   have t1 : decide ((m.length : Int) < ((m.map dJ).length : Int)) = false := A7 (by rw [A8]; omega)
   have k3 := Sl (R8 m n m.length).1 (by omega)
   rw [NC s1, s2, ← hr] at k3
   obtain ⟨⟨p, c⟩, hp⟩ := I0 (R8 m n m.length)
   rw [← hp] at k3 ⊢
   refine H2 V (B4 V (yN V (I3 V (B3 (O1 t1 V (F8 (E5 (Bk V (yC (k3) V V (A9 V (C4 ?_)))))))))))
   exact M8 V V
 obtain ⟨⟨p, c⟩, hp⟩ := I0 (R8 m n i)
 rw [← hp] at h1 h2 h3 K9 ⊢
 simp only at h1 h2 h3 K9 ⊢
 have t1 : decide ((i : Int) < ((m.map dJ).length : Int)) = true := B1 (by rw [A8]; omega)
 have k2 := Ni n i
 obtain ⟨x, hx⟩ := DL Ec
 have ex := ix dJ m (i : Int) i x rfl hx
 have g1 : x < 1000000000 := hgm x (C0 hx)
 have g2 := CT hgn i
 rw [V7 hx] at K9
 obtain ⟨y, hy⟩ := I0 (S4 n i)
 rw [← hy] at k2 g2 K9
 have w1 : IntKind.i64.wrap ((x : Int) - (y : Int)) = (x : Int) - (y : Int) := J0 _ (by omega)
 have w2 : IntKind.i64.wrap ((x : Int) - (y : Int) - (c : Int)) = (x : Int) - (y : Int) - (c : Int) := J0 _ (by omega)
 have LG := J0 ((i : Int) + 1) (by omega)
 have BN : p.length ≤ 1000000 := by omega
 by_cases hlt : x < c + y
 · rw [B9 hlt] at K9
   have t2 : decide ((x : Int) - (y : Int) - (c : Int) < 0) = true := B1 (by omega)
   have w3 : IntKind.i64.wrap ((x : Int) - (y : Int) - (c : Int) + 1000000000) = ((x + 1000000000 - (c + y) : Nat) : Int) := by rw [J0 _ (by omega)]; omega
   obtain ⟨v, Ea⟩ := I0 (x + 1000000000 - (c + y))
   rw [← Ea] at w3 K9
   refine H2 V (B4 V (yN V (I3 V (B3 (L8 t1 V (B2 (B0 (B8 (B0 ?_))))))))); refine J2 Tryz.mixed (by kernel_rfl) ?_; refine B4 V (B4 V (yW ex (by omega) V V (K8 V V (B4 V (B4 V (yC (k2) V V (F9 V (B4 V (F9 V (A9 V (E5 (A9 V (H2 V (I3 V (B3 ?_))))))))))))))); rw [w1]; rw [w2]; rw [t2]; refine G4 V (H9 V (F9 V (A9 V (B6 (A9 V (B6 (Bk V (B4 V ?_)))))))); refine yR (es := [[_]]) V V V V V ?_; refine yT (es' := (p ++ [v]).map dJ) (m := ((p ++ [v]).map dJ).length) (by simp; omega) (by simp; omega) V V V V V (by simp [w3]) (by simp) ?_; refine Cj V (yQ (B6 (B4 V (F9 V (A9 V (B3 ?_)))))); rw [w3]
   exact ⟨i + 1, by omega, by omega, rfl, ⟨F5, F5, .of_eq (by rw [K9] <;> rfl), .of_eq (by rw [K9] <;> rfl), Q7 LG, D5⟩, D5, ⟨(by rw [K9] <;> rfl), D5⟩, rfl⟩
 · rw [B5 hlt] at K9
   have t2 : decide ((x : Int) - (y : Int) - (c : Int) < 0) = false := A7 (by omega)
   have w3 : (x : Int) - (y : Int) - (c : Int) = ((x - (c + y) : Nat) : Int) := by omega
   obtain ⟨v, Ea⟩ := I0 (x - (c + y))
   rw [← Ea] at w3 K9
   have w2 := w2.trans w3
   rw [w3] at t2
   refine H2 V (B4 V (yN V (I3 V (B3 (L8 t1 V (B2 (B0 (B8 (B0 ?_))))))))); refine J2 Tryz.mixed (by kernel_rfl) ?_; refine B4 V (B4 V (yW ex (by omega) V V (K8 V V (B4 V (B4 V (yC (k2) V V (F9 V (B4 V (F9 V (A9 V (E5 (A9 V (H2 V (I3 V (B3 ?_))))))))))))))); rw [w1]; rw [w2]; refine F4 V (B2 (B6 (Bk V (B4 V ?_)))); refine yR (es := [[_]]) V V V V V ?_; refine yT (es' := (p ++ [v]).map dJ) (m := ((p ++ [v]).map dJ).length) (by simp; omega) (by simp; omega) V V V V V (by simp) (by simp) ?_; refine Cj V (yQ (B6 (B4 V (F9 V (A9 V (B3 ?_)))))); rw [t2]
   exact ⟨i + 1, by omega, by omega, rfl, ⟨F5, F5, .of_eq (by rw [K9] <;> rfl), .of_eq (by rw [K9] <;> rfl), Q7 LG, D5⟩, D5, ⟨(by rw [K9] <;> rfl), D5⟩, rfl⟩
structure MulOk (m n : List Nat) (i : Nat) (O : List Nat) : Prop where
 len : O.length = m.length + n.length
 ok : gok O
 val : K4 O = K4 (m.take i) * K4 n
 hi : ∀ j, i + n.length ≤ j → S4 O j = 0
theorem MulOk.zero (m n : List Nat) : MulOk m n 0 (List.replicate (m.length + n.length) 0) :=
 ⟨by simp, fun x hx => by rw [List.eq_of_mem_replicate hx]; omega, by simp [Oe, K4], fun j _ => by
  simp only [S4, List.getElem?_replicate]
  split <;> rfl⟩
theorem MulOk.next {m n O : List Nat} {i x k : Nat} (h : MulOk m n i O) (hm : gok m) (hn : gok n) (hx : m[i]? = some x) (hk : n.length ≤ k) (VK : k ≤ n.length + 1) (hc : (Cu O x n i k).2 = 0) (hi : i < m.length) : MulOk m n (i + 1) (Cu O x n i k).1 := by
 have hx9 : x < 1000000000 := hm x (C0 hx)
 obtain ⟨q1, q2, -, q4, q5⟩ := RQ (i := i) h.ok hn hx9 k (by rw [h.len]; omega)
 rw [hc, D8 hk, Nat.mul_zero, Nat.add_zero] at q4
 refine ⟨q1.trans h.len, q2, ?_, fun j hj => ?_⟩
 · rw [q4, h.val, X6, V7 hx, Nat.add_mul, Nat.mul_assoc]
 · rw [q5 j (by omega)]
   exact h.hi j (by omega)
theorem QT (h : r < 10) : Utf8.encode (48 + (r : Int)) = ByteArray.mk ([dig r] : F6).toArray := by
 have : r = 0 ∨ r = 1 ∨ r = 2 ∨ r = 3 ∨ r = 4 ∨ r = 5 ∨ r = 6 ∨ r = 7 ∨ r = 8 ∨ r = 9 := by omega
 rcases this with rfl | rfl | rfl | rfl | rfl | rfl | rfl | rfl | rfl | rfl <;> rfl
theorem Si (h : r < 10) : IntKind.i32.wrap (48 + (r : Int)) = 48 + (r : Int) := by
 have : r = 0 ∨ r = 1 ∨ r = 2 ∨ r = 3 ∨ r = 4 ∨ r = 5 ∨ r = 6 ∨ r = 7 ∨ r = 8 ∨ r = 9 := by omega
 rcases this with rfl | rfl | rfl | rfl | rfl | rfl | rfl | rfl | rfl | rfl <;> rfl
theorem wROf (n : Int) (h0 : -9223372036854775808 ≤ n) (h1 : n ≤ 9223372036854775807) : PCalls Tryz.prog 206 [dI n] (.d (dS (J7 n))) := by
 refine M0 Tryz.func206 V Tryz.ntmps206 Tryz.results206 fun B w0 => ?_
 cases t1 : (n == 0) with
 | true =>
  have e : n = 0 := by simpa using t1
  subst e
  rw [show J7 0 = [] from by unfold J7; simp [O3]]
  refine E5 (A9 V (H2 V (I3 V (G4 V (E5 (A9 V (C4 (A6 ?_))))))))
  exact M8 V V
 | false =>
 have hn : n ≠ 0 := by simpa using t1
 refine E5 (A9 V (H2 V (I3 V (B3 ?_)))); rw [t1]
 refine F4 V (B2 (E5 (A9 V (H2 V (A9 V (B8 ?_)))))); refine I1 (fun p : Nat × F6 => ⟨30, [(0, .d (dI n)), (3, .d (dS p.2)), (4, .d (dI (sg (decide (n < 0)) p.1)))], [], []⟩) (fun p => p.1 ≤ n.natAbs ∧ Ba n.natAbs = Ba p.1 ++ p.2) (fun p => p.1) (n.natAbs, []) ⟨D9 _, by simp⟩ ⟨rfl, ⟨F5, F5, .of_eq (G6 (fun n => SV.d (dI n)) (sg_of n)), D5⟩, D5, D5, rfl⟩ ?_
 rintro ⟨m, t⟩ ⟨hm, ht⟩
 simp only at hm ht
 have hlen : t.length ≤ 20 := by
  have h5 := SI (n := n.natAbs) (by omega)
  rw [ht] at h5
  simp at h5
  omega
 obtain ⟨b, hb⟩ := I0 (decide (n < 0))
 have hq := sg_quo b m
 have hr := sg_rem b m
 simp only [← hb]
 by_cases h2 : m = 0
 · subst h2
   rw [O3, List.nil_append] at ht
   have t2 : (sg b 0 != 0) = false := by cases b <;> rfl
   have hc : J7 n = if n < 0 then 45 :: t else t := by unfold J7; rw [ht]
   by_cases h3 : n < 0
   · have t3 : decide (n < 0) = true := B1 h3
     rw [hc, B9 h3]
     refine H2 V (I3 V (B3 (O1 t2 V (F8 (H2 V (I3 V (B3 (L8 t3 V (B6 (B4 V ?_)))))))))); refine JG (l1 := [45]) (by simp; omega) V V ?_; refine A9 V (H9 V (A9 V (C4 ?_)))
     exact M8 V V
   · have t3 : decide (n < 0) = false := A7 h3
     rw [hc, B5 h3]
     refine H2 V (I3 V (B3 (O1 t2 V (F8 (H2 V (I3 V (B3 (O1 t3 V (B2 (H9 V (A9 V (C4 ?_))))))))))))
     exact M8 V V
 · have t2 : (sg b m != 0) = true := by
    have := (sg_zero b m)
    simp [this, h2]
   have hdec : Ba n.natAbs = Ba (m / 10) ++ (dig (m % 10) :: t) := by rw [ht, Aj h2]; simp
   have OU : m % 10 < 10 := Nat.mod_lt _ (by omega)
   obtain ⟨r, FU⟩ := I0 (m % 10)
   rw [← FU] at hr hdec OU
   have henc := QT OU
   have hw48 : IntKind.i64.wrap (48 + (r : Int)) = 48 + (r : Int) := J0 _ (by omega)
   have hw32 : IntKind.i32.wrap (48 + (r : Int)) = 48 + (r : Int) := Si OU
   have hmu : m / 10 < m := by omega
   have hwq : IntKind.i64.wrap (sg b (m / 10)) = sg b (m / 10) := J0 _ (by unfold sg; cases b <;> simp <;> omega)
   by_cases h3 : sg b r < 0
   · have Aq : b = true := by
      cases b with
      | true => rfl
      | false => unfold sg at h3; simp at h3; omega
     have t3 : decide (sg b r < 0) = true := B1 h3
     have hneg : IntKind.i64.wrap (0 - sg b r) = (r : Int) := by
      rw [Aq]; unfold sg; simp only [if_true]; rw [Int.zero_sub, Int.neg_neg]; exact J0 _ (by omega)
     refine H2 V (I3 V (B3 (L8 t2 V (B2 (B0 (B8 (H9 V (F9 V (A9 V (H2 V (I3 V (B3 ?_)))))))))))); rw [hr]; rw [t3]; refine G4 V (B6 (B4 V (yU V V V (A9 V (B6 (B4 V (F9 V (yJ V ?_)))))))); rw [hneg]; rw [hw48]; rw [hw32]; refine yJs henc V (B4 V ?_); refine JG (l1 := [dig r]) (by simp; omega) V V ?_; refine A9 V (B6 (B4 V (F9 V (A9 V (B3 ?_))))); rw [hq]; rw [hwq]
     refine ⟨(m / 10, dig r :: t), ⟨by simp only; omega, by rw [hdec]⟩, hmu, rfl, ⟨F5, F5, F5, D5⟩, D5, D5, rfl⟩
   · have t3 : decide (sg b r < 0) = false := A7 h3
     have Ic : sg b r = (r : Int) := by
      cases b with
      | false => rfl
      | true => unfold sg at h3 ⊢; simp at h3 ⊢; omega
     refine H2 V (I3 V (B3 (L8 t2 V (B2 (B0 (B8 (H9 V (F9 V (A9 V (H2 V (I3 V (B3 ?_)))))))))))); rw [hr]; rw [t3]; refine F4 V (B2 (B6 (B4 V (F9 V (yJ V ?_))))); rw [Ic]; rw [hw48]; rw [hw32]
     refine yJs henc V (B4 V ?_); refine JG (l1 := [dig r]) (by simp; omega) V V ?_; refine A9 V (B6 (B4 V (F9 V (A9 V (B3 ?_))))); rw [hq]; rw [hwq]
     refine ⟨(m / 10, dig r :: t), ⟨by simp only; omega, by rw [hdec]⟩, hmu, rfl, ⟨F5, F5, F5, D5⟩, D5, D5, rfl⟩
theorem OD {t : F6} (h : t.all U6 = true) (Od : t.length ≤ 17) (i : Nat) : natOf (t.take i) < 100000000000000000 := by
 have h1 : (t.take i).all U6 = true := by
  rw [D7] at h ⊢
  exact fun x hx => h x (List.mem_of_mem_take hx)
 have h2 := BE h1
 have h3 : (10 : Nat) ^ (t.take i).length ≤ 10 ^ 17 := Nat.pow_le_pow_right (by decide) (by rw [E4]; omega)
 have e17 : (10 : Nat) ^ 17 = 100000000000000000 := by decide
 omega
theorem wRShort (a : F6) (ha : a.length ≤ 1000000) (Od : (M5 a).1.length ≤ 17) : PCalls Tryz.prog 205 [dS a] (.tup [dI (val a), dB true]) := by
 have c1 := Ck a (by omega)
 have hD := V8 a
 have hv : val a = if (M5 a).2 then -(natOf (M5 a).1 : Int) else natOf (M5 a).1 := rfl
 obtain ⟨r, hr⟩ := I0 (val a)
 obtain ⟨⟨t, b⟩, ht⟩ := I0 (M5 a)
 rw [← hr] at hv ⊢
 rw [← ht] at c1 hD hv Od
 simp only at c1 hD hv Od
 have hnt := OD hD Od
 have hdv : ∀ (i : Nat) c, t[i]? = some c → 48 ≤ c.toNat ∧ c.toNat ≤ 57 := fun i c hc => by
  rw [D7] at hD
  have := hD c (C0 hc)
  unfold U6 at this
  simpa using this
 clear ht hr
 have u0 : decide ((t.length : Int) > 17) = false := A7 (by omega)
 refine M0 Tryz.func205 V Tryz.ntmps205 Tryz.results205 fun B w0 => ?_
 refine E5 (H5 V (A9 V (H9 V (yC (c1) V V (O6 V (yX V V (yX V V (H5 V (A9 V (H2 V (O2 V (I3 V (B3 ?_)))))))))))))
 rw [u0]; refine F4 V ?_; refine B2 ?_; refine B0 ?_; refine B6 ?_; refine H5 V ?_; refine yQ ?_; refine B0 ?_; refine B0 ?_; refine B6 ?_; refine H5 V ?_; refine yQ ?_; refine B8 ?_
 refine I1 (fun i : Nat => ⟨34, [(4, .d (dS t)), (5, .d (dB b)), (6, .d (dI (natOf (t.take i)))), (7, .d (dI i))], [], []⟩) (fun i => i ≤ t.length) (fun i => t.length - i) 0 (E8 _) ⟨rfl, ⟨F5, F5, F5, F5, D5⟩, D5, D5, V⟩ ?_
 intro i hi
 rcases D6 i t.length with h | h
 · have u1 : decide ((i : Int) < (t.length : Int)) = true := B1 (by omega)
   obtain ⟨c, hc⟩ := DL h
   have hci : t[((i : Int)).toNat]? = some c := by rw [H0]; exact hc
   obtain ⟨d1, d2⟩ := hdv i c hc
   have hn := hnt i
   have K9 : natOf (t.take (i + 1)) = 10 * natOf (t.take i) + dv c := by rw [G8, hc]; exact T5 _ _
   obtain ⟨n, hnn⟩ := I0 (natOf (t.take i))
   rw [← hnn] at hn K9 ⊢
   have w1 : IntKind.i64.wrap (10 * (n : Int)) = 10 * (n : Int) := J0 _ (by omega)
   have w2 : IntKind.u8.wrap ((c.toNat : Int) - 48) = (dv c : Int) := by
    rw [IntKind.wrap_u8]
    unfold dv
    omega
   have hd9 : dv c ≤ 9 := by unfold dv; omega
   have w3 : IntKind.i64.wrap (dv c : Int) = (dv c : Int) := J0 _ (by omega)
   have w4 : IntKind.i64.wrap (10 * (n : Int) + (dv c : Int)) = ((10 * n + dv c : Nat) : Int) := by rw [J0 _ (by omega)]; omega
   have w5 := J0 ((i : Int) + 1) (by omega)
   refine H2 V (B4 V (O2 V (I3 V (B3 (L8 u1 V (B2 (B0 (B8 (B6 (B4 V (F9 V (B4 V (B4 V (U1 hci (by omega) V V (F9 V (yJ V (F9 V (A9 V (B6 (B4 V (F9 V (A9 V (B3 ?_))))))))))))))))))))))); rw [w1]; rw [w2]; rw [w3]; rw [w4]
   exact ⟨i + 1, by omega, by omega, rfl, ⟨F5, F5, .of_eq (by rw [K9]; rfl), Q7 w5, D5⟩, D5, D5, rfl⟩
 have u1 : decide ((i : Int) < (t.length : Int)) = false := A7 (by omega)
 have hn := hnt i
 obtain rfl : i = t.length := by omega
 rw [I6] at hn ⊢
 cases b with
 | true =>
  rw [B9 rfl] at hv
  have w1 : IntKind.i64.wrap (0 - (natOf t : Int)) = -(natOf t : Int) := by rw [J0 _ (by omega)]; omega
  refine H2 V (B4 V (O2 V (I3 V (B3 (O1 u1 V (F8 (H2 V (yQ (G4 V (B6 (B4 V (yU V V V (A9 V (H9 V (H5 V (A9 V (C4 ?_))))))))))))))))); rw [w1]
  rw [hv]
  exact Az V V V
 | false =>
  rw [B5 (by decide)] at hv
  refine H2 V (B4 V (O2 V (I3 V (B3 (O1 u1 V (F8 (H2 V (yQ (F4 V (B2 (H9 V (H5 V (A9 V (C4 ?_))))))))))))))
  rw [hv]
  exact Az V V V
theorem wRNeg (a : F6) (ha : a.length ≤ 1000000) : PCalls Tryz.prog 137 [dS a] (.d (dS (J7 (-val a)))) := by
 have c1 := Ck a (by omega)
 have hv : val a = if (M5 a).2 then -(natOf (M5 a).1 : Int) else natOf (M5 a).1 := rfl
 have hd : Ba (natOf (M5 a).1) = (M5 a).1 := DY (V8 a) (DG a)
 have QL : (M5 a).2 = true → (M5 a).1 ≠ [] := LQ
 have hl : (M5 a).1.length ≤ 1000000 := by
  have hb : (Bj a).length ≤ a.length := by unfold Bj; split <;> simp
  have h2 : (M5 a).1.length ≤ a.length := by
   unfold M5
   split
   · exact F3 (List.dropWhile_suffix _).length_le hb
   · simp
  omega
 obtain ⟨r, hr⟩ := I0 (J7 (-val a))
 obtain ⟨⟨t, b⟩, ht⟩ := I0 (M5 a)
 rw [← hr]
 rw [← ht] at c1 hv hd QL hl
 simp only at c1 hv hd QL hl
 refine M0 Tryz.func137 V Tryz.ntmps137 Tryz.results137 fun B w0 => ?_
 cases b with
 | true =>
  rw [B9 rfl] at hv
  have : r = t := by
   rw [hr, hv, Int.neg_neg]
   unfold J7
   rw [B5 (by omega), Int.natAbs_natCast, hd]
  rw [this]
  refine E5 (A9 V (H9 V (yC (c1) V V (O6 V (yX V V (yX V V (H5 V (A9 V (H2 V (B4 V (L4 V V (L2 V V (yQ (G4 V (H9 V (A9 V (C4 (A6 ?_))))))))))))))))))
  exact M8 V V
 | false =>
  rw [B5 (by decide)] at hv
  cases t with
  | nil =>
   have : r = [] := by
    rw [hr, hv]
    exact U4
   rw [this]
   refine E5 (A9 V (H9 V (yC (c1) V V (O6 V (yX V V (yX V V (H5 V (A9 V (H2 V (B4 V (B4 V (N7 V V (L3 V V (yQ (G4 V (H9 V (A9 V (C4 (A6 ?_)))))))))))))))))))
   exact M8 V V
  | cons x l =>
   have AR : natOf (x :: l) ≠ 0 := fun e => by
    rw [e, O3] at hd
    cases hd
   have : r = [45] ++ (x :: l) := by
    rw [hr, hv]
    unfold J7
    rw [B9 (by omega), Int.natAbs_neg, Int.natAbs_natCast, hd]
    rfl
   rw [this]
   refine E5 (A9 V (H9 V (yC (c1) V V (O6 V (yX V V (yX V V (H5 V (A9 V (H2 V (B4 V (B4 V (N7 V V (L3 V V (yQ (F4 V (B2 (H9 V ?_))))))))))))))))); refine JG (l1 := [45]) (l2 := x :: l) (by simp only [List.length_cons, List.length_nil] at hl ⊢; omega) rfl rfl ?_; refine A9 V (C4 ?_)
   exact M8 V V
theorem Sr (a : F6) (ha : a.length ≤ 1000000) (Od : 17 < (M5 a).1.length) : PCalls Tryz.prog 205 [dS a] (.tup [dI 0, dB false]) := by
 have c1 := Ck a (by omega)
 obtain ⟨⟨t, b⟩, ht⟩ := I0 (M5 a)
 rw [← ht] at c1 Od
 simp only at c1 Od
 have u0 : decide ((t.length : Int) > 17) = true := B1 (by omega)
 refine M0 Tryz.func205 V Tryz.ntmps205 Tryz.results205 fun B w0 => ?_
 refine E5 (H5 V (A9 V (H9 V (yC (c1) V V (O6 V (yX V V (yX V V (H5 V (A9 V (H2 V (O2 V (I3 V (B3 ?_)))))))))))))
 rw [u0]; refine G4 V ?_; refine B0 ?_; refine B6 ?_; refine H5 V ?_; refine H5 V ?_; refine yQ ?_; refine C4 ?_; refine A6 ?_
 exact Az V V V
theorem OH {t : F6} {lo j : Nat} {c : UInt8} (hc : t[j]? = some c) (Sc : lo ≤ j) : natOf ((t.take (j + 1)).drop lo) = 10 * natOf ((t.take j).drop lo) + dv c := by
 have hj := (A5.1 hc).1
 rw [G8, hc, Option.toList, List.drop_append_of_le_length (by rw [E4]; omega)]
 exact T5 _ _
theorem natOf_9 {t : F6} (h : t.all U6 = true) (lo j : Nat) (hj : j ≤ lo + 9) : natOf ((t.take j).drop lo) < 1000000000 := by
 have h1 : ((t.take j).drop lo).all U6 = true := Qd h j lo
 have h2 := BE h1
 have h3 : (10 : Nat) ^ ((t.take j).drop lo).length ≤ 10 ^ 9 := Nat.pow_le_pow_right (by decide) (by rw [M7, E4]; omega)
 have e9 : (10 : Nat) ^ 9 = 1000000000 := by decide
 omega
theorem Sp (a : F6) (ha : a.length ≤ 1000000) : PCalls Tryz.prog 209 [dS a] (.d (.agg (dJm (M5 a).2 (Fc (M5 a).1)))) := by
 have c1 := Ck a (by omega)
 have hl : (M5 a).1.length ≤ 1000000 := F3 (Ai a) ha
 have hD := V8 a
 obtain ⟨t, ht⟩ := I0 ((M5 a).1)
 obtain ⟨b, hb⟩ := I0 ((M5 a).2)
 rw [← ht, ← hb] at c1
 rw [← ht] at hl hD
 rw [← ht, ← hb]
 clear ht hb
 have AL := Ay t
 have hdv : ∀ (i : Nat) c, t[i]? = some c → 48 ≤ c.toNat ∧ c.toNat ≤ 57 := fun i c hc => by
  rw [D7] at hD
  have := hD c (C0 hc)
  unfold U6 at this
  simpa using this
 refine M0 Tryz.func209 V Tryz.ntmps209 Tryz.results209 fun B w0 => ?_
 refine E5 (yZ (cs := [_, _]) V V (yQ (H9 V (yC (c1) V V (O6 V (yX V V (yX V V (H5 V (A9 V (H9 V (yG (ys := [_, _]) V V (yZ (cs := [_, _]) V V (yS (cs' := [_, _]) V V V V V (yQ ?_)))))))))))))); refine Em 5 1 (jT 5) 1 V V V V ?_; refine H2 V (O2 V (A9 V (B8 ?_))); refine I1 (fun i : Nat => ⟨45, [(2, .bx 2 0), (3, .d (dS t)), (5, .bx 5 0), (6, .d (dI ((t.length : Int) - 9 * i)))], [(2, [.d (dB false), .d (.val (.slice none 0 0))]), (5, [.d (dB b), .ts (jT 5) 1 (((Fc t).take i).map dJ)])], [(jT 5, (((Fc t).take i).map dJ).length)]⟩) (fun i => 9 * i < t.length + 9) (fun i => t.length + 9 - 9 * i) 0 (by omega)
  ⟨rfl, ⟨F5, F5, F5, .of_eq (G6 (fun n : Int => SV.d (dI n)) (by simp)), D5⟩, ⟨⟨_, rfl, F5, F5, D5⟩, ⟨_, rfl, F5, F5, D5⟩, D5⟩, ⟨rfl, D5⟩, rfl⟩ ?_
 intro i hi
 rcases D6 (9 * i) t.length with h9 | h9
 rotate_left
 · have u1 : decide ((t.length : Int) - 9 * i > 0) = false := A7 (by omega)
   have e : (Fc t).take i = Fc t := D8 (Kl (by omega))
   rw [e]
   refine H2 V (I3 V (B3 (O1 u1 V (F8 (E5 (Ab (ys := [_, _]) V V V V (yS (cs' := [_, _]) V V V V V (yQ (C4 ?_)))))))))
   exact I9 _ (.agg D4 V V V V .nil) V
 have u1 : decide ((t.length : Int) - 9 * i > 0) = true := B1 (by omega)
 have hn := MI h9
 have Fp : IntKind.i64.wrap ((t.length : Int) - 9 * i - 9) = (t.length : Int) - 9 * i - 9 := J0 _ (by omega)
 have hm : (if (t.length : Int) - 9 * i - 9 > 0 then (t.length : Int) - 9 * i - 9 else 0) = ((t.length - 9 * i - 9 : Nat) : Int) := by split <;> omega
 obtain ⟨lo, Sc⟩ := I0 (t.length - 9 * i - 9)
 obtain ⟨tp, hto⟩ := I0 (t.length - 9 * i)
 have hti : (t.length : Int) - 9 * i = (tp : Int) := by omega
 have AW : lo ≤ tp := by omega
 have hbt : tp ≤ t.length := by omega
 have hb9 : tp ≤ lo + 9 := by omega
 rw [← Sc] at hm
 rw [← Sc, ← hto] at hn
 have K9 : ((t.length : Int) - 9 * (i + 1 : Nat)) = (tp : Int) - 9 := by omega
 rw [hti] at Fp hm u1 ⊢
 obtain ⟨zs, KD⟩ := I0 ((Fc t).take i)
 have LZ : zs.length ≤ 1000000 := by rw [KD, E4]; omega
 rw [← KD] at hn ⊢
 clear Sc hto KD
 refine H2 V (I3 V (B3 (L8 u1 V (B2 (B0 (B8 (E5 (A9 V (H2 V (F9 V (yI V V V (A9 V (B8 ?_))))))))))))); rw [Fp]; rw [hm]
 refine I1 (fun j : Nat => ⟨45, [(2, .bx 2 0), (3, .d (dS t)), (5, .bx 5 0), (6, .d (dI tp)), (7, .d (dI (natOf ((t.take j).drop lo)))), (8, .d (dI j))], [(2, [.d (dB false), .d (.val (.slice none 0 0))]), (5, [.d (dB b), .ts (jT 5) 1 (zs.map dJ)])], [(jT 5, (zs.map dJ).length)]⟩) (fun j => lo ≤ j ∧ j ≤ tp) (fun j => tp - j) lo ⟨D9 _, AW⟩
  ⟨rfl, ⟨F5, F5, F5, F5, .of_eq (G6 (fun n : Nat => SV.d (dI n)) (by rw [List.drop_of_length_le (by rw [E4]; omega)]; rfl)), F5, D5⟩, ⟨⟨_, rfl, F5, F5, D5⟩, ⟨_, rfl, F5, F5, D5⟩, D5⟩, ⟨rfl, D5⟩, rfl⟩ ?_
 rintro j ⟨hj1, hj2⟩
 rcases D6 j tp with hj | hj
 · have u2 : decide ((j : Int) < (tp : Int)) = true := B1 (by omega)
   obtain ⟨c, hc⟩ : ∃ c, t[j]? = some c := ⟨_, A4 (by omega)⟩
   have hci : t[((j : Int)).toNat]? = some c := by rw [H0]; exact hc
   obtain ⟨d1, d2⟩ := hdv j c hc
   have hnn := OH hc hj1
   have hn9 := natOf_9 hD lo j (by omega)
   obtain ⟨n, Sa⟩ := I0 (natOf ((t.take j).drop lo))
   rw [← Sa] at hnn hn9 ⊢
   have w1 : IntKind.i64.wrap (10 * (n : Int)) = 10 * (n : Int) := J0 _ (by omega)
   have w2 : IntKind.u8.wrap ((c.toNat : Int) - 48) = (dv c : Int) := by
    rw [IntKind.wrap_u8]
    unfold dv
    omega
   have hd9 : dv c ≤ 9 := by unfold dv; omega
   have w3 : IntKind.i64.wrap (dv c : Int) = (dv c : Int) := J0 _ (by omega)
   have w4 : IntKind.i64.wrap (10 * (n : Int) + (dv c : Int)) = ((10 * n + dv c : Nat) : Int) := by rw [J0 _ (by omega)]; omega
   have w5 := J0 ((j : Int) + 1) (by omega)
   refine H2 V (B4 V (I3 V (B3 (L8 u2 V (B2 (B0 (B8 (B6 (B4 V (F9 V (B4 V (B4 V (U1 hci (by omega) V V (F9 V (yJ V (F9 V (A9 V (B6 (B4 V (F9 V (A9 V (B3 ?_)))))))))))))))))))))); rw [w1]; rw [w2]; rw [w3]; rw [w4]
   exact ⟨j + 1, ⟨by omega, by omega⟩, by omega, rfl, ⟨F5, F5, F5, F5, .of_eq (by rw [hnn] <;> rfl), Q7 w5, D5⟩, ⟨⟨_, rfl, F5, F5, D5⟩, ⟨_, rfl, F5, F5, D5⟩, D5⟩, ⟨rfl, D5⟩, rfl⟩
 · have u2 : decide ((j : Int) < (tp : Int)) = false := A7 (by omega)
   obtain rfl : j = tp := by omega
   obtain ⟨x, hx⟩ := I0 (natOf ((t.take j).drop lo))
   rw [← hx] at hn ⊢
   refine H2 V (B4 V (I3 V (B3 (O1 u2 V (F8 (B6 (Bd V (Qi V V V (B4 V ?_))))))))); refine yR (es := [[_]]) V V V V V ?_; refine yT (es' := (zs ++ [x]).map dJ) (m := ((zs ++ [x]).map dJ).length) (by simp; omega) (by simp; omega) V V V V V (by simp) (by simp) ?_; refine Bd V (ySt (cs' := [_, _]) V V V V (yQ (B6 (B4 V (F9 V (A9 V (B3 ?_))))))); rw [Fp]
   exact ⟨i + 1, by omega, by omega, rfl, ⟨F5, F5, F5, .of_eq (G6 (fun n => SV.d (dI n)) K9.symm), D5⟩, ⟨⟨_, rfl, F5, F5, D5⟩, ⟨_, rfl, F5, .of_eq (by rw [hn] <;> rfl), D5⟩, D5⟩, ⟨(by rw [hn] <;> rfl), D5⟩, rfl⟩
def Fh (y : Nat) : Nat → F6
 | 0 => []
 | k + 1 => dig (y / 10 ^ k % 10) :: Fh y k
theorem Rb (y k : Nat) : Fh y (k + 1) = Fh (y / 10) k ++ [dig (y % 10)] := by
 induction k with
 | zero => simp [Fh]
 | succ k ih =>
  rw [Fh, ih, Fh, List.cons_append, Nat.div_div_eq_div_mul, Nat.pow_succ, Nat.mul_comm 10]
theorem Jz (k y : Nat) : Fh y k = Bq k y := by
 induction k generalizing y with
 | zero => rfl
 | succ k ih => rw [Rb, ih, Bq]
theorem Ub (y k : Nat) : (Fh y k).length = k := by rw [Jz, BW]
theorem RG (l : List Nat) (y : Nat) : pads (l ++ [y]) = Bq 9 y ++ pads l := by
 induction l with
 | nil => simp [pads]
 | cons x l ih => rw [List.cons_append, pads, ih, pads, G9]
theorem TN (b : Bool) {l : List Nat} (h : gok l) : val ((if b then [45] else []) ++ pads l) = sg b (K4 l) := by
 have hp := UD l
 have hh : (pads l).head? ≠ some 45 := fun e => by
  cases h1 : pads l with
  | nil => rw [h1] at e; cases e
  | cons x t =>
   rw [h1] at e hp
   have hx : x = 45 := by simpa using e
   rw [hx] at hp
   simp [U6] at hp
 have hd : natOf ((pads l).dropWhile (· == 48)) = K4 l := by rw [Mz, OE h]
 cases b with
 | true =>
  have hb : Bj ((if true then [45] else []) ++ pads l) = pads l := by simp [Bj]
  unfold val M5
  rw [hb, hp]
  simp only [if_true]
  by_cases h0 : (pads l).dropWhile (· == 48) = []
  · rw [h0] at hd
    rw [h0]
    have : K4 l = 0 := by rw [← hd]; rfl
    simp [this, sg]
    rfl
  · have h1 : ((pads l).dropWhile (· == 48)).isEmpty = false := by cases h2 : (pads l).dropWhile (· == 48) with
     | nil => exact G5 h2 h0
     | cons x t => rfl
    rw [h1, hd]
    simp [sg]
 | false =>
  have hb : Bj ((if false then [45] else []) ++ pads l) = pads l := by simp [Bj, hh]
  have hn : decide ((([] : F6) ++ pads l).head? = some 45) = false := by simpa using hh
  unfold val M5
  rw [hb, hp]
  simp only [if_true, Bool.false_eq_true, if_false] at hn ⊢
  rw [hn, hd]
  simp [sg]
theorem wWriteJ (b : Bool) (l : List Nat) (hg : gok l) (hl : l.length ≤ 100000) : PCalls Tryz.prog 207 [.agg (dJm b l)] (.d (dS (J7 (sg b (K4 l))))) := by
 have hv := TN b hg
 have SY := BV l
 obtain ⟨r, hr⟩ := I0 (J7 (sg b (K4 l)))
 rw [← hr]
 refine M0 Tryz.func207 V Tryz.ntmps207 Tryz.results207 fun B w0 => ?_
 refine E5 (yK (cs := [_, _]) V V (A9 V (E5 (A9 V (B0 (E5 (A9 V (B8 ?_)))))))); refine I1 (fun i : Nat => ⟨38, [(1, .bx 1 0), (3, .d (dS (pads (l.take i)))), (4, .d (dI i))], [(1, [.d (dB b), .d (.sl 1 (l.map dJ))])], []⟩) (fun i => i ≤ l.length) (fun i => l.length - i) 0 (E8 _)
  ⟨rfl, ⟨F5, F5, F5, D5⟩, ⟨⟨_, rfl, F5, F5, D5⟩, D5⟩, D5, rfl⟩ ?_
 intro i hi
 rcases D6 i l.length with h | h
 rotate_left
 · have u1 : decide ((i : Int) < ((l.map dJ).length : Int)) = false := A7 (by rw [A8]; omega)
   obtain rfl : i = l.length := by omega
   rw [I6]
   cases b with
   | true =>
    have hc := Cl ([45] ++ pads l) (by simp; omega)
    rw [show ([45] ++ pads l : F6) = (if true then [45] else []) ++ pads l from rfl, hv, ← hr] at hc
    obtain ⟨p, hp⟩ := I0 (pads l)
    rw [← hp] at hc SY ⊢
    have hc : PCalls Tryz.prog 204 [dS ([45] ++ p)] (.d (dS r)) := hc
    clear hp hv hr
    refine H2 V (L1 V (yN V (I3 V (B3 (O1 u1 V (F8 (B0 (E5 (L1 V (yQ (G4 V (B6 (B4 V ?_))))))))))))); refine JG (l1 := [45]) (l2 := p) (by simp; omega) V V ?_; refine A9 V (H9 V (yC (hc) V V (A9 V (C4 ?_))))
    exact M8 V V
   | false =>
    have hc := Cl (pads l) (by omega)
    rw [show (pads l : F6) = (if false then [45] else []) ++ pads l from rfl, hv, ← hr] at hc
    obtain ⟨p, hp⟩ := I0 (pads l)
    rw [← hp] at hc ⊢
    have hc : PCalls Tryz.prog 204 [dS p] (.d (dS r)) := hc
    clear hp hv hr
    refine H2 V (L1 V (yN V (I3 V (B3 (O1 u1 V (F8 (B0 (E5 (L1 V (yQ (F4 V (B2 (H9 V (yC (hc) V V (A9 V (C4 ?_))))))))))))))))
    exact M8 V V
 have u1 : decide ((i : Int) < ((l.map dJ).length : Int)) = true := B1 (by rw [A8]; omega)
 obtain ⟨y, hy⟩ := DL h
 have ey := ix dJ l i i y rfl hy
 have hy9 : y < 1000000000 := hg y (C0 hy)
 have K9 : pads (l.take (i + 1)) = Fh y 9 ++ pads (l.take i) := by rw [G8, hy, Option.toList, RG, Jz]
 have hp9 : (pads (l.take i)).length ≤ 900000 := by rw [BV, E4]; omega
 obtain ⟨p, hp⟩ := I0 (pads (l.take i))
 rw [← hp] at K9 hp9 ⊢
 have LG := J0 ((i : Int) + 1) (by omega)
 clear hp hv hr SY
 refine H2 V (L1 V (yN V (I3 V (B3 (L8 u1 V (B2 (B0 (B8 (E5 (L1 V (B4 V (L6 ey V (K8 V V (A9 V (E5 (A9 V (B8 ?_))))))))))))))))); refine I1 (fun k : Nat => ⟨38, [(1, .bx 1 0), (3, .d (dS (Fh y k ++ p))), (4, .d (dI i)), (5, .d (dI ((y / 10 ^ k : Nat) : Int))), (6, .d (dI k))], [(1, [.d (dB b), .d (.sl 1 (l.map dJ))])], []⟩) (fun k => k ≤ 9) (fun k => 9 - k) 0 (E8 _)
  ⟨rfl, ⟨F5, F5, F5, Ht (by simp), F5, D5⟩, ⟨⟨_, rfl, F5, F5, D5⟩, D5⟩, D5, rfl⟩ ?_
 intro k hk
 rcases D6 k 9 with hk9 | hk9
 · have u2 : decide ((k : Int) < 9) = true := B1 (by omega)
   have Oa := Ub y k
   have hm9 : y / 10 ^ k < 1000000000 := Nat.lt_of_le_of_lt (Nat.div_le_self _ _) hy9
   have hlk : Fh y (k + 1) = dig (y / 10 ^ k % 10) :: Fh y k := rfl
   have hdk : y / 10 ^ (k + 1) = y / 10 ^ k / 10 := by rw [Nat.div_div_eq_div_mul, Nat.pow_succ]
   obtain ⟨m, hm⟩ := I0 (y / 10 ^ k)
   rw [← hm] at hm9 hlk hdk ⊢
   have OU : m % 10 < 10 := Nat.mod_lt _ (by omega)
   have La : ((m : Int)).tmod 10 = ((m % 10 : Nat) : Int) := rfl
   obtain ⟨r', FU⟩ : ∃ r, r = m % 10 := ⟨_, rfl⟩
   rw [← FU] at OU hlk La
   have henc := QT OU
   have hw48 : IntKind.i64.wrap (48 + (r' : Int)) = 48 + (r' : Int) := J0 _ (by omega)
   have hw32 : IntKind.i32.wrap (48 + (r' : Int)) = 48 + (r' : Int) := Si OU
   have hwq : IntKind.i64.wrap ((m : Int).tdiv 10) = ((m / 10 : Nat) : Int) := J0 ((m / 10 : Nat) : Int) (by omega)
   have hwk := J0 ((k : Int) + 1) (by omega)
   refine H2 V (I3 V (B3 (L8 u2 V (B2 (B0 (B8 (H9 V (F9 V (F9 V (yJ V ?_)))))))))); rw [La]; rw [hw48]; rw [hw32]; refine yJs henc V (B4 V ?_); refine JG (l1 := [dig r']) (l2 := Fh y k ++ p) (by simp; omega) V V ?_; refine A9 V (B6 (B4 V (F9 V (A9 V (B6 (B4 V (F9 V (A9 V (B3 ?_))))))))); rw [hwq]
   exact ⟨k + 1, by omega, by omega, rfl, ⟨F5, .of_eq (by rw [hlk] <;> rfl), F5, .of_eq (by rw [hdk] <;> rfl), Q7 hwk, D5⟩, ⟨⟨_, rfl, F5, F5, D5⟩, D5⟩, D5, rfl⟩
 · have u2 : decide ((k : Int) < 9) = false := A7 (by omega)
   obtain rfl : k = 9 := by omega
   refine H2 V (I3 V (F4 V (F8 (B6 (B4 V (F9 V (A9 V (B3 ?_)))))))); rw [u2]
   exact ⟨i + 1, by omega, by omega, rfl, ⟨F5, .of_eq (by rw [K9] <;> rfl), Q7 LG, D5⟩, ⟨⟨_, rfl, F5, F5, D5⟩, D5⟩, D5, rfl⟩
def Ja (b1 : Bool) (x : Nat) (b2 : Bool) (y : Nat) : Bool × Nat := if b1 = b2 then (b1, x + y) else if y ≤ x then (b1, x - y) else (b2, y - x)
theorem addJ_sg (b1 : Bool) (x : Nat) (b2 : Bool) (y : Nat) : sg (Ja b1 x b2 y).1 (Ja b1 x b2 y).2 = sg b1 x + sg b2 y := by
 unfold Ja
 by_cases h : b1 = b2
 · rw [B9 h]
   subst h
   cases b1 <;> simp [sg] <;> omega
 · rw [B5 h]
   by_cases h2 : y ≤ x
   · rw [B9 h2]
     cases b1 <;> cases b2 <;> simp [sg] at h ⊢ <;> omega
   · rw [B5 h2]
     cases b1 <;> cases b2 <;> simp [sg] at h ⊢ <;> omega
theorem wNAddJ (b1 b2 : Bool) (x y : Nat) (h1 : (N6 x).length ≤ 100000) (h2 : (N6 y).length ≤ 100000) : PCalls Tryz.prog 208 [.agg (dJm b1 (N6 x)), .agg (dJm b2 (N6 y))] (.d (.agg (dJm (Ja b1 x b2 y).1 (N6 (Ja b1 x b2 y).2)))) := by
 have c1 := wPlusJ (N6 x) (N6 y) (N9 x) (N9 y) h1 h2
 have c2 := wOrder (N6 x) (N6 y) (by omega)
 rw [N3, N3] at c1
 have Q9 := ordR_ge x y
 have c3 : y ≤ x → PCalls Tryz.prog 242 [.sl 1 ((N6 x).map dJ), .sl 1 ((N6 y).map dJ)] (.d (.sl 1 ((N6 (x - y)).map dJ))) := fun h => by
  have := PJ (N6 x) (N6 y) (N9 x) (N9 y) (Z8 h) (by rw [N3, N3]; exact h) h1
  rwa [N3, N3] at this
 have c4 : ¬ y ≤ x → PCalls Tryz.prog 242 [.sl 1 ((N6 y).map dJ), .sl 1 ((N6 x).map dJ)] (.d (.sl 1 ((N6 (y - x)).map dJ))) := fun h => by
  have := PJ (N6 y) (N6 x) (N9 y) (N9 x) (Z8 (by omega)) (by rw [N3, N3]; omega) h2
  rwa [N3, N3] at this
 obtain ⟨k, hk⟩ := I0 (UG (N6 x) (N6 y))
 rw [← hk] at c2 Q9
 unfold Ja
 obtain ⟨l1, Dp⟩ := I0 ((N6 x).map dJ)
 obtain ⟨l2, BN⟩ := I0 ((N6 y).map dJ)
 show PCalls Tryz.prog 208 [.agg [dB b1, .sl 1 ((N6 x).map dJ)], .agg [dB b2, .sl 1 ((N6 y).map dJ)]] _
 rw [← Dp, ← BN] at c1 c2 c3 ⊢
 rw [← Dp, ← BN] at c4
 clear Dp BN hk
 by_cases hb : b1 = b2
 · rw [B9 hb]
   subst hb
   have Ci : (b1 == b1) = true := by simp
   obtain ⟨r, hr⟩ := I0 ((N6 (x + y)).map dJ)
   rw [← hr] at c1
   show PCalls Tryz.prog 208 _ (.d (.agg [dB b1, .sl 1 ((N6 (x + y)).map dJ)]))
   rw [← hr]
   refine M0 Tryz.func208 V Tryz.ntmps208 Tryz.results208 fun B w0 => ?_
   refine E5 (yK (cs := [_, _]) V V (yK (cs := [_, _]) V V (yZ (cs := [_, _]) V V (yQ (B0 (E5 (L1 V (L1 V (Sg (c := true) Tryz.underlying4 Ci V V (yQ (G4 V (B0 ?_)))))))))))); refine S2 (id := 2) Tryz.mixed (by kernel_rfl) ?_; refine L1 V (L1 V (L1 V (yC (c1) V V (yG (ys := [_, _]) V V (yS (cs' := [_, _]) V V V V V (yQ ?_)))))); refine Px.Sep.mk (by kernel_rfl) ?_; refine C4 (A6 ?_)
   exact I9 _ (.agg D4 V V V V .nil) V
 rw [B5 hb]
 have Ci : (b1 == b2) = false := by simpa using hb
 by_cases hle : y ≤ x
 · rw [B9 hle]
   have c3 := c3 hle
   have u : decide (k ≥ 0) = true := B1 (Q9.2 hle)
   obtain ⟨r, hr⟩ := I0 ((N6 (x - y)).map dJ)
   rw [← hr] at c3
   show PCalls Tryz.prog 208 _ (.d (.agg [dB b1, .sl 1 ((N6 (x - y)).map dJ)]))
   rw [← hr]
   refine M0 Tryz.func208 V Tryz.ntmps208 Tryz.results208 fun B w0 => ?_
   refine E5 (yK (cs := [_, _]) V V (yK (cs := [_, _]) V V (yZ (cs := [_, _]) V V (yQ (B0 (E5 (L1 V (L1 V (Sg (c := false) Tryz.underlying4 Ci V V (yQ (F4 V (B2 (B0 (E5 (L1 V (L1 V (yC (c2) V V (I3 V (B3 ?_))))))))))))))))))); rw [u]
   refine G4 V (B0 ?_); refine S2 (id := 4) Tryz.mixed (by kernel_rfl) ?_; refine L1 V (L1 V (L1 V (yC (c3) V V (yG (ys := [_, _]) V V (yS (cs' := [_, _]) V V V V V (yQ ?_)))))); refine Px.Sep.mk (by kernel_rfl) ?_; refine C4 (A6 ?_)
   exact I9 _ (.agg D4 V V V V .nil) V
 · rw [B5 hle]
   have c4 := c4 hle
   have u : decide (k ≥ 0) = false := A7 fun h => hle (Q9.1 h)
   obtain ⟨r, hr⟩ := I0 ((N6 (y - x)).map dJ)
   rw [← hr] at c4
   show PCalls Tryz.prog 208 _ (.d (.agg [dB b2, .sl 1 ((N6 (y - x)).map dJ)]))
   rw [← hr]
   refine M0 Tryz.func208 V Tryz.ntmps208 Tryz.results208 fun B w0 => ?_
   refine E5 (yK (cs := [_, _]) V V (yK (cs := [_, _]) V V (yZ (cs := [_, _]) V V (yQ (B0 (E5 (L1 V (L1 V (Sg (c := false) Tryz.underlying4 Ci V V (yQ (F4 V (B2 (B0 (E5 (L1 V (L1 V (yC (c2) V V (I3 V (B3 ?_))))))))))))))))))); rw [u]
   refine F4 V (B2 (B0 ?_)); refine S2 (id := 5) Tryz.mixed (by kernel_rfl) ?_; refine L1 V (L1 V (L1 V (yC (c4) V V (yG (ys := [_, _]) V V (yS (cs' := [_, _]) V V V V V (yQ ?_)))))); refine Px.Sep.mk (by kernel_rfl) ?_; refine C4 ?_
   exact I9 _ (.agg D4 V V V V .nil) V
theorem val17 {a : F6} (h : (M5 a).1.length ≤ 17) : (val a).natAbs < 100000000000000000 := by
 have h1 := BE (V8 a)
 rw [Fe] at h1
 have h2 : (10 : Nat) ^ (M5 a).1.length ≤ 10 ^ 17 := Nat.pow_le_pow_right (by decide) h
 have e17 : (10 : Nat) ^ 17 = 100000000000000000 := by decide
 omega
theorem Li (a : F6) (ha : a.length ≤ 1000000) : PCalls Tryz.prog 205 [dS a] (.tup [dI (if (M5 a).1.length ≤ 17 then val a else 0), dB (decide ((M5 a).1.length ≤ 17))]) := by
 by_cases h : (M5 a).1.length ≤ 17
 · rw [B9 h, B1 h]; exact wRShort a ha h
 · rw [B5 h, A7 h]; exact Sr a ha (by omega)
theorem wRAddG (a b : F6) (ha : a.length ≤ 90000) (hb : b.length ≤ 90000) : PCalls Tryz.prog 162 [dS a, dS b] (.d (dS (J7 (val a + val b)))) := by
 have c1 := Li a (by omega)
 have c2 := Li b (by omega)
 by_cases h : (M5 a).1.length ≤ 17 ∧ (M5 b).1.length ≤ 17
 · have va := val17 h.1
   have vb := val17 h.2
   rw [B9 h.1, B1 h.1] at c1
   rw [B9 h.2, B1 h.2] at c2
   have hw : IntKind.i64.wrap (val a + val b) = val a + val b := J0 _ (by omega)
   have c3 := wROf (val a + val b) (by omega) (by omega)
   obtain ⟨r, hr⟩ := I0 (J7 (val a + val b))
   rw [← hr] at c3 ⊢
   obtain ⟨u, hu⟩ := I0 (val a)
   obtain ⟨v, hv⟩ := I0 (val b)
   rw [← hu] at c1
   rw [← hv] at c2
   rw [← hu, ← hv] at c3 hw
   refine M0 Tryz.func162 V Tryz.ntmps162 Tryz.results162 fun B w0 => ?_
   refine E5 (A9 V (H9 V (yC (c1) V V (O6 V (yX V V (yX V V (H5 V (A9 V (H9 V (yC (c2) V V (O6 V (yX V V (yX V V (H5 V (A9 V (H2 V (B4 V (B4 V (L2 V V (yQ (G4 V (H9 V (B4 V (F9 V ?_)))))))))))))))))))))))); rw [hw]; refine yC (c3) V V (A9 V (C4 (A6 ?_)))
   exact M8 V V
 have hf : ((decide ((M5 a).1.length ≤ 17)) && (decide ((M5 b).1.length ≤ 17))) = false := by
  rw [Bool.and_eq_false_iff, decide_eq_false_iff_not, decide_eq_false_iff_not]
  rcases Decidable.em ((M5 a).1.length ≤ 17) with h1 | h1
  · exact .inr fun h2 => h ⟨h1, h2⟩
  · exact .inl h1
 have h1 := F3 (Ay (M5 a).1) (Ai a)
 have h2 := F3 (Ay (M5 b).1) (Ai b)
 have c3 := Sp a (by omega)
 have c4 := Sp b (by omega)
 rw [Km] at c3 c4 h1 h2
 have c5 := wNAddJ (M5 a).2 (M5 b).2 (natOf (M5 a).1) (natOf (M5 b).1) (by omega) (by omega)
 have s2 := addJ_sg (M5 a).2 (natOf (M5 a).1) (M5 b).2 (natOf (M5 b).1)
 rw [← Hr, ← Hr] at s2
 have hlz : (N6 (Ja (M5 a).2 (natOf (M5 a).1) (M5 b).2 (natOf (M5 b).1)).2).length ≤ 100000 := by
  have hle : (Ja (M5 a).2 (natOf (M5 a).1) (M5 b).2 (natOf (M5 b).1)).2 ≤ natOf (M5 a).1 + natOf (M5 b).1 := by
   unfold Ja
   split
   · exact D9 _
   · split <;> show _ - _ ≤ _ <;> omega
  refine F3 (Z8 hle) ?_
  have q1 := BE (V8 a)
  have q2 := BE (V8 b)
  have q3 := Ai a
  have q4 := Ai b
  obtain ⟨K, hK⟩ := I0 (90000)
  rw [← hK] at ha hb
  have q5 : natOf (M5 a).1 + natOf (M5 b).1 < 1000000000 ^ (K + 1) := by
   have e1 : (10 : Nat) ^ (M5 a).1.length ≤ 1000000000 ^ K := F3 (Nat.pow_le_pow_right (by decide) (F3 q3 ha)) (Nat.pow_le_pow_left (by decide) _)
   have e2 : (10 : Nat) ^ (M5 b).1.length ≤ 1000000000 ^ K := F3 (Nat.pow_le_pow_right (by decide) (F3 q4 hb)) (Nat.pow_le_pow_left (by decide) _)
   have e3 : (1000000000 : Nat) ^ (K + 1) = 1000000000 ^ K * 1000000000 := Nat.pow_succ ..
   obtain ⟨p, hp⟩ := I0 ((1000000000 : Nat) ^ K)
   rw [← hp] at e1 e2 e3
   rw [e3]
   omega
  refine Decidable.byContradiction fun hgt => ?_
  have JC : natOf (M5 a).1 + natOf (M5 b).1 ≠ 0 := fun e => by rw [e, V3] at hgt; simp at hgt
  have q6 := Vc JC
  have q7 : (1000000000 : Nat) ^ (K + 1) ≤ 1000000000 ^ ((N6 (natOf (M5 a).1 + natOf (M5 b).1)).length - 1) := Nat.pow_le_pow_right (by decide) (by omega)
  omega
 obtain ⟨z, hz⟩ := I0 (Ja (M5 a).2 (natOf (M5 a).1) (M5 b).2 (natOf (M5 b).1))
 rw [← hz] at c5 s2 hlz
 have c6 := wWriteJ z.1 (N6 z.2) (N9 z.2) hlz
 rw [N3, s2] at c6
 obtain ⟨r, hr⟩ := I0 (J7 (val a + val b))
 rw [← hr] at c6 ⊢
 obtain ⟨n1, Mg⟩ := I0 (dJm (M5 a).2 (N6 (natOf (M5 a).1)))
 obtain ⟨n2, Eb⟩ := I0 (dJm (M5 b).2 (N6 (natOf (M5 b).1)))
 obtain ⟨n3, hn3⟩ := I0 (dJm z.1 (N6 z.2))
 rw [← Mg] at c3 c5
 rw [← Eb] at c4 c5
 rw [← hn3] at c5 c6
 obtain ⟨p1, hp1⟩ := I0 (decide ((M5 a).1.length ≤ 17))
 obtain ⟨p2, Lc⟩ := I0 (decide ((M5 b).1.length ≤ 17))
 obtain ⟨u, hu⟩ := I0 (if (M5 a).1.length ≤ 17 then val a else 0)
 obtain ⟨v, hv⟩ := I0 (if (M5 b).1.length ≤ 17 then val b else 0)
 rw [← hp1, ← hu] at c1
 rw [← Lc, ← hv] at c2
 rw [← hp1, ← Lc] at hf
 clear Mg Eb hn3 hz s2 hp1 Lc hu hv hlz h1 h2 h
 cases p1 with
 | false =>
  refine M0 Tryz.func162 V Tryz.ntmps162 Tryz.results162 fun B w0 => ?_
  refine E5 (A9 V (H9 V (yC (c1) V V (O6 V (yX V V (yX V V (H5 V (A9 V (H9 V (yC (c2) V V (O6 V (yX V V (yX V V (H5 V (A9 V (H2 V (B4 V (yO V (L3 V V (yQ (F4 V (B2 (H9 V (yC (c3) V V (B4 V (yC (c4) V V (yC (c5) V V (yC (c6) V V (A9 V (C4 ?_))))))))))))))))))))))))))))))
  exact M8 V V
 | true =>
  have hp : p2 = false := by simpa using hf
  subst hp
  refine M0 Tryz.func162 V Tryz.ntmps162 Tryz.results162 fun B w0 => ?_
  refine E5 (A9 V (H9 V (yC (c1) V V (O6 V (yX V V (yX V V (H5 V (A9 V (H9 V (yC (c2) V V (O6 V (yX V V (yX V V (H5 V (A9 V (H2 V (B4 V (B4 V (L2 V V (yQ (F4 V (B2 (H9 V (yC (c3) V V (B4 V (yC (c4) V V (yC (c5) V V (yC (c6) V V (A9 V (C4 ?_))))))))))))))))))))))))))))))
  exact M8 V V
open Go.RowKit Px Go.Sort Go.Lib
def BB (O : List Cf) (nm : F6) : Nat := (O.takeWhile fun d => ltS d.1 nm).length
def Bf (c : Cf) (O : List Cf) : List Cf := match O[BB O c.1]? with
 | some d => if d.1 = c.1 then O.set (BB O c.1) (d.1, DK d.2 c.2) else O.take (BB O c.1) ++ c :: O.drop (BB O c.1)
 | none => O.take (BB O c.1) ++ c :: O.drop (BB O c.1)
theorem posC_le (O : List Cf) (nm : F6) : BB O nm ≤ O.length := (List.takeWhile_prefix _).length_le
theorem posC_lt {O : List Cf} {nm : F6} {j : Nat} {d : Cf} (h : O[j]? = some d) (hj : j < BB O nm) : ltS d.1 nm = true := by
 induction O generalizing j with
 | nil => simp at h
 | cons x O ih =>
  unfold BB at hj
  rw [List.takeWhile_cons] at hj
  split at hj
  · rename_i hx
    cases j with
    | zero => cases h; exact hx
    | succ j => exact ih (j := j) (by simpa using h) (by simpa [BB] using hj)
  · simp at hj
theorem posC_at {O : List Cf} {nm : F6} {d : Cf} (h : O[BB O nm]? = some d) : ltS d.1 nm = false := by
 induction O with
 | nil => simp at h
 | cons x O ih =>
  unfold BB at h ih
  rw [List.takeWhile_cons] at h
  split at h
  · rw [List.length_cons, List.getElem?_cons_succ] at h
    exact ih h
  · rename_i hx
    simp at h
    rw [← h]
    simpa using hx
theorem Pk {O : List Cf} {nm : F6} {k : Nat} (h1 : ∀ j d, j < k → O[j]? = some d → ltS d.1 nm = true) (h2 : ∀ d, O[k]? = some d → ltS d.1 nm = false) (h3 : k ≤ O.length) : BB O nm = k := by
 have hl := posC_le O nm
 rcases Nat.lt_trichotomy (BB O nm) k with h | h | h
 · obtain ⟨d, hd⟩ : ∃ d, O[BB O nm]? = some d := ⟨_, A4 (by omega)⟩
   have := h1 _ d h hd
   rw [posC_at hd] at this
   cases this
 · exact h
 · obtain ⟨d, hd⟩ : ∃ d, O[k]? = some d := ⟨_, A4 (by omega)⟩
   have := h2 d hd
   rw [posC_lt hd h] at this
   cases this
theorem Bv (c : Cf) : Bf c [] = [c] := rfl
theorem Ap (c d : Cf) (O : List Cf) : Bf c (d :: O) = if ltS d.1 c.1 then d :: Bf c O else if d.1 = c.1 then (d.1, DK d.2 c.2) :: O else c :: d :: O := by
 by_cases h : ltS d.1 c.1 = true
 · have hp : BB (d :: O) c.1 = BB O c.1 + 1 := by simp [BB, List.takeWhile_cons, h]
   rw [B9 h]
   unfold Bf
   rw [hp, List.getElem?_cons_succ]
   cases O[BB O c.1]? with
   | none => simp
   | some x =>
    simp only
    split
    · simp
    · simp
 · have hp : BB (d :: O) c.1 = 0 := by simp [BB, List.takeWhile_cons, h]
   rw [B5 h]
   unfold Bf
   rw [hp]
   simp
theorem insC_ev (A : F6 → Int) (c : Cf) (O : List Cf) : Fv A (Bf c O) = Fv A O + val c.2 * A c.1 := by
 induction O with
 | nil => rw [Bv]; simp [Fv]
 | cons d O ih =>
  rw [Ap]
  split
  · simp only [Fv, ih]; omega
  · split
    · rename_i h
      simp only [Fv, X0, Int.add_mul]
      rw [h]
      omega
    · simp only [Fv]; omega
theorem OP {c : Cf} {O : List Cf} {p : Cf} (h : p ∈ Bf c O) : p.1 = c.1 ∨ ∃ q ∈ O, q.1 = p.1 := by
 induction O with
 | nil => rw [Bv] at h; simp at h; exact .inl (by rw [h])
 | cons d O ih =>
  rw [Ap] at h
  split at h
  · rcases List.mem_cons.1 h with rfl | h
    · exact .inr ⟨p, by simp, rfl⟩
    · rcases ih h with h | ⟨q, hq, e⟩
      · exact .inl h
      · exact .inr ⟨q, by simp [hq], e⟩
  · split at h
    · rcases List.mem_cons.1 h with rfl | h
      · exact .inr ⟨d, by simp, rfl⟩
      · exact .inr ⟨p, by simp [h], rfl⟩
    · rcases List.mem_cons.1 h with rfl | h
      · exact .inl V
      · exact .inr ⟨p, h, V⟩
theorem Ut {c : Cf} {O : List Cf} (h : NI O) : NI (Bf c O) := by
 induction O with
 | nil => rw [Bv]; simp [NI]
 | cons d O ih =>
  obtain ⟨h1, h2⟩ := List.pairwise_cons.1 h
  rw [Ap]
  split
  · rename_i hlt
    refine List.pairwise_cons.2 ⟨fun p hp => ?_, ih h2⟩
    rcases OP hp with e | ⟨q, hq, e⟩
    · rw [e]; exact hlt
    · rw [← e]; exact h1 q hq
  · rename_i hlt
    split
    · exact List.pairwise_cons.2 ⟨h1, h2⟩
    · rename_i O4
      have hcd : ltS c.1 d.1 = true := by
       rcases X2 d.1 c.1 with h3 | h3 | h3
       · exact G5 h3 hlt
       · exact G5 h3 O4
       · exact h3
      refine List.pairwise_cons.2 ⟨fun p hp => ?_, h⟩
      rcases List.mem_cons.1 hp with rfl | hp
      · exact hcd
      · exact Bs hcd (h1 p hp)
theorem Us {c : Cf} {O : List Cf} (hc : Fo c.2 = true) (hO : ∀ p ∈ O, Fo p.2 = true) : ∀ p ∈ Bf c O, Fo p.2 = true := by
 induction O with
 | nil => intro p hp; rw [Bv] at hp; simp at hp; rw [hp]; exact hc
 | cons d O ih =>
  intro p hp
  rw [Ap] at hp
  split at hp
  · rcases List.mem_cons.1 hp with rfl | hp
    · exact hO p (by simp)
    · exact ih (fun q hq => hO q (by simp [hq])) p hp
  · split at hp
    · rcases List.mem_cons.1 hp with rfl | hp
      · exact Fn _
      · exact hO p (by simp [hp])
    · rcases List.mem_cons.1 hp with rfl | hp
      · exact hc
      · exact hO p hp
theorem IZ (c : Cf) (O : List Cf) : (Bf c O).length ≤ O.length + 1 ∧ 0 < (Bf c O).length := by
 induction O with
 | nil => rw [Bv]; simp
 | cons d O ih =>
  rw [Ap]
  split
  · simp; omega
  · split <;> simp
theorem Rl {c : Cf} {O : List Cf} {B C : Nat} (hc : c.2.length ≤ C) (hO : ∀ p ∈ O, p.2.length ≤ B) (hCB : C ≤ B) : ∀ p ∈ Bf c O, p.2.length ≤ B + 2 := by
 induction O with
 | nil => intro p hp; rw [Bv] at hp; simp at hp; rw [hp]; omega
 | cons d O ih =>
  intro p hp
  rw [Ap] at hp
  split at hp
  · rcases List.mem_cons.1 hp with rfl | hp
    · have := hO p (by simp); omega
    · exact ih (fun q hq => hO q (by simp [hq])) p hp
  · split at hp
    · rcases List.mem_cons.1 hp with rfl | hp
      · exact NN (hO d (by simp)) (by omega)
      · have := hO p (by simp [hp]); omega
    · rcases List.mem_cons.1 hp with rfl | hp
      · omega
      · have := hO p hp; omega
def Dl (e : List Cf) : Nat → List Cf
 | 0 => []
 | i + 1 => match e[i]? with
  | none => Dl e i
  | some c => Bf c (Dl e i)
theorem rnI_ev (A : F6 → Int) (e : List Cf) (i : Nat) : Fv A (Dl e i) = Fv A (e.take i) := by
 induction i with
 | zero => rfl
 | succ i ih =>
  rw [Dl]
  cases h : e[i]? with
  | none =>
   rw [List.getElem?_eq_none_iff] at h
   simp only [ih, D8 h, D8 (Nat.le_succ_of_le h)]
  | some c =>
   simp only
   rw [insC_ev, ih, G8, h, Option.toList, It]
   simp only [Fv]
   omega
theorem rnI_asc (e : List Cf) (i : Nat) : NI (Dl e i) := by
 induction i with
 | zero => exact List.Pairwise.nil
 | succ i ih =>
  rw [Dl]
  cases e[i]? with
  | none => exact ih
  | some c => exact Ut ih
theorem rnI_isC {e : List Cf} (he : ∀ c ∈ e, Fo c.2 = true) (i : Nat) : ∀ p ∈ Dl e i, Fo p.2 = true := by
 induction i with
 | zero => intro p hp; cases hp
 | succ i ih =>
  rw [Dl]
  cases h : e[i]? with
  | none => exact ih
  | some c => exact Us (he c (C0 h)) ih
theorem PZ (e : List Cf) (i : Nat) : (Dl e i).length ≤ i := by
 induction i with
 | zero => exact D9 _
 | succ i ih =>
  rw [Dl]
  cases e[i]? with
  | none => exact Nat.le_succ_of_le ih
  | some c => have := (IZ c (Dl e i)).1; simp only; omega
theorem Tj {e : List Cf} {B : Nat} (h : ∀ c ∈ e, c.2.length ≤ B) (i : Nat) : ∀ p ∈ Dl e i, p.2.length ≤ B + 2 * i := by
 induction i with
 | zero => intro p hp; cases hp
 | succ i ih =>
  rw [Dl]
  cases hc : e[i]? with
  | none => intro p hp; have := ih p hp; omega
  | some c =>
   intro p hp
   have := Rl (B := B + 2 * i) (C := B) (h c (C0 hc)) ih (by omega) p hp
   omega
theorem rnI_nf {e : List Cf} (he : ∀ c ∈ e, Fo c.2 = true) : (Dl e e.length).filter (fun c => !(c.2 == [])) = nf e := by
 have hasc := rnI_asc e e.length
 have hic := rnI_isC he e.length
 have DB : ∀ k, cf k (Dl e e.length) = cf k e := fun k => by rw [cf, rnI_ev, I6]
 obtain ⟨O, hO⟩ := I0 (Dl e e.length)
 rw [← hO] at hasc hic DB ⊢
 have hnd : (O.map (·.1)).Nodup := List.pairwise_map.2 (hasc.imp fun {a b} h e => by rw [e, U3] at h; cases h)
 have Rm : ∀ p ∈ O, p.2 = J7 (cf p.1 e) := fun p hp => by
  rw [← DB, Vu hnd, LM hnd hp]
  exact (isC_eq (hic p hp)).symm
 refine asc_ext (hasc.filter _) (nf_asc e) fun p => ?_
 rw [List.mem_filter, nf_mem]
 constructor
 · rintro ⟨h1, h2⟩
   have h3 := Rm p h1
   refine ⟨fun h => ?_, h3⟩
   rw [h, U4] at h3
   rw [h3] at h2
   simp at h2
 · rintro ⟨h1, h2⟩
   have h3 : p.1 ∈ O.map (·.1) := Decidable.byContradiction fun h => h1 (by rw [← DB]; exact FP h)
   obtain ⟨q, hq, e1⟩ := G7.1 h3
   have h4 := Rm q hq
   rw [e1] at h4
   have h5 : q = p := Prod.ext e1 (h4.trans h2.symm)
   rw [h5] at hq
   refine ⟨hq, ?_⟩
   have h6 : p.2 ≠ [] := fun h => h1 (GA.1 (h2 ▸ h))
   simpa using h6
end Go.Proofs.YtddfimjiihggmaaGreatDoor
namespace Go.Proofs.YtddfimjiihggmaaGreatDoor.Px
open Go.RowKit
variable {kd : IntKind} {w : World} {B : Nat} {w0 : Cx} {st : PS} {a : Act} {g : Gh}
def LP : SV → Bool
 | .d (.sl _ []) => true
 | .ts _ _ [] => true
 | .d (.val (.slice none 0 0)) => true
 | _ => false
theorem Om (hr : Rep B w0 g st a w) {y : Operand} (h : LP (st.ev y) = true) : ∃ A c, a.eval y = .slice A 0 c := by
 have h1 := hr.eval y
 generalize st.ev y = s at h h1
 unfold LP at h
 split at h
 · obtain ⟨A, c, news, hv, -⟩ := DRep.row h1
   exact ⟨A, c, hv⟩
 · obtain ⟨A, c, news, hv, -⟩ := DRep.row h1.1
   exact ⟨A, c, hv⟩
 · exact ⟨none, 0, DRep.val_eq h1⟩
 · cases h
section
variable {P : Program} {Q : Exit → PS → Prop} {c : Code}
theorem Pf (i q : Nat) {cs cs2 : List SV} (hi : st.bget i = some cs) (hq : cs.take q = cs2) (h : PW P B w0 c Q (st.bput i cs2)) (hlt : Nat.blt i 500000 = true := by rfl) : PW P B w0 c Q st := fun g a w hr => by
 subst hq
 have HK : i < 500000 := B7 hlt
 refine h g a w { hr with lim := hr.lim, size := hr.size, slots := hr.slots, tdom := hr.tdom, tlen := hr.tlen, glob := hr.glob, boxes := fun j cs' hj OX => ?_, maps := fun j ms hj Q9 => ?_, dom := fun j b hj => ?_ }
 · rw [K5] at hj
   by_cases e : j = i
   · subst e
     rw [B9 rfl] at hj
     cases hj
     obtain ⟨b, xs, T, q1, q2, q3, q4, q5⟩ := hr.boxes j cs hi OX
     refine ⟨b, xs, T, q1, q2, by rw [E4]; omega, fun k c0 hk => ?_, fun k u hk hu => q5 k u (by rw [E4] at hk; omega) hu⟩
     have hk' : k < q := by have := (A5.1 hk).1; rw [E4] at this; omega
     rw [E0 hk'] at hk
     exact q4 k c0 hk
   · rw [B5 e] at hj
     exact hr.boxes j cs' hj OX
 · rw [K5, B5 (by omega)] at hj
   exact hr.maps j ms hj Q9
 · rw [K5]
   by_cases e : j = i
   · rw [B9 e]; simp
   · rw [B5 e]; exact hr.dom j b hj
end
section
variable {P : Program} {sq : Bool} {ops : Array Oper} {K : PS → Prop} {rest : List Oper} {d : Option Nat} {ty : TypeId} {pos : String} {af : Array Edge} {gd : Option (Nat × Bool)}
theorem MU (T : TypeId) (x y : Operand) {E k bytes i n : Nat} [hA : AppOf P T E k bytes] (hx : st.ev x = .bs i n E k) (hy : LP (st.ev y) = true) (hd : H8 ⟨d, .call { callee := .builtin .append, args := #[x, y], argTypes := #[T, T] }, ty, pos, af, gd⟩ st = true) :
 M6 P ⟨d, .call { callee := .builtin .append, args := #[x, y], argTypes := #[T, T] }, ty, pos, af, gd⟩ st (.bs i n E k) .no := fun st2 ha =>
 OpS.value (ha.dst hd) fun _ _ g a w h => by
  have h1 := h.eval x
  rw [ha.ev x (by simp [Op.operands, Call.operands]), hx] at h1
  obtain ⟨A2, c2, Ea⟩ := Om h (y := y) (by rw [ha.ev y (by simp [Op.operands, Call.operands])]; exact hy)
  obtain ⟨b, c, q1, q2, q3, q4, q5⟩ := h1
  refine ⟨.slice (some ⟨b, 0, none⟩) n c, w, ?_, Below.refl _ _, b, c, q1, V, q3, q4, q5⟩
  obtain ⟨ti, z, p1, p2, p3, p4, p5⟩ := hA.inf
  simp only [execOp, resolve, invoke, builtin, Sem.run_bind, Sem.run_pure, D2, List.map_toArray, List.map_cons, List.map_nil, q2, Ea]
  cases A2 <;> simp [Builtin.append_, run_underlying hA.und, sizeOf, typeInfo, p1, Builtin.lenOf, Builtin.firstCells, loadCells, loadCellsFrom, q3, storeCells, Result.andThen]
theorem yTe {T E k bytes i n : Nat} {x y : Operand} [AppOf P T E k bytes] (hx : st.ev x = .bs i n E k) (hy : LP (st.ev y) = true) (h : YR P sq ops K rest (st.put d (.bs i n E k))) (zz : zk ops st ⟨d, .call { callee := .builtin .append, args := #[x, y], argTypes := #[T, T] }, ty, pos, af, gd⟩ .no = true := by kernel_rfl) :
 YR P sq ops K (⟨d, .call { callee := .builtin .append, args := #[x, y], argTypes := #[T, T] }, ty, pos, af, gd⟩ :: rest) st := M4 (MU T x y hx hy (zd zz)) (zo zz) (zw zz) h
theorem RU (T : TypeId) (x y : Operand) {E k : Nat} [hS : SliceOf P T E k] (hx : st.ev x = .d (.val (.slice none 0 0))) (hy : st.ev y = .d (.val (.int kd 0))) (hd : H8 ⟨d, .slice T x (some y) none none, ty, pos, af, gd⟩ st = true) :
 M6 P ⟨d, .slice T x (some y) none none, ty, pos, af, gd⟩ st (.d (.val (.slice none 0 0))) .no := fun st2 ha =>
 OpS.value (ha.dst hd) fun _ _ g a w h => by
  have h1 := h.eval x
  rw [ha.ev x (by simp [Op.operands]), hx] at h1
  have h2 := h.eval y
  rw [ha.ev y (by simp [Op.operands]), hy] at h2
  refine ⟨.slice none 0 0, w, ?_, Below.refl _ _, DRep.val _ V⟩
  simp [execOp, Instr.sliceAt, Instr.slice, Instr.sliceBounds, Instr.sliceBound, DRep.val_eq h1, DRep.val_eq h2, asIntOf, hS.und, hS.size, Result.andThen]
theorem ySn {T E k : Nat} {x y : Operand} [SliceOf P T E k] (hx : st.ev x = .d (.val (.slice none 0 0))) (hy : st.ev y = .d (.val (.int kd 0))) (h : YR P sq ops K rest (st.put d (.d (.val (.slice none 0 0))))) (zz : zk ops st ⟨d, .slice T x (some y) none none, ty, pos, af, gd⟩ .no = true := by kernel_rfl) :
 YR P sq ops K (⟨d, .slice T x (some y) none none, ty, pos, af, gd⟩ :: rest) st := M4 (RU T x y hx hy (zd zz)) (zo zz) (zw zz) h
end
section
variable {P : Program} {ops : Array Oper} {K : PS → Prop} {rest : List Oper} {ty ty2 : TypeId} {pos pos2 : String} {af af2 : Array Edge} {gd gd2 : Option (Nat × Bool)}
theorem Vi (hr : Rep B w0 g st a w) {e : Nat} (he : e < st.n) (v : Value) : (a.put (some e) v).eval (.tmp e) = v := by
 show (a.tmps.setIfInBounds e v).getD e undef = v
 rw [Ip _ _ _ _ _ (by rw [hr.size]; exact he), B9 V]
theorem yTa {T E k bytes n m iz i e1 e2 : Nat} {x y z : Operand} {us vs : List Value} [hA : AppOf P T E k bytes] [hS : SliceOf P T E k]
 (hm : m ≤ n) (hb : n * bytes ≤ 140737488351232) (hn : n ≤ 140737488351232) (hul : us.length = n * k) (hvs : us.drop (m * k) = vs)
 (hx : st.ev x = .bs i n E k) (hi : st.bget i = some (us.map fun u => .d (.val u))) (hy : st.ev y = .d (.val (.int kd m))) (hz : (st.put (some e1) .any).ev z = .bs iz 0 E k) (hiz : st.bget iz = some (([] : List Value).map fun u => .d (.val u)))
 (h : YR P true ops K rest ((((st.put (some e1) .any).kill iz).bput iz (vs.map fun u => .d (.val u))).put (some e2) (.bs iz (n - m) E k)))
 (Rv : H8 ⟨some e1, .slice T x (some y) none none, ty, pos, af, gd⟩ st = true := by kernel_rfl) (Fp : st.want ops ⟨some e1, .slice T x (some y) none none, ty, pos, af, gd⟩ = some true := by rfl)
 (BO : H8 ⟨some e2, .call { callee := .builtin .append, args := #[z, .tmp e1], argTypes := #[T, T] }, ty2, pos2, af2, gd2⟩ st = true := by kernel_rfl) (HH : (st.put (some e1) .any).want ops ⟨some e2, .call { callee := .builtin .append, args := #[z, .tmp e1], argTypes := #[T, T] }, ty2, pos2, af2, gd2⟩ = some true := by rfl)
 (hlt : Nat.blt i 500000 = true := by rfl) (hltz : Nat.blt iz 500000 = true := by rfl) (FC : Nat.blt (iz % 500000) 10000 = true := by rfl) :
 YR P true ops K (⟨some e1, .slice T x (some y) none none, ty, pos, af, gd⟩ :: ⟨some e2, .call { callee := .builtin .append, args := #[z, .tmp e1], argTypes := #[T, T] }, ty2, pos2, af2, gd2⟩ :: rest) st := by
 subst hvs
 have HK : i < 500000 := B7 hlt
 have hltz5 : iz < 500000 := B7 hltz
 have hsm5 : Qw iz := B7 FC
 clear hlt hltz FC
 refine .any V fun B w0 Q hQ g a w hr => ?_
 have h1 := hr.eval x
 rw [hx] at h1
 have hy1 := hr.eval y
 rw [hy] at hy1
 obtain ⟨b, c, xs, p1, p2, p3, p4, p5, p6, p7, p8⟩ := Ox hr HK h1 hi hul
 have he1 : e1 < st.n := H3 Rv e1 rfl
 obtain ⟨A1, hA1⟩ : ∃ A : Option Addr, A = if c = m then some ⟨b, 0, none⟩ else some ⟨b, m * k, none⟩ := ⟨_, rfl⟩
 have Cy : (execOp a.eval ⟨some e1, .slice T x (some y) none none, ty, pos, af, gd⟩).run P w = .ok (.value (.slice A1 (n - m) (c - m))) w := by
  have Eb : (0 : Int) ≤ (m : Int) ∧ (m : Int) ≤ (n : Int) := ⟨by omega, by omega⟩
  simp only [execOp, Instr.sliceAt, Instr.slice, Instr.sliceBounds, Instr.sliceBound, p2, DRep.val_eq hy1, asIntOf, Sem.run_bind, Sem.run_pure, D2, hS.und, Eb, and_self, if_true, hS.size, Option.map_some, Option.map_none, Addr.add_lit, H0, E6]
  rw [hA1]
 have Lb := hr.put (v := .slice A1 (n - m) (c - m)) (x := .any) trivial (some e1) (fun j hj => by cases hj; exact he1)
 unfold wpList
 rw [B9 (N4 hr Fp)]
 refine .inl ?_
 unfold Oper.wp
 rw [Cy]
 have SX := Lb.eval z
 rw [hz] at SX
 obtain ⟨bz, cz, xz, z1, z2, z3, z4, z5, z6, z7, z8⟩ := Ox (vs := []) Lb hltz5 SX (by rw [Iz]; exact hiz) (by simp)
 have M3 : ∀ (j : Nat) u, (us.drop (m * k))[j]? = some u → w.cell? ⟨b, m * k + j, none⟩ = some u := fun j u hj => by
  rw [List.getElem?_drop] at hj
  exact AJ p7 (b := b) (by rw [p2]; rfl) (m * k + j) u hj
 have Y3 : ∀ u ∈ us.drop (m * k), u.oneCell' = true := fun u hu => p8 u (List.mem_of_mem_drop hu)
 obtain ⟨ti, zz, q1, q2, q3, q4, q5⟩ := hA.inf
 have BN : (us.drop (m * k)).length = (n - m) * k := by rw [M7, hul, Nat.sub_mul]
 obtain ⟨v', w', r1, r2, r3, r4, r5, r6, r7⟩ := DO (P := P) w 0 T ty2 E ti zz k bytes hA.und q1 q2 q3 q4 q5 ((a.put (some e1) (.slice A1 (n - m) (c - m))).eval z) 0 [] z7 A1 (n - m) (c - m) (us.drop (m * k)) BN (fun h0 => ⟨⟨b, m * k, none⟩, by rw [hA1, B5 (by omega)], fun j u hj => by rw [Addr.add_lit]; exact M3 j u hj⟩) Y3 (by unfold maxLen; omega) (by rw [E6]; exact F3 (Nat.mul_le_mul_right _ (Nat.sub_le _ _)) (by omega)) (E8 _)
 rw [E6, List.nil_append] at r2
 have hob : ((a.put (some e1) (.slice A1 (n - m) (c - m))).eval z).ownBlock = some bz := by rw [z2]; rfl
 have P3 : ∃ gb cap cur, v' = .slice (some ⟨gb, 0, none⟩) (n - m) cap ∧ w'.heap[gb]? = some (.cells cur E (0, 0)) ∧ n - m ≤ cap ∧ cap ≤ maxLen ∧ cur.size = cap * k ∧ cur.toList.take ((n - m) * k) = us.drop (m * k) := by
  obtain ⟨GO, (⟨q0, q9⟩ | ⟨gb, cap, cur, t0, t1, t2, t3, t4, t5, t6⟩)⟩ := r2
  · have := r7 q9
    rw [q0, z2] at this
    cases this
  · exact ⟨gb, cap, cur, t0, t2, t3, t4, t5, t6⟩
 obtain ⟨gb, cap, cur, rfl, t2, t3, t4, t5, t6⟩ := P3
 have Ci : gb = bz ∨ w.heap.size ≤ gb := by
  rcases r6 with r6 | r6
  · rw [hob] at r6; exact .inl (by simpa [Value.ownBlock] using r6)
  · exact .inr (by have : gb = w.heap.size := by simpa [Value.ownBlock] using r6
                   omega)
 have JQ : ∀ (j : Nat) (u : Value), (us.drop (m * k))[j]? = some u → cur[j]? = some u ∧ u.oneCell' = true := fun j u hj => by
  refine ⟨?_, Y3 u (C0 hj)⟩
  rw [← t6] at hj
  have Z5 : j < (n - m) * k := by have := (A5.1 hj).1; rw [E4] at this; omega
  rw [E0 Z5] at hj
  simpa using hj
 have P0 := Lb.rebox hltz5 hsm5 z1 r3 (fun k hk O4 => r4 k hk (by rw [hob]; exact fun e => O4 (I7 e).symm)) Ci cur t2 (us.drop (m * k)) (by rw [BN, t5]; exact Nat.mul_le_mul_right _ t3) JQ
 have Ea := Vi hr he1 (.slice A1 (n - m) (c - m))
 have L9 : (execOp (a.put (some e1) (.slice A1 (n - m) (c - m))).eval ⟨some e2, .call { callee := .builtin .append, args := #[z, .tmp e1], argTypes := #[T, T] }, ty2, pos2, af2, gd2⟩).run P w = .ok (.value (.slice (some ⟨gb, 0, none⟩) (n - m) cap)) w' := by
  simp only [execOp, resolve, invoke, builtin, Sem.run_bind, Sem.run_pure, D2, List.map_toArray, List.map_cons, List.map_nil, Ea, r1]
 show wpList P ops _ (_ :: rest) _ w
 unfold wpList
 rw [B9 (N4 Lb HH)]
 refine .inl ?_
 unfold Oper.wp
 rw [L9]
 refine h.sound hQ (P0.put (x := .bs iz (n - m) E k) ⟨gb, cap, by simp [Gh.addb], rfl, t3, t4, by simp [World.shape?, t2, t5]⟩ _ ?_)
 intro j hj
 exact H3 (st := st) BO j hj
end
section
variable {P : Program} {l : List Oper}
theorem Ko {Q Q' : Exit → PS → Prop} {y : Code} {id bid : Nat} (J : PS) (hm : P.follows .mixedOrders = true) (h : PA P B w0 l J l.length (List.replicate l.length false) st) (hj : PW P B w0 y Q' J) (hp : ∀ c s, ¬ Q (.panic c) s := by exact fun _ _ h => h) (hnd : RL l = true := by rfl) : PW P B w0 (.region id l.toArray true) (BM bid (U5 (PW P B w0 y Q') Q)) st := fun g a w hr => by
 have hw : Rep B w0 g st a { w with drawn := w.drawn + 1 } := hr.grow ⟨rfl, rfl, rfl, D9 _, fun _ _ => rfl⟩
 have := h (SR (BM bid (U5 (PW P B w0 y Q') Q))) (fun s hs => Tu hs hj) (fun c s hh => hh) g a _ hw
 have pr := BA (B := B) (w0 := w0) (Q := BM bid (U5 (PW P B w0 y Q') Q))
 refine wpIn_mono (wpIn_region_any hm (EX pr.1 hnd ?_)) pr.2
 have e : (List.replicate l.length false).toArray = Array.replicate l.toArray.size false := by simp
 rw [e] at this
 simpa using this
end
section
variable {P : Program} {ops : Array Oper} {K : PS → Prop} {rest : List Oper}
end
end Go.Proofs.YtddfimjiihggmaaGreatDoor.Px
namespace Go.Proofs.YtddfimjiihggmaaGreatDoor
open Go.RowKit Px
variable {neg : Bool} {c x a : UInt8} {i : Nat}
abbrev vC (l : List Cf) : List Value := l.flatMap fun h => [vS h.1, vS h.2]
abbrev cC (l : List Cf) : List SV := (vC l).map fun u => SV.d (.val u)
theorem FY (l : List Cf) : (vC l).length = l.length * 2 := by
 induction l with
 | nil => rfl
 | cons h l ih =>
  show (vS h.1 :: vS h.2 :: vC l).length = _
  simp only [List.length_cons, ih]
  omega
theorem NE (l : List Cf) {n : Nat} (h : l.length = n) : O8 2 n ((vC l).map .val) = l.map dCf := by
 subst h
 induction l with
 | nil => rfl
 | cons x l ih =>
  show [dS x.1, dS x.2] :: O8 2 l.length ((vC l).map .val) = dCf x :: l.map dCf
  rw [ih]
theorem PO (vs : List Value) : Ad (vs.map fun u => SV.d (.val u)) = some (vs.map DV.val) := Hs (fun u => DV.val u) vs
theorem Hf (vs : List Value) (i : Nat) : (vs.map fun u => SV.d (.val u)).map (SV.kill i) = vs.map fun u => SV.d (.val u) := by
 rw [List.map_map]
 exact List.map_congr_left fun u _ => V
theorem vC_set (l : List Cf) {k : Nat} {x : Cf} (q : F6) (hx : l[k]? = some x) : (cC l).set (((k : Int)).toNat * 2 + 1) (.d (dS q)) = cC (l.set k (x.1, q)) := by
 rw [H0]
 induction l generalizing k with
 | nil => simp at hx
 | cons h l ih =>
  cases k with
  | zero =>
   simp only [List.getElem?_cons_zero, Option.some.injEq] at hx
   subst hx
   rfl
  | succ k =>
   have := ih (k := k) (by simpa using hx)
   rw [show (k + 1) * 2 + 1 = k * 2 + 1 + 1 + 1 by omega]
   show SV.d (.val (vS h.1)) :: SV.d (.val (vS h.2)) :: (cC l).set (k * 2 + 1) (.d (dS q)) = _
   rw [this]
   rfl
theorem vC_at (l : List Cf) {k : Nat} {x : Cf} (hx : l[k]? = some x) : (cC l)[((k : Int)).toNat * 2 + 0]? = some (.d (dS x.1)) ∧ (cC l)[((k : Int)).toNat * 2 + 1]? = some (.d (dS x.2)) := by
 rw [H0]
 induction l generalizing k with
 | nil => simp at hx
 | cons h l ih =>
  cases k with
  | zero =>
   simp only [List.getElem?_cons_zero, Option.some.injEq] at hx
   subst hx
   exact ⟨rfl, V⟩
  | succ k =>
   have := ih (k := k) (by simpa using hx)
   rw [show (k + 1) * 2 + 1 = k * 2 + 1 + 1 + 1 by omega, show (k + 1) * 2 + 0 = k * 2 + 0 + 1 + 1 by omega]
   exact this
theorem vC_drop (l : List Cf) (k : Nat) : (vC l).drop (k * 2) = vC (l.drop k) := by
 induction l generalizing k with
 | nil => simp [vC]
 | cons h l ih =>
  cases k with
  | zero => rfl
  | succ k =>
   rw [show (k + 1) * 2 = k * 2 + 1 + 1 by omega]
   exact ih k
theorem vC_take (l : List Cf) (k : Nat) : (vC l).take (k * 2) = vC (l.take k) := by
 induction l generalizing k with
 | nil => simp [vC]
 | cons h l ih =>
  cases k with
  | zero => rfl
  | succ k =>
   rw [show (k + 1) * 2 = k * 2 + 1 + 1 by omega]
   show vS h.1 :: vS h.2 :: (vC l).take (k * 2) = vS h.1 :: vS h.2 :: vC (l.take k)
   rw [ih]
theorem TO (l r : List Cf) : vC (l ++ r) = vC l ++ vC r := List.flatMap_append
theorem cC_lt {l : List Cf} {k : Nat} (h : k < l.length) : Nat.blt (((k : Int)).toNat * 2 + 1) (cC l).length = true := by
 refine Nat.ble_eq_true_of_le ?_
 rw [A8, FY, H0]
 omega
abbrev cT : Nat := 113
abbrev rsS : Nat → List Cf → SV
 | 0, _ => .d (.val (.slice none 0 0))
 | _ + 1, O => .bs 79 O.length cT 2
abbrev rsB : Nat → List Cf → List (Nat × List SV)
 | 0, _ => []
 | _ + 1, O => [(79, cC O)]
abbrev kT : Nat := cT * 100000 + 7
def Cw (c : Cf) : Bool := !(c.2 == [])
theorem Jg (e : List Cf) (hl : e.length ≤ 1000) (hf : ∀ c ∈ e, c.2.length ≤ 70000) : PCalls Tryz.prog 185 [.sl 2 (e.map dCf)] (.d (.sl 2 (((Dl e e.length).filter Cw).map dCf))) := by
 obtain ⟨r, hr⟩ := I0 ((Dl e e.length).filter Cw)
 rw [← hr]
 have hfl := fun i => Tj hf i
 refine M0 Tryz.func185 V Tryz.ntmps185 Tryz.results185 fun B w0 => ?_
 refine E5 (A9 V (E5 (A9 V (B0 (E5 (A9 V (B8 ?_))))))); refine I1 (fun i : Nat => ⟨102, [(0, .d (.sl 2 (e.map dCf))), (3, rsS i (Dl e i)), (4, .d (dI i))], rsB i (Dl e i), []⟩) (fun i => i ≤ e.length) (fun i => e.length - i) 0 (E8 _)
  ⟨rfl, ⟨F5, F5, F5, D5⟩, D5, D5, rfl⟩ ?_
 intro i hi
 rcases D6 i e.length with h | h
 rotate_left
 · have u1 : decide ((i : Int) < ((e.map dCf).length : Int)) = false := A7 (by rw [A8]; omega)
   obtain rfl : i = e.length := by omega
   have Ib := PZ e e.length
   obtain ⟨O, hO⟩ := I0 (Dl e e.length)
   obtain ⟨i, Ec⟩ := I0 (e.length)
   rw [← hO] at hr Ib ⊢
   rw [← Ec] at hO u1 ⊢
   have P3 : PW Tryz.prog B w0 ((Code.skip).seq Code.skip) (fun _ _ => True) ⟨0, [], [], []⟩ → True := fun _ => trivial
   clear P3
   cases i with
   | zero =>
    have hO0 : O = [] := by rw [hO]; rfl
    subst hO0
    have FE : r = [] := hr
    subst FE
    refine H2 V (B4 V (yN V (I3 V (B3 (O1 u1 V (F8 (E5 (A9 V (B0 (E5 (A9 V (B8 ?_)))))))))))); refine I1 (fun j : Nat => ⟨102, [(3, .d (.val (.slice none 0 0))), (7, .d (.val (.slice none 0 0))), (8, .d (dI j))], [], []⟩) (fun j => j = 0) (fun _ => 0) 0 V ⟨rfl, ⟨F5, F5, F5, D5⟩, D5, D5, V⟩ ?_
    rintro j rfl
    refine H2 V (B4 V (yNl V (I3 V (F4 V (F8 (H9 V (A9 V (C4 ?_))))))))
    exact I9 _ (.tnil 2 V .nil) V
   | succ i =>
    refine CM 3 79 (es := O.map dCf) (ds := (vC O).map .val) (by rw [A8]; exact FY O) (NE O V) (PO _) V V ?_; refine H2 V (B4 V (yN V (I3 V (B3 (O1 u1 V (F8 (E5 (A9 V ?_)))))))); refine Kn 7 kT 2 V V V ?_; refine B0 (E5 (A9 V (B8 ?_))); refine I1 (fun j : Nat => ⟨102, [(3, .d (.sl 2 (O.map dCf))), (7, .ts kT 2 (((O.take j).filter Cw).map dCf)), (8, .d (dI j))], [], [(kT, (((O.take j).filter Cw).map dCf).length)]⟩) (fun j => j ≤ O.length) (fun j => O.length - j) 0 (E8 _)
     ⟨rfl, ⟨F5, F5, F5, D5⟩, D5, ⟨rfl, D5⟩, rfl⟩ ?_
    intro j hj
    rcases D6 j O.length with h2 | h2
    · have u2 : decide ((j : Int) < ((O.map dCf).length : Int)) = true := B1 (by rw [A8]; omega)
      obtain ⟨⟨c0, c1⟩, hc⟩ : ∃ a, O[j]? = some a := ⟨_, A4 h2⟩
      have em := ix dCf O j j (c0, c1) rfl hc
      have hw := J0 ((j : Int) + 1) (by omega)
      have K9 : (O.take (j + 1)).filter Cw = (O.take j).filter Cw ++ (if c1 = [] then [] else [(c0, c1)]) := by
       rw [G8, hc, Option.toList, List.filter_append]
       by_cases h3 : c1 = []
       · simp [Cw, h3]
       · simp [Cw, h3]
      have LZ : ((O.take j).filter Cw).length ≤ 1000 := F3 (List.length_filter_le _ _) (by rw [E4]; omega)
      obtain ⟨zs, KD⟩ := I0 ((O.take j).filter Cw)
      rw [← KD] at K9 LZ ⊢
      clear KD
      by_cases h3 : c1 = []
      · have u3 : (c1 == []) = true := by simp [h3]
        rw [B9 h3, List.append_nil] at K9
        refine H2 V (B4 V (yN V (I3 V (B3 (L8 u2 V (B2 (B0 (B8 (H9 V (B4 V (L6 em V (X8 V V (K8 V V (N5 V V (yQ (B3 (pnf u3 V (B2 (B6 (B4 V (F9 V (A9 V (B3 ?_)))))))))))))))))))))))
        exact ⟨j + 1, by omega, by omega, rfl, ⟨F5, .of_eq (by rw [K9] <;> rfl), Q7 hw, D5⟩, D5, ⟨(by rw [K9] <;> rfl), D5⟩, rfl⟩
      · have u3 : (c1 == []) = false := by simp [h3]
        rw [B5 h3] at K9
        refine H2 V (B4 V (yN V (I3 V (B3 (L8 u2 V (B2 (B0 (B8 (H9 V (B4 V (L6 em V (X8 V V (K8 V V (N5 V V (yQ (B3 (pnt u3 V (B6 (Bk V (B4 V (B4 V (L6 em V (V0 (ys := [_, _]) V V V ?_))))))))))))))))))))))); refine yR (es := [[_, _]]) V V V V V ?_; refine yT (es' := (zs ++ [(c0, c1)]).map dCf) (m := ((zs ++ [(c0, c1)]).map dCf).length) (by simp; omega) (by simp; omega) V V V V V (by simp) (by simp) ?_; refine Cj V (yQ (B6 (B4 V (F9 V (A9 V (B3 ?_))))))
        exact ⟨j + 1, by omega, by omega, rfl, ⟨F5, .of_eq (by rw [K9] <;> rfl), Q7 hw, D5⟩, D5, ⟨(by rw [K9] <;> rfl), D5⟩, rfl⟩
    · have u2 : decide ((j : Int) < ((O.map dCf).length : Int)) = false := A7 (by rw [A8]; omega)
      obtain rfl : j = O.length := by omega
      rw [I6, ← hr]
      refine H2 V (B4 V (yN V (I3 V (B3 (O1 u2 V (F8 (E5 (Bk V (Cj V (yQ (C4 ?_)))))))))))
      exact M8 V V
 have u1 : decide ((i : Int) < ((e.map dCf).length : Int)) = true := B1 (by rw [A8]; omega)
 obtain ⟨⟨c0, c1⟩, hc⟩ : ∃ a, e[i]? = some a := ⟨_, A4 h⟩
 have em := ix dCf e i i (c0, c1) rfl hc
 have hw := J0 ((i : Int) + 1) (by omega)
 have hq := hf _ (C0 hc)
 simp only at hq
 have K9 : Dl e (i + 1) = Bf (c0, c1) (Dl e i) := by rw [Dl, hc]
 have hOl := PZ e i
 have hOf := hfl i
 clear hfl hr
 cases i with
 | zero =>
  have K9 : Dl e (0 + 1) = [(c0, c1)] := K9
  refine H2 V (B4 V (yN V (I3 V (B3 (L8 u1 V (B2 (B0 (B8 (E5 (A9 V (B0 (B8 ?_)))))))))))); refine I1 (fun k : Nat => ⟨102, [(0, .d (.sl 2 (e.map dCf))), (3, .d (.val (.slice none 0 0))), (4, .d (dI (0 : Nat))), (5, .d (dI k))], [], []⟩) (fun k => k = 0) (fun _ => 0) 0 V ⟨rfl, ⟨F5, F5, F5, F5, D5⟩, D5, D5, V⟩ ?_
  rintro k rfl
  refine B0 (B0 ?_); refine J2 Tryz.mixed (by kernel_rfl) ?_; refine B4 V (B4 V (yNl V (F9 V (B4 V (L4 V V (L4 V V (L4 V V (L4 V V (L4 V V (yO V (L3 V V (yQ (F4 V (F8 (B0 (B0 ?_)))))))))))))))); refine J2 Tryz.mixed (by kernel_rfl) ?_; refine B4 V (B4 V (yNl V (F9 V (B4 V (L4 V V (L4 V V (L4 V V (L4 V V (L4 V V (yO V (L3 V V (yQ (F4 V (B2 (E5 (yEb V (B4 V (B4 V (ySn V V (yTe V V (EZ V (yQ ?_)))))))))))))))))))))); refine CM 6 66 (es := []) (ds := []) V V V V V ?_; refine Ko ⟨102, [(0, .d (.sl 2 (e.map dCf))), (3, .bs 79 1 cT 2), (4, .d (dI (0 : Nat)))], [(79, cC [(c0, c1)])], []⟩ Tryz.mixed ?_ ?_
  refine T4 0 V V (by kernel_rfl) (by kernel_rfl) P2 ?_; refine T4 1 V V (by kernel_rfl) (by kernel_rfl) P2 ?_; refine T4 3 V V (by kernel_rfl) (by kernel_rfl) P2 ?_
  refine T4 4 V V (by kernel_rfl) (by kernel_rfl) P2 ?_; refine T4 9 V V (by kernel_rfl) (by kernel_rfl) P2 ?_; refine I5 [_, _] V V ⟨⟨_, V, ?_⟩, ⟨_, V, ?_⟩, D5⟩; refine ySz V V ?_
  refine yQ ?_; refine I5 [_] V V ⟨⟨_, V, ?_⟩, D5⟩; refine L6 em V (yQ ?_); refine I5 [_] V V ⟨⟨_, V, ?_⟩, D5⟩; refine V0 (ys := [_, _]) V V V (yQ ?_)
  refine I5 [_] V V ⟨⟨_, V, ?_⟩, D5⟩; refine yR (es := [[_, _]]) V V V V V ?_; refine yQ ?_; refine I5 [_] V V ⟨⟨_, V, ?_⟩, D5⟩
  refine yTn (vs := [vS c0, vS c1]) (m := 1) (es := [dCf (c0, c1)]) (by omega) (by omega) (by omega) (by omega) V V V V V (yQ ?_); refine I5 [_] V V ⟨⟨_, V, ?_⟩, D5⟩; refine yTe V V (yQ ?_); refine I5 [_] V V ⟨⟨_, V, ?_⟩, D5⟩; refine EZ V (yQ ?_); refine AV V ⟨rfl, ⟨F5, F5, F5, D5⟩, ⟨⟨_, V, K6 V⟩, D5⟩, D5, V⟩
  refine L6 em V (yQ ?_); refine I5 [_, _] V V ⟨⟨_, V, ?_⟩, ⟨_, V, ?_⟩, D5⟩; refine ySz V V (yQ ?_); refine I5 [_] V V ⟨⟨_, V, ?_⟩, D5⟩
  refine V0 (ys := [_, _]) V V V (yQ ?_); refine I5 [_] V V ⟨⟨_, V, ?_⟩, D5⟩; refine yR (es := [[_, _]]) V V V V V ?_; refine yQ ?_; refine I5 [_] V V ⟨⟨_, V, ?_⟩, D5⟩
  refine yTn (vs := [vS c0, vS c1]) (m := 1) (es := [dCf (c0, c1)]) (by omega) (by omega) (by omega) (by omega) V V V V V (yQ ?_); refine I5 [_] V V ⟨⟨_, V, ?_⟩, D5⟩; refine yTe V V (yQ ?_); refine I5 [_] V V ⟨⟨_, V, ?_⟩, D5⟩; refine EZ V (yQ ?_); refine AV V ⟨rfl, ⟨F5, F5, F5, D5⟩, ⟨⟨_, V, K6 V⟩, D5⟩, D5, V⟩
  refine V0 (ys := [_, _]) V V V (yQ ?_); refine I5 [_, _] V V ⟨⟨_, V, ?_⟩, ⟨_, V, ?_⟩, D5⟩; refine ySz V V (yQ ?_); refine I5 [_] V V ⟨⟨_, V, ?_⟩, D5⟩
  refine yR (es := [[_, _]]) V V V V V ?_; refine yQ ?_; refine I5 [_] V V ⟨⟨_, V, ?_⟩, D5⟩
  refine yTn (vs := [vS c0, vS c1]) (m := 1) (es := [dCf (c0, c1)]) (by omega) (by omega) (by omega) (by omega) V V V V V (yQ ?_); refine I5 [_] V V ⟨⟨_, V, ?_⟩, D5⟩; refine yTe V V (yQ ?_); refine I5 [_] V V ⟨⟨_, V, ?_⟩, D5⟩; refine EZ V (yQ ?_); refine AV V ⟨rfl, ⟨F5, F5, F5, D5⟩, ⟨⟨_, V, K6 V⟩, D5⟩, D5, V⟩
  refine yR (es := [[_, _]]) V V V V V ?_; refine yQ ?_; refine I5 [_] V V ⟨⟨_, V, ?_⟩, D5⟩; refine ySz V V (yQ ?_); refine I5 [_] V V ⟨⟨_, V, ?_⟩, D5⟩
  refine yTn (vs := [vS c0, vS c1]) (m := 1) (es := [dCf (c0, c1)]) (by omega) (by omega) (by omega) (by omega) V V V V V (yQ ?_); refine I5 [_] V V ⟨⟨_, V, ?_⟩, D5⟩; refine yTe V V (yQ ?_); refine I5 [_] V V ⟨⟨_, V, ?_⟩, D5⟩; refine EZ V (yQ ?_); refine AV V ⟨rfl, ⟨F5, F5, F5, D5⟩, ⟨⟨_, V, K6 V⟩, D5⟩, D5, V⟩; refine B6 (B4 V (F9 V (A9 V (B3 ?_))))
  exact ⟨0 + 1, by omega, by omega, rfl, ⟨F5, .of_eq (by rw [K9] <;> rfl), Q7 hw, D5⟩, ⟨⟨_, rfl, K6 (by rw [K9] <;> rfl)⟩, D5⟩, D5, (by simp [PS.closed, SV.ok, G1, Nat.beq, -List.map_take, -List.map_set])⟩
 | succ i =>
  have hOp : 0 < (Dl e (i + 1)).length := by
   have := (IZ (c0, c1) (Dl e (i + 1)))
   have h2 : Dl e (i + 1) = match e[i]? with
    | none => Dl e i
    | some c => Bf c (Dl e i) := rfl
   rw [h2]
   cases he : e[i]? with
   | none => rw [List.getElem?_eq_none_iff] at he; omega
   | some c => exact (IZ c _).2
  obtain ⟨O, hO⟩ := I0 (Dl e (i + 1))
  rw [← hO] at K9 hOl hOf hOp ⊢
  clear hO
  have hOl2 : O.length ≤ 1000 := by omega
  show PW Tryz.prog B w0 _ _ ⟨102, [(0, .d (.sl 2 (e.map dCf))), (3, .bs 79 O.length cT 2), (4, .d (dI (i + 1 : Nat)))], [(79, cC O)], []⟩
  refine H2 V (B4 V (yN V (I3 V (B3 (L8 u1 V (B2 (B0 (B8 (E5 (A9 V (B0 (B8 ?_)))))))))))); refine I1 (fun k : Nat => ⟨102, [(0, .d (.sl 2 (e.map dCf))), (3, .bs 79 O.length cT 2), (4, .d (dI (i + 1 : Nat))), (5, .d (dI k))], [(79, cC O)], []⟩) (fun k => k ≤ O.length ∧ ∀ j d, j < k → O[j]? = some d → ltS d.1 c0 = true) (fun k => O.length - k) 0 ⟨by omega, fun j d hj => by omega⟩
   ⟨rfl, ⟨F5, F5, F5, F5, D5⟩, ⟨⟨_, rfl, K6 rfl⟩, D5⟩, D5, (by simp [PS.closed, SV.ok, G1, Nat.beq, -List.map_take, -List.map_set])⟩ ?_
  rintro k ⟨hk, hlt⟩
  rcases D6 k O.length with h3 | h3
  · have t1 : decide ((k : Int) < (O.length : Int)) = true := B1 (by omega)
    obtain ⟨⟨d0, d1⟩, hd⟩ : ∃ a, O[k]? = some a := ⟨_, A4 h3⟩
    obtain ⟨a1, a2⟩ := vC_at O hd
    have hwk := J0 ((k : Int) + 1) (by omega)
    rcases Bool.eq_false_or_eq_true (ltS d0 c0) with h4 | h4
    · have h48 : lt8 d0 c0 = true := h4
      refine B0 (B0 ?_); refine J2 Tryz.mixed (by kernel_rfl) ?_; refine B4 V (AU V (yNb V (F9 V (B4 V ?_)))); rw [t1]; refine AU V (B4 V (At (by omega) (by omega) V V V (Bd V (AQ V V a1 (B4 V (B4 V (L6 em V (X8 V V (K8 V V (yBsl V V (L2 V V (yQ (B3 (L8 h48 V (B2 (B8 (B6 (B4 V (F9 V (A9 V (BT (B3 ?_)))))))))))))))))))))); rw [hwk]
      exact ⟨k + 1, ⟨by omega, fun j d hj BO => by
       rcases D6 j k with h6 | h6
       · exact hlt j d h6 BO
       · obtain rfl : j = k := by omega
         rw [hd] at BO
         cases BO
         exact h4⟩, by omega, rfl, ⟨F5, F5, F5, F5, D5⟩, ⟨⟨_, rfl, K6 rfl⟩, D5⟩, D5, (by simp [PS.closed, SV.ok, G1, Nat.beq, -List.map_take, -List.map_set])⟩
    · have Ic : BB O c0 = k := Pk hlt (fun d BO => by rw [hd] at BO; cases BO; exact h4) hk
      have h48 : lt8 d0 c0 = false := h4
      by_cases h5 : d0 = c0
      · have u5 : (d0 == c0) = true := by simp [h5]
        have Mj : Bf (c0, c1) O = O.set k (d0, J7 (val d1 + val c1)) := by
         unfold Bf
         rw [Ic, hd]
         simp only
         rw [B9 h5]
        have hlen : (O.set k (d0, J7 (val d1 + val c1))).length = O.length := List.length_set ..
        have hfd := hOf _ (C0 hd)
        have k1 := wRAddG d1 c1 (by simp only at hfd; omega) (by omega)
        have hs := vC_set O (J7 (val d1 + val c1)) hd
        have BN := cC_lt h3
        rw [Mj] at K9
        obtain ⟨q, JD⟩ := I0 (J7 (val d1 + val c1))
        rw [← JD] at k1 hs hlen K9
        clear JD Mj
        refine B0 (B0 ?_); refine J2 Tryz.mixed (by kernel_rfl) ?_; refine B4 V (AU V (yNb V (F9 V (B4 V ?_)))); rw [t1]; refine AU V (B4 V (At (by omega) (by omega) V V V (Bd V (AQ V V a1 (B4 V (B4 V (L6 em V (X8 V V (K8 V V (yBsl V V (L2 V V (yQ (B3 (O1 h48 V (F8 (B0 (B0 ?_))))))))))))))))); refine J2 Tryz.mixed (by kernel_rfl) ?_; refine B4 V (AU V (yNb V (F9 V (B4 V ?_)))); rw [t1]; refine AU V (B4 V (At (by omega) (by omega) V V V (Bd V (AQ V V a1 (B4 V (B4 V (L6 em V (X8 V V (K8 V V (N7 V V (L2 V V (yQ (B3 (L8 u5 V (B0 ?_))))))))))))))); refine J2 Tryz.mixed (by kernel_rfl) ?_; refine AU V (B4 V (AU V (B4 V (At (by omega) (by omega) V V V (Bd V (AQ V V a2 (B4 V (B4 V (L6 em V (X8 V V (K8 V V (yC (k1) V V (At (by omega) (by omega) V V V (Bd V ?_)))))))))))))); refine Y9 V V V hs ?_ BN; refine yQ (F8 (B6 (B4 V (F9 V (A9 V (B3 ?_)))))); rw [hw]
        exact ⟨i + 1 + 1, by omega, by omega, rfl, ⟨F5, .of_eq (by rw [K9]; show SV.bs 79 O.length cT 2 = SV.bs 79 _ cT 2; rw [hlen]), F5, D5⟩, ⟨⟨_, rfl, K6 (by rw [K9])⟩, D5⟩, D5, (by simp [PS.closed, SV.ok, G1, Nat.beq, -List.map_take, -List.map_set])⟩
      · have u5 : (d0 == c0) = false := by simp [h5]
        have Mj : Bf (c0, c1) O = O.take k ++ (c0, c1) :: O.drop k := by
         unfold Bf
         rw [Ic, hd]
         simp only
         rw [B5 h5]
        rw [Mj] at K9
        have Oa : (O.drop k).length = O.length - k := M7
        have htl : (O.take k).length = k := by rw [E4]; omega
        have hlen : (O.take k ++ (c0, c1) :: O.drop k).length = k + 1 + (O.length - k) := by rw [D3, List.length_cons, htl, Oa]; omega
        have Cy : (vC O).length = O.length * 2 := FY O
        have Ea := vC_drop O k
        have hv3 : (((cC O).map (SV.kill 66)).map (SV.kill 66)).take (k * 2) = cC (O.take k) := by rw [Hf, Hf, ← List.map_take, vC_take]
        have hv4 : (vC (O.take k)).length = k * 2 := by rw [FY, htl]
        have hv5 : (vC (O.drop k)).length = (O.length - k) * 2 := by rw [FY, Oa]
        have hv6 : O8 2 (O.length - k) ((vC (O.drop k)).map .val) = (O.drop k).map dCf := NE _ Oa
        have hv7 : (vC (O.take k) ++ [vS c0, vS c1] ++ vC (O.drop k)) = vC (O.take k ++ (c0, c1) :: O.drop k) := by rw [TO]; show _ = vC (O.take k) ++ ([vS c0, vS c1] ++ vC (O.drop k)); rw [G9]
        obtain ⟨TK, hTK⟩ := I0 (O.take k)
        obtain ⟨DR, hDR⟩ := I0 (O.drop k)
        rw [← hTK, ← hDR] at K9 hlen hv7
        rw [← hTK] at hv3 hv4
        rw [← hDR] at Ea hv5 hv6 Oa
        clear hTK hDR Mj Ic hlt
        refine B0 (B0 ?_); refine J2 Tryz.mixed (by kernel_rfl) ?_; refine B4 V (AU V (yNb V (F9 V (B4 V ?_)))); rw [t1]; refine AU V (B4 V (At (by omega) (by omega) V V V (Bd V (AQ V V a1 (B4 V (B4 V (L6 em V (X8 V V (K8 V V (yBsl V V (L2 V V (yQ (B3 (O1 h48 V (F8 (B0 (B0 ?_))))))))))))))))); refine J2 Tryz.mixed (by kernel_rfl) ?_; refine B4 V (AU V (yNb V (F9 V (B4 V ?_)))); rw [t1]; refine AU V (B4 V (At (by omega) (by omega) V V V (Bd V (AQ V V a1 (B4 V (B4 V (L6 em V (X8 V V (K8 V V (N7 V V (L2 V V (yQ (B3 (O1 u5 V (B2 (E5 (yEb V (AU V (B4 V (yTa (us := vC O) (vs := vC DR) (n := O.length) (m := k) (i := 79) (iz := 66) (by omega) (by omega) (by omega) Cy Ea V V V V V (EZ V (yQ ?_)))))))))))))))))))))); refine CM 6 66 (es := DR.map dCf) (ds := (vC DR).map .val) (by rw [A8, hv5]) hv6 (PO _) rfl rfl ?_; refine Pf 79 (k * 2) V hv3 ?_; refine Ko ⟨102, [(0, .d (.sl 2 (e.map dCf))), (3, .bs 79 (k + 1 + (O.length - k)) cT 2), (4, .d (dI (i + 1 : Nat)))], [(79, cC (TK ++ (c0, c1) :: DR))], []⟩ Tryz.mixed ?_ ?_
        refine T4 0 V V (by kernel_rfl) (by kernel_rfl) P2 ?_; refine T4 1 V V (by kernel_rfl) (by kernel_rfl) P2 ?_; refine T4 3 V V (by kernel_rfl) (by kernel_rfl) P2 ?_
        refine T4 4 V V (by kernel_rfl) (by kernel_rfl) P2 ?_; refine T4 9 V V (by kernel_rfl) (by kernel_rfl) P2 ?_; refine I5 [_, _] V V ⟨⟨_, V, ?_⟩, ⟨_, V, ?_⟩, D5⟩
        refine yDb (by omega) (by omega) V V (yQ ?_); refine I5 [_] V V ⟨⟨_, V, ?_⟩, D5⟩; refine L6 em V (yQ ?_); refine I5 [_] V V ⟨⟨_, V, ?_⟩, D5⟩
        refine V0 (ys := [_, _]) V V V (yQ ?_); refine I5 [_] V V ⟨⟨_, V, ?_⟩, D5⟩; refine yR (es := [[_, _]]) V V V V V ?_; refine yQ ?_; refine I5 [_] V V ⟨⟨_, V, ?_⟩, D5⟩
        refine NQ (n := k) (us := vC TK) (vs := [vS c0, vS c1]) (m := 1) (es := [dCf (c0, c1)]) (by omega) (by omega) (by omega) V V hv4 V V V (yQ ?_); refine I5 [_] V V ⟨⟨_, V, ?_⟩, D5⟩
        refine NQ (n := k + 1) (us := vC TK ++ [vS c0, vS c1]) (vs := vC DR) (m := O.length - k) (es := DR.map dCf) (by omega) (by omega) (by omega) hv6 hv5 (by rw [D3, hv4]; show k * 2 + 2 = _; omega) rfl rfl rfl ?_; refine yQ ?_; refine I5 [_] V V ⟨⟨_, V, ?_⟩, D5⟩; refine EZ V (yQ ?_)
        refine AV V ⟨rfl, ⟨F5, F5, F5, D5⟩, ⟨⟨_, V, K6 (G6 (fun l => List.map (fun u => SV.d (.val u)) l) hv7)⟩, D5⟩, D5, (by simp [PS.closed, SV.ok, G1, Nat.beq, -List.map_take, -List.map_set])⟩
        refine L6 em V (yQ ?_); refine I5 [_, _] V V ⟨⟨_, V, ?_⟩, ⟨_, V, ?_⟩, D5⟩; refine yDb (by omega) (by omega) V V (yQ ?_); refine I5 [_] V V ⟨⟨_, V, ?_⟩, D5⟩
        refine V0 (ys := [_, _]) V V V (yQ ?_); refine I5 [_] V V ⟨⟨_, V, ?_⟩, D5⟩; refine yR (es := [[_, _]]) V V V V V ?_; refine yQ ?_; refine I5 [_] V V ⟨⟨_, V, ?_⟩, D5⟩
        refine NQ (n := k) (us := vC TK) (vs := [vS c0, vS c1]) (m := 1) (es := [dCf (c0, c1)]) (by omega) (by omega) (by omega) V V hv4 V V V (yQ ?_); refine I5 [_] V V ⟨⟨_, V, ?_⟩, D5⟩
        refine NQ (n := k + 1) (us := vC TK ++ [vS c0, vS c1]) (vs := vC DR) (m := O.length - k) (es := DR.map dCf) (by omega) (by omega) (by omega) hv6 hv5 (by rw [D3, hv4]; show k * 2 + 2 = _; omega) rfl rfl rfl ?_; refine yQ ?_; refine I5 [_] V V ⟨⟨_, V, ?_⟩, D5⟩; refine EZ V (yQ ?_)
        refine AV V ⟨rfl, ⟨F5, F5, F5, D5⟩, ⟨⟨_, V, K6 (G6 (fun l => List.map (fun u => SV.d (.val u)) l) hv7)⟩, D5⟩, D5, (by simp [PS.closed, SV.ok, G1, Nat.beq, -List.map_take, -List.map_set])⟩
        refine V0 (ys := [_, _]) V V V (yQ ?_); refine I5 [_, _] V V ⟨⟨_, V, ?_⟩, ⟨_, V, ?_⟩, D5⟩; refine yDb (by omega) (by omega) V V (yQ ?_)
        refine I5 [_] V V ⟨⟨_, V, ?_⟩, D5⟩; refine yR (es := [[_, _]]) V V V V V ?_; refine yQ ?_; refine I5 [_] V V ⟨⟨_, V, ?_⟩, D5⟩
        refine NQ (n := k) (us := vC TK) (vs := [vS c0, vS c1]) (m := 1) (es := [dCf (c0, c1)]) (by omega) (by omega) (by omega) V V hv4 V V V (yQ ?_); refine I5 [_] V V ⟨⟨_, V, ?_⟩, D5⟩
        refine NQ (n := k + 1) (us := vC TK ++ [vS c0, vS c1]) (vs := vC DR) (m := O.length - k) (es := DR.map dCf) (by omega) (by omega) (by omega) hv6 hv5 (by rw [D3, hv4]; show k * 2 + 2 = _; omega) rfl rfl rfl ?_; refine yQ ?_; refine I5 [_] V V ⟨⟨_, V, ?_⟩, D5⟩; refine EZ V (yQ ?_)
        refine AV V ⟨rfl, ⟨F5, F5, F5, D5⟩, ⟨⟨_, V, K6 (G6 (fun l => List.map (fun u => SV.d (.val u)) l) hv7)⟩, D5⟩, D5, (by simp [PS.closed, SV.ok, G1, Nat.beq, -List.map_take, -List.map_set])⟩
        refine yR (es := [[_, _]]) V V V V V ?_; refine yQ ?_; refine I5 [_] V V ⟨⟨_, V, ?_⟩, D5⟩; refine yDb (by omega) (by omega) V V (yQ ?_); refine I5 [_] V V ⟨⟨_, V, ?_⟩, D5⟩
        refine NQ (n := k) (us := vC TK) (vs := [vS c0, vS c1]) (m := 1) (es := [dCf (c0, c1)]) (by omega) (by omega) (by omega) V V hv4 V V V (yQ ?_); refine I5 [_] V V ⟨⟨_, V, ?_⟩, D5⟩
        refine NQ (n := k + 1) (us := vC TK ++ [vS c0, vS c1]) (vs := vC DR) (m := O.length - k) (es := DR.map dCf) (by omega) (by omega) (by omega) hv6 hv5 (by rw [D3, hv4]; show k * 2 + 2 = _; omega) rfl rfl rfl ?_; refine yQ ?_; refine I5 [_] V V ⟨⟨_, V, ?_⟩, D5⟩; refine EZ V (yQ ?_)
        refine AV V ⟨rfl, ⟨F5, F5, F5, D5⟩, ⟨⟨_, V, K6 (G6 (fun l => List.map (fun u => SV.d (.val u)) l) hv7)⟩, D5⟩, D5, (by simp [PS.closed, SV.ok, G1, Nat.beq, -List.map_take, -List.map_set])⟩
        refine B6 (B4 V (F9 V (A9 V (B3 ?_)))); rw [hw]
        exact ⟨i + 1 + 1, by omega, by omega, rfl, ⟨F5, .of_eq (by rw [K9]; show SV.bs 79 _ cT 2 = SV.bs 79 _ cT 2; rw [hlen]), F5, D5⟩, ⟨⟨_, rfl, K6 (by rw [K9])⟩, D5⟩, D5, (by simp [PS.closed, SV.ok, G1, Nat.beq, -List.map_take, -List.map_set])⟩
  · have t1 : decide ((k : Int) < (O.length : Int)) = false := A7 (by omega)
    obtain rfl : k = O.length := by omega
    have Ic : BB O c0 = O.length := Pk hlt (fun d BO => by rw [H4 (D9 _)] at BO; cases BO) hk
    have Mj : Bf (c0, c1) O = O ++ [(c0, c1)] := by
     unfold Bf
     rw [Ic, H4 (D9 _)]
     simp only
     rw [I6, List.drop_length]
    rw [Mj] at K9
    have hlen : (O ++ [(c0, c1)]).length = O.length + 1 := by simp
    have Cy : (vC O).length = O.length * 2 := FY O
    have Ea : (vC O).drop (O.length * 2) = [] := by rw [← Cy, List.drop_length]
    have hv3 : (((cC O).map (SV.kill 66)).map (SV.kill 66)).take (O.length * 2) = cC O := by rw [Hf, Hf]; exact D8 (by rw [A8, Cy]; omega)
    have hv7 : vC O ++ [vS c0, vS c1] = vC (O ++ [(c0, c1)]) := by rw [TO]; rfl
    clear Mj Ic hlt
    refine B0 (B0 ?_); refine J2 Tryz.mixed (by kernel_rfl) ?_; refine B4 V (AU V (yNb V (F9 V (B4 V ?_)))); rw [t1]; refine L4 V V (L4 V V (L4 V V (L4 V V (L4 V V (yO V (L3 V V (yQ (F4 V (F8 (B0 (B0 ?_))))))))))); refine J2 Tryz.mixed (by kernel_rfl) ?_; refine B4 V (AU V (yNb V (F9 V (B4 V ?_)))); rw [t1]; refine L4 V V (L4 V V (L4 V V (L4 V V (L4 V V (yO V (L3 V V (yQ (F4 V (B2 (E5 (yEb V (AU V (B4 V (yTa (us := vC O) (vs := []) (n := O.length) (m := O.length) (i := 79) (iz := 66) (by omega) (by omega) (by omega) Cy Ea V V V V V (EZ V (yQ ?_)))))))))))))))); refine CM 6 66 (es := []) (ds := []) (by simp) (by rw [Nat.sub_self]; rfl) rfl rfl rfl ?_; refine Pf 79 (O.length * 2) V hv3 ?_; refine Ko ⟨102, [(0, .d (.sl 2 (e.map dCf))), (3, .bs 79 (O.length + 1) cT 2), (4, .d (dI (i + 1 : Nat)))], [(79, cC (O ++ [(c0, c1)]))], []⟩ Tryz.mixed ?_ ?_
    refine T4 0 V V (by kernel_rfl) (by kernel_rfl) P2 ?_; refine T4 1 V V (by kernel_rfl) (by kernel_rfl) P2 ?_; refine T4 3 V V (by kernel_rfl) (by kernel_rfl) P2 ?_
    refine T4 4 V V (by kernel_rfl) (by kernel_rfl) P2 ?_; refine T4 9 V V (by kernel_rfl) (by kernel_rfl) P2 ?_; refine I5 [_, _] V V ⟨⟨_, V, ?_⟩, ⟨_, V, ?_⟩, D5⟩
    refine yDb (by omega) (by omega) V V (yQ ?_); refine I5 [_] V V ⟨⟨_, V, ?_⟩, D5⟩; refine L6 em V (yQ ?_); refine I5 [_] V V ⟨⟨_, V, ?_⟩, D5⟩
    refine V0 (ys := [_, _]) V V V (yQ ?_); refine I5 [_] V V ⟨⟨_, V, ?_⟩, D5⟩; refine yR (es := [[_, _]]) V V V V V ?_; refine yQ ?_; refine I5 [_] V V ⟨⟨_, V, ?_⟩, D5⟩
    refine NQ (n := O.length) (us := vC O) (vs := [vS c0, vS c1]) (m := 1) (es := [dCf (c0, c1)]) (by omega) (by omega) (by omega) V V Cy V V V (yQ ?_); refine I5 [_] V V ⟨⟨_, V, ?_⟩, D5⟩
    refine yTe V V (yQ ?_); refine I5 [_] V V ⟨⟨_, V, ?_⟩, D5⟩; refine EZ V (yQ ?_)
    refine AV V ⟨rfl, ⟨F5, F5, F5, D5⟩, ⟨⟨_, V, K6 (G6 (fun l => List.map (fun u => SV.d (.val u)) l) hv7)⟩, D5⟩, D5, (by simp [PS.closed, SV.ok, G1, Nat.beq, -List.map_take, -List.map_set])⟩
    refine L6 em V (yQ ?_); refine I5 [_, _] V V ⟨⟨_, V, ?_⟩, ⟨_, V, ?_⟩, D5⟩; refine yDb (by omega) (by omega) V V (yQ ?_); refine I5 [_] V V ⟨⟨_, V, ?_⟩, D5⟩
    refine V0 (ys := [_, _]) V V V (yQ ?_); refine I5 [_] V V ⟨⟨_, V, ?_⟩, D5⟩; refine yR (es := [[_, _]]) V V V V V ?_; refine yQ ?_; refine I5 [_] V V ⟨⟨_, V, ?_⟩, D5⟩
    refine NQ (n := O.length) (us := vC O) (vs := [vS c0, vS c1]) (m := 1) (es := [dCf (c0, c1)]) (by omega) (by omega) (by omega) V V Cy V V V (yQ ?_); refine I5 [_] V V ⟨⟨_, V, ?_⟩, D5⟩
    refine yTe V V (yQ ?_); refine I5 [_] V V ⟨⟨_, V, ?_⟩, D5⟩; refine EZ V (yQ ?_)
    refine AV V ⟨rfl, ⟨F5, F5, F5, D5⟩, ⟨⟨_, V, K6 (G6 (fun l => List.map (fun u => SV.d (.val u)) l) hv7)⟩, D5⟩, D5, (by simp [PS.closed, SV.ok, G1, Nat.beq, -List.map_take, -List.map_set])⟩
    refine V0 (ys := [_, _]) V V V (yQ ?_); refine I5 [_, _] V V ⟨⟨_, V, ?_⟩, ⟨_, V, ?_⟩, D5⟩; refine yDb (by omega) (by omega) V V (yQ ?_)
    refine I5 [_] V V ⟨⟨_, V, ?_⟩, D5⟩; refine yR (es := [[_, _]]) V V V V V ?_; refine yQ ?_; refine I5 [_] V V ⟨⟨_, V, ?_⟩, D5⟩
    refine NQ (n := O.length) (us := vC O) (vs := [vS c0, vS c1]) (m := 1) (es := [dCf (c0, c1)]) (by omega) (by omega) (by omega) V V Cy V V V (yQ ?_); refine I5 [_] V V ⟨⟨_, V, ?_⟩, D5⟩
    refine yTe V V (yQ ?_); refine I5 [_] V V ⟨⟨_, V, ?_⟩, D5⟩; refine EZ V (yQ ?_)
    refine AV V ⟨rfl, ⟨F5, F5, F5, D5⟩, ⟨⟨_, V, K6 (G6 (fun l => List.map (fun u => SV.d (.val u)) l) hv7)⟩, D5⟩, D5, (by simp [PS.closed, SV.ok, G1, Nat.beq, -List.map_take, -List.map_set])⟩
    refine yR (es := [[_, _]]) V V V V V ?_; refine yQ ?_; refine I5 [_] V V ⟨⟨_, V, ?_⟩, D5⟩; refine yDb (by omega) (by omega) V V (yQ ?_); refine I5 [_] V V ⟨⟨_, V, ?_⟩, D5⟩
    refine NQ (n := O.length) (us := vC O) (vs := [vS c0, vS c1]) (m := 1) (es := [dCf (c0, c1)]) (by omega) (by omega) (by omega) V V Cy V V V (yQ ?_); refine I5 [_] V V ⟨⟨_, V, ?_⟩, D5⟩
    refine yTe V V (yQ ?_); refine I5 [_] V V ⟨⟨_, V, ?_⟩, D5⟩; refine EZ V (yQ ?_)
    refine AV V ⟨rfl, ⟨F5, F5, F5, D5⟩, ⟨⟨_, V, K6 (G6 (fun l => List.map (fun u => SV.d (.val u)) l) hv7)⟩, D5⟩, D5, (by simp [PS.closed, SV.ok, G1, Nat.beq, -List.map_take, -List.map_set])⟩
    refine B6 (B4 V (F9 V (A9 V (B3 ?_)))); rw [hw]
    exact ⟨i + 1 + 1, by omega, by omega, rfl, ⟨F5, .of_eq (by rw [K9]; show SV.bs 79 _ cT 2 = SV.bs 79 _ cT 2; rw [hlen]), F5, D5⟩, ⟨⟨_, rfl, K6 (by rw [K9])⟩, D5⟩, D5, (by simp [PS.closed, SV.ok, G1, Nat.beq, -List.map_take, -List.map_set])⟩
theorem PH (s : F6) (hs : s.length ≤ 1000000) : PCalls Tryz.prog 159 [dS s] (.d (dB (Cg s))) := by
 have c1 := Sv s (by omega)
 cases h : J5 s with
 | false =>
  rw [h] at c1
  have e : Cg s = false := by simp [Cg, h]
  rw [e]
  refine M0 Tryz.func159 V Tryz.ntmps159 Tryz.results159 fun B w0 => ?_
  refine E5 (A9 V (H9 V (yC (c1) V V (B4 V (L4 V V (yO V (L3 V V (B4 V (L4 V V (yO V (L3 V V (A9 V (C4 ?_)))))))))))))
  exact M8 V V
 | true =>
  rw [h] at c1
  obtain ⟨x, l, rfl⟩ : ∃ x l, s = x :: l := by
   cases s with
   | nil => simp [J5] at h
   | cons x l => exact ⟨x, l, V⟩
  have hx : (x :: l : F6)[(0 : Int).toNat]? = some x := rfl
  by_cases h1 : 97 ≤ x.toNat
  · have t1 : decide ((x.toNat : Int) ≥ 97) = true := B1 (by omega)
    have e : Cg (x :: l) = decide (x.toNat ≤ 122) := by simp [Cg, h, h1]
    rw [e]
    refine M0 Tryz.func159 V Tryz.ntmps159 Tryz.results159 fun B w0 => ?_
    refine E5 (A9 V (H9 V (yC (c1) V V (B4 V (B4 V (U1 hx (by omega) V V (F9 V (L2 V V (B4 V ?_))))))))); rw [t1]; refine B4 V (U1 hx (by omega) V V (F9 V (L2 V V (A9 V (C4 ?_)))))
    exact I9 _ (.tmp V .nil) (G6 (fun b => SV.d (dB b)) (decide_eq_decide.2 (by omega)))
  · have t1 : decide ((x.toNat : Int) ≥ 97) = false := A7 (by omega)
    have e : Cg (x :: l) = false := by simp [Cg, h, h1]
    rw [e]
    refine M0 Tryz.func159 V Tryz.ntmps159 Tryz.results159 fun B w0 => ?_
    refine E5 (A9 V (H9 V (yC (c1) V V (B4 V (B4 V (U1 hx (by omega) V V (F9 V (L2 V V (B4 V ?_))))))))); rw [t1]; refine L4 V V (yO V (L3 V V (A9 V (C4 ?_))))
    exact M8 V V
theorem Ti {e : List Cf} (he : ∀ c ∈ e, Fo c.2 = true) : (Dl e e.length).filter Cw = nf e := rnI_nf he
def UK (d : F6) : Bool := d.all U6 && (!(d == []) && !(decide (d.head? = some 48) && !(d == [48])))
def SW (t : F6) : Cf × Bool := if Bi 42 t then (if UK (S7 42 t) then ((Q6 42 t, J7 (val (S7 42 t))), Cg (Q6 42 t)) else ((t, [49]), false)) else ((t, [49]), Cg t)
theorem QY {s : F6} (h : ∀ x ∈ s, x ≠ c) : T9 c s = none := by
 induction s with
 | nil => rfl
 | cons b l ih => rw [T9, B5 (h b (List.mem_cons_self ..)), ih fun x hx => h x (List.mem_cons_of_mem _ hx)]; rfl
theorem QZ {s : F6} (h : ∀ x ∈ s.take i, x ≠ c) (hi : s[i]? = some c) : T9 c s = some (s.take i, s.drop (i + 1)) := by
 induction i generalizing s with
 | zero =>
  cases s with
  | nil => cases hi
  | cons b l =>
   have : b = c := by simpa using hi
   rw [T9, B9 this]; rfl
 | succ i ih =>
  cases s with
  | nil => cases hi
  | cons b l =>
   rw [T9, B5 (h b (by simp)), ih (fun x hx => h x (by simp [hx])) (by simpa using hi)]
   rfl
theorem PQ {s : F6} (h : ∀ x ∈ s.take i, x ≠ c) (hi : s[i]? = some x) (hx : x ≠ c) : ∀ x ∈ s.take (i + 1), x ≠ c := fun y hy => by
 rw [G8, hi] at hy
 rcases List.mem_append.1 hy with h1 | h1
 · exact h y h1
 · simp at h1; rw [h1]; exact hx
theorem UJ {d : F6} (h : d[i]? = some x) (hx : U6 x = false) : UK d = false := by
 have : d.all U6 = false := by rw [List.all_eq_false]; exact ⟨x, C0 h, by simp [hx]⟩
 rw [UK, this]; rfl
theorem Sq (t : F6) (ht : t.length ≤ 65536) : PCalls Tryz.prog 184 [dS t] (.tup [.agg (dCf (SW t).1), dB (SW t).2]) := by
 obtain ⟨r, hr⟩ := I0 (SW t)
 rw [← hr]
 obtain ⟨⟨r0, r1⟩, r2⟩ := r
 refine M0 Tryz.func184 V Tryz.ntmps184 Tryz.results184 fun B w0 => ?_
 refine E5 (yZ (cs := [_, _]) V V (A9 V (E5 (A9 V (B0 (E5 (A9 V (B8 ?_)))))))); refine I1 (fun i : Nat => ⟨68, [(0, .d (dS t)), (2, .bx 2 0), (4, .d (dI (-1))), (5, .d (dI i))], [(2, [.d (dS []), .d (dS [])])], []⟩) (fun i => i ≤ t.length ∧ ∀ x ∈ t.take i, x ≠ 42) (fun i => t.length - i) 0 ⟨E8 _, fun x hx => by simp at hx⟩
  ⟨rfl, ⟨F5, F5, F5, F5, D5⟩, ⟨⟨_, rfl, H6 _⟩, D5⟩, D5, rfl⟩ ?_
 rintro i ⟨hi, AZ⟩
 rcases D6 i t.length with h | h
 rotate_left
 · have t1 : decide ((i : Int) < (t.length : Int)) = false := A7 (by omega)
   obtain rfl : i = t.length := by omega
   rw [I6] at AZ
   have e1 : SW t = ((t, [49]), Cg t) := by rw [SW, show Bi 42 t = false by rw [Bi, QY AZ]; rfl]; rfl
   rw [e1] at hr
   cases hr
   have k1 := PH t (by omega)
   obtain ⟨b, hb⟩ := I0 (Cg t)
   rw [← hb] at k1 ⊢
   refine H2 V (B4 V (O2 V (I3 V (B3 (O1 t1 V (F8 (H9 V (yG (ys := [_, _]) V V (yZ (cs := [_, _]) V V (yS (cs' := [_, _]) V V V V V (yQ (H2 V (I3 V (F4 V (B2 (B0 ?_)))))))))))))))); refine J2 Tryz.mixed (by kernel_rfl) ?_; refine Ab (ys := [_, _]) V V V V (L1 V (yC (k1) V V (yS (cs' := [_, _]) V V V V V (A9 V (C4 ?_)))))
   exact I9 _ (.agg D4 V V V V (.tmp V .nil)) V
 have t1 : decide ((i : Int) < (t.length : Int)) = true := B1 (by omega)
 obtain ⟨x, hx⟩ := DL h
 have hxi : t[((i : Nat) : Int).toNat]? = some x := by rw [H0]; exact hx
 have hw := J0 ((i : Int) + 1) (by omega)
 by_cases h42 : x = 42
 rotate_left
 · have t2 : ((x.toNat : Int) == 42) = false := G2 fun h => h42 (UInt8.toNat_inj.1 (by have : (42 : UInt8).toNat = 42 := rfl; omega))
   have Eb := PQ AZ hx h42
   refine H2 V (B4 V (O2 V (I3 V (B3 (L8 t1 V (B2 (B0 (B8 (H9 V (B4 V (U1 hxi (by omega) V V (I3 V (B3 ?_))))))))))))); rw [t2]
   refine F4 V (B2 (B6 (B4 V (F9 V (A9 V (B3 ?_))))))
   exact ⟨i + 1, ⟨by omega, Eb⟩, by omega, rfl, ⟨F5, F5, F5, Q7 hw, D5⟩, ⟨⟨_, rfl, H6 _⟩, D5⟩, D5, rfl⟩
 subst h42
 have hct := QZ AZ hx
 have e1 : SW t = if UK (t.take i) then ((t.drop (i + 1), J7 (val (t.take i))), Cg (t.drop (i + 1))) else ((t, [49]), false) := by rw [SW, Bi, S7, Q6, hct]; rfl
 rw [e1] at hr
 clear e1 hct AZ
 have t2 : (((42 : UInt8).toNat : Int) == 42) = true := rfl
 have t3 : decide ((i : Int) ≥ 0) = true := B1 (by omega)
 have Rv : t.take ((i : Int)).toNat = t.take i := by rw [H0]
 have BO : t.drop (((i : Int) + 1)).toNat = t.drop (i + 1) := by rw [show ((i : Int) + 1).toNat = i + 1 by omega]
 have Oa : (t.take i).length ≤ 65536 := by rw [E4]; omega
 have JE : (t.drop (i + 1)).length ≤ 65536 := by rw [M7]; omega
 obtain ⟨d, hd⟩ := I0 (t.take i)
 obtain ⟨nm, Sa⟩ := I0 (t.drop (i + 1))
 rw [← hd] at Rv Oa hr
 rw [← Sa] at BO JE hr
 clear hd Sa
 have k1 := PH nm (by omega)
 have k2 := Cl d (by omega)
 obtain ⟨b, hb⟩ := I0 (Cg nm)
 obtain ⟨q, hq⟩ := I0 (J7 (val d))
 rw [← hb] at k1 hr
 rw [← hq] at k2 hr
 clear hb hq
 have hi1 : (i : Int) + 1 ≤ t.length := by omega
 have hi0 : (i : Int) ≤ t.length := by omega
 obtain ⟨n, hn⟩ : ∃ n : Int, n = (i : Int) := ⟨_, rfl⟩
 rw [← hn] at hxi hw t1 t3 Rv BO hi1 hi0 ⊢
 have AR : 0 ≤ n := by omega
 clear hn hx h hi
 refine H2 V (B4 V (O2 V (I3 V (B3 (L8 t1 V (B2 (B0 (B8 (H9 V (B4 V (U1 hxi AR V V (I3 V (G4 V (H9 V (A9 V (F8 (H9 V (yG (ys := [_, _]) V V (yZ (cs := [_, _]) V V (yS (cs' := [_, _]) V V V V V (yQ (H2 V (I3 V (B3 ?_)))))))))))))))))))))))); rw [t2]; rw [t3]
 refine G4 V (H9 V (B4 V (W0 AR hi0 Rv V V (A9 V (B0 (E5 (A9 V (B8 ?_)))))))); refine I1 (fun j : Nat => ⟨68, [(0, .d (dS t)), (2, .bx 2 0), (4, .d (dI n)), (6, .bx 6 0), (7, .d (dS d)), (8, .d (dI j))], [(2, [.d (dS []), .d (dS [])]), (6, [.d (dS t), .d (dS [49])])], []⟩) (fun j => j ≤ d.length ∧ (d.take j).all U6 = true) (fun j => d.length - j) 0 ⟨E8 _, V⟩
  ⟨rfl, ⟨F5, F5, F5, F5, F5, F5, D5⟩, ⟨⟨_, rfl, H6 _⟩, ⟨_, rfl, H6 _⟩, D5⟩, D5, rfl⟩ ?_
 rintro j ⟨hj, Fq⟩
 rcases D6 j d.length with h | h
 · have u1 : decide ((j : Int) < (d.length : Int)) = true := B1 (by omega)
   obtain ⟨x, hx⟩ := DL h
   have LE : d[((j : Nat) : Int).toNat]? = some x := by rw [H0]; exact hx
   have hwj := J0 ((j : Int) + 1) (by omega)
   by_cases h1 : x.toNat < 48
   · have u2 : decide ((x.toNat : Int) < 48) = true := B1 (by omega)
     rw [UJ hx (by simp [U6]; omega)] at hr
     cases hr
     refine H2 V (B4 V (O2 V (I3 V (B3 (L8 u1 V (B2 (B0 (B8 (H9 V (B4 V (U1 LE (by omega) V V (F9 V (B4 V ?_))))))))))))); rw [u2]; refine L4 V V (L4 V V (L2 V V (yQ (G4 V (E5 (Ab (ys := [_, _]) V V V V (yS (cs' := [_, _]) V V V V V (A9 V (C4 (C3 (A6 (A6 (C3 (A6 (A6 ?_)))))))))))))))
     exact I9 _ (.agg D4 V V V V (.tmp V .nil)) V
   have u2 : decide ((x.toNat : Int) < 48) = false := A7 (by omega)
   by_cases h2 : 57 < x.toNat
   · have u3 : decide ((x.toNat : Int) > 57) = true := B1 (by omega)
     rw [UJ hx (by simp [U6]; omega)] at hr
     cases hr
     refine H2 V (B4 V (O2 V (I3 V (B3 (L8 u1 V (B2 (B0 (B8 (H9 V (B4 V (U1 LE (by omega) V V (F9 V (B4 V ?_))))))))))))); rw [u2]; refine B4 V (B4 V (U1 LE (by omega) V V (F9 V (L3 V V (yQ (B3 (L8 u3 V (E5 (Ab (ys := [_, _]) V V V V (yS (cs' := [_, _]) V V V V V (A9 V (C4 (C3 (A6 (A6 (C3 (A6 (A6 ?_))))))))))))))))))
     exact I9 _ (.agg D4 V V V V (.tmp V .nil)) V
   have u3 : decide ((x.toNat : Int) > 57) = false := A7 (by omega)
   have hal2 : (d.take (j + 1)).all U6 = true := by
    rw [G8, hx, List.all_append, Fq]
    simp [U6]; omega
   refine H2 V (B4 V (O2 V (I3 V (B3 (L8 u1 V (B2 (B0 (B8 (H9 V (B4 V (U1 LE (by omega) V V (F9 V (B4 V ?_))))))))))))); rw [u2]; refine B4 V (B4 V (U1 LE (by omega) V V (F9 V (L3 V V (yQ (B3 (O1 u3 V (B2 (B6 (B4 V (F9 V (A9 V (B3 ?_)))))))))))))
   exact ⟨j + 1, ⟨by omega, hal2⟩, by omega, rfl, ⟨F5, F5, F5, F5, F5, Q7 hwj, D5⟩, ⟨⟨_, rfl, H6 _⟩, ⟨_, rfl, H6 _⟩, D5⟩, D5, rfl⟩
 have u1 : decide ((j : Int) < (d.length : Int)) = false := A7 (by omega)
 obtain rfl : j = d.length := by omega
 rw [I6] at Fq
 cases hdc : d with
 | nil =>
  subst hdc
  rw [show UK [] = false from rfl] at hr
  cases hr
  refine H2 V (B4 V (O2 V (I3 V (F4 V (F8 (H2 V (N7 V V (B4 V (L4 V V (L4 V V (L4 V V (yO V (L2 V V (yQ (G4 V (E5 (Ab (ys := [_, _]) V V V V (yS (cs' := [_, _]) V V V V V (A9 V (C4 (A6 (A6 ?_)))))))))))))))))))))); rw [u1]
  exact I9 _ (.agg D4 V V V V (.tmp V .nil)) V
 | cons x l =>
 have hx : d[(0 : Int).toNat]? = some x := by rw [hdc]; rfl
 have u0 : (d == []) = false := by rw [hdc]; rfl
 rw [← hdc]
 have hok : UK d = !(decide (x = 48) && !(d == [48])) := by rw [UK, Fq, u0, hdc]; simp
 rw [hok] at hr
 clear hok hdc Fq hj h
 by_cases h1 : x = 48
 · have u4 : ((x.toNat : Int) == 48) = true := by rw [h1]; rfl
   cases u5 : (d == [48]) with
   | false =>
    rw [u5, B1 h1] at hr
    cases hr
    have u6 : (d != [48]) = true := by simp [bne, u5]
    refine H2 V (B4 V (O2 V (I3 V (B3 (O1 u1 V (F8 (H2 V (N7 V V (B4 V ?_))))))))); rw [u0]; refine B4 V (U1 hx (by omega) V V (F9 V (B4 V ?_)))
    rw [u4]; refine B4 V ?_; refine N5 V V ?_; refine L2 V V ?_; refine L3 V V ?_; refine yQ ?_; refine B3 ?_; rw [u5]; refine G4 V ?_; refine B0 ?_; refine B6 ?_
    refine Ab (ys := [_, _]) V V V V (yS (cs' := [_, _]) V V V V V (A9 V (C4 (A6 (A6 ?_)))))
    exact I9 _ (.agg D4 V V V V (.tmp V .nil)) V
   | true =>
    rw [u5, B1 h1] at hr
    cases hr
    refine H2 V (B4 V (O2 V (I3 V (B3 (O1 u1 V (F8 (H2 V (N7 V V (B4 V ?_))))))))); rw [u0]; refine B4 V (U1 hx (by omega) V V (F9 V (B4 V ?_)))
    rw [u4]; refine B4 V ?_; refine N5 V V ?_; refine L2 V V ?_; refine L3 V V ?_; refine yQ ?_; refine B3 ?_; rw [u5]; refine F4 V ?_; refine B2 ?_; refine J2 Tryz.mixed (by kernel_rfl) ?_
    refine B4 V (yC (k2) V V (B4 V (B4 V (F9 V ?_)))); rw [hw]; refine U9 (by omega) hi1 BO V V (Bd V (Y9 (cs' := [_, _]) V V V V (Bd V (Y9 (cs' := [_, _]) V V V V (yQ (B0 ?_)))))); refine J2 Tryz.mixed (by kernel_rfl) ?_; refine Ab (ys := [_, _]) V V V V (L1 V (yC (k1) V V (yS (cs' := [_, _]) V V V V V (A9 V (C4 ?_)))))
    exact I9 _ (.agg D4 V V V V (.tmp V .nil)) V
 · have u4 : ((x.toNat : Int) == 48) = false := G2 fun h => h1 (UInt8.toNat_inj.1 (by have : (48 : UInt8).toNat = 48 := rfl; omega))
   rw [A7 h1] at hr
   cases hr
   refine H2 V (B4 V (O2 V (I3 V (B3 (O1 u1 V (F8 (H2 V (N7 V V (B4 V ?_))))))))); rw [u0]; refine B4 V (U1 hx (by omega) V V (F9 V (B4 V ?_)))
   rw [u4]; refine yO V ?_; refine yO V ?_; refine L3 V V ?_; refine L3 V V ?_; refine yQ ?_; refine F4 V ?_; refine B2 ?_; refine J2 Tryz.mixed (by kernel_rfl) ?_; refine B4 V ?_
   refine yC (k2) V V (B4 V (B4 V (F9 V ?_))); rw [hw]; refine U9 (by omega) hi1 BO V V (Bd V (Y9 (cs' := [_, _]) V V V V (Bd V (Y9 (cs' := [_, _]) V V V V (yQ (B0 ?_)))))); refine J2 Tryz.mixed (by kernel_rfl) ?_; refine Ab (ys := [_, _]) V V V V (L1 V (yC (k1) V V (yS (cs' := [_, _]) V V V V V (A9 V (C4 ?_)))))
   exact I9 _ (.agg D4 V V V V (.tmp V .nil)) V
theorem Pi {d : F6} : UK d = true ↔ Pj d = d ∧ d.head? ≠ some 45 := by
 constructor
 · intro h
   unfold UK at h
   simp only [C9] at h
   obtain ⟨h1, h2, h3⟩ := h
   cases d with
   | nil => simp at h2
   | cons x l =>
   have hx : U6 x = true := by rw [List.all_cons, C9] at h1; exact h1.1
   have hx45 : (x :: l).head? ≠ some 45 := fun e => by
    have e : x = 45 := by simpa using e
    rw [e] at hx
    cases hx
   refine ⟨?_, hx45⟩
   by_cases h48 : x :: l = [48]
   · rw [h48]; kernel_rfl
   have hx48 : x ≠ 48 := fun e => by
    rw [e] at h3 h48
    rw [show ((48 :: l : F6) == [48]) = false by simpa using h48] at h3
    simp at h3
   have hb : Bj (x :: l) = x :: l := by rw [Bj, B5 hx45]
   have hg : M5 (x :: l) = (x :: l, false) := by
    unfold M5
    rw [hb, B9 h1, List.dropWhile_cons, B5 (by simpa using hx48), A7 hx45]
    rfl
   have hc : J7 (val (x :: l)) = x :: l := by rw [CE, hg]; rfl
   unfold Pj
   rw [hc, B5 (by simp)]
 · rintro ⟨h1, h2⟩
   unfold Pj at h1
   split at h1
   · rw [← h1]; rfl
   · rename_i O4
     rw [CE] at h1
     split at h1
     · rw [← h1] at h2; simp at h2
     · have ha := V8 d
       have hh := DG d
       rw [h1] at ha hh
       have hne2 : d ≠ [] := fun e => O4 (by rw [e]; kernel_rfl)
       unfold UK
       rw [ha, A7 hh]
       simpa using hne2
theorem PY (t : F6) : TV t = if (SW t).2 then some (SW t).1 else none := by
 unfold TV SW
 cases Bi 42 t with
 | true =>
  rw [B9 rfl, B9 rfl]
  unfold TU
  by_cases h : UK (S7 42 t) = true
  · obtain ⟨h1, h2⟩ := Pi.1 h
    rw [B9 h]
    simp only
    by_cases h3 : Cg (Q6 42 t) = true
    · rw [B9 ⟨h1, h2, h3⟩, B9 h3]
    · rw [B5 (fun h => h3 h.2.2), B5 h3]
  · rw [B5 h, B5 (fun h4 => h (Pi.2 ⟨h4.1, h4.2.1⟩))]
    rfl
 | false =>
  show TU [49] t = if Cg t = true then some (t, [49]) else none
  have e1 : Pj [49] = [49] := by kernel_rfl
  have e2 : J7 (val [49]) = [49] := by kernel_rfl
  unfold TU
  by_cases h3 : Cg t = true
  · rw [B9 ⟨e1, by simp, h3⟩, B9 h3, e2]
  · rw [B5 (fun h => h3 h.2.2), B5 h3]
theorem tmP_isC {t : F6} {c : Cf} (h : TV t = some c) : Fo c.2 = true := by
 have hR : ∀ d nm, TU d nm = some c → Fo c.2 = true := fun d nm h => by
  unfold TU at h
  split at h
  · cases h; exact Fn _
  · cases h
 unfold TV at h
 split at h
 · exact hR _ _ h
 · exact hR _ _ h
theorem HV {p : Bool × F6} {c : Cf} (h : Am p = some c) : Fo c.2 = true := by
 unfold Am at h
 rw [C7] at h
 obtain ⟨d, h1, h2⟩ := h
 split at h2
 · rw [← h2]; exact Fn _
 · rw [← h2]; exact tmP_isC h1
def ER (l : List (Bool × F6)) (zs : List Cf) : Int × List Cf := if l.all (fun p => (Am p).isSome) then (if 16 < (zs ++ l.filterMap Am).length then (4, []) else (0, nf (zs ++ l.filterMap Am))) else (3, [])
theorem Hk {p : Bool × F6} {l : List (Bool × F6)} {zs : List Cf} (h : Am p = none) : ER (p :: l) zs = (3, []) := by
 unfold ER
 rw [B5 (by rw [List.all_cons, h]; simp)]
theorem Ir {p : Bool × F6} {l : List (Bool × F6)} {zs : List Cf} {c : Cf} (h : Am p = some c) : ER (p :: l) zs = ER l (zs ++ [c]) := by
 unfold ER
 rw [List.all_cons, h, List.filterMap_cons, h, show (some c).isSome = true from rfl, Bool.true_and]
 simp
theorem Vh (s : F6) (h0 : s ≠ [48]) : ER (S9 s) [] = (Nx s, Nw s) := by
 rw [Nx, Nw, B5 h0, B5 h0]
 show (if OB s = true then (if 16 < ([] ++ JL s).length then ((4 : Int), ([] : List Cf)) else (0, nf ([] ++ JL s))) else (3, [])) = _
 rw [List.nil_append]
 by_cases h : OB s = true
 · rw [B9 h, B9 h, B9 h]
   by_cases h2 : 16 < (JL s).length
   · rw [B9 h2, B9 h2, B9 h2]
   · rw [B5 h2, B5 h2, B5 h2]
 · rw [B5 h, B5 h, B5 h]
theorem Qr : Am (false, []) = none := by kernel_rfl
theorem Ok (zs : List Cf) : ER [(false, [])] zs = (3, []) := Hk Qr
theorem Nu (b : Bool) : Eo b [] = [(b, [])] := by rw [CN]; rfl
theorem Nl (b : Bool) : Am (b, []) = none := by cases b <;> kernel_rfl
theorem QR {r : F6} (h : Bi 32 r = false) {zs : List Cf} {c : Cf} (hc : Am (neg, S7 32 r) = some c) : ER (Eo neg r) zs = ER [] (zs ++ [c]) := by
 rw [CN, h, Ir hc]
 rfl
theorem Vq {X : F6} (h : a ≠ 32) : S7 32 (a :: 32 :: X) = [a] ∧ Q6 32 (a :: 32 :: X) = X := by
 have : T9 32 (a :: 32 :: X) = some ([a], X) := by rw [T9, B5 h, T9, B9 rfl]; rfl
 rw [S7, Q6, this]
 exact ⟨rfl, V⟩
theorem Mu {r : F6} {X : F6} (h : Bi 32 r = true) (hR : Q6 32 r = a :: 32 :: X) (ha : a = 43 ∨ a = 45) {zs : List Cf} {c : Cf} (hc : Am (neg, S7 32 r) = some c) : ER (Eo neg r) zs = ER (Eo (a == 45) X) (zs ++ [c]) := by
 have h32 : a ≠ 32 := by rcases ha with rfl | rfl <;> decide
 obtain ⟨e1, e2⟩ := Vq (X := X) h32
 rw [CN, h, Ir hc, B9 rfl, hR, e1, e2, B9 (by rcases ha with rfl | rfl <;> simp)]
 rcases ha with rfl | rfl <;> rfl
theorem DW {r : F6} (h : Bi 32 r = true) (hR : ∀ a X, Q6 32 r = a :: 32 :: X → ¬ (a = 43 ∨ a = 45)) {zs : List Cf} {c : Cf} (hc : Am (neg, S7 32 r) = some c) : ER (Eo neg r) zs = (3, []) := by
 rw [CN, h, Ir hc, B9 rfl]
 by_cases h2 : S7 32 (Q6 32 r) = [43] ∨ S7 32 (Q6 32 r) = [45]
 · rw [B9 h2]
   cases hb : T9 32 (Q6 32 r) with
   | some p =>
    have h3 := Ak hb
    rw [S7, hb] at h2
    simp only at h2
    rcases h2 with h2 | h2
    · rw [h2] at h3; exact G5 (.inl V) (hR 43 p.2 h3)
    · rw [h2] at h3; exact G5 (.inr V) (hR 45 p.2 h3)
   | none =>
    have e : Q6 32 (Q6 32 r) = [] := by rw [Q6, hb]
    rw [e, Nu]
    exact Hk (Nl _)
 · rw [B5 h2]
   exact Ok _
end Go.Proofs.YtddfimjiihggmaaGreatDoor