/- Walk: charts. -/
import Derived.Test.YtddfimjiihggmaaGreatDoorB8
set_option maxHeartbeats 16000000
set_option maxRecDepth 20000
namespace Go.Proofs.YtddfimjiihggmaaGreatDoor
open Go.RowKit Px
theorem LG (a b : G0) : (NX a b || a == b) = !NX b a := by
 show (ltS a b || a == b) = !ltS b a
 rcases T8 a b with h | h | h
 · rw [h, W9 h]; rfl
 · subst h; rw [R9]; simp
 · rw [h, W9 h]
   have := ltS_ne h
   simp [Ne.symm this]
def acJ (l : List Ac) (k : Nat) (a : Ac) : Int :=
 if KO a.1 ≠ 0 then 3 else if a.2 < 1 ∨ 5 < a.2 then 7
 else if k ≠ 0 ∧ NX ((l[k - 1]?).getD ([], 0)).1 a.1 = false then 8
 else if (l.take k).any (fun b => V7 a.1 b.1 && !(a.2 == b.2)) = true then 18 else 0
def chJ (l : List Ac) : Nat → Nat → Int
 | 0, _ => 0
 | n + 1, k => match l[k]? with
  | none => 0
  | some a => if acJ l k a = 0 then chJ l n (k + 1) else acJ l k a
def Ig (l : List Ac) : Int := if 256 < l.length then 4 else chJ l l.length 0
theorem GJ {l : List Ac} {k : Nat} {a : Ac} (h : l[k]? = some a) : chJ l (l.length - k) k = if acJ l k a = 0 then chJ l (l.length - (k + 1)) (k + 1) else acJ l k a := by
 have h1 := (A6.1 h).1
 rw [show l.length - k = (l.length - (k + 1)) + 1 by omega, chJ, h]
theorem DY {α : Type} {b : α → Bool} {l : List α} {m : Nat} (h : m ≥ l.length) (h0 : ∀ (j : Nat) x, j < m → l[j]? = some x → b x = false) : l.any b = false := by
 rw [List.any_eq_false]
 intro x hx
 obtain ⟨j, hj⟩ := List.mem_iff_getElem?.1 hx
 rw [h0 j x (by have := (A6.1 hj).1; omega) hj]
 simp
theorem My (l : List Ac) (hl : l.length ≤ 1000000) (hb : ∀ a ∈ l, a.1.length ≤ 1000000) : PCalls Tryz.prog 33 [.sl 2 (l.map O8)] (.d (dI (Ig l))) := by
 obtain ⟨E, hE⟩ := H7 (Ig l)
 rw [← hE]
 unfold Ig at hE
 by_cases h0 : 256 < l.length
 · have t1 : decide (((l.map O8).length : Int) > 256) = true := B0 (by rw [A7]; omega)
   rw [C5 h0] at hE
   subst hE
   refine B3 Tryz.func33 V Tryz.ntmps33 Tryz.results33 (by simp) fun B w0 => ?_
   refine D8 (B5 V (I0 V (yN V (H3 V (B1 ?_)))))
   rw [t1]; refine G5 V ?_; refine A8 ?_; refine B4 ?_; refine H4 V ?_; refine yQ ?_; refine C4 ?_; refine A4 ?_
   exact C9 _ (.tmp V .nil) V
 have t1 : decide (((l.map O8).length : Int) > 256) = false := A9 (by rw [A7]; omega)
 rw [B9 h0] at hE
 refine B3 Tryz.func33 V Tryz.ntmps33 Tryz.results33 (by simp) fun B w0 => ?_
 refine D8 (B5 V (I0 V (yN V (H3 V (B1 ?_)))))
 rw [t1]; refine F6 V ?_; refine B2 ?_; refine A8 ?_; refine A8 ?_; refine B4 ?_; refine C3 V ?_; refine yN V ?_; refine C3 V ?_; refine yQ ?_; refine B6 ?_
 refine H2 (fun k : Nat => ⟨67, [(0, .d (.sl 2 (l.map O8))), (10, .d (.sl 2 (l.map O8))), (11, .d (dI l.length)), (12, .d (dI k))], [], []⟩) (fun k => k ≤ l.length ∧ chJ l (l.length - k) k = E) (fun k => l.length - k) 0 ⟨D9 _, hE.symm⟩
  ⟨rfl, ⟨E0, E0, .of_eq (C7 (fun n : Nat => SV.d (dI n)) (by simp)), E0, D4⟩, D4, D4, rfl⟩ ?_
 rintro k ⟨hk, hI⟩
 clear hE
 rcases D2 k l.length with h | h
 rotate_left
 · have u1 : decide ((k : Int) < (l.length : Int)) = false := A9 (by omega)
   have : E = 0 := by rw [← hI, Nat.sub_eq_zero_of_le h]; rfl
   subst this
   refine D8 (H3 V (A8 (L9 u1 V (G1 (D8 (B5 V (C4 ?_)))))))
   exact C9 _ (.tmp V .nil) V
 have u1 : decide ((k : Int) < (l.length : Int)) = true := B0 (by omega)
 obtain ⟨⟨a0, a1⟩, ha⟩ : ∃ a, l[k]? = some a := ⟨_, A5 h⟩
 have ex := ix O8 l k k (a0, a1) rfl ha
 have hw := I5 ((k : Int) + 1) (by omega)
 have hla := hb _ (B7 ha)
 simp only at hla
 have c1 := Oo a0 hla
 rw [GJ ha] at hI
 have arith : l.length - (k + 1) < l.length - k := by omega
 obtain ⟨J, hJ⟩ := H7 (acJ l k (a0, a1))
 rw [← hJ] at hI
 unfold acJ at hJ
 simp only at hJ
 by_cases e1 : KO a0 = 0
 rotate_left
 · rw [C5 e1] at hJ
   rw [hJ, B9 (by omega)] at hI
   subst hI
   have t2 : (KO a0 != 0) = true := by simp [e1]
   obtain ⟨x, hx⟩ := H7 (KO a0)
   rw [← hx] at c1 t2
   refine D8 (H3 V (A8 (J8 u1 V (B2 (A8 (B6 (H8 V (yW ex (by omega) rfl rfl (R7 (ys := [_, _]) rfl rfl rfl (yZ (cs := [_, _]) rfl rfl (H4 rfl (yS (cs' := [_, _]) rfl rfl rfl rfl rfl (yQ (A8 (B6 (D8 (J6 rfl (yC (c1) rfl rfl (G3 rfl (B5 rfl (B1 ?_)))))))))))))))))))))
   rw [t2]; refine G5 V ?_; refine A8 ?_; refine B4 ?_; refine H4 V ?_; refine yQ ?_; refine C4 ?_; refine B8 ?_; refine A4 ?_; refine B8 ?_; refine A4 ?_; refine A4 ?_
   refine B8 ?_; refine A4 ?_
   exact C9 _ (.tmp V .nil) V
 rw [e1] at c1
 rw [B9 (by simp [e1])] at hJ
 by_cases e2 : a1 < 1 ∨ 5 < a1
 · rw [C5 e2] at hJ
   rw [hJ, B9 (by omega)] at hI
   subst hI
   by_cases e3 : a1 < 1
   · have t3 : decide (a1 < 1) = true := B0 e3
     refine D8 (H3 V (A8 (J8 u1 V (B2 (A8 (B6 (H8 V (yW ex (by omega) rfl rfl (R7 (ys := [_, _]) rfl rfl rfl (yZ (cs := [_, _]) rfl rfl (H4 rfl (yS (cs' := [_, _]) rfl rfl rfl rfl rfl (yQ (A8 (B6 (D8 (J6 rfl (yC (c1) rfl rfl (G3 rfl (B5 rfl (F6 rfl (D8 (J6 rfl (G3 rfl (C3 rfl ?_))))))))))))))))))))))))); rw [t3]; refine yO V (yO V (yO V (K8 V V (B5 V (G5 V (D8 (B5 V (C4 (B8 (A4 (B8 (A4 (A4 (B8 (A4 ?_)))))))))))))))
     exact C9 _ (.tmp V .nil) V
   · have t3 : decide (a1 < 1) = false := A9 e3
     have t4 : decide (a1 > 5) = true := B0 (by omega)
     refine D8 (H3 V (A8 (J8 u1 V (B2 (A8 (B6 (H8 V (yW ex (by omega) rfl rfl (R7 (ys := [_, _]) rfl rfl rfl (yZ (cs := [_, _]) rfl rfl (H4 rfl (yS (cs' := [_, _]) rfl rfl rfl rfl rfl (yQ (A8 (B6 (D8 (J6 rfl (yC (c1) rfl rfl (G3 rfl (B5 rfl (F6 rfl (D8 (J6 rfl (G3 rfl (C3 rfl ?_))))))))))))))))))))))))); rw [t3]; refine J6 V (G3 V (K7 V V (B5 V (B1 (J8 t4 V (D8 (B5 V (C4 (B8 (A4 (B8 (A4 (A4 (B8 (A4 ?_)))))))))))))))
     exact C9 _ (.tmp V .nil) V
 have t3 : decide (a1 < 1) = false := A9 (by omega)
 have t4 : decide (a1 > 5) = false := A9 (by omega)
 rw [B9 e2] at hJ
 have inner : ∀ (B : Nat) (w0 : Cx) (Q : Exit → PS → Prop), True := fun _ _ _ => trivial
 clear inner
 rcases G9 k with hk0 | hk0
 · subst hk0
   rw [B9 (by simp), B9 (by simp)] at hJ
   rw [hJ, C5 rfl] at hI
   have t5 : decide (((0 : Nat) : Int) > 0) = false := rfl
   refine D8 (H3 V (A8 (J8 u1 V (B2 (A8 (B6 (H8 V (yW ex (by omega) rfl rfl (R7 (ys := [_, _]) rfl rfl rfl (yZ (cs := [_, _]) rfl rfl (H4 rfl (yS (cs' := [_, _]) rfl rfl rfl rfl rfl (yQ (A8 (B6 (D8 (J6 rfl (yC (c1) rfl rfl (G3 rfl (B5 rfl (F6 rfl (D8 (J6 rfl (G3 rfl (C3 rfl ?_))))))))))))))))))))))))); rw [t3]; refine J6 V (G3 V (K7 V V (B5 V (B1 (L9 t4 V (A8 ?_)))))); refine I7 Tryz.mixed (by kernel_rfl) ?_; refine C3 V (G3 V (C3 V (yO V (yO V (yO V (yO V (yO V (yO V (yO V (yO V (yO V (K7 V V (B5 V (F6 V (B2 (H8 V (C3 V ?_))))))))))))))))); refine OR (by omega) (by simp) rfl rfl ?_; refine yN V (C3 V (yQ (B6 ?_))); rw [t5]
   refine H2 (fun m : Nat => ⟨67, [(0, .d (.sl 2 (l.map O8))), (10, .d (.sl 2 (l.map O8))), (11, .d (dI l.length)), (12, .d (dI ((0 : Nat) : Int))), (48, .d (dI 0)), (49, .d (dI 0))], [], []⟩) (fun m => m = 0) (fun _ => 0) 0 V
    ⟨rfl, ⟨E0, E0, E0, E0, .of_eq (C7 (fun n : Nat => SV.d (dI n)) (by simp)), E0, D4⟩, D4, D4, rfl⟩ ?_
   rintro m rfl
   refine D8 (H3 V (A8 (F6 V (G1 (B4 (G3 V (C3 V (yQ (B1 ?_)))))))))
   exact ⟨0 + 1, ⟨h, hI⟩, arith, V, ⟨E0, E0, E0, .of_eq (C7 (fun n => SV.d (dI n)) hw), D4⟩, D4, D4, V⟩
 have t5 : decide ((k : Int) > 0) = true := B0 (by omega)
 obtain ⟨⟨p0, p1⟩, hp⟩ : ∃ a, l[k - 1]? = some a := ⟨_, A5 (by omega)⟩
 have ep := ix O8 l ((k : Int) - 1) (k - 1) (p0, p1) (by omega) hp
 have hwk := I5 ((k : Int) - 1) (by omega)
 have hle := LG a0 p0
 rw [hp] at hJ
 simp only [Option.getD_some] at hJ
 cases hlt : NX p0 a0 with
 | false =>
  rw [hlt] at hle
  rw [C5 ⟨by omega, hlt⟩] at hJ
  rw [hJ, B9 (by omega)] at hI
  subst hI
  refine D8 (H3 V (A8 (J8 u1 V (B2 (A8 (B6 (H8 V (yW ex (by omega) rfl rfl (R7 (ys := [_, _]) rfl rfl rfl (yZ (cs := [_, _]) rfl rfl (H4 rfl (yS (cs' := [_, _]) rfl rfl rfl rfl rfl (yQ (A8 (B6 (D8 (J6 rfl (yC (c1) rfl rfl (G3 rfl (B5 rfl (F6 rfl (D8 (J6 rfl (G3 rfl (C3 rfl ?_))))))))))))))))))))))))); rw [t3]; refine J6 V (G3 V (K7 V V (B5 V (B1 (L9 t4 V (A8 ?_)))))); refine I7 Tryz.mixed (by kernel_rfl) ?_; refine C3 V (G3 V (C3 V ?_)); rw [t5]; refine J6 V (C3 V (C3 V (G3 V ?_))); rw [hwk]; refine yW ep (by omega) rfl rfl (N8 rfl rfl (K5 rfl rfl (yBsm rfl rfl (K8 rfl rfl (B5 rfl (B1 (J8 hle rfl (D8 (B5 rfl (C4 (B8 (A4 (B8 (A4 (A4 (B8 (A4 ?_)))))))))))))))))
  exact C9 _ (.tmp V .nil) V
 | true =>
 rw [hlt] at hle
 rw [B9 (fun h => by rw [hlt] at h; exact G7 h.2 (by simp))] at hJ
 obtain ⟨P, hP⟩ := H7 (l.take k)
 have hPl : P.length = k := by rw [hP, E4]; omega
 have htk : (l.map O8).take (k : Int).toNat = P.map O8 := by rw [H5, hP, List.map_take]
 rw [← hP] at hJ
 refine D8 (H3 V (A8 (J8 u1 V (B2 (A8 (B6 (H8 V (yW ex (by omega) rfl rfl (R7 (ys := [_, _]) rfl rfl rfl (yZ (cs := [_, _]) rfl rfl (H4 rfl (yS (cs' := [_, _]) rfl rfl rfl rfl rfl (yQ (A8 (B6 (D8 (J6 rfl (yC (c1) rfl rfl (G3 rfl (B5 rfl (F6 rfl (D8 (J6 rfl (G3 rfl (C3 rfl ?_))))))))))))))))))))))))); rw [t3]; refine J6 V (G3 V (K7 V V (B5 V (B1 (L9 t4 V (A8 ?_)))))); refine I7 Tryz.mixed (by kernel_rfl) ?_; refine C3 V (G3 V (C3 V ?_)); rw [t5]; refine J6 V (C3 V (C3 V (G3 V ?_))); rw [hwk]; refine yW ep (by omega) rfl rfl (N8 rfl rfl (K5 rfl rfl (yBsm rfl rfl (K8 rfl rfl (B5 rfl (B1 (L9 hle rfl (B2 (H8 rfl (C3 rfl ?_)))))))))); refine OR (by omega) (by rw [A7]; omega) rfl rfl ?_; refine yN V (C3 V (yQ (B6 ?_))); rw [htk]
 refine H2 (fun m : Nat => ⟨67, [(0, .d (.sl 2 (l.map O8))), (10, .d (.sl 2 (l.map O8))), (11, .d (dI l.length)), (12, .d (dI k)), (4, .bx 4 0), (47, .d (.sl 2 (P.map O8))), (48, .d (dI k)), (49, .d (dI m))], [(4, [.d (dS a0), .d (dI a1)])], []⟩) (fun m => m ≤ k ∧ ∀ (j : Nat) x, j < m → P[j]? = some x → (V7 a0 x.1 && !(a1 == x.2)) = false) (fun m => k - m) 0 ⟨D9 _, fun j x hj => G7 hj (Nat.not_lt_zero _)⟩
  ⟨rfl, ⟨E0, E0, E0, E0, E0, E0, .of_eq (C7 (fun n : Nat => SV.d (dI n)) (by simp [hPl])), E0, D4⟩, ⟨⟨_, rfl, F7 _⟩, D4⟩, D4, rfl⟩ ?_
 rintro m ⟨hm, hno⟩
 rcases D2 m k with h2 | h2
 rotate_left
 · have u2 : decide ((m : Int) < (k : Int)) = false := A9 (by omega)
   rw [DY (by omega) hno, B9 (by simp)] at hJ
   rw [hJ, C5 rfl] at hI
   refine D8 (H3 V (A8 (L9 u2 V (G1 (B4 (G3 V (C3 V (yQ (B1 ?_)))))))))
   exact ⟨k + 1, ⟨h, hI⟩, arith, V, ⟨E0, E0, E0, .of_eq (C7 (fun n => SV.d (dI n)) hw), D4⟩, D4, D4, V⟩
 have u2 : decide ((m : Int) < (k : Int)) = true := B0 (by omega)
 obtain ⟨⟨b0, b1⟩, hbm⟩ : ∃ a, P[m]? = some a := ⟨_, A5 (by omega)⟩
 have eb := ix O8 P m m (b0, b1) rfl hbm
 have hw2 := I5 ((m : Int) + 1) (by omega)
 have c2 := KU a0 b0
 have arith2 : k - (m + 1) < k - m := by omega
 have nxt : (V7 a0 b0 && !(a1 == b1)) = false → ∀ (j : Nat) x, j < m + 1 → P[j]? = some x → (V7 a0 x.1 && !(a1 == x.2)) = false := fun he j x hj hx => by
  rcases D2 j m with h3 | h3
  · exact hno j x h3 hx
  · obtain rfl : j = m := by omega
    rw [hbm] at hx; cases hx; exact he
 have bad : (V7 a0 b0 && !(a1 == b1)) = true → E = 18 := fun he => by
  rw [C5 (List.any_eq_true.2 ⟨_, B7 hbm, he⟩)] at hJ
  rw [hJ, B9 (by omega)] at hI
  exact hI.symm
 clear hJ hI hno hP ep hle htk
 cases hu : V7 a0 b0 with
 | false =>
  rw [hu] at c2 nxt
  have hn2 := nxt (by rfl)
  refine D8 (H3 V (A8 (J8 u2 V (B2 (A8 (B6 (D8 (yW eb (by omega) rfl rfl (R7 (ys := [_, _]) rfl rfl rfl (yZ (cs := [_, _]) rfl rfl (yS (cs' := [_, _]) rfl rfl rfl rfl rfl (yQ (D8 (J6 rfl (J6 rfl (yC (c2) rfl rfl (C3 rfl (yO rfl (yO rfl (yO rfl (yO rfl (yO rfl (K7 rfl rfl (yQ (F6 rfl (B2 (B4 (G3 rfl (C3 rfl (yQ (B1 ?_)))))))))))))))))))))))))))))))
  exact ⟨m + 1, ⟨h2, hn2⟩, arith2, V, ⟨E0, E0, E0, E0, E0, E0, E0, .of_eq (C7 (fun n => SV.d (dI n)) hw2), D4⟩, ⟨⟨_, V, F7 _⟩, D4⟩, D4, V⟩
 | true =>
  rw [hu] at c2 nxt bad
  by_cases he : a1 = b1
  · have t6 : (a1 != b1) = false := by simp [he]
    have hn2 := nxt (by simp [he])
    refine D8 (H3 V (A8 (J8 u2 V (B2 (A8 (B6 (D8 (yW eb (by omega) rfl rfl (R7 (ys := [_, _]) rfl rfl rfl (yZ (cs := [_, _]) rfl rfl (yS (cs' := [_, _]) rfl rfl rfl rfl rfl (yQ (D8 (J6 rfl (J6 rfl (yC (c2) rfl rfl (C3 rfl (J6 rfl (J6 rfl (G3 rfl (K8 rfl rfl (yQ (B1 (L9 t6 rfl (B2 (B4 (G3 rfl (C3 rfl (yQ (B1 ?_))))))))))))))))))))))))))))))
    exact ⟨m + 1, ⟨h2, hn2⟩, arith2, V, ⟨E0, E0, E0, E0, E0, E0, E0, .of_eq (C7 (fun n => SV.d (dI n)) hw2), D4⟩, ⟨⟨_, V, F7 _⟩, D4⟩, D4, V⟩
  · have t6 : (a1 != b1) = true := by simp [he]
    have hE := bad (by simp [he])
    subst hE
    refine D8 (H3 V (A8 (J8 u2 V (B2 (A8 (B6 (D8 (yW eb (by omega) rfl rfl (R7 (ys := [_, _]) rfl rfl rfl (yZ (cs := [_, _]) rfl rfl (yS (cs' := [_, _]) rfl rfl rfl rfl rfl (yQ (D8 (J6 rfl (J6 rfl (yC (c2) rfl rfl (C3 rfl (J6 rfl (J6 rfl (G3 rfl (K8 rfl rfl (yQ (B1 (J8 t6 rfl (D8 (B5 rfl (C4 (B8 (A4 (A4 (B8 (B8 (A4 (A4 (B8 (A4 ?_))))))))))))))))))))))))))))))))))))
    exact C9 _ (.tmp V .nil) V
abbrev dKd (kw : G0) (nms : List G0) (sg : G0) : List DV := [dS kw, V3 nms, dS sg]
def Bb (sg s : G0) : Bool := (s == [42] && !sg.contains 42) || (s == [43] && !sg.contains 43)
theorem Pj (n : Int) (kw : G0) (nms : List G0) (sg : G0) (ch : List Ac) (x : Ln) : ON nf (n, kw, nms, sg) ch x = if (Q5 46 x.1).any (Bb sg) = true then 9 else if (nf x.2.2).any (fun c => !nms.contains c.1) = true then 6 else if (GW x.1 ch).2 then 0 else 6 := rfl
theorem wCl1 (kw : G0) (nms : List G0) (sg : G0) (hn : nms.length ≤ 1000000) : ∀ xs r, phC (fun c => !nms.contains c.1) xs r → PCalls Tryz.prog 109 (xs ++ [dKd kw nms sg].map DV.ref) r := by
 rintro _ _ ⟨⟨c0, c1⟩, rfl, rfl⟩
 show PCalls Tryz.prog 109 [.agg [dS c0, dS c1], .ref [dS kw, V3 nms, dS sg]] _
 have k1 := wContS nms c0 hn
 obtain ⟨b, hb⟩ := H7 (nms.contains c0)
 rw [← hb] at k1
 show PCalls Tryz.prog 109 [.agg [dS c0, dS c1], .ref [dS kw, V3 nms, dS sg]] (.d (dB (!nms.contains c0)))
 rw [← hb]
 refine B3 Tryz.func109 V Tryz.ntmps109 Tryz.results109 (by simp) fun B w0 => ?_
 refine BC 1 V ?_; refine D8 (yK (cs := [_, _]) V V (B5 V (D8 (N8 V V (K5 V V (J6 V (yC (k1) V V (yU V V V (B5 V (C4 ?_))))))))))
 exact C9 _ (.tmp V .nil) V
theorem Fd (n : Int) (kw : G0) (nms : List G0) (sg : G0) (ch : List Ac) (x : Ln) (hn : nms.length ≤ 1000000) (hx : bdN x) (h0 : BT x.2.2 = 0) : PCalls Tryz.prog 57 [.agg (dKd kw nms sg), .agg (V4 x), .sl 2 (ch.map O8)] (.d (dI (ON nf (n, kw, nms, sg) ch x))) := by
 obtain ⟨a, c, e⟩ := x
 obtain ⟨b1, b2, b3⟩ := hx
 simp only at b1 b2 b3 h0
 obtain ⟨E, hE⟩ := H7 (ON nf (n, kw, nms, sg) ch (a, c, e))
 rw [← hE]
 rw [Pj] at hE
 simp only at hE
 have k1 := OV a 46 b1
 have hsl : (Q5 46 a).length ≤ 1000001 := E8 (W7 46 a) (by omega)
 have k2 := Ir e b2 fun c hc => (b3 c hc).2
 rw [h0, NP, C5 h0] at k2
 have hnl := Kw e
 have k3 := wHasC (fun c => !nms.contains c.1) (nf e) (by have := (S8.1 h0).1; omega)
 have k4 := wFindA ch a
 have k5 := Gg sg 42
 have k6 := Gg sg 43
 have h1 := wCl1 kw nms sg hn
 obtain ⟨SS, hS⟩ := H7 (Q5 46 a)
 rw [← hS] at hE k1 hsl
 obtain ⟨N, hN⟩ := H7 (nf e)
 rw [← hN] at hE k2 k3
 obtain ⟨⟨f0, f1⟩, hf⟩ := H7 (GW a ch)
 obtain ⟨f00, f01⟩ := f0
 rw [← hf] at hE k4
 simp only at hE k4
 clear hS hN hf h0 b1 b2 b3 hnl
 refine B3 Tryz.func57 V Tryz.ntmps57 Tryz.results57 (by simp) fun B w0 => ?_
 refine D8 (yK (cs := [_, _, _]) V V (yK (cs := [_, _, _]) V V (B5 V (A8 (D8 (J6 V (yC (k1) V V (yN V (C3 V (yQ (B6 ?_))))))))))); refine H2 (fun i : Nat => ⟨53, [(2, .d (.sl 2 (ch.map O8))), (3, .bx 3 0), (4, .bx 4 0), (15, .d (.sl 1 (SS.map fun t => [dS t]))), (16, .d (dI SS.length)), (17, .d (dI i))], [(3, [.d (dS kw), .d (V3 nms), .d (dS sg)]), (4, [.d (dS a), .d (dB c), .d (.sl 2 (e.map dCf))])], []⟩) (fun i => i ≤ SS.length ∧ ∀ (j : Nat) x, j < i → SS[j]? = some x → Bb sg x = false) (fun i => SS.length - i) 0 ⟨D9 _, fun j x hj => G7 hj (Nat.not_lt_zero _)⟩
  ⟨rfl, ⟨E0, E0, E0, E0, .of_eq (C7 (fun n : Nat => SV.d (dI n)) (by simp)), E0, D4⟩, ⟨⟨_, rfl, F7 _⟩, ⟨_, rfl, F7 _⟩, D4⟩, D4, rfl⟩ ?_
 rintro i ⟨hi, hno⟩
 rcases D2 i SS.length with h | h
 · have u1 : decide ((i : Int) < (SS.length : Int)) = true := B0 (by omega)
   obtain ⟨s, hs⟩ := Bq h
   have es := ix (fun t => [dS t]) SS i i s rfl hs
   have hw := I5 ((i : Int) + 1) (by omega)
   have arith : SS.length - (i + 1) < SS.length - i := by omega
   have bad : Bb sg s = true → E = 9 := fun hb => by
    rw [C5 (List.any_eq_true.2 ⟨s, B7 hs, hb⟩)] at hE
    exact hE
   have nxt : Bb sg s = false → ∀ (j : Nat) x, j < i + 1 → SS[j]? = some x → Bb sg x = false := fun hb => Ap hs hno hb
   clear hE hno
   by_cases h42 : s = [42]
   · subst h42
     have e1 : Bb sg [42] = !sg.contains 42 := by simp [Bb]
     rw [e1] at bad nxt
     cases hc : sg.contains 42 with
     | true =>
      rw [hc] at k5 nxt
      have hn2 := nxt rfl
      refine D8 (H3 V (A8 (J8 u1 V (B2 (A8 (B6 (D8 (yW es (by omega) rfl rfl (K5 rfl rfl (B5 rfl (H8 rfl (O9 rfl rfl (C3 rfl (yO rfl (yO rfl (K8 rfl rfl (C3 rfl (J6 rfl (C3 rfl (yC (k5) rfl rfl (yU rfl rfl rfl (K8 rfl rfl (yQ (F6 rfl (B2 (B4 (G3 rfl (C3 rfl (yQ (B1 ?_))))))))))))))))))))))))))))))
      exact ⟨i + 1, ⟨h, hn2⟩, arith, V, ⟨E0, E0, E0, E0, E0, .of_eq (C7 (fun n => SV.d (dI n)) hw), D4⟩, ⟨⟨_, V, F7 _⟩, ⟨_, V, F7 _⟩, D4⟩, D4, V⟩
     | false =>
      rw [hc] at k5 bad
      have hE9 := bad rfl
      subst hE9
      refine D8 (H3 V (A8 (J8 u1 V (B2 (A8 (B6 (D8 (yW es (by omega) rfl rfl (K5 rfl rfl (B5 rfl (H8 rfl (O9 rfl rfl (C3 rfl (yO rfl (yO rfl (K8 rfl rfl (C3 rfl (J6 rfl (C3 rfl (yC (k5) rfl rfl (yU rfl rfl rfl (K8 rfl rfl (yQ (G5 rfl (D8 (B5 rfl (C4 (B8 (A4 (A4 (B8 (A4 ?_))))))))))))))))))))))))))))))))
      exact C9 _ (.tmp V .nil) V
   have t42 : (s == [42]) = false := by simp [h42]
   by_cases h43 : s = [43]
   · subst h43
     have e1 : Bb sg [43] = !sg.contains 43 := by simp [Bb]
     rw [e1] at bad nxt
     cases hc : sg.contains 43 with
     | true =>
      rw [hc] at k6 nxt
      have hn2 := nxt rfl
      refine D8 (H3 V (A8 (J8 u1 V (B2 (A8 (B6 (D8 (yW es (by omega) rfl rfl (K5 rfl rfl (B5 rfl (H8 rfl (O9 rfl rfl (C3 rfl (C3 rfl (O9 rfl rfl (K7 rfl rfl (C3 rfl (J6 rfl (C3 rfl (yC (k6) rfl rfl (yU rfl rfl rfl (K8 rfl rfl (yQ (F6 rfl (B2 (B4 (G3 rfl (C3 rfl (yQ (B1 ?_))))))))))))))))))))))))))))))
      exact ⟨i + 1, ⟨h, hn2⟩, arith, V, ⟨E0, E0, E0, E0, E0, .of_eq (C7 (fun n => SV.d (dI n)) hw), D4⟩, ⟨⟨_, V, F7 _⟩, ⟨_, V, F7 _⟩, D4⟩, D4, V⟩
     | false =>
      rw [hc] at k6 bad
      have hE9 := bad rfl
      subst hE9
      refine D8 (H3 V (A8 (J8 u1 V (B2 (A8 (B6 (D8 (yW es (by omega) rfl rfl (K5 rfl rfl (B5 rfl (H8 rfl (O9 rfl rfl (C3 rfl (C3 rfl (O9 rfl rfl (K7 rfl rfl (C3 rfl (J6 rfl (C3 rfl (yC (k6) rfl rfl (yU rfl rfl rfl (K8 rfl rfl (yQ (G5 rfl (D8 (B5 rfl (C4 (B8 (A4 (A4 (B8 (A4 ?_))))))))))))))))))))))))))))))))
      exact C9 _ (.tmp V .nil) V
   have t43 : (s == [43]) = false := by simp [h43]
   have hn2 := nxt (by simp [Bb, t42, t43])
   refine D8 (H3 V (A8 (J8 u1 V (B2 (A8 (B6 (D8 (yW es (by omega) rfl rfl (K5 rfl rfl (B5 rfl (H8 rfl (O9 rfl rfl (C3 rfl ?_))))))))))))); rw [t42]; refine C3 V (O9 V V (K7 V V (C3 V ?_))); rw [t43]; refine yO V (yO V (yO V (yO V (yO V (K7 V V (yQ (F6 V (B2 (B4 (G3 V (C3 V (yQ (B1 ?_)))))))))))))
   exact ⟨i + 1, ⟨h, hn2⟩, arith, V, ⟨E0, E0, E0, E0, E0, .of_eq (C7 (fun n => SV.d (dI n)) hw), D4⟩, ⟨⟨_, V, F7 _⟩, ⟨_, V, F7 _⟩, D4⟩, D4, V⟩
 · have u1 : decide ((i : Int) < (SS.length : Int)) = false := A9 (by omega)
   rw [DY h hno, B9 (by simp)] at hE
   clear hno
   cases hc : (N.any fun c => !nms.contains c.1) with
   | true =>
    rw [hc] at k3 hE
    rw [C5 rfl] at hE
    subst hE
    refine D8 (H3 V (A8 (L9 u1 V (G1 (D8 (J6 V (yC (k2) V V (O5 V (yX V V (yX V V (H4 V (B5 V (I0 V (Mp V ?_)))))))))))))); refine Gf k3 (.d V (.fn E6 V V h1 .nil)) V ?_; refine yQ (G5 V (D8 (B5 V (C4 (A4 ?_)))))
    exact C9 _ (.tmp V .nil) V
   | false =>
    rw [hc] at k3 hE
    rw [B9 (by simp)] at hE
    cases f1 with
    | true =>
     rw [C5 rfl] at hE
     subst hE
     refine D8 (H3 V (A8 (L9 u1 V (G1 (D8 (J6 V (yC (k2) V V (O5 V (yX V V (yX V V (H4 V (B5 V (I0 V (Mp V ?_)))))))))))))); refine Gf k3 (.d V (.fn E6 V V h1 .nil)) V ?_; refine yQ (F6 V (B2 (I0 V (J6 V (yC (k4) V V (O5 V (yX V V (yX V V (yZ (cs := [_, _]) V V (yS (cs' := [_, _]) V V V V V (B5 V (H8 V (yU V V V (yQ (F6 V (B2 (D8 (B5 V (C4 ?_)))))))))))))))))))
     exact C9 _ (.tmp V .nil) V
    | false =>
     rw [B9 (by simp)] at hE
     subst hE
     refine D8 (H3 V (A8 (L9 u1 V (G1 (D8 (J6 V (yC (k2) V V (O5 V (yX V V (yX V V (H4 V (B5 V (I0 V (Mp V ?_)))))))))))))); refine Gf k3 (.d V (.fn E6 V V h1 .nil)) V ?_; refine yQ (F6 V (B2 (I0 V (J6 V (yC (k4) V V (O5 V (yX V V (yX V V (yZ (cs := [_, _]) V V (yS (cs' := [_, _]) V V V V V (B5 V (H8 V (yU V V V (yQ (G5 V (D8 (B5 V (C4 (A4 ?_)))))))))))))))))))
     exact C9 _ (.tmp V .nil) V
def MA (l : List Ru) (ch : List Ac) : Int × Int := if Ig ch ≠ 0 then (0, 1) else if 64 < l.length then (0, 4) else Iw (P1 J5) BT nf ch 0 [] l
theorem EN {nm : List Cf → List Cf} {kk : OM} {ch : List Ac} {ls : List Ln} {k : Nat} {l : Ln} (h : ls[k]? = some l) : Bg nm kk ch (ls.drop k) = if ON nm kk ch l = 0 then Bg nm kk ch (ls.drop (k + 1)) else ON nm kk ch l := by
 obtain ⟨h1, h2⟩ := A6.1 h
 rw [J0 h1, h2, Bg]
theorem Dg {ch : List Ac} {l : List Ru} {k : Nat} {r : Ru} (h : l[k]? = some r) : Iw (P1 J5) BT nf ch k (l.take k) (l.drop k) =
 if U2 r ≠ 0 then ((k : Int), U2 r)
 else if ((l.take k).any fun x => x.1 == r.1) = true then ((k : Int), 5)
 else match W0 r.1 with
  | none => (0, 0)
  | some kk => if Bg nf kk ch r.2 ≠ 0 then ((k : Int), Bg nf kk ch r.2) else if Ag r.2 then Iw (P1 J5) BT nf ch (k + 1) (l.take (k + 1)) (l.drop (k + 1)) else ((k : Int), 14) := by
 obtain ⟨h1, h2⟩ := A6.1 h
 rw [J0 h1, h2, Iw, G8, h]
 rfl
theorem Ju (l : List Ru) (n : Int) : (LP l n).isSome = l.any fun x => x.1 == n := by
 unfold LP
 induction l with
 | nil => rfl
 | cons x l ih =>
  rw [List.find?_cons, List.any_cons]
  cases x.1 == n with
  | true => rfl
  | false => simpa using ih
theorem Om (l : List Ru) (ch : List Ac) (hl : l.length ≤ 1000000) (hb : ∀ r ∈ l, OH r) (hc : ch.length ≤ 1000000) (hcb : ∀ a ∈ ch, a.1.length ≤ 1000000) : PCalls Tryz.prog 14 [O7 l, .sl 2 (ch.map O8)] (.tup [dI (MA l ch).1, dI (MA l ch).2]) := by
 have c0 := My ch hc hcb
 have k0 := Hk
 obtain ⟨⟨E1, E2⟩, hE⟩ := H7 (MA l ch)
 rw [← hE]
 unfold MA at hE
 by_cases h0 : Ig ch = 0
 rotate_left
 · have t1 : (Ig ch != 0) = true := by simp [h0]
   rw [C5 h0] at hE
   cases hE
   obtain ⟨x, hx⟩ := H7 (Ig ch)
   rw [← hx] at c0 t1
   refine B3 Tryz.func14 V Tryz.ntmps14 Tryz.results14 (by simp) fun B w0 => ?_
   refine D8 (H4 V (B5 V (I0 V (yC (c0) V V (H3 V (B1 (J8 t1 V (D8 (H4 V (B5 V (C4 (A4 ?_))))))))))))
   exact C9 _ (.tmp V (.tmp V .nil)) V
 rw [B9 (by simp [h0])] at hE
 rw [h0] at c0
 by_cases h1 : 64 < l.length
 · have t2 : decide (((l.map U4).length : Int) > 64) = true := B0 (by rw [A7]; omega)
   rw [C5 h1] at hE
   cases hE
   refine B3 Tryz.func14 V Tryz.ntmps14 Tryz.results14 (by simp) fun B w0 => ?_
   refine D8 (H4 V (B5 V (I0 V (yC (c0) V V (H3 V (F6 V (B2 (I0 V (yN V (H3 V (B1 ?_))))))))))); rw [t2]
   refine G5 V (D8 (H4 V (B5 V (C4 (A4 ?_)))))
   exact C9 _ (.tmp V (.tmp V .nil)) V
 have t2 : decide (((l.map U4).length : Int) > 64) = false := A9 (by rw [A7]; omega)
 rw [B9 h1] at hE
 refine B3 Tryz.func14 V Tryz.ntmps14 Tryz.results14 (by simp) fun B w0 => ?_
 refine D8 (H4 V (B5 V (I0 V (yC (c0) V V (H3 V (F6 V (B2 (I0 V (yN V (H3 V (B1 ?_))))))))))); rw [t2]
 refine F6 V (B2 (I0 V (yN V (C3 V (yQ (B6 ?_))))))
 clear c0 h0 hc hcb
 refine H2 (fun k : Nat => ⟨68, [(0, .d (O7 l)), (1, .d (.sl 2 (ch.map O8))), (20, .d (O7 l)), (21, .d (dI l.length)), (22, .d (dI k))], [], []⟩) (fun k => k ≤ l.length ∧ Iw (P1 J5) BT nf ch k (l.take k) (l.drop k) = (E1, E2)) (fun k => l.length - k) 0 ⟨D9 _, hE.symm⟩
  ⟨rfl, ⟨E0, E0, E0, .of_eq (C7 (fun n : Nat => SV.d (dI n)) (by simp)), E0, D4⟩, D4, D4, rfl⟩ ?_
 rintro k ⟨hk, hI⟩
 clear hE
 rcases D2 k l.length with h | h
 rotate_left
 · have u1 : decide ((k : Int) < (l.length : Int)) = false := A9 (by omega)
   rw [I8 h] at hI
   cases hI
   refine D8 (H3 V (A8 (L9 u1 V (G1 (D8 (H4 V (B5 V (C4 ?_))))))))
   exact C9 _ (.tmp V (.tmp V .nil)) V
 have u1 : decide ((k : Int) < (l.length : Int)) = true := B0 (by omega)
 obtain ⟨r, hr⟩ := Bq h
 have hbr := hb _ (B7 hr)
 rw [Dg hr] at hI
 have ex := ix U4 l k k r rfl hr
 have hw := I5 ((k : Int) + 1) (by omega)
 have c1 := Fc r hbr
 have c2 := Oi (l.take k) r.1 (by rw [E4]; omega)
 have htk : (l.map U4).take (k : Int).toNat = (l.take k).map U4 := by rw [H5, List.map_take]
 have arith : l.length - (k + 1) < l.length - k := by omega
 rw [Ju] at c2
 by_cases e1 : U2 r = 0
 rotate_left
 · have t3 : (U2 r != 0) = true := by simp [e1]
   rw [C5 e1] at hI
   cases hI
   obtain ⟨x, hx⟩ := H7 (U2 r)
   rw [← hx] at c1 t3 ⊢
   obtain ⟨n, ls⟩ := r
   refine D8 (H3 V (A8 (J8 u1 V (B2 (A8 (B6 (H8 V (yW ex (by omega) rfl rfl (R7 (ys := [_, _]) rfl rfl rfl (yZ (cs := [_, _]) rfl rfl (H4 rfl (yS (cs' := [_, _]) rfl rfl rfl rfl rfl (yQ (A8 (D8 (BU (ys := [_, _]) rfl rfl rfl rfl (yC (c1) rfl rfl (B5 rfl (H8 rfl (H3 rfl (B1 (J8 t3 rfl (H8 rfl (C3 rfl (H4 rfl (B5 rfl (C4 (A4 (B8 (A4 (A4 (B8 (A4 ?_)))))))))))))))))))))))))))))))))
   exact C9 _ (.tmp V (.tmp V .nil)) V
 have hwf := (Ct (tp := P1 J5) (ce := BT)).1 e1
 rw [B9 (by simp [e1])] at hI
 rw [e1] at c1
 obtain ⟨P, hP⟩ := H7 (l.take k)
 rw [← hP] at c2 htk
 obtain ⟨o, ho⟩ := H7 (orR (LP P r.1))
 rw [← ho] at c2
 obtain ⟨o0, o1⟩ := o
 have hPl : (P.map U4).length = k := by rw [hP, A7, E4]; omega
 rw [← hP] at hI
 clear hP ho hb
 cases e2 : (P.any fun x => x.1 == r.1) with
 | true =>
  rw [e2] at c2 hI
  rw [C5 rfl] at hI
  cases hI
  obtain ⟨n, ls⟩ := r
  refine D8 (H3 V (A8 (J8 u1 V (B2 (A8 (B6 (H8 V (yW ex (by omega) rfl rfl (R7 (ys := [_, _]) rfl rfl rfl (yZ (cs := [_, _]) rfl rfl (H4 rfl (yS (cs' := [_, _]) rfl rfl rfl rfl rfl (yQ (A8 (D8 (BU (ys := [_, _]) rfl rfl rfl rfl (yC (c1) rfl rfl (B5 rfl (H8 rfl (H3 rfl (F6 rfl (B2 (A8 (A8 ?_)))))))))))))))))))))))); refine I7 Tryz.mixed (by kernel_rfl) ?_; refine C3 V (C3 V ?_); refine OR (by omega) (by rw [A7]; omega) rfl rfl ?_; refine J6 V ?_; rw [htk]; refine yC (c2) V V (O5 V (yX V V (yX V V (yZ (cs := [_, _]) V V (yS (cs' := [_, _]) V V V V V (B5 V (H8 V (yQ (G5 V (H8 V (H4 V (B5 V (C4 (A4 (B8 (A4 (A4 (B8 (A4 ?_)))))))))))))))))))
  exact C9 _ (.tmp V (.tmp V .nil)) V
 | false =>
 rw [e2] at c2 hI
 rw [B9 (by simp)] at hI
 obtain ⟨n, ls⟩ := r
 obtain ⟨⟨kk, hkk⟩, hll, hlw⟩ := hwf
 simp only at hkk hll hlw hI
 rw [hkk] at hI
 simp only at hI
 obtain ⟨hg, hh⟩ := Fy n
 have hkeq : kk = (n, Ek n, V8 n, Et n) := by
  have h3 := (T9 hkk).2
  rw [Ek, V8, Et, hkk]
  obtain ⟨q0, q1, q2, q3⟩ := kk
  simp only at h3
  subst h3
  rfl
 have hnl : (V8 n).length ≤ 1000000 := by
  have h2 : ∀ k ∈ kndL, k.2.2.1.length ≤ 1000000 := by
   have : ∀ k ∈ kndL, k.2.2.1.length ≤ 4 := by decide
   exact fun k hk => E8 (this k hk) (by omega)
  have := h2 kk (T9 hkk).1
  rw [hkeq] at this
  exact this
 rw [hkeq] at hI
 have k2 := fun x => Fd n (Ek n) (V8 n) (Et n) ch x hnl
 obtain ⟨M, hM⟩ := H7 (BH)
 rw [← hM] at k0 hg
 obtain ⟨kw, hkw⟩ := H7 (Ek n)
 obtain ⟨kg, hkg⟩ := H7 (Et n)
 obtain ⟨kn, hkn⟩ := H7 (V8 n)
 rw [← hkw, ← hkg, ← hkn] at hg hI k2
 clear hM hkw hkg hkn hkeq hnl hkk hh e2 e1
 have k3 := Dd (n, ls) hll fun x hx => ⟨(S8.1 (hlw x hx).2).1, fun c hc => ((hbr.2 x hx).2.2 c hc).2⟩
 simp only at k3
 refine D8 (H3 V (A8 (J8 u1 V (B2 (A8 (B6 (H8 V (yW ex (by omega) rfl rfl (R7 (ys := [_, _]) rfl rfl rfl (yZ (cs := [_, _]) rfl rfl (H4 rfl (yS (cs' := [_, _]) rfl rfl rfl rfl rfl (yQ (A8 (D8 (BU (ys := [_, _]) rfl rfl rfl rfl (yC (c1) rfl rfl (B5 rfl (H8 rfl (H3 rfl (F6 rfl (B2 (A8 (A8 ?_)))))))))))))))))))))))); refine I7 Tryz.mixed (by kernel_rfl) ?_; refine C3 V (C3 V ?_); refine OR (by omega) (by rw [A7]; omega) rfl rfl ?_; refine J6 V ?_; rw [htk]; refine yC (c2) V V (O5 V (yX V V (yX V V (yZ (cs := [_, _]) V V (yS (cs' := [_, _]) V V V V V (B5 V (H8 V (yQ (F6 V (B2 (A8 (D8 (J6 V (yN V (C3 V (yQ (B6 ?_))))))))))))))))); refine H2 (fun j : Nat => ⟨68, [(0, .d (O7 l)), (1, .d (.sl 2 (ch.map O8))), (20, .d (O7 l)), (21, .d (dI l.length)), (22, .d (dI k)), (6, .d (dI k)), (7, .bx 7 0), (45, .d (.sl 3 (ls.map V4))), (46, .d (dI ls.length)), (47, .d (dI j))], [(7, [.d (dI n), .d (.sl 3 (ls.map V4))])], []⟩) (fun j => j ≤ ls.length ∧ Bg nf (n, kw, kn, kg) ch (ls.drop j) = Bg nf (n, kw, kn, kg) ch ls) (fun j => ls.length - j) 0 ⟨D9 _, V⟩
  ⟨rfl, ⟨E0, E0, E0, E0, E0, E0, E0, E0, .of_eq (C7 (fun n : Nat => SV.d (dI n)) (by simp)), E0, D4⟩, ⟨⟨_, rfl, F7 _⟩, D4⟩, D4, rfl⟩ ?_
 rintro j ⟨hj, hJ⟩
 rcases D2 j ls.length with h2 | h2
 · have u2 : decide ((j : Int) < (ls.length : Int)) = true := B0 (by omega)
   obtain ⟨x, hx⟩ := Bq h2
   have em := ix V4 ls j j x rfl hx
   have hw2 := I5 ((j : Int) + 1) (by omega)
   have hxm := B7 hx
   have k4 := k2 x (hbr.2 x hxm) (hlw x hxm).2
   have arith2 : ls.length - (j + 1) < ls.length - j := by omega
   rw [EN hx] at hJ
   obtain ⟨y, hy⟩ := H7 (ON nf (n, kw, kn, kg) ch x)
   rw [← hy] at k4 hJ
   obtain ⟨x0, x1, x2⟩ := x
   clear k2 k3 hy hxm hbr hll hlw
   by_cases hy0 : y = 0
   · have t4 : (y != 0) = false := by simp [hy0]
     rw [C5 hy0] at hJ
     refine D8 (H3 V (A8 (J8 u2 V (B2 (A8 (B6 (D8 (yW em (by omega) rfl rfl (R7 (ys := [_, _, _]) rfl rfl rfl (yZ (cs := [_, _, _]) rfl rfl (yS (cs' := [_, _, _]) rfl rfl rfl rfl rfl (yQ (A8 ?_))))))))))))); refine I7 Tryz.mixed (by kernel_rfl) ?_; refine yC (k0) V V (J6 V (yKeI V V hg (BU (ys := [_, _, _]) V V V V (C3 V (yC (k4) V V (B5 V (H8 V (H3 V (B1 (L9 t4 V (B2 (B4 (G3 V (C3 V (yQ (B1 ?_))))))))))))))))
     exact ⟨j + 1, ⟨h2, hJ⟩, arith2, V, ⟨E0, E0, E0, E0, E0, E0, E0, E0, E0, .of_eq (C7 (fun n => SV.d (dI n)) hw2), D4⟩, ⟨⟨_, V, F7 _⟩, D4⟩, D4, V⟩
   · have t4 : (y != 0) = true := by simp [hy0]
     rw [B9 hy0] at hJ
     rw [← hJ, C5 hy0] at hI
     cases hI
     refine D8 (H3 V (A8 (J8 u2 V (B2 (A8 (B6 (D8 (yW em (by omega) rfl rfl (R7 (ys := [_, _, _]) rfl rfl rfl (yZ (cs := [_, _, _]) rfl rfl (yS (cs' := [_, _, _]) rfl rfl rfl rfl rfl (yQ (A8 ?_))))))))))))); refine I7 Tryz.mixed (by kernel_rfl) ?_; refine yC (k0) V V (J6 V (yKeI V V hg (BU (ys := [_, _, _]) V V V V (C3 V (yC (k4) V V (B5 V (H8 V (H3 V (B1 (J8 t4 V (H8 V (C3 V (H4 V (B5 V (C4 (B8 (A4 (A4 (B8 (A4 (B8 (A4 (A4 (B8 (A4 ?_)))))))))))))))))))))))))
     exact C9 _ (.tmp V (.tmp V .nil)) V
 · have u2 : decide ((j : Int) < (ls.length : Int)) = false := A9 (by omega)
   have hz : Bg nf (n, kw, kn, kg) ch ls = 0 := by rw [← hJ, I8 h2]; rfl
   rw [hz, B9 (by simp)] at hI
   clear k2 hbr hll hlw hJ hz
   cases hbal : Ag ls with
   | true =>
    rw [hbal] at k3 hI
    rw [C5 rfl] at hI
    refine D8 (H3 V (A8 (L9 u2 V (G1 (D8 (BU (ys := [_, _]) V V V V (yC (k3) V V (yU V V V (yQ (F6 V (B2 (B4 (G3 V (C3 V (yQ (B1 ?_))))))))))))))))
    exact ⟨k + 1, ⟨h, hI⟩, arith, V, ⟨E0, E0, E0, E0, .of_eq (C7 (fun n => SV.d (dI n)) hw), D4⟩, D4, D4, V⟩
   | false =>
    rw [hbal] at k3 hI
    rw [B9 (by simp)] at hI
    cases hI
    refine D8 (H3 V (A8 (L9 u2 V (G1 (D8 (BU (ys := [_, _]) V V V V (yC (k3) V V (yU V V V (yQ (G5 V (H8 V (H4 V (B5 V (C4 (B8 (A4 (A4 (B8 (A4 ?_)))))))))))))))))))
    exact C9 _ (.tmp V (.tmp V .nil)) V
def insI (x : G0) : List G0 → List G0
 | [] => [x]
 | y :: l => if ltS y x then y :: insI x l else x :: y :: l
def Jp : List G0 → List G0
 | [] => []
 | x :: l => insI x (Jp l)
theorem Gw (x : G0) (l : List G0) : (insI x l).Perm (x :: l) := by
 induction l with
 | nil => exact .refl _
 | cons y l ih =>
  rw [insI]
  split
  · exact (ih.cons y).trans (.swap x y l)
  · exact .refl _
theorem LK (l : List G0) : (Jp l).Perm l := by
 induction l with
 | nil => exact .refl _
 | cons x l ih => exact (Gw x _).trans (ih.cons x)
theorem ltS_no {a b : G0} (h : ltS a b = true) : ltS b a = false := by
 cases e : ltS b a with
 | false => rfl
 | true =>
  have := Aq h e
  rw [R9] at this
  cases this
theorem insI_up {x : G0} {l : List G0} (h : l.Pairwise fun x y => ltS y x = false) : (insI x l).Pairwise fun x y => ltS y x = false := by
 induction l with
 | nil => exact List.pairwise_singleton _ _
 | cons y l ih =>
  rw [List.pairwise_cons] at h
  rw [insI]
  split
  · rename_i hy
    refine List.pairwise_cons.2 ⟨fun z hz => ?_, ih h.2⟩
    rcases List.mem_cons.1 ((Gw x l).mem_iff.1 hz) with rfl | hz
    · exact ltS_no hy
    · exact h.1 z hz
  · rename_i hy
    have hy : ltS y x = false := by simpa using hy
    refine List.pairwise_cons.2 ⟨fun z hz => ?_, List.pairwise_cons.2 h⟩
    rcases List.mem_cons.1 hz with rfl | hz
    · exact hy
    · have h1 := h.1 z hz
      cases e : ltS z x with
      | false => rfl
      | true =>
       rcases T8 x y with h2 | h2 | h2
       · rw [Aq e h2] at h1; cases h1
       · subst h2; rw [e] at h1; cases h1
       · rw [h2] at hy; cases hy
theorem QQ (l : List G0) : (Jp l).Pairwise fun x y => ltS y x = false := by
 induction l with
 | nil => exact .nil
 | cons x l ih => exact insI_up ih
theorem mSort_i (l : List G0) : Gs l = Jp l := by
 refine List.Perm.eq_of_pairwise (le := fun x y : G0 => ltS y x = false) (fun x y _ _ h1 h2 => ?_) (Jd l) (QQ l) ((List.mergeSort_perm l _).trans (LK l).symm)
 rcases T8 x y with h | h | h
 · rw [h] at h2; cases h2
 · exact h
 · rw [h] at h1; cases h1
def nfi (e : List Cf) : List Cf := (Jp ((N9 e e.length).map (·.1))).filterMap (keep (N9 e e.length))
theorem nf_i (e : List Cf) : nf e = nfi e := by rw [nf, mSort_i]; rfl
open Go.RowKit Go.Shelf Px
variable {F : Nat → Nat → Prop}
attribute [local go_sem] Oper.semAt_some
def GT : Nat → Bool → G0 → List (Bool × G0)
 | 0, _, _ => []
 | n + 1, neg, s => (neg, V5 32 s) :: if CE 32 s then (if V5 32 (Q7 32 s) = [43] ∨ V5 32 (Q7 32 s) = [45] then GT n (V5 32 (Q7 32 s) == [45]) (Q7 32 (Q7 32 s)) else [(false, [])]) else []
def Ja (neg : Bool) (s : G0) : List (Bool × G0) := GT (s.length + 1) neg s
theorem Gn : ∀ (n m : Nat) (neg : Bool) (s : G0), s.length < n → s.length < m → GT n neg s = GT m neg s
 | n + 1, m + 1, neg, s, h1, h2 => by
  rw [GT, GT]
  by_cases hb : CE 32 s = true
  · have l1 := (S3 32 s).2.2 hb
    have l2 := (S3 32 (Q7 32 s)).2.1
    rw [Gn n m _ _ (by omega) (by omega)]
  · rw [B9 hb, B9 hb]
theorem parL_eq (neg : Bool) (s : G0) : Ja neg s = (neg, V5 32 s) :: if CE 32 s then (if V5 32 (Q7 32 s) = [43] ∨ V5 32 (Q7 32 s) = [45] then Ja (V5 32 (Q7 32 s) == [45]) (Q7 32 (Q7 32 s)) else [(false, [])]) else [] := by
 unfold Ja
 rw [GT]
 by_cases hb : CE 32 s = true
 · have l1 := (S3 32 s).2.2 hb
   have l2 := (S3 32 (Q7 32 s)).2.1
   rw [Gn s.length ((Q7 32 (Q7 32 s)).length + 1) _ _ (by omega) (by omega)]
 · rw [B9 hb, B9 hb]
abbrev GR (p : Bool × G0) : List Value := [.bool p.1, vS p.2]
def R5 (s : G0) : List (Bool × G0) := Ja (OP 45 s) (Mf 45 s)
theorem JY {P : Program} {f : FuncId} {vs us : List Value} (h : PCalls P f (vs.map .val) (.tup (us.map .val))) (h1 : ∀ v ∈ vs, v.oneCell' = true) {W : World} (hg : GlobOk F W) : Calls P f vs.toArray W fun e W' => e = .returned (.tuple us.toArray) ∧ Below W.heap.size W W' := by
 refine (h F W vs (by simp) (fun i v x hv hx => ?_) hg).mono ?_
 · rw [C6, hv] at hx
   cases hx
   exact DRep.val v (h1 v (B7 hv))
 · rintro e W' ⟨v, rfl, ⟨ws, rfl, h3, h4⟩, h5⟩
   have : ws = us := by
    refine List.ext_getElem (by simpa using h3) fun i h6 h7 => ?_
    exact DRep.val_eq (h4 i _ _ (A5 h6) (by rw [C6, A5 h7]; rfl))
   rw [this]
   exact ⟨rfl, h5⟩
theorem Bz {W W' : World} (h : GlobOk F W) (hb : Below W.heap.size W W') : GlobOk F W' := fun q cs hq => by
 obtain ⟨h1, vs, h2, T, z, h3⟩ := h q cs hq
 exact ⟨h1.mono fun b o hf hs => ⟨hf, K6 (hb.block b (U6 hs)) o⟩, vs, h2, T, z, (hb.block q (D1.1 h3).1).trans h3⟩
theorem Me {c : UInt8} (s : G0) {n : Nat} (h : s.length ≤ n) : (Mf c s).length ≤ n := by
 cases s with
 | nil => exact h
 | cons x t =>
  rw [Mf]
  split
  · rw [List.length_cons] at h; omega
  · exact h
def lenV : Value → Nat
 | .string b => b.size
 | _ => 0
theorem FQ (s : G0) : lenV (vS s) = s.length := by simp [lenV, ByteArray.size]
theorem JZ (s : G0) (hs : s.length ≤ 1000000) (F : Nat → Nat → Prop) (w : World) (p : Value) (hp : DRep F w p (.ref [dS s])) : Lk Tryz.prog 177 #[p] ((R5 s).map GR) F w := by
 intro l J Jx hJ hJx hY hgo h0
 obtain ⟨b, off, rfl, hc⟩ : ∃ b off, p = .pointer (some ⟨b, off, none⟩) ∧ w.cell? ⟨b, off, none⟩ = some (vS s) := by
  cases hp with
  | @ref b off _ f hc h =>
   refine ⟨b, off, V, ?_⟩
   have := (hc 0 (by simp)).1
   rw [DRep.val_eq (h 0 (dS s) rfl)] at this
   exact this
 refine callsIn_of_wp Tryz.func177 V trivial ?_ V
 simp only [Tryz.ntmps177, List.size_toArray, List.length_cons, List.length_nil, Nat.reduceAdd, Nat.reduceSub, Array.replicate_succ, Array.replicate_zero, List.push_toArray, List.append_toArray, List.nil_append, List.cons_append]
 have HJ := Lib.hid hJ
 have HJX := Lib.hid hJx
 have HY := Lib.hid hY
 have HG := Lib.hid hgo
 have C1 : Hid (∀ W, GlobOk F W → Calls Tryz.prog 121 #[vS s, vS [45]] W fun e W' => e = .returned (.tuple #[vS (Mf 45 s), .bool (OP 45 s)]) ∧ Below W.heap.size W W') :=
  Lib.hid fun W hg => JY (vs := [vS s, vS [45]]) (us := [vS (Mf 45 s), .bool (OP 45 s)]) (wCutP1 s 45 hs) (fun v hv => by simp at hv; rcases hv with rfl | rfl <;> rfl) hg
 have C2 : Hid (∀ t, t.length ≤ 1000000 → ∀ W, GlobOk F W → Calls Tryz.prog 79 #[vS t, vS [32]] W fun e W' => e = .returned (.tuple #[vS (V5 32 t), vS (Q7 32 t), .bool (CE 32 t)]) ∧ Below W.heap.size W W') :=
  Lib.hid fun t ht W hg => JY (vs := [vS t, vS [32]]) (us := [vS (V5 32 t), vS (Q7 32 t), .bool (CE 32 t)]) (Iv t 32 ht) (fun v hv => by simp at hv; rcases hv with rfl | rfl <;> rfl) hg
 clear hJ hJx hY hgo
 have hpl : Hid ((Mf 45 s).length ≤ 1000000) := Lib.hid (Me s hs)
 gi_wp2_with (refine ⟨D4, rfl, ?_⟩; gi_at_call 121; refine (callsIn_wide.2 (C1.out _ HG.out)).mono ?_; rintro e w' ⟨rfl, hb1⟩)
 have HG1 := Lib.hid (Bz HG.out hb1)
 have J1 := HJ.out 0 _ _ h0 hb1
 clear hb1 HG h0
 gi_loopw [3, 4] (fun v3 v4 wr => ∃ (i : Nat) (neg : Bool) (s' : G0), v3 = vS s' ∧ v4 = .bool neg ∧ J i wr ∧ Hid (((R5 s).map GR).drop i = (Ja neg s').map GR ∧ s'.length ≤ 1000000 ∧ GlobOk F wr))
  (fun v3 _ _ => lenV v3)
 case atStart => exact ⟨0, _, _, rfl, rfl, J1, Lib.hid ⟨rfl, hpl.out, HG1.out⟩⟩
 case round =>
  obtain ⟨i, neg, s', rfl, rfl, hJi, HR⟩ := hrel
  have K2 := Lib.hid (C2.out s' HR.out.2.1 wr HR.out.2.2)
  have hcons := HR.out.1
  rw [parL_eq, List.map_cons] at hcons
  have HX : Hid (((R5 s).map GR)[i]? = some (GR (neg, V5 32 s')) ∧ ((R5 s).map GR).drop (i + 1) = (if CE 32 s' then (if V5 32 (Q7 32 s') = [43] ∨ V5 32 (Q7 32 s') = [45] then Ja (V5 32 (Q7 32 s') == [45]) (Q7 32 (Q7 32 s')) else [(false, [])]) else []).map GR) := Lib.hid ⟨by
   have := C7 (fun l => l[0]?) hcons
   simpa using this, by
   have := C7 (List.drop 1) hcons
   simpa using this⟩
  clear hcons
  gi_wp2_with (refine ⟨D4, rfl, ?_⟩; gi_at_call 79; refine (callsIn_wide.2 K2.out).mono ?_; rintro e w' ⟨rfl, hb2⟩; obtain ⟨fn, tmps, assign, body, hy, hR⟩ := HY.out i _ w' HX.out.1 (HJ.out i _ _ hJi hb2); have HR2 := Lib.hid hR; have HG2 := Lib.hid (Bz HR.out.2.2 hb2); clear hR hb2)
  refine ⟨rfl, ?_⟩
  refine HR2.out.mono ?_
  rintro e W3 (⟨rfl, hJ3, -, hg3⟩ | ⟨rfl, hJx3⟩)
  · have HG3 := Lib.hid hg3
    have HD := Lib.hid HX.out.2
    clear hg3
    cases hb : CE 32 s' with
    | false =>
     have HL : Hid (i + 1 = ((R5 s).map GR).length) := Lib.hid (by
      have h1 := HD.out
      rw [hb, B9 (by simp), List.map_nil, List.drop_eq_nil_iff] at h1
      have h2 := (A6.1 HX.out.1).1
      omega)
     gi_wp2
     refine bodyPost_ret (results_none V _ _ _) V ?_
     exact ⟨⟨_, V⟩, .inl (by rw [← HL.out]; exact hJ3)⟩
    | true =>
     have l1 := S3 32 s'
     have l2 := S3 32 (Q7 32 s')
     have HB : Hid ((Q7 32 s').length ≤ 1000000 ∧ (Q7 32 (Q7 32 s')).length ≤ 1000000 ∧ (Q7 32 (Q7 32 s')).length < s'.length) := Lib.hid ⟨by have := HR.out.2.1; omega, by have := HR.out.2.1; omega, by have := l1.2.2 hb; omega⟩
     have K3 := Lib.hid (C2.out (Q7 32 s') HB.out.1 W3 HG3.out)
     clear l1 l2
     have HD2 : Hid (((R5 s).map GR).drop (i + 1) = (if V5 32 (Q7 32 s') = [43] ∨ V5 32 (Q7 32 s') = [45] then Ja (V5 32 (Q7 32 s') == [45]) (Q7 32 (Q7 32 s')) else [(false, [])]).map GR) := Lib.hid (by have := HD.out; rwa [hb, C5 rfl] at this)
     clear HD
     obtain ⟨sg, hsg⟩ := H7 (V5 32 (Q7 32 s'))
     obtain ⟨nx, hnx⟩ := H7 (Q7 32 (Q7 32 s'))
     obtain ⟨mo, hmo⟩ := H7 (CE 32 (Q7 32 s'))
     rw [← hsg, ← hnx, ← hmo] at K3
     rw [← hsg, ← hnx] at HD2
     rw [← hnx] at HB
     clear hsg hnx hmo
     by_cases h3 : sg = [43] ∨ sg = [45]
     · have HD3 := Lib.hid (show ((R5 s).map GR).drop (i + 1) = (Ja (sg == [45]) nx).map GR by have := HD2.out; rwa [C5 h3] at this)
       clear HD2
       rcases h3 with rfl | rfl
       · gi_wp2_with (refine ⟨D4, rfl, ?_⟩; gi_at_call 79; refine (callsIn_wide.2 K3.out).mono ?_; rintro e w4 ⟨rfl, hb4⟩)
         have HG4 := Lib.hid (Bz HG3.out hb4)
         have J4 := HJ.out _ _ _ hJ3 hb4
         go_roundw
         case rel => exact ⟨i + 1, false, nx, rfl, rfl, J4, Lib.hid ⟨HD3.out, HB.out.2.1, HG4.out⟩⟩
         case measure => rw [FQ, FQ]; exact HB.out.2.2
       · gi_wp2_with (refine ⟨D4, rfl, ?_⟩; gi_at_call 79; refine (callsIn_wide.2 K3.out).mono ?_; rintro e w4 ⟨rfl, hb4⟩)
         have HG4 := Lib.hid (Bz HG3.out hb4)
         have J4 := HJ.out _ _ _ hJ3 hb4
         go_roundw
         case rel => exact ⟨i + 1, true, nx, rfl, rfl, J4, Lib.hid ⟨HD3.out, HB.out.2.1, HG4.out⟩⟩
         case measure => rw [FQ, FQ]; exact HB.out.2.2
     · have HD3 := Lib.hid (show ((R5 s).map GR).drop (i + 1) = [GR (false, [])] by have := HD2.out; rwa [B9 h3] at this)
       have HX3 : Hid (((R5 s).map GR)[i + 1]? = some (GR (false, [])) ∧ i + 1 + 1 = ((R5 s).map GR).length) := Lib.hid ⟨by
        have := C7 (fun l => l[0]?) HD3.out
        simpa using this, by
        have := C7 List.length HD3.out
        simp at this
        simp
        omega⟩
       have b1 : (!sg == [43]) = true := by have : ¬ sg = [43] := fun e => h3 (.inl e); simp [this]
       have b2 : (!sg == [45]) = true := by have : ¬ sg = [45] := fun e => h3 (.inr e); simp [this]
       clear HD2 HD3 h3
       gi_wp2_with (refine ⟨D4, rfl, ?_⟩; gi_at_call 79; refine (callsIn_wide.2 K3.out).mono ?_; rintro e w4 ⟨rfl, hb4⟩; obtain ⟨fn5, tmps5, assign5, body5, hy5, hR5⟩ := HY.out (i + 1) _ w4 HX3.out.1 (HJ.out _ _ _ hJ3 hb4); have HR5 := Lib.hid hR5; clear hR5 hb4)
       refine ⟨rfl, ?_⟩
       refine HR5.out.mono ?_
       rintro e W5 (⟨rfl, hJ5, -, -⟩ | ⟨rfl, hJx5⟩)
       · gi_wp2
         refine bodyPost_ret (results_none V _ _ _) V ?_
         exact ⟨⟨_, V⟩, .inl (by rw [← HX3.out.2]; exact hJ5)⟩
       · gi_wp2
         refine bodyPost_ret (results_none V _ _ _) V ?_
         exact ⟨⟨_, V⟩, .inr hJx5⟩
  · gi_wp2
    refine bodyPost_ret (results_none V _ _ _) V ?_
    exact ⟨⟨_, V⟩, .inr hJx3⟩
theorem prT_ne (d : G0) : prT d ≠ [] := by
 unfold prT
 split
 · simp
 · assumption
theorem Lr (d : G0) (hd : d.length ≤ 65536) : PCalls Tryz.prog 178 [dS d] (.tup [dS (if prT d = d then I6 (val d) else []), dI (if prT d = d then 0 else 3)]) := by
 have k1 := wPrintT d (by omega)
 have k2 := CW d (by omega)
 have t0 : decide ((d.length : Int) > 65536) = false := A9 (by omega)
 obtain ⟨p, hp⟩ := H7 (prT d)
 obtain ⟨q, hq⟩ := H7 (I6 (val d))
 rw [← hp] at k1 ⊢
 rw [← hq] at k2 ⊢
 by_cases h : p = d
 · have t1 : (!(p == d)) = false := by simp [h]
   rw [C5 h, C5 h]
   refine B3 Tryz.func178 V Tryz.ntmps178 Tryz.results178 (by simp) fun B w0 => ?_
   refine D8 (H4 V (B5 V (I0 V (O4 V (H3 V (B1 (L9 t0 V (B2 (I0 V (yC (k1) V V (C3 V (O6 V V (yQ (B1 (L9 t1 V (B2 (H8 V (yC (k2) V V (H4 V (B5 V (C4 ?_)))))))))))))))))))))
   exact C9 _ (.tmp V (.tmp V .nil)) V
 · have t1 : (!(p == d)) = true := by simp [h]
   rw [B9 h, B9 h]
   refine B3 Tryz.func178 V Tryz.ntmps178 Tryz.results178 (by simp) fun B w0 => ?_
   refine D8 (H4 V (B5 V (I0 V (O4 V (H3 V (B1 (L9 t0 V (B2 (I0 V (yC (k1) V V (C3 V (O6 V V (yQ (B1 (J8 t1 V (D8 (H4 V (B5 V (C4 (A4 ?_))))))))))))))))))))
   exact C9 _ (.tmp V (.tmp V .nil)) V
def tmR (d nm : G0) : Option Cf := if prT d = d ∧ d.head? ≠ some 45 ∧ DB nm = true then some (nm, I6 (val d)) else none
def tmP (t : G0) : Option Cf := if CE 42 t then tmR (V5 42 t) (Q7 42 t) else tmR [49] t
abbrev oCf (o : Option Cf) : Cf := o.getD ([], [])
theorem Ka (t : G0) (ht : t.length ≤ 65536) : PCalls Tryz.prog 127 [dS t] (.tup [.agg (dCf (oCf (tmP t))), dB (tmP t).isSome]) := by
 have k1 := Iv t 42 (by omega)
 obtain ⟨hl1, hl2, -⟩ := S3 42 t
 unfold tmP
 cases hb : CE 42 t with
 | true =>
  rw [hb] at k1
  rw [C5 rfl]
  obtain ⟨d, hd⟩ := H7 (V5 42 t)
  obtain ⟨nm, hnm⟩ := H7 (Q7 42 t)
  rw [← hd] at hl1
  rw [← hd, ← hnm] at k1 ⊢
  have k2 := Lr d (by omega)
  have k3 := Hl nm
  clear hd hnm hb
  unfold tmR
  by_cases h1 : prT d = d
  rotate_left
  · rw [B9 h1, B9 h1] at k2
    rw [B9 (fun h => h1 h.1)]
    refine B3 Tryz.func127 V Tryz.ntmps127 Tryz.results127 (by simp) fun B w0 => ?_
    refine D8 (yZ (cs := [_, _]) V V (B5 V (H8 V (yC (k1) V V (O5 V (yX V V (yX V V (yX V V (H4 V (H4 V (B5 V (I0 V (yU V V V (yQ (F6 V (B2 (H8 V (yC (k2) V V (O5 V (yX V V (yX V V (H4 V (B5 V (I0 V (G3 V (C3 V (yO V (yO V (yO V (K8 V V (C3 V (yO V (yO V (yO V (K8 V V (yQ (G5 V (D8 (yG (ys := [_, _]) V V ?_))))))))))))))))))))))))))))))))))))))); refine yS (cs' := [_, _]) V V V V V (B5 V (C4 (A4 ?_)))
    exact C9 _ (.agg E6 V V V V (.tmp V .nil)) V
  rw [C5 h1, C5 h1] at k2
  obtain ⟨x, d, rfl⟩ : ∃ x l, d = x :: l := by
   cases d with
   | nil => exact G7 h1 (prT_ne _)
   | cons x l => exact ⟨x, l, V⟩
  have hx : (x :: d : G0)[(0 : Int).toNat]? = some x := rfl
  obtain ⟨q, hq⟩ := H7 (I6 (val (x :: d)))
  rw [← hq] at k2 ⊢
  by_cases h2 : x = 45
  · have t2 : ((x.toNat : Int) == 45) = true := by rw [h2]; rfl
    rw [B9 (fun h => h.2.1 (by rw [h2]; rfl))]
    refine B3 Tryz.func127 V Tryz.ntmps127 Tryz.results127 (by simp) fun B w0 => ?_
    refine D8 (yZ (cs := [_, _]) V V (B5 V (H8 V (yC (k1) V V (O5 V (yX V V (yX V V (yX V V (H4 V (H4 V (B5 V (I0 V (yU V V V (yQ (F6 V (B2 (H8 V (yC (k2) V V (O5 V (yX V V (yX V V (H4 V (B5 V (I0 V (G3 V (C3 V (C3 V (Ah hx (by omega) rfl rfl (G3 rfl (K7 rfl rfl (C3 rfl ?_))))))))))))))))))))))))))))))); rw [t2]; refine yO V (yO V (yO V (K8 V V (yQ (G5 V (D8 (yG (ys := [_, _]) V V (yS (cs' := [_, _]) V V V V V (B5 V (C4 (A4 ?_)))))))))))
    exact C9 _ (.agg E6 V V V V (.tmp V .nil)) V
  have t2 : ((x.toNat : Int) == 45) = false := F8 fun h => h2 (UInt8.toNat_inj.1 (by have : (45 : UInt8).toNat = 45 := rfl; omega))
  cases h3 : DB nm with
  | false =>
   rw [h3] at k3
   rw [B9 (fun h => by simp at h)]
   refine B3 Tryz.func127 V Tryz.ntmps127 Tryz.results127 (by simp) fun B w0 => ?_
   refine D8 (yZ (cs := [_, _]) V V (B5 V (H8 V (yC (k1) V V (O5 V (yX V V (yX V V (yX V V (H4 V (H4 V (B5 V (I0 V (yU V V V (yQ (F6 V (B2 (H8 V (yC (k2) V V (O5 V (yX V V (yX V V (H4 V (B5 V (I0 V (G3 V (C3 V (C3 V (Ah hx (by omega) rfl rfl (G3 rfl (K7 rfl rfl (C3 rfl ?_))))))))))))))))))))))))))))))); rw [t2]; refine C3 V (yC (k3) V V (yU V V V (K7 V V (yQ (G5 V (D8 (yG (ys := [_, _]) V V (yS (cs' := [_, _]) V V V V V (B5 V (C4 (A4 ?_)))))))))))
   exact C9 _ (.agg E6 V V V V (.tmp V .nil)) V
  | true =>
   rw [h3] at k3
   rw [C5 ⟨h1, fun h => h2 (by simpa using h), rfl⟩]
   refine B3 Tryz.func127 V Tryz.ntmps127 Tryz.results127 (by simp) fun B w0 => ?_
   refine D8 (yZ (cs := [_, _]) V V (B5 V (H8 V (yC (k1) V V (O5 V (yX V V (yX V V (yX V V (H4 V (H4 V (B5 V (I0 V (yU V V V (yQ (F6 V (B2 (H8 V (yC (k2) V V (O5 V (yX V V (yX V V (H4 V (B5 V (I0 V (G3 V (C3 V (C3 V (Ah hx (by omega) rfl rfl (G3 rfl (K7 rfl rfl (C3 rfl ?_))))))))))))))))))))))))))))))); rw [t2]; refine C3 V (yC (k3) V V (yU V V V (K7 V V (yQ (F6 V (B2 (H8 V (C3 V (yG (ys := [_, _]) V V (yS (cs' := [_, _]) V V V V V (B5 V (C4 ?_))))))))))))
   exact C9 _ (.agg E6 V V V V (.tmp V .nil)) V
 | false =>
  rw [hb] at k1
  rw [B9 (by simp)]
  have e1 : prT [49] = [49] := by kernel_rfl
  have e2 : I6 (val [49]) = [49] := by kernel_rfl
  have k2 := Lr [49] (by simp)
  rw [C5 e1, C5 e1, e2] at k2
  have k3 := Hl t
  obtain ⟨d, hd⟩ := H7 (V5 42 t)
  obtain ⟨nm, hnm⟩ := H7 (Q7 42 t)
  rw [← hd, ← hnm] at k1
  clear hd hnm hb
  have hx : ([49] : G0)[(0 : Int).toNat]? = some 49 := rfl
  unfold tmR
  cases h3 : DB t with
  | false =>
   rw [h3] at k3
   rw [B9 (fun h => by simp at h)]
   refine B3 Tryz.func127 V Tryz.ntmps127 Tryz.results127 (by simp) fun B w0 => ?_
   refine D8 (yZ (cs := [_, _]) V V (B5 V (H8 V (yC (k1) V V (O5 V (yX V V (yX V V (yX V V (H4 V (H4 V (B5 V (I0 V (yU V V V (yQ (G5 V (B4 (C3 V (H4 V (B5 V (H8 V (yC (k2) V V (O5 V (yX V V (yX V V (H4 V (B5 V (I0 V (G3 V (C3 V (C3 V (Ah hx (by omega) rfl rfl (G3 rfl (K7 rfl rfl (C3 rfl (C3 rfl (yC (k3) rfl rfl (yU rfl rfl rfl (K7 rfl rfl (yQ ?_))))))))))))))))))))))))))))))))))))))); refine G5 V (D8 (yG (ys := [_, _]) V V (yS (cs' := [_, _]) V V V V V (B5 V (C4 (A4 ?_))))))
   exact C9 _ (.agg E6 V V V V (.tmp V .nil)) V
  | true =>
   rw [h3] at k3
   rw [C5 ⟨e1, by simp, rfl⟩, e2]
   refine B3 Tryz.func127 V Tryz.ntmps127 Tryz.results127 (by simp) fun B w0 => ?_
   refine D8 (yZ (cs := [_, _]) V V (B5 V (H8 V (yC (k1) V V (O5 V (yX V V (yX V V (yX V V (H4 V (H4 V (B5 V (I0 V (yU V V V (yQ (G5 V (B4 (C3 V (H4 V (B5 V (H8 V (yC (k2) V V (O5 V (yX V V (yX V V (H4 V (B5 V (I0 V (G3 V (C3 V (C3 V (Ah hx (by omega) rfl rfl (G3 rfl (K7 rfl rfl (C3 rfl (C3 rfl (yC (k3) rfl rfl (yU rfl rfl rfl (K7 rfl rfl (yQ ?_))))))))))))))))))))))))))))))))))))))); refine F6 V (B2 (H8 V (C3 V (yG (ys := [_, _]) V V (yS (cs' := [_, _]) V V V V V (B5 V (C4 ?_)))))))
   exact C9 _ (.agg E6 V V V V (.tmp V .nil)) V
def FL (p : Bool × G0) : Option Cf := (tmP p.2).map fun c => if p.1 then (c.1, I6 (- val c.2)) else c
def NM (s : G0) : Bool := (R5 s).all fun p => (FL p).isSome
def Il (s : G0) : List Cf := (R5 s).filterMap FL
def paE (s : G0) : Int := if s = [48] then 0 else if NM s then (if 16 < (Il s).length then 4 else 0) else 3
def paR (s : G0) : List Cf := if s = [48] then [] else if NM s then (if 16 < (Il s).length then [] else nf (Il s)) else []
theorem Jb : ∀ (n : Nat) (neg : Bool) (s : G0), s.length < n → (GT n neg s).length ≤ s.length + 1 ∧ ∀ p ∈ GT n neg s, p.2.length ≤ s.length
 | 0, _, _, h => by omega
 | n + 1, neg, s, h => by
  rw [GT]
  have l0 := S3 32 s
  by_cases hb : CE 32 s = true
  · have l1 := l0.2.2 hb
    have l2 := (S3 32 (Q7 32 s)).2.1
    rw [C5 hb]
    by_cases hc : V5 32 (Q7 32 s) = [43] ∨ V5 32 (Q7 32 s) = [45]
    · rw [C5 hc]
      obtain ⟨h1, h2⟩ := Jb n (V5 32 (Q7 32 s) == [45]) (Q7 32 (Q7 32 s)) (by omega)
      refine ⟨by rw [List.length_cons]; omega, fun p hp => ?_⟩
      rcases List.mem_cons.1 hp with rfl | hp
      · exact l0.1
      · have := h2 p hp; omega
    · rw [B9 hc]
      refine ⟨by simp; omega, fun p hp => ?_⟩
      simp at hp
      rcases hp with rfl | rfl
      · exact l0.1
      · simp
  · rw [B9 hb]
    refine ⟨by simp, fun p hp => ?_⟩
    simp at hp
    rw [hp]
    exact l0.1
theorem PT (s : G0) : (R5 s).length ≤ s.length + 1 ∧ ∀ p ∈ R5 s, p.2.length ≤ s.length := by
 have h := Me (c := 45) s (E3 _)
 obtain ⟨h1, h2⟩ := Jb ((Mf 45 s).length + 1) (OP 45 s) (Mf 45 s) (Nat.lt_succ_self _)
 exact ⟨E8 h1 (by omega), fun p hp => E8 (h2 p hp) h⟩
theorem Lv {t : G0} {c : Cf} (h : tmP t = some c) : DB c.1 = true ∧ c.2.length ≤ t.length + 1 := by
 have hl := (S3 42 t).1
 have hR : ∀ d nm, tmR d nm = some c → DB c.1 = true ∧ c.2.length ≤ d.length := fun d nm h => by
  unfold tmR at h
  split at h
  · rename_i h1
    cases h
    exact ⟨h1.2.2, EZ d⟩
  · cases h
 unfold tmP at h
 split at h
 · have := hR _ _ h
   exact ⟨this.1, by omega⟩
 · have := hR _ _ h
   exact ⟨this.1, by have := this.2; simp at this; omega⟩
theorem tmS_len {p : Bool × G0} {c : Cf} (h : FL p = some c) : DB c.1 = true ∧ c.2.length ≤ p.2.length + 2 := by
 unfold FL at h
 rw [C8] at h
 obtain ⟨d, h1, h2⟩ := h
 obtain ⟨h3, h4⟩ := Lv h1
 split at h2
 · rw [← h2]
   exact ⟨h3, E8 (DU (k := p.2.length + 1) (by rw [Int.natAbs_neg]; exact Ff h4)) (by omega)⟩
 · rw [← h2]
   exact ⟨h3, by omega⟩
abbrev pT : Nat := 113 * 100000 + 4
theorem itParts (s : G0) (hs : s.length ≤ 1000000) : PCalls Tryz.prog 126 [dS s] (.d (dIt Tryz.prog ((R5 s).map GR))) := by
 refine B3 Tryz.func126 V Tryz.ntmps126 Tryz.results126 (by simp) fun B w0 => ?_
 refine D8 (yK (cs := [_]) V V (B5 V (D8 (Mp V (yAf V (yQ ?_)))))); refine pw_it1 2 1 ((R5 s).map GR) (ds := [dS s]) (JZ s hs) V V V ?_; refine C4 ?_
 exact C9 _ (.tmp V .nil) V
theorem wParseG (s : G0) (hs : s.length ≤ 65536) (hpl : (R5 s).length ≤ 65537) (hpt : ∀ p ∈ R5 s, p.2.length ≤ 65536) : PCalls Tryz.prog 80 [dS s] (.tup [.sl 2 ((paR s).map dCf), dI (paE s)]) := by
 have t0 : decide ((s.length : Int) > 65536) = false := A9 (by omega)
 by_cases h0 : s = [48]
 · have t1 : (s == [48]) = true := by simp [h0]
   rw [paR, paE, C5 h0, C5 h0]
   refine B3 Tryz.func80 V Tryz.ntmps80 Tryz.results80 (by simp) fun B w0 => ?_
   refine D8 (yZ (cs := [_]) V V (yZ (cs := [_]) V V (yQ (I0 V (O4 V (H3 V (B1 (L9 t0 V (B2 (I0 V (O9 V V (yQ (B1 (J8 t1 V (D8 (Y4 (cs' := [_]) V V V V (Y4 (cs' := [_]) V V V V (yQ (C4 (A4 ?_))))))))))))))))))))
   exact C9 _ (.onil 2 E6 V V (.one E6 V V V .nil)) V
 have t1 : (s == [48]) = false := by simp [h0]
 rw [paR, paE, B9 h0, B9 h0]
 have k1 := itParts s (by omega)
 obtain ⟨R, hR⟩ := H7 ((if NM s = true then (if 16 < (Il s).length then [] else nf (Il s)) else []))
 obtain ⟨E, hE⟩ : ∃ E : Int, E = (if NM s = true then (if 16 < (Il s).length then 4 else 0) else 3) := ⟨_, rfl⟩
 rw [← hR, ← hE]
 have hLl : ∀ i, (((R5 s).take i).filterMap FL).length ≤ 65537 := fun i => E8 (List.length_filterMap_le _ _) (by rw [E4]; omega)
 refine CS Tryz.func80 V Tryz.ntmps80 Tryz.results80 (by simp) fun B w0 hrl => ?_
 refine D8 (yZ (cs := [_]) V V (yZ (cs := [_]) V V (yQ (I0 V (O4 V (H3 V (B1 (L9 t0 V (B2 (I0 V (O9 V V (yQ (B1 (L9 t1 V (B2 (D8 (yZ (cs := [_]) V V (yQ ?_)))))))))))))))))); refine Cu 4 0 pT 2 V V V V ?_; refine I0 V (yC (k1) V V (yQ (B6 ?_))); refine PR (st' := ⟨39, [(2, .bx 2 0), (3, .bx 3 0), (4, .bx 4 0), (15, .d (dIt Tryz.prog ((R5 s).map GR)))], [(2, [.d (.val (.slice none 0 0))]), (3, [.d (dI 0)]), (4, [.ts pT 2 ((((R5 s).take 0).filterMap FL).map dCf)])], [(pT, ((((R5 s).take 0).filterMap FL).map dCf).length)]⟩) ⟨rfl, ⟨E0, E0, E0, E0, D4⟩, ⟨⟨_, V, F7 _⟩, ⟨_, V, F7 _⟩, ⟨_, V, F7 _⟩, D4⟩, ⟨rfl, D4⟩, V⟩ ?_; refine pw_rf ((R5 s).map GR) [(5, 16), (6, 17)] (fun i => ∀ p ∈ (R5 s).take i, (FL p).isSome = true)
  (fun i => [(2, [.d (.val (.slice none 0 0))]), (3, [.d (dI 0)]), (4, [.ts pT 2 ((((R5 s).take i).filterMap FL).map dCf)])])
  (fun i => [(pT, ((((R5 s).take i).filterMap FL).map dCf).length)]) (fun p hp => by simp at hp) hrl rfl (fun x hx => by obtain ⟨p, -, rfl⟩ := H0.1 hx; rfl) rfl rfl (by decide) ?_ ?_
 · intro i x hx hI
   rw [C6, C8] at hx
   obtain ⟨⟨neg, t⟩, hp, rfl⟩ := hx
   refine ⟨[.any, .any, .bx 2 0, .bx 3 0, .bx 4 0, .d (dB neg), .d (dS t)], of_decide_eq_true V, .any (.any (.keep V (.refl _) (.keep V (.refl _) (.keep V (.refl _) (.new V V (.new V V .nil)))))), V, V, by kernel_rfl, fun B w0 => ?_⟩
   have htl := hpt _ (B7 hp)
   simp only at htl
   have k2 := Ka t (by omega)
   have hli := hLl i
   have htk : (R5 s).take (i + 1) = (R5 s).take i ++ [(neg, t)] := by rw [G8, hp]; rfl
   cases ht : tmP t with
   | none =>
    rw [ht] at k2
    have hok : NM s = false := by
     rw [NM, List.all_eq_false]
     exact ⟨(neg, t), B7 hp, by simp [FL, ht]⟩
    rw [hok, B9 (by simp)] at hR hE
    subst hR hE
    obtain ⟨l, hl⟩ := H7 ((((R5 s).take i).filterMap FL).map dCf)
    rw [← hl]
    refine B6 (H8 V (yC (k2) V V (O5 V (yX V V (yX V V (yZ (cs := [_, _]) V V (yS (cs' := [_, _]) V V V V V (B5 V (I0 V (yU V V V (yQ (G5 V (D8 (Y4 (cs' := [_]) V V V V (Y4 (cs' := [_]) V V V V (yQ (C4 (A4 (B8 ?_)))))))))))))))))))
    exact ⟨[(2, [.d (.val (.slice none 0 0))]), (3, [.d (dI 3)]), (4, [.ts pT 2 l])], [(pT, l.length)], ⟨rfl, V, V, D4⟩, ⟨rfl, D4⟩, V, V, by kernel_rfl, C9 _ (.onil 2 E6 rfl rfl (.one E6 rfl rfl rfl .nil)) rfl⟩
   | some c =>
    obtain ⟨c0, c1⟩ := c
    rw [ht] at k2
    have hcl := Lv ht
    simp only at hcl
    cases neg with
    | false =>
     have hnx : ((R5 s).take (i + 1)).filterMap FL = ((R5 s).take i).filterMap FL ++ [(c0, c1)] := by rw [htk, List.filterMap_append]; simp [FL, ht]
     have hI2 : ∀ p ∈ (R5 s).take (i + 1), (FL p).isSome = true := fun p hp2 => by
      rw [htk] at hp2
      rcases List.mem_append.1 hp2 with h | h
      · exact hI p h
      · rw [List.mem_singleton.1 h]; simp [FL, ht]
     obtain ⟨zs, hz⟩ := H7 (((R5 s).take i).filterMap FL)
     rw [← hz] at hnx hli ⊢
     clear hz
     refine B6 (H8 V (yC (k2) V V (O5 V (yX V V (yX V V (yZ (cs := [_, _]) V V (yS (cs' := [_, _]) V V V V V (B5 V (I0 V (yU V V V (yQ (F6 V (B2 (I0 V (yQ (F6 V (B2 (B4 (Mo V V V (BU (ys := [_, _]) V V V V ?_)))))))))))))))))))); refine yR (es := [[_, _]]) V V V V V ?_; refine yT (es' := (zs ++ [(c0, c1)]).map dCf) (m := ((zs ++ [(c0, c1)]).map dCf).length) (by simp; omega) (by simp; omega) rfl rfl rfl rfl rfl (by simp) (by simp) ?_; refine ySt (cs' := [_]) V V V V (yQ (CR ?_))
     exact ⟨hI2, ⟨rfl, V, (by rw [hnx]; rfl), D4⟩, ⟨(by rw [hnx]; rfl), D4⟩⟩
    | true =>
     have hnx : ((R5 s).take (i + 1)).filterMap FL = ((R5 s).take i).filterMap FL ++ [(c0, I6 (- val c1))] := by rw [htk, List.filterMap_append]; simp [FL, ht]
     have hI2 : ∀ p ∈ (R5 s).take (i + 1), (FL p).isSome = true := fun p hp2 => by
      rw [htk] at hp2
      rcases List.mem_append.1 hp2 with h | h
      · exact hI p h
      · rw [List.mem_singleton.1 h]; simp [FL, ht]
     have k3 := wNegT c1 (by omega)
     obtain ⟨zs, hz⟩ := H7 (((R5 s).take i).filterMap FL)
     obtain ⟨q, hq⟩ := H7 (I6 (- val c1))
     rw [← hz, ← hq] at hnx
     rw [← hz] at hli ⊢
     rw [← hq] at k3
     clear hz hq
     refine B6 (H8 V (yC (k2) V V (O5 V (yX V V (yX V V (yZ (cs := [_, _]) V V (yS (cs' := [_, _]) V V V V V (B5 V (I0 V (yU V V V (yQ (F6 V (B2 (I0 V (yQ (G5 V (B4 (J6 V (yC (k3) V V (CO V (Y4 (cs' := [_, _]) V V V V (yQ (B4 (Mo V V V (BU (ys := [_, _]) V V V V ?_))))))))))))))))))))))))); refine yR (es := [[_, _]]) V V V V V ?_; refine yT (es' := (zs ++ [(c0, q)]).map dCf) (m := ((zs ++ [(c0, q)]).map dCf).length) (by simp; omega) (by simp; omega) rfl rfl rfl rfl rfl (by simp) (by simp) ?_; refine ySt (cs' := [_]) V V V V (yQ (CR ?_))
     exact ⟨hI2, ⟨rfl, V, (by rw [hnx]; rfl), D4⟩, ⟨(by rw [hnx]; rfl), D4⟩⟩
 · intro hI
   rw [A7, I3] at hI
   have hok : NM s = true := E5.2 hI
   rw [hok, C5 rfl] at hR hE
   rw [A7, I3]
   show AQ 0 _ .normal ⟨39, _, [(2, [.d (.val (.slice none 0 0))]), (3, [.d (dI 0)]), (4, [.ts pT 2 ((Il s).map dCf)])], [(pT, ((Il s).map dCf).length)]⟩
   have hll : (Il s).length ≤ 65537 := by have := hLl (R5 s).length; rwa [I3] at this
   by_cases h3 : 16 < (Il s).length
   · have t2 : decide ((((Il s).map dCf).length : Int) > 16) = true := B0 (by rw [A7]; omega)
     rw [C5 h3] at hR hE
     subst hR hE
     obtain ⟨l, hl⟩ := H7 ((Il s).map dCf)
     rw [← hl] at t2 ⊢
     refine A8 (D8 (Mo V V V (yN V (H3 V (B1 (J8 t2 V (D8 (Y4 (cs' := [_]) V V V V (Y4 (cs' := [_]) V V V V (yQ (C4 (A4 ?_))))))))))))
     exact C9 _ (.onil 2 E6 V V (.one E6 V V V .nil)) V
   · have t2 : decide ((((Il s).map dCf).length : Int) > 16) = false := A9 (by rw [A7]; omega)
     rw [B9 h3] at hR hE
     subst hE
     have hm : ∀ c ∈ Il s, DB c.1 = true ∧ c.2.length ≤ 70000 := fun c hc => by
      obtain ⟨p, hp, h4⟩ := List.mem_filterMap.1 hc
      have h5 := tmS_len h4
      have h6 := hpt p hp
      exact ⟨h5.1, by omega⟩
     have k4 := Iq (Il s) (by omega) (fun c hc => by have := MP (hm c hc).1; omega) (fun c hc => (hm c hc).2)
     rw [← hR] at k4
     obtain ⟨l, hl⟩ := H7 ((Il s).map dCf)
     rw [← hl] at t2 k4 ⊢
     refine A8 (D8 (Mo V V V (yN V (H3 V (B1 (L9 t2 V (B2 (D8 (Mo V V V (yC (k4) V V (ySl (cs' := [_]) V V V V (Y4 (cs' := [_]) V V V V (yQ (C4 ?_))))))))))))))
     exact C9 _ (.one E6 V V V (.one E6 V V V .nil)) V
theorem wParse (s : G0) (hs : s.length ≤ 65536) : PCalls Tryz.prog 80 [dS s] (.tup [.sl 2 ((paR s).map dCf), dI (paE s)]) := by
 obtain ⟨hpl, hpt⟩ := PT s
 exact wParseG s (by omega) (by omega) fun p hp => E8 (hpt p hp) hs
abbrev tyR : Nat := 32
abbrev tyL : Nat := 53
abbrev HO (l : List Ru) : List (Int × List (List DV)) := l.map fun r => (r.1, r.2.map V4)
def ID (t : G0) : Option (List Cf) := if paE t = 0 then some (paR t) else none
def lnG (c : Bool) (out : List Ru) (t : G0) : Option (List Ru) :=
 if CE 32 t && P1 J5 (V5 32 t) && !out.isEmpty then (ID (Q7 32 t)).map fun e => Qy (V5 32 t, c, e) out else none
def MRd (bo : Nat) (out : List Ru) (o : Option (List Ru)) (r : SV) (j : EI) : Prop := r = .d (dB o.isSome) ∧ RA j bo tyR tyL (HO (o.getD out))
theorem MRd.ok {bo : Nat} {out : List Ru} {o : Option (List Ru)} (r : SV) (j : EI) (h : MRd bo out o r j) : Ak r = true := by
 rw [h.1]; rfl
theorem hLine (c : Bool) (out : List Ru) (t : G0) (bo : Nat) (i : EI) (hi : RA i bo tyR tyL (HO out)) (ht : t.length ≤ 65536) (ho : out.length ≤ 100000) (hol : ∀ r ∈ out, r.2.length ≤ 100000) :
 HCE Tryz.prog 78 [dS t, .val (.pointer (some ⟨bo, 0, none⟩)), .ref [dB c]] i (MRd bo out (lnG c out t)) := by
 obtain ⟨hl1, hl2, -⟩ := S3 32 t
 have k1 := Iv t 32 (by omega)
 have k2 := wParse (Q7 32 t) (by omega)
 have k3 := Oc (V5 32 t) (by omega)
 obtain ⟨O, hO⟩ := H7 (lnG c out t)
 rw [← hO]
 unfold lnG ID at hO
 obtain ⟨T, hT⟩ := H7 (V5 32 t)
 obtain ⟨R, hR⟩ := H7 (Q7 32 t)
 obtain ⟨b, hb⟩ := H7 (CE 32 t)
 rw [← hT, ← hR, ← hb] at k1 hO
 rw [← hR] at k2
 rw [← hT] at k3
 obtain ⟨e, he⟩ := H7 (paR R)
 obtain ⟨x, hx⟩ := H7 (paE R)
 obtain ⟨tp, htp⟩ := H7 (P1 J5 T)
 rw [← he, ← hx] at k2 hO
 rw [← htp] at k3 hO
 clear hT hR hb he hx htp hl1 hl2
 have fail : O = none → MRd bo out O (.d (dB false)) ⟨i.bs, i.fs, none⟩ := fun h => by rw [h]; exact ⟨rfl, hi⟩
 obtain ⟨xs0, To, v, cells, h1, h2, h3, h4, h5⟩ := hi
 have hv1 := h3.one
 cases b with
 | false =>
  have f1 := fail (by rw [hO]; simp)
  refine X0 Tryz.func78 V Tryz.ntmps78 Tryz.results78 (by simp) fun p d0 => ?_
  refine L5 (B5 V (D5 (L5 (C3 V (F9 (yC (k1) V V (F9 (O5 V (F9 (yX V V (F9 (yX V V (F9 (yX V V (F9 (H4 V (F9 (H4 V (F9 (B5 V (D5 (L5 (C3 V (F9 (yC (k2) V V (F9 (O5 V (F9 (yX V V (F9 (yX V V (F9 (H4 V (F9 (B5 V (D5 (G4 (L5 (C3 V ?_))))))))))))))))))))))))))))))))))))))); refine F9 (yU V V V (F9 (C3 V (F9 (yO V (F9 (yO V (F9 (K8 V V (F9 (C3 V (F9 (yO V (F9 (yO V (F9 (yO V (F9 (K8 V V (F9 (C3 V (F9 (yO V (F9 (yO V (F9 (yO V (F9 (K8 V V (yQ (D5 (P3 V (L5 (B5 V (D5 (M5 (I1 ?_)))))))))))))))))))))))))))))))))))))
  exact L8 _ (.tmp V .nil) f1
 | true =>
 by_cases hx0 : x = 0
 rotate_left
 · have t1 : (x != 0) = true := by simp [hx0]
   have f1 := fail (by rw [hO]; split <;> simp)
   refine X0 Tryz.func78 V Tryz.ntmps78 Tryz.results78 (by simp) fun p d0 => ?_
   refine L5 (B5 V (D5 (L5 (C3 V (F9 (yC (k1) V V (F9 (O5 V (F9 (yX V V (F9 (yX V V (F9 (yX V V (F9 (H4 V (F9 (H4 V (F9 (B5 V (D5 (L5 (C3 V (F9 (yC (k2) V V (F9 (O5 V (F9 (yX V V (F9 (yX V V (F9 (H4 V (F9 (B5 V (D5 (G4 (L5 (C3 V ?_))))))))))))))))))))))))))))))))))))))); refine F9 (yU V V V (F9 (C3 V (F9 (C3 V (F9 (G3 V (F9 (K7 V V (F9 (C3 V (F9 ?_)))))))))))); rw [t1]; refine yO V (F9 (yO V (F9 (yO V (F9 (K8 V V (F9 (C3 V (F9 (yO V (F9 (yO V (F9 (yO V (F9 (K8 V V (yQ (D5 (P3 V (L5 (B5 V (D5 (M5 (I1 ?_))))))))))))))))))))))))
   exact L8 _ (.tmp V .nil) f1
 subst hx0
 cases tp with
 | false =>
  have f1 := fail (by rw [hO]; simp)
  refine X0 Tryz.func78 V Tryz.ntmps78 Tryz.results78 (by simp) fun p d0 => ?_
  refine L5 (B5 V (D5 (L5 (C3 V (F9 (yC (k1) V V (F9 (O5 V (F9 (yX V V (F9 (yX V V (F9 (yX V V (F9 (H4 V (F9 (H4 V (F9 (B5 V (D5 (L5 (C3 V (F9 (yC (k2) V V (F9 (O5 V (F9 (yX V V (F9 (yX V V (F9 (H4 V (F9 (B5 V (D5 (G4 (L5 (C3 V ?_))))))))))))))))))))))))))))))))))))))); refine F9 (yU V V V (F9 (C3 V (F9 (C3 V (F9 (G3 V (F9 (K7 V V (F9 (C3 V (F9 (C3 V (F9 (yC (k3) V V (F9 (yU V V V (F9 (K7 V V (F9 (C3 V (F9 (yO V (F9 (yO V (F9 (yO V (F9 (K8 V V (yQ (D5 (P3 V (L5 (B5 V (D5 (M5 (I1 ?_)))))))))))))))))))))))))))))))))))))
  exact L8 _ (.tmp V .nil) f1
 | true =>
 rcases List.eq_nil_or_concat out with rfl | ⟨l', r, rfl⟩
 · have f1 := fail (by rw [hO]; simp)
   have hv : v = .slice none 0 0 := RowAt.zero h3
   subst hv
   refine X0 Tryz.func78 V Tryz.ntmps78 Tryz.results78 (by simp) fun p d0 => ?_
   refine L5 (B5 V (D5 (L5 (C3 V (F9 (yC (k1) V V (F9 (O5 V (F9 (yX V V (F9 (yX V V (F9 (yX V V (F9 (H4 V (F9 (H4 V (F9 (B5 V (D5 (L5 (C3 V (F9 (yC (k2) V V (F9 (O5 V (F9 (yX V V (F9 (yX V V (F9 (H4 V (F9 (B5 V (D5 (G4 (L5 (C3 V ?_))))))))))))))))))))))))))))))))))))))); refine F9 (yU V V V (F9 (C3 V (F9 (C3 V (F9 (G3 V (F9 (K7 V V (F9 (C3 V (F9 (C3 V (F9 (yC (k3) V V (F9 (yU V V V (F9 (K7 V V (F9 (C3 V (yQ ?_)))))))))))))))))))))); refine P4 ?_; refine BF V h1 h2 hv1 ?_; refine K9 (yNv V (F9 (G3 V (F9 (K7 V V (yQ (D5 (P3 V (L5 (B5 V (D5 (M5 (I1 ?_)))))))))))))
   exact L8 _ (.tmp V .nil) f1
 rw [List.concat_eq_append] at hO ho hol fail h3 h5 ⊢
 have hOs : O = some (l' ++ [(r.1, r.2 ++ [(T, c, e)])]) := by
  have hne : (l' ++ [r]).isEmpty = false := by cases l' <;> rfl
  rw [hO, hne]
  exact C7 some (Hg _ _ _)
 have hen : (HO (l' ++ [r])).length = l'.length + 1 := by simp
 obtain ⟨br, cp, xs, rfl, x2, x3, x1, x4, x5⟩ := h3.pos (by rw [hen]; omega)
 rw [hen] at h2 x2 x5 h5 h4 hv1
 have hn1 : ((l'.length + 1 : Nat) : Int) ≠ 0 := by omega
 have t1 : (((l'.length + 1 : Nat) : Int) == 0) = false := F8 hn1
 have hw : IntKind.i64.wrap (((l'.length + 1 : Nat) : Int) - 1) = (l'.length : Int) := by
  rw [D7] at ho
  simp only [List.length_cons, List.length_nil] at ho
  rw [I5 _ (by omega)]; omega
 have hoff : 0 + ((l'.length : Int)).toNat * 2 = l'.length * 2 := by rw [H5]; omega
 have hlt : (l'.length : Int) < ((l'.length + 1 : Nat) : Int) := by omega
 have hcl : cells.length = (l'.length + 1) * 2 := by rw [← x5, E4]; omega
 have hen2 : HO (l' ++ [r]) = HO l' ++ [(r.1, r.2.map V4)] := by simp
 rw [hen2] at h5
 have hel : (HO l').length = l'.length := by simp
 have hlast : (HO l' ++ [(r.1, r.2.map V4)])[l'.length]? = some (r.1, r.2.map V4) := by rw [F4 (by omega), hel, Nat.sub_self]; rfl
 obtain ⟨-, lv, lc, q1, q2, q3, q4⟩ := h5.1 _ _ hlast
 have hlv1 := q2.one
 have hu : xs[l'.length * 2 + 1]? = some lv := by
  rw [← x5] at q1
  have := (A6.1 q1).1
  rw [E4] at this
  rwa [E7 (by omega)] at q1
 have hbo : br ≠ bo := fun e => h4 (by rw [e]; rfl)
 have hrl : r.2.length ≤ 100000 := hol r (by simp)
 have hxl : l'.length * 2 + 1 + 1 ≤ xs.length := by omega
 simp only at q2 q4
 rw [A7] at q2
 have hbr : ∀ (b' : Nat) (bs' : EB), (lv.ownBlock = some b' ∨ G6 i.bs b' = none) → (∀ b, b ≠ b' → lv.ownBlock ≠ some b → G6 bs' b = G6 i.bs b) → G6 bs' br = some (xs, tyR) := fun b' bs' w3 w4 => by
  have h6 : lv.ownBlock ≠ some br := fun e => (q3 br e).2 rfl
  have h7 : br ≠ b' := fun e => by
   rcases w3 with w3 | w3
   · exact h6 (e ▸ w3)
   · rw [← e, x1] at w3; cases w3
  rw [w4 br h7 h6]
  exact x1
 have done : ∀ (v' : Value) (b' : Nat) (bs' : EB) (news vs : List Value), v'.ownBlock = some b' → RowAt bs' tyL 3 v' (r.2.length + 1) (lc ++ news) → (lv.ownBlock = some b' ∨ G6 i.bs b' = none) → (∀ b, b ≠ b' → lv.ownBlock ≠ some b → G6 bs' b = G6 i.bs b) → news.length = 3 → (∀ u ∈ news, u.oneCell' = true) → vs.length = 1 → OQ vs [.val v'] →
  MRd bo (l' ++ [r]) O (.d (dB true)) ⟨(br, (CL xs (l'.length * 2 + 1) vs, tyR)) :: bs', vs.zip [.val v'] ++ (news.zip [dS T, dB c, .sl 2 (e.map dCf)] ++ i.fs), none⟩ := fun v' b' bs' news vs w1 w2 w3 w4 w5 w6 w7 w8 => by
  have hra := RA.line (i := i) (bo := bo) (br := br) (Er := tyR) (El := tyL) (To := To) (c := cp) (b' := b') (rs := HO l') (r := (r.1, r.2.map V4)) (e := [dS T, dB c, .sl 2 (e.map dCf)]) (xs0 := xs0) (xs := xs) (vs := vs) (news := news) (cells := cells) (lc := lc) (lv := lv) (v' := v') (bs' := bs') (fs' := vs.zip [.val v'] ++ (news.zip [dS T, dB c, .sl 2 (e.map dCf)] ++ i.fs)) (it' := none)
   h1 (by rw [hel]; exact h2) hbo (by rw [hel]; exact h5) (by rw [hel]; exact hcl) x1 (by rw [hel]; exact x2) x3 x4 (by rw [hel]; exact x5) (by rw [hel]; exact q1) (by simpa using q2) (fun m l hm => q4 m l hm) w1 (by simpa using w2) w3 w4 w5 rfl w6 w7 w8 (fun q hq => by simp [hq]) (fun q hq => List.mem_append_right _ (List.mem_append_left _ hq))
  rw [hel] at hra
  rw [hOs]
  refine ⟨rfl, ?_⟩
  have e3 : HO ((some (l' ++ [(r.1, r.2 ++ [(T, c, e)])])).getD (l' ++ [r])) = HO l' ++ [(r.1, r.2.map V4 ++ [[dS T, dB c, .sl 2 (e.map dCf)]])] := by simp [HO]
  rw [e3]
  exact hra
 clear fail hO hOs h5 q4 hol hlast hen2 hel
 refine X0 Tryz.func78 V Tryz.ntmps78 Tryz.results78 (by simp) fun p d0 => ?_
 refine P5 (AE 2 V) ?_; refine L5 (B5 V (D5 (L5 (C3 V (F9 (yC (k1) V V (F9 (O5 V (F9 (yX V V (F9 (yX V V (F9 (yX V V (F9 (H4 V (F9 (H4 V (F9 (B5 V (D5 (L5 (C3 V (F9 (yC (k2) V V (F9 (O5 V (F9 (yX V V (F9 (yX V V (F9 (H4 V (F9 (B5 V (D5 (G4 (L5 (C3 V ?_))))))))))))))))))))))))))))))))))))))); refine F9 (yU V V V (F9 (C3 V (F9 (C3 V (F9 (G3 V (F9 (K7 V V (F9 (C3 V (F9 (C3 V (F9 (yC (k3) V V (F9 (yU V V V (F9 (K7 V V (F9 (C3 V (yQ ?_)))))))))))))))))))))); refine P4 ?_; refine BF V h1 h2 hv1 ?_; refine K9 (yNv V (F9 (G3 V (F9 (K7 V V (yQ (D5 (Q0 V (J9 (G4 (N0 ?_))))))))))); refine P4 ?_; refine BF V h1 h2 hv1 ?_; refine P4 ?_; refine BF V h1 h2 hv1 ?_; refine K9 (yNv V (F9 (G3 V (F9 ?_)))); rw [t1]; rw [hw]
 refine yWvq hoff (by omega) hlt rfl rfl (F9 (B5 rfl (D5 (G4 ?_)))); refine pe_any Tryz.mixed ?_
 refine An 0 V V V (by kernel_rfl) (Bw rfl) ?_
 refine An 1 V V V (by kernel_rfl) (Bw rfl) ?_
 refine An 2 V V V (by kernel_rfl) (held_nc rfl) ?_
 refine An 3 V V V (by kernel_rfl) (held_fa rfl) ?_
 refine An 5 V V V (by kernel_rfl) (Bw rfl) ?_
 refine An 7 V V V (by kernel_rfl) (Bw rfl) ?_
 refine L1 [4, 6] V V ⟨⟨_, V, ?_⟩, ⟨_, V, ?_⟩, D4⟩
 · refine BF V x1 hu hlv1 ?_; refine L1 [_] V V ⟨⟨_, V, ?_⟩, D4⟩; refine K9 (K5 V V (yQ (D5 ?_))); refine L1 [_] V V ⟨⟨_, V, ?_⟩, D4⟩; refine K9 ?_
   refine yG (ys := [_, _, _]) V V (yQ (D5 ?_)); refine L1 [_] V V ⟨⟨_, V, ?_⟩, D4⟩; refine K9 ?_; refine yR (es := [[_, _, _]]) V V V V V ?_; refine yQ (D5 ?_)
   refine L1 [_] V V ⟨⟨_, V, ?_⟩, D4⟩; refine Fp q2 V V (by omega) (by omega) (fun v' b' bs' news w1 w2 w3 w4 w5 w6 w0 w10 => ?_); refine L1 [_] V V ⟨⟨_, V, ?_⟩, D4⟩; refine K9 ?_
   refine yXv V (yQ (D5 ?_)); refine L1 [_] V V ⟨⟨_, V, ?_⟩, D4⟩; refine K9 (yFv V (yQ (D5 ?_))); refine L1 [_] V V ⟨⟨_, V, ?_⟩, D4⟩
   refine Fr (ds := [.val v']) V (hbr b' bs' w3 w4) V V hxl (fun vs w7 w9 w8 => ?_); refine FO V ?_; refine L5 (B5 V (D5 (M5 ?_)))
   exact L8 _ (.tmp V .nil) (done v' b' bs' news vs w1 w2 w3 w4 w5 w6 w7 w8)
 · refine K9 (K5 V V (yQ (D5 ?_)))
   refine L1 [4, 8] V V ⟨⟨_, V, ?_⟩, ⟨_, V, ?_⟩, D4⟩
   · refine BF V x1 hu hlv1 ?_; refine L1 [_] V V ⟨⟨_, V, ?_⟩, D4⟩; refine K9 (yG (ys := [_, _, _]) V V (yQ (D5 ?_))); refine L1 [_] V V ⟨⟨_, V, ?_⟩, D4⟩
     refine K9 ?_; refine yR (es := [[_, _, _]]) V V V V V ?_; refine yQ (D5 ?_); refine L1 [_] V V ⟨⟨_, V, ?_⟩, D4⟩
     refine Fp q2 V V (by omega) (by omega) (fun v' b' bs' news w1 w2 w3 w4 w5 w6 w0 w10 => ?_); refine L1 [_] V V ⟨⟨_, V, ?_⟩, D4⟩; refine K9 (yXv V (yQ (D5 ?_)))
     refine L1 [_] V V ⟨⟨_, V, ?_⟩, D4⟩; refine K9 (yFv V (yQ (D5 ?_))); refine L1 [_] V V ⟨⟨_, V, ?_⟩, D4⟩
     refine Fr (ds := [.val v']) V (hbr b' bs' w3 w4) V V hxl (fun vs w7 w9 w8 => ?_); refine FO V ?_; refine L5 (B5 V (D5 (M5 ?_)))
     exact L8 _ (.tmp V .nil) (done v' b' bs' news vs w1 w2 w3 w4 w5 w6 w7 w8)
   · refine K9 (yG (ys := [_, _, _]) V V (yQ (D5 ?_)))
     refine L1 [4, 9] V V ⟨⟨_, V, ?_⟩, ⟨_, V, ?_⟩, D4⟩
     · refine BF V x1 hu hlv1 ?_; refine L1 [_] V V ⟨⟨_, V, ?_⟩, D4⟩; refine K9 ?_; refine yR (es := [[_, _, _]]) V V V V V ?_; refine yQ (D5 ?_)
       refine L1 [_] V V ⟨⟨_, V, ?_⟩, D4⟩; refine Fp q2 V V (by omega) (by omega) (fun v' b' bs' news w1 w2 w3 w4 w5 w6 w0 w10 => ?_); refine L1 [_] V V ⟨⟨_, V, ?_⟩, D4⟩; refine K9 ?_
       refine yXv V (yQ (D5 ?_)); refine L1 [_] V V ⟨⟨_, V, ?_⟩, D4⟩; refine K9 (yFv V (yQ (D5 ?_))); refine L1 [_] V V ⟨⟨_, V, ?_⟩, D4⟩
       refine Fr (ds := [.val v']) V (hbr b' bs' w3 w4) V V hxl (fun vs w7 w9 w8 => ?_); refine FO V ?_; refine L5 (B5 V (D5 (M5 ?_)))
       exact L8 _ (.tmp V .nil) (done v' b' bs' news vs w1 w2 w3 w4 w5 w6 w7 w8)
     · refine K9 ?_; refine yR (es := [[_, _, _]]) V V V V V ?_; refine yQ (D5 ?_); refine L1 [_] V V ⟨⟨_, V, ?_⟩, D4⟩; refine BF V x1 hu hlv1 ?_
       refine L1 [_] V V ⟨⟨_, V, ?_⟩, D4⟩; refine Fp q2 V V (by omega) (by omega) (fun v' b' bs' news w1 w2 w3 w4 w5 w6 w0 w10 => ?_); refine L1 [_] V V ⟨⟨_, V, ?_⟩, D4⟩; refine K9 ?_
       refine yXv V (yQ (D5 ?_)); refine L1 [_] V V ⟨⟨_, V, ?_⟩, D4⟩; refine K9 (yFv V (yQ (D5 ?_))); refine L1 [_] V V ⟨⟨_, V, ?_⟩, D4⟩
       refine Fr (ds := [.val v']) V (hbr b' bs' w3 w4) V V hxl (fun vs w7 w9 w8 => ?_); refine FO V ?_; refine L5 (B5 V (D5 (M5 ?_)))
       exact L8 _ (.tmp V .nil) (done v' b' bs' news vs w1 w2 w3 w4 w5 w6 w7 w8)
instance mapTyKnd : MapTy Tryz.prog 98 := ⟨⟨3, 97, by kernel_rfl⟩⟩
def onG (out : List Ru) (t : G0) : Option (List Ru) := (LI t).map fun k => out ++ [(k.1, [])]
theorem QJ {k : Value} {v : DV} (h : (k, v) ∈ S2 BH) : ∃ kk ∈ kndL, k = vI kk.1 ∧ v = .agg (OC kk.2) := by
 obtain ⟨p, hp, e⟩ := H0.1 h
 obtain ⟨kk, hk, rfl⟩ := H0.1 hp
 cases e
 exact ⟨kk, hk, V, V⟩
theorem kndM_in {kk : OM} (h : kk ∈ kndL) : (vI kk.1, .agg (OC kk.2)) ∈ S2 BH := H0.2 ⟨(kk.1, .agg (OC kk.2)), H0.2 ⟨kk, h, rfl⟩, rfl⟩
theorem Np {t : G0} (h : ∀ k ∈ kndL, k.2.1 ≠ t) : LI t = none := by
 cases e : LI t with
 | none => rfl
 | some k => obtain ⟨h1, h2⟩ := Nn e; exact G7 h2 (h k h1)
theorem knd_inj {a b : OM} (ha : a ∈ kndL) (hb : b ∈ kndL) (h : vI a.1 = vI b.1) : a = b := by
 have h1 : a.1 = b.1 := by injection h
 have h2 := DG ha
 have h3 := DG hb
 rw [h1, h3] at h2
 exact (J2 h2).symm
def RC (t : G0) (dn : List (Value × DV)) : Prop := (∃ rl, (dn ++ rl).Perm (S2 BH)) ∧ ∀ kk ∈ kndL, (vI kk.1, DV.agg (OC kk.2)) ∈ dn → kk.2.1 ≠ t
theorem hOn (out : List Ru) (t : G0) (bo : Nat) (i : EI) (hi : RA i bo tyR tyL (HO out)) (ho : out.length ≤ 100000) :
 HCE Tryz.prog 82 [dS t, .val (.pointer (some ⟨bo, 0, none⟩))] i (MRd bo out (onG out t)) := by
 have k0 := Hk
 have hone : ∀ q ∈ S2 BH, q.1.oneCell' = true := fun q hq => by obtain ⟨p, -, rfl⟩ := H0.1 hq; rfl
 have hmem : ∀ (k : Value) (v : DV), (k, v) ∈ S2 BH → ∃ kk ∈ kndL, k = vI kk.1 ∧ v = .agg (OC kk.2) := fun k v h => QJ h
 have hin : ∀ kk ∈ kndL, (vI kk.1, .agg (OC kk.2)) ∈ S2 BH := fun kk h => kndM_in h
 obtain ⟨O, hO⟩ := H7 (onG out t)
 rw [← hO]
 unfold onG at hO
 have fail : O = none → ∀ it, MRd bo out O (.d (dB false)) ⟨i.bs, i.fs, it⟩ := fun h it => by rw [h]; exact ⟨rfl, hi⟩
 obtain ⟨xs0, To, v, cells, h1, h2, h3, h4, h5⟩ := hi
 have hv1 := h3.one
 have hcl := h3.1
 have hel : (HO out).length = out.length := by simp
 rw [hel] at h3 hcl
 have hb0 : 0 + 1 ≤ xs0.length := by have := (A6.1 h2).1; omega
 have hbr : ∀ (b' : Nat) (bs' : EB), (v.ownBlock = some b' ∨ G6 i.bs b' = none) → (∀ b, b ≠ b' → v.ownBlock ≠ some b → G6 bs' b = G6 i.bs b) → G6 bs' bo = some (xs0, To) := fun b' bs' w3 w4 => by
  have h7 : bo ≠ b' := fun e => by
   rcases w3 with w3 | w3
   · exact h4 (e ▸ w3)
   · rw [← e, h1] at w3; cases w3
  rw [w4 bo h7 h4]
  exact h1
 have done : ∀ (n : Int) (it : Option (Nat × List (Value × DV) × List (Value × DV))) (v' : Value) (b' : Nat) (bs' : EB) (news vs : List Value), O = some (out ++ [(n, [])]) → v'.ownBlock = some b' → RowAt bs' tyR 2 v' (out.length + 1) (cells ++ news) → (v.ownBlock = some b' ∨ G6 i.bs b' = none) → (∀ b, b ≠ b' → v.ownBlock ≠ some b → G6 bs' b = G6 i.bs b) → news.length = 2 → OQ news [.val (vI n), .val (.slice none 0 0)] → vs.length = 1 → OQ vs [.val v'] →
  MRd bo out O (.d (dB true)) ⟨(bo, (CL xs0 0 vs, To)) :: bs', vs.zip [.val v'] ++ (news.zip [.val (vI n), .val (.slice none 0 0)] ++ i.fs), it⟩ := fun n it v' b' bs' news vs hOs w1 w2 w3 w4 w5 w6 w7 w8 => by
  have hra := RA.push (i := i) (bo := bo) (Er := tyR) (El := tyL) (To := To) (b' := b') (rs := HO out) (xs0 := xs0) (vs := vs) (news := news) (cells := cells) (v := v) (v' := v') (bs' := bs') (fs' := vs.zip [.val v'] ++ (news.zip [.val (vI n), .val (.slice none 0 0)] ++ i.fs)) (it' := it) (n := n)
   h1 h2 h4 h5 (by rw [hel]; exact hcl) w1 (by rw [hel]; exact w2) w3 w4 w5 w6 w7 w8 (fun q hq => by simp [hq])
  rw [hOs]
  refine ⟨rfl, ?_⟩
  have e3 : HO ((some (out ++ [(n, [])])).getD out) = HO out ++ [(n, [])] := by simp [HO]
  rw [e3]
  exact hra
 clear h5 hcl
 obtain ⟨M, hM⟩ := H7 (S2 BH)
 have hsw : RC t = fun dn => (∃ rl, (dn ++ rl).Perm M) ∧ ∀ kk ∈ kndL, (vI kk.1, DV.agg (OC kk.2)) ∈ dn → kk.2.1 ≠ t := by rw [hM]; rfl
 rw [← hM] at k0 hone hmem hin
 refine X0 Tryz.func82 V Tryz.ntmps82 Tryz.results82 (by simp) fun p d0 => ?_
 refine L5 (B5 V (D5 (G4 (L5 (yC (k0) V V (yQ ?_)))))); refine PV V fun r => ?_; refine M3 ?_; refine JX (fun dn : List (Value × DV) => ⟨22, [(0, .d (dS t)), (1, .d (.val (.pointer (some ⟨bo, 0, none⟩)))), (7, .d (.val (.pointer (some ⟨r, 0, none⟩))))], [], []⟩) (fun dn => ⟨i.bs, i.fs, some (r, M, dn)⟩) (fun dn => RC t dn) (fun dn => M.length - dn.length) [] ⟨⟨_, List.Perm.refl _⟩, fun q _ hq => by simp at hq⟩ rfl
  ⟨rfl, ⟨E0, E0, E0, D4⟩, D4, D4, rfl⟩ ?_
 intro dn hdn
 rw [hsw] at hdn
 obtain ⟨⟨rl0, hp0⟩, hz⟩ := hdn
 refine G4 (N0 ?_); refine P4 (PY V V (fun hp => ?_) (fun kk v' rl hq hp hk1 => ?_) hone); refine K9 (yX V V (yQ (D5 (G4 (Q0 V (X6 (L5 (B5 V (D5 (M5 ?_))))))))))
 · have hOn : O = none := by
    rw [hO, Np fun k hk => hz k hk (hp.mem_iff.2 (hin k hk))]; rfl
   have f1 := fail hOn (some (r, M, dn))
   skip
   exact L8 _ (.tmp V .nil) f1
 · obtain ⟨⟨n, w, ns, sg⟩, hk, rfl, rfl⟩ := hmem kk v' hq
   have hlen := hp.length_eq
   rw [D7, List.length_cons] at hlen
   by_cases hw : w = t
   · have t1 : (w == t) = true := by simp [hw]
     have hOs : O = some (out ++ [(n, [])]) := by
      rw [hO, ← hw, QI hk]; rfl
     clear hO fail hz hp0 hsw hmem hin hone
     refine K9 (yX V V (yQ (D5 (G4 (P3 V (J9 (M3 (G4 (N0 ?_))))))))); refine P4 (IC V (List.getLast?_concat ..) V V ?_); refine K9 (yX V V (F9 (yX V V (F9 (yZ (cs := [_, _, _]) V V (F9 (H4 V (F9 (yS (cs' := [_, _, _]) V V V V V (yQ (D5 (L5 (CO V (F9 (U3 V V V (F9 (C3 V (F9 (O9 V V (yQ (D5 (M6 ?_)))))))))))))))))))))); rw [t1]
     refine P3 V (G4 (N0 ?_)); refine P4 ?_; refine BF V h1 h2 hv1 ?_; refine K9 (C3 V (F9 (yG (ys := [_, _]) V V (F9 ?_)))); refine yR (es := [[_, _]]) V V V V V ?_; refine yQ ?_; refine P4 ?_; refine Fp h3 V V (by omega) (by omega) (fun v' b' bs' news w1 w2 w3 w4 w5 w6 w0 w10 => ?_); refine Fr (ds := [.val v']) V (hbr b' bs' w3 w4) V V hb0 (fun vs w7 w9 w8 => ?_); refine L5 (B5 V (D5 (M5 (L2 (I1 (L2 (I1 ?_)))))))
     exact L8 _ (.tmp V .nil) (done n _ v' b' bs' news vs hOs w1 w2 w3 w4 w5 w0 w7 w8)
   · have t1 : (w == t) = false := by simp [hw]
     have hz2 : RC t (dn ++ [(vI n, .agg (OC (w, ns, sg)))]) := by
      rw [hsw]
      refine ⟨⟨rl, by rw [H1]; exact hp⟩, fun k hk2 hm => ?_⟩
      rcases List.mem_append.1 hm with hm | hm
      · exact hz k hk2 hm
      · have e1 := C7 Prod.fst (List.mem_singleton.1 hm)
        have := knd_inj hk2 hk e1
        rw [this]; exact hw
     clear hO fail hp0 hsw hmem hin done
     refine K9 (yX V V (yQ (D5 (G4 (P3 V (J9 (M3 (G4 (N0 ?_))))))))); refine P4 (IC V (List.getLast?_concat ..) V V ?_); refine K9 (yX V V (F9 (yX V V (F9 (yZ (cs := [_, _, _]) V V (F9 (H4 V (F9 (yS (cs' := [_, _, _]) V V V V V (yQ (D5 (L5 (CO V (F9 (U3 V V V (F9 (C3 V (F9 (O9 V V (yQ (D5 (M6 ?_)))))))))))))))))))))); rw [t1]
     refine Q0 V (J9 (PP (M6 ?_)))
     exact ⟨dn ++ [(vI n, .agg (OC (w, ns, sg)))], hz2, by rw [D7]; simp only [List.length_cons, List.length_nil]; omega, ⟨rfl, ⟨E0, E0, E0, D4⟩, D4, D4, rfl⟩, rfl⟩
theorem Oj (c : Bool) (bo : Nat) : PCalls Tryz.prog 77 [dB c, .val (.pointer (some ⟨bo, 0, none⟩))] (.d (dH 78 [.val (.pointer (some ⟨bo, 0, none⟩)), .ref [dB c]])) := by
 refine B3 Tryz.func77 V Tryz.ntmps77 Tryz.results77 (by simp) fun B w0 => ?_
 refine D8 (yK (cs := [_]) V V (B5 V ?_)); refine Cv (Ea 2 2 V V V) ?_; refine D8 (yMh V (B5 V (C4 ?_)))
 exact C9 _ (.tmp V .nil) V
def Ji (r : Ru) : Bool := decide (64 < r.2.length)
theorem MW : ∀ xs r, phR Ji xs r → PCalls Tryz.prog 84 (xs ++ ([] : List (List DV)).map DV.ref) r := by
 rintro _ _ ⟨⟨n, ls⟩, rfl, rfl⟩
 show PCalls Tryz.prog 84 [.agg (U4 (n, ls))] (.d (dB (decide (64 < ls.length))))
 have t1 : decide (((ls.map V4).length : Int) > 64) = decide (64 < ls.length) := by rw [A7]; exact decide_eq_decide.2 (by omega)
 obtain ⟨b, hb⟩ := H7 (decide (64 < ls.length))
 rw [← hb] at t1 ⊢
 refine B3 Tryz.func84 V Tryz.ntmps84 Tryz.results84 (by simp) fun B w0 => ?_
 refine D8 (yK (cs := [_, _]) V V (B5 V (D8 (J6 V (yN V (G3 V (B5 V (C4 ?_)))))))); rw [t1]
 exact C9 _ (.tmp V .nil) V
instance hMf : MapOf Tryz.prog 122 (.val .nilFunc) := ⟨⟨9, 86, by kernel_rfl, by kernel_rfl, fun w => ⟨.nilFunc, by kernel_rfl, fun F w' => DRep.val _ rfl⟩⟩⟩
abbrev pvO (b : Nat) : Value := .pointer (some ⟨b, 0, none⟩)
abbrev rdOn (b : Nat) : DV := dH 82 [.val (pvO b)]
abbrev rdLn (b : Nat) (c : Bool) : DV := dH 78 [.val (pvO b), .ref [dB c]]
def rdM (b : Nat) : List (G0 × DV) := [(PF, rdOn b), (AC, rdLn b false), (U7, rdLn b true)]
theorem rdM_get (b : Nat) (w : G0) : DD (.val .nilFunc) w (rdM b) = if w = PF then rdOn b else if w = AC then rdLn b false else if w = U7 then rdLn b true else .val .nilFunc := by
 unfold rdM
 simp only [DD]
 by_cases h1 : w = PF
 · rw [C5 h1.symm, C5 h1]
 · rw [B9 (Ne.symm h1), B9 h1]
   by_cases h2 : w = AC
   · rw [C5 h2.symm, C5 h2]
   · rw [B9 (Ne.symm h2), B9 h2]
     by_cases h3 : w = U7
     · rw [C5 h3.symm, C5 h3]
     · rw [B9 (Ne.symm h3), B9 h3]
theorem PN (x y : DV) : AM AC y [(PF, x)] = [(PF, x), (AC, y)] := by
 rw [AM, B9 (by decide)]; rfl
theorem PM (x y z : DV) : AM U7 z [(PF, x), (AC, y)] = [(PF, x), (AC, y), (U7, z)] := by
 rw [AM, B9 (by decide), AM, B9 (by decide)]; rfl
theorem Nk (out : List Ru) (s : G0) : Gv (P1 J5) ID out s = if V5 32 s = PF then onG out (Q7 32 s) else if V5 32 s = AC then lnG false out (Q7 32 s) else if V5 32 s = U7 then lnG true out (Q7 32 s) else none := by
 unfold Gv onG lnG
 by_cases h1 : V5 32 s = PF
 · rw [C5 h1, C5 h1]
 · rw [B9 h1, B9 h1]
   by_cases h2 : V5 32 s = AC
   · rw [C5 (.inl h2), C5 h2]
     have : decide (V5 32 s = U7) = false := A9 (by rw [h2]; decide)
     rw [this]
   · rw [B9 h2]
     by_cases h3 : V5 32 s = U7
     · rw [C5 (.inr h3), C5 h3, B0 h3]
     · rw [B9 (by rintro (h | h); exact h2 h; exact h3 h), B9 h3]
def RuB (k : Nat) (l : List Ru) : Prop := l.length ≤ k ∧ ∀ r ∈ l, r.2.length ≤ k
theorem onG_bd {k : Nat} {out o : List Ru} {t : G0} (h : onG out t = some o) (hb : RuB k out) : RuB (k + 1) o := by
 unfold onG at h
 rw [C8] at h
 obtain ⟨kk, -, rfl⟩ := h
 refine ⟨by have := hb.1; simp; omega, fun r hr => ?_⟩
 rcases List.mem_append.1 hr with hr | hr
 · exact Nat.le_succ_of_le (hb.2 r hr)
 · rw [List.mem_singleton.1 hr]; simp
theorem QA {c : Bool} {k : Nat} {out o : List Ru} {t : G0} (h : lnG c out t = some o) (hb : RuB k out) : RuB (k + 1) o := by
 unfold lnG at h
 split at h
 · rename_i hc
   rw [C8] at h
   obtain ⟨e, -, rfl⟩ := h
   rcases List.eq_nil_or_concat out with rfl | ⟨l', r, rfl⟩
   · simp at hc
   · rw [List.concat_eq_append] at hb ⊢
     rw [Hg]
     refine ⟨by have := hb.1; simp at this ⊢; omega, fun q hq => ?_⟩
     rcases List.mem_append.1 hq with hq | hq
     · exact Nat.le_succ_of_le (hb.2 q (by simp [hq]))
     · have := hb.2 r (by simp)
       rw [List.mem_singleton.1 hq]; simp; omega
 · cases h
theorem Jy (l : List Ru) : ((HO l).map fun r => ([.val (vI r.1), .sl 3 r.2] : List DV)) = l.map U4 := by
 rw [List.map_map]; rfl
abbrev pjS (L : List G0) (b k : Nat) : PS := ⟨72, [(5, .d (.sl 1 (L.map fun t => [dS t]))), (6, .d (.val (pvO b))), (8, .d (.mp (P0 (rdM b)))), (28, .d (.sl 1 (L.map fun t => [dS t]))), (29, .d (dI L.length)), (30, .d (dI k))], [], []⟩
theorem FJ (s : G0) : PCalls Tryz.prog 37 [dS s] (.tup [O7 (EJ (P1 J5) ID s).1, dI (EJ (P1 J5) ID s).2.1, dI (EJ (P1 J5) ID s).2.2]) := by
 obtain ⟨⟨R1, R2, R3⟩, hR⟩ := H7 (EJ (P1 J5) ID s)
 rw [← hR]
 unfold EJ at hR
 by_cases h0 : 65536 < s.length
 · have t0 : decide ((s.length : Int) > 65536) = true := B0 (by omega)
   rw [C5 h0] at hR
   cases hR
   refine B3 Tryz.func37 V Tryz.ntmps37 Tryz.results37 (by simp) fun B w0 => ?_
   refine D8 (H4 V (H4 V (B5 V (I0 V (O4 V (H3 V (B1 (J8 t0 V (D8 (H4 V (H4 V (B5 V (C4 (A4 ?_))))))))))))))
   exact C9 _ (.tnil 2 V (.tmp V (.tmp V .nil))) V
 have t0 : decide ((s.length : Int) > 65536) = false := A9 (by omega)
 rw [B9 h0] at hR
 have k1 := OV s 10 (by omega)
 have hll := FM 10 s
 have hln := W7 10 s
 have hne := PD 10 s
 obtain ⟨L, hL⟩ := H7 (Q5 10 s)
 rw [← hL] at k1 hR hll hln hne
 have hL1 : 1 ≤ L.length := by cases L with | nil => exact G7 rfl hne | cons _ _ => simp
 obtain ⟨⟨RO, RN⟩, hG⟩ := H7 (JQ (Gv (P1 J5) ID) 0 [] L)
 rw [← hG] at hR
 clear hL hne
 refine N6 Tryz.func37 V Tryz.ntmps37 Tryz.results37 (by simp) fun p d0 hex => ?_
 refine L5 (H4 V (F9 (H4 V (F9 (B5 V (D5 (G4 (L5 (C3 V (F9 (O4 V (F9 (H3 V (D5 (M6 ?_))))))))))))))); rw [t0]
 refine Q0 V (J9 (L5 (C3 V (F9 (yC (k1) V V (F9 (B5 V (D5 (L5 (yZ (cs := [_]) V V (yQ (D5 ?_)))))))))))); refine MC 6 6 (vs := [.slice none 0 0]) V V fun b xs T h1 h2 => ?_; refine L5 (yMh V (F9 (B5 V (D5 (L5 (yKm V (F9 (yMh V (F9 (yKi (l := []) V V V V V (F9 (C3 V (F9 (yCh (Oj false b) V V V (F9 (yKi V V V V (PN _ _) (F9 (C3 V (F9 (yCh (Oj true b) V V V (F9 (yKi V V V V (PM _ _ _) (F9 (yMm V (F9 (yAm V (yQ (D5 ?_)))))))))))))))))))))))))))); refine P5 (EU 8 500021 (ms := P0 (rdM b)) V V) ?_; refine G4 (L5 (C3 V (F9 (yN V (F9 (C3 V (yQ (D5 (M3 ?_)))))))))
 have hx0 : xs[0]? = some (.slice none 0 0) := by
  cases xs with
  | nil => cases h1
  | cons x l => cases h1; rfl
 have hra0 : RA ⟨[(b, (xs, T))], [], none⟩ b tyR tyL (HO []) := RA.start (To := T) (xs0 := xs) (by show G6 [(b, (xs, T))] b = _; rw [J7, C5 rfl]) hx0
 clear hx0 h1 h2
 refine JX (fun q : Nat × List Ru × EI => pjS L b q.1) (fun q => q.2.2) (fun q => q.1 ≤ L.length ∧ RuB q.1 q.2.1 ∧ RA q.2.2 b tyR tyL (HO q.2.1) ∧ JQ (Gv (P1 J5) ID) q.1 q.2.1 (L.drop q.1) = (RO, RN)) (fun q => L.length - q.1) (0, [], ⟨[(b, (xs, T))], [], none⟩) ⟨D9 _, ⟨D9 _, fun r hr => by cases hr⟩, hra0, hG.symm⟩ rfl
  ⟨rfl, ⟨E0, E0, E0, E0, .of_eq (C7 (fun n : Nat => SV.d (dI n)) (by simp)), E0, D4⟩, D4, D4, rfl⟩ ?_
 clear hG hra0
 rintro ⟨k, out, i⟩ ⟨hk, ⟨hout, hol⟩, hra, hI⟩
 simp only at hk hout hol hra hI ⊢
 unfold pjS
 rcases D2 k L.length with h | h
 rotate_left
 · have u1 : decide ((k : Int) < (L.length : Int)) = false := A9 (by omega)
   rw [I8 h] at hI
   rw [JQ] at hI
   obtain ⟨e1, e2⟩ := Prod.mk.inj hI
   subst e2
   rw [← e1] at hR
   simp only at hR
   have hfree : ∀ (F : Nat → Nat → Prop) (w : World), (∀ (b : Nat) (xs : List Value) (T : Nat), G6 i.bs b = some (xs, T) → w.heap[b]? = some (.cells xs.toArray T (0, 0)) ∧ ∀ o, F b o) → (∀ q ∈ i.fs, DRep F w q.1 q.2) → DRep F w (pvO b) (.ref [O7 out]) := fun F w hbs hfs => by
    have := hra.data (F := F) (w := w) hbs hfs
    rwa [Jy] at this
   have c1 := wHasR Ji out (by omega)
   clear hra hout hol
   by_cases h64 : 64 < out.length
   · have t1 : decide (((out.map U4).length : Int) > 64) = true := B0 (by rw [A7]; omega)
     rw [C5 (.inl h64)] at hR
     cases hR
     refine Bu 6 hex V hfree ?_; refine P5 (AE 6 V) ?_; refine L5 (H3 V (D5 (G4 (ecf u1 V (X6 (G4 (L5 (K5 V V (F9 (yN V (F9 (G3 V (F9 (C3 V (F9 ?_))))))))))))))); rw [t1]; refine yO V (F9 (yO V (F9 (K8 V V (yQ (D5 (P3 V (L5 (H4 V (F9 (H4 V (F9 (B5 V (D5 (M5 (I1 ?_))))))))))))))))
     exact L8 _ (.tnil 2 V (.tmp V (.tmp V .nil))) V
   have t1 : decide (((out.map U4).length : Int) > 64) = false := A9 (by rw [A7]; omega)
   cases hlg : out.any Ji with
   | true =>
    rw [hlg] at c1
    rw [C5 (.inr hlg)] at hR
    cases hR
    refine Bu 6 hex V hfree ?_; refine P5 (AE 6 V) ?_; refine L5 (H3 V (D5 (G4 (ecf u1 V (X6 (G4 (L5 (K5 V V (F9 (yN V (F9 (G3 V (F9 (C3 V (F9 ?_))))))))))))))); rw [t1]; refine K5 V V (F9 ?_); refine Gf c1 (.d V (.fn E6 V V MW .nil)) V ?_; refine F9 (K7 V V (yQ (D5 (P3 V (L5 (H4 V (F9 (H4 V (F9 (B5 V (D5 (M5 (I1 ?_)))))))))))))
    exact L8 _ (.tnil 2 V (.tmp V (.tmp V .nil))) V
   | false =>
    rw [hlg] at c1
    rw [B9 (by rintro (h | h); exact h64 h; exact G7 (hlg.symm.trans h) (by simp))] at hR
    cases hR
    refine Bu 6 hex V hfree ?_; refine P5 (AE 6 V) ?_; refine L5 (H3 V (D5 (G4 (ecf u1 V (X6 (G4 (L5 (K5 V V (F9 (yN V (F9 (G3 V (F9 (C3 V (F9 ?_))))))))))))))); rw [t1]; refine K5 V V (F9 ?_); refine Gf c1 (.d V (.fn E6 V V MW .nil)) V ?_; refine F9 (K7 V V (yQ (D5 (Q0 V (J9 (L5 (K5 V V (F9 (H4 V (F9 (H4 V (F9 (B5 V (D5 (M5 ?_)))))))))))))))
    exact L8 _ (.tmp V (.tmp V (.tmp V .nil))) V
 have u1 : decide ((k : Int) < (L.length : Int)) = true := B0 (by omega)
 obtain ⟨line, hx⟩ := Bq h
 have ex := ix (fun t => [dS t]) L k k line rfl hx
 have hw : IntKind.i64.wrap ((k : Int) + 1) = ((k + 1 : Nat) : Int) := I5 ((k : Int) + 1) (by omega)
 have hwn : IntKind.i64.wrap (((L.map fun t => ([dS t] : List DV)).length : Int) - 1) = ((L.length - 1 : Nat) : Int) := by rw [A7, I5 _ (by omega)]; omega
 have hlb := hll line (B7 hx)
 have arith : L.length - (k + 1) < L.length - k := by omega
 obtain ⟨q1, q2⟩ := A6.1 hx
 rw [J0 q1, q2] at hI
 clear hx q2
 by_cases hlast : k = L.length - 1
 · have u2 : ((k : Int) == ((L.length - 1 : Nat) : Int)) = true := by simp [← hlast]
   rw [I8 (by omega), JQ] at hI
   by_cases hle : line = []
   · have u3 : (!line == []) = false := by simp [hle]
     rw [C5 hle] at hI
     obtain ⟨e1, e2⟩ := Prod.mk.inj hI
     subst e2
     rw [← e1] at hR
     simp only at hR
     have hfree : ∀ (F : Nat → Nat → Prop) (w : World), (∀ (b : Nat) (xs : List Value) (T : Nat), G6 i.bs b = some (xs, T) → w.heap[b]? = some (.cells xs.toArray T (0, 0)) ∧ ∀ o, F b o) → (∀ q ∈ i.fs, DRep F w q.1 q.2) → DRep F w (pvO b) (.ref [O7 out]) := fun F w hbs hfs => by
      have := hra.data (F := F) (w := w) hbs hfs
      rwa [Jy] at this
     have c1 := wHasR Ji out (by omega)
     clear hra hout hol
     by_cases h64 : 64 < out.length
     · have t1 : decide (((out.map U4).length : Int) > 64) = true := B0 (by rw [A7]; omega)
       rw [C5 (.inl h64)] at hR
       cases hR
       refine Bu 6 hex V hfree ?_; refine P5 (AE 6 V) ?_; refine L5 (H3 V (D5 (G4 (OO u1 V (J9 (G4 (M3 (L5 (C3 V (F9 (yW ex (by omega) rfl rfl (F9 (K5 rfl rfl (F9 (H4 rfl (F9 (B5 rfl (D5 (G4 (L5 (C3 rfl (F9 (C3 rfl (F9 (yN rfl (F9 (G3 rfl (F9 (H3 rfl (D5 (M6 ?_))))))))))))))))))))))))))))))); rw [hwn]; rw [u2]; refine P3 V (G4 (L5 (C3 V (F9 (O6 V V (yQ (D5 (M6 (ecf u3 V (J9 (X6 (G4 (L5 (K5 V V (F9 (yN V (F9 (G3 V (F9 (C3 V (F9 ?_))))))))))))))))))))); rw [t1]; refine yO V (F9 (yO V (F9 (K8 V V (yQ (D5 (P3 V (L5 (H4 V (F9 (H4 V (F9 (B5 V (D5 (M5 (I1 ?_))))))))))))))))
       exact L8 _ (.tnil 2 V (.tmp V (.tmp V .nil))) V
     have t1 : decide (((out.map U4).length : Int) > 64) = false := A9 (by rw [A7]; omega)
     cases hlg : out.any Ji with
     | true =>
      rw [hlg] at c1
      rw [C5 (.inr hlg)] at hR
      cases hR
      refine Bu 6 hex V hfree ?_; refine P5 (AE 6 V) ?_; refine L5 (H3 V (D5 (G4 (OO u1 V (J9 (G4 (M3 (L5 (C3 V (F9 (yW ex (by omega) rfl rfl (F9 (K5 rfl rfl (F9 (H4 rfl (F9 (B5 rfl (D5 (G4 (L5 (C3 rfl (F9 (C3 rfl (F9 (yN rfl (F9 (G3 rfl (F9 (H3 rfl (D5 (M6 ?_))))))))))))))))))))))))))))))); rw [hwn]; rw [u2]; refine P3 V (G4 (L5 (C3 V (F9 (O6 V V (yQ (D5 (M6 (ecf u3 V (J9 (X6 (G4 (L5 (K5 V V (F9 (yN V (F9 (G3 V (F9 (C3 V (F9 ?_))))))))))))))))))))); rw [t1]; refine K5 V V (F9 ?_); refine Gf c1 (.d V (.fn E6 V V MW .nil)) V ?_; refine F9 (K7 V V (yQ (D5 (P3 V (L5 (H4 V (F9 (H4 V (F9 (B5 V (D5 (M5 (I1 ?_)))))))))))))
      exact L8 _ (.tnil 2 V (.tmp V (.tmp V .nil))) V
     | false =>
      rw [hlg] at c1
      rw [B9 (by rintro (h | h); exact h64 h; exact G7 (hlg.symm.trans h) (by simp))] at hR
      cases hR
      refine Bu 6 hex V hfree ?_; refine P5 (AE 6 V) ?_; refine L5 (H3 V (D5 (G4 (OO u1 V (J9 (G4 (M3 (L5 (C3 V (F9 (yW ex (by omega) rfl rfl (F9 (K5 rfl rfl (F9 (H4 rfl (F9 (B5 rfl (D5 (G4 (L5 (C3 rfl (F9 (C3 rfl (F9 (yN rfl (F9 (G3 rfl (F9 (H3 rfl (D5 (M6 ?_))))))))))))))))))))))))))))))); rw [hwn]; rw [u2]; refine P3 V (G4 (L5 (C3 V (F9 (O6 V V (yQ (D5 (M6 (ecf u3 V (J9 (X6 (G4 (L5 (K5 V V (F9 (yN V (F9 (G3 V (F9 (C3 V (F9 ?_))))))))))))))))))))); rw [t1]; refine K5 V V (F9 ?_); refine Gf c1 (.d V (.fn E6 V V MW .nil)) V ?_; refine F9 (K7 V V (yQ (D5 (Q0 V (J9 (L5 (K5 V V (F9 (H4 V (F9 (H4 V (F9 (B5 V (D5 (M5 ?_)))))))))))))))
      exact L8 _ (.tmp V (.tmp V (.tmp V .nil))) V
   · have u3 : (!line == []) = true := by simp [hle]
     rw [B9 hle] at hI
     cases hI
     cases hR
     refine L5 (H3 V (D5 (G4 (OO u1 V (J9 (G4 (M3 (L5 (C3 V (F9 (yW ex (by omega) rfl rfl (F9 (K5 rfl rfl (F9 (H4 rfl (F9 (B5 rfl (D5 (G4 (L5 (C3 rfl (F9 (C3 rfl (F9 (yN rfl (F9 (G3 rfl (F9 (H3 rfl (D5 (M6 ?_))))))))))))))))))))))))))))))); rw [hwn]; rw [u2]
     refine P3 V (G4 (L5 (C3 V (F9 (O6 V V (yQ (D5 (M6 ?_)))))))); rw [u3]
     refine P3 V (L5 (C3 V (F9 (G3 V (F9 (H4 V (F9 (H4 V (F9 (B5 V (D5 (M5 (I1 (I1 (L2 (I1 (I1 (L2 (I1 ?_))))))))))))))))))); rw [hw]
     exact L8 _ (.tnil 2 V (.tmp V (.tmp V .nil))) V
 have u2 : ((k : Int) == ((L.length - 1 : Nat) : Int)) = false := F8 (by omega)
 obtain ⟨line2, rest2, hd2⟩ : ∃ a l, L.drop (k + 1) = a :: l := by
  cases e : L.drop (k + 1) with
  | nil => rw [List.drop_eq_nil_iff] at e; omega
  | cons a l => exact ⟨a, l, V⟩
 rw [hd2, NH] at hI
 rw [← hd2] at hI
 clear hd2
 have hrb := (S3 32 line).2.1
 have k2 := Iv line 32 (by omega)
 obtain ⟨O, hO⟩ := H7 (Gv (P1 J5) ID out line)
 rw [← hO] at hI
 rw [Nk] at hO
 have hget := rdM_get b (V5 32 line)
 obtain ⟨W, hW⟩ := H7 (V5 32 line)
 obtain ⟨X, hX⟩ := H7 (Q7 32 line)
 obtain ⟨Y, hY⟩ := H7 (CE 32 line)
 rw [← hX] at hrb
 rw [← hW, ← hX, ← hY] at k2
 rw [← hW] at hget
 rw [← hW, ← hX] at hO
 clear hW hX hY
 have hXl : X.length ≤ 65536 := by omega
 by_cases w1 : W = PF
 · rw [C5 w1] at hO hget
   have hc := hOn out X b i hra (by omega)
   have hbd := fun o (e : onG out X = some o) => onG_bd e (⟨hout, hol⟩ : RuB k out)
   rw [← hO] at hc hbd
   clear hO w1
   refine L5 (H3 V (D5 (G4 (OO u1 V (J9 (G4 (M3 (L5 (C3 V (F9 (yW ex (by omega) rfl rfl (F9 (K5 rfl rfl (F9 (H4 rfl (F9 (B5 rfl (D5 (G4 (L5 (C3 rfl (F9 (C3 rfl (F9 (yN rfl (F9 (G3 rfl (F9 (H3 rfl (D5 (M6 ?_))))))))))))))))))))))))))))))); rw [hwn]; rw [u2]
   refine Q0 V (J9 (L5 (C3 V (F9 (yC (k2) V V (F9 (O5 V (F9 (yX V V (F9 (yX V V (F9 (yX V V (F9 (H4 V (F9 (H4 V (F9 (B5 V (D5 (L5 (C3 V (F9 (C3 V (F9 (yKe V V hget (F9 (B5 V (D5 (L5 (C3 V (F9 (yEf Tryz.underlying86 V (F9 (C3 V (F9 (C3 V (F9 (C3 V ?_))))))))))))))))))))))))))))))))))))))); refine yQ ?_; refine P4 ?_; refine Kq hc MRd.ok V V V ?_
   rintro r j ⟨rfl, hra2⟩
   cases O with
   | none =>
    simp only at hI
    cases hI
    cases hR
    refine K9 (yU V V V (F9 (K7 V V (yQ (D5 (P3 V (L5 (C3 V (F9 (G3 V (F9 (H4 V (F9 (H4 V (F9 (B5 V (D5 (M5 (L2 (I1 (I1 (L2 (I1 ?_))))))))))))))))))))))); rw [hw]
    exact L8 _ (.tnil 2 V (.tmp V (.tmp V .nil))) V
   | some o =>
    simp only at hI
    have hb2 := hbd o rfl
    refine K9 (yU V V V (F9 (K7 V V (yQ (D5 (Q0 V (J9 (N0 (K9 (G3 V (F9 (C3 V (yQ (D5 (M6 ?_)))))))))))))))
    exact ⟨(k + 1, o, ⟨j.bs, j.fs, i.it⟩), ⟨h, hb2, hra2, hI⟩, arith, ⟨rfl, ⟨E0, E0, E0, E0, E0, .of_eq (C7 (fun n => SV.d (dI n)) hw), D4⟩, D4, D4, V⟩, V⟩
 rw [B9 w1] at hO hget
 by_cases w2 : W = AC
 · rw [C5 w2] at hO hget
   have hc := hLine false out X b i hra hXl (by omega) (fun r hr => by have := hol r hr; omega)
   have hbd := fun o (e : lnG false out X = some o) => QA e (⟨hout, hol⟩ : RuB k out)
   rw [← hO] at hc hbd
   clear hO w1
   refine L5 (H3 V (D5 (G4 (OO u1 V (J9 (G4 (M3 (L5 (C3 V (F9 (yW ex (by omega) rfl rfl (F9 (K5 rfl rfl (F9 (H4 rfl (F9 (B5 rfl (D5 (G4 (L5 (C3 rfl (F9 (C3 rfl (F9 (yN rfl (F9 (G3 rfl (F9 (H3 rfl (D5 (M6 ?_))))))))))))))))))))))))))))))); rw [hwn]; rw [u2]
   refine Q0 V (J9 (L5 (C3 V (F9 (yC (k2) V V (F9 (O5 V (F9 (yX V V (F9 (yX V V (F9 (yX V V (F9 (H4 V (F9 (H4 V (F9 (B5 V (D5 (L5 (C3 V (F9 (C3 V (F9 (yKe V V hget (F9 (B5 V (D5 (L5 (C3 V (F9 (yEf Tryz.underlying86 V (F9 (C3 V (F9 (C3 V (F9 (C3 V ?_))))))))))))))))))))))))))))))))))))))); refine yQ ?_; refine P4 ?_; refine Kq hc MRd.ok V V V ?_
   rintro r j ⟨rfl, hra2⟩
   cases O with
   | none =>
    simp only at hI
    cases hI
    cases hR
    refine K9 (yU V V V (F9 (K7 V V (yQ (D5 (P3 V (L5 (C3 V (F9 (G3 V (F9 (H4 V (F9 (H4 V (F9 (B5 V (D5 (M5 (L2 (I1 (I1 (L2 (I1 ?_))))))))))))))))))))))); rw [hw]
    exact L8 _ (.tnil 2 V (.tmp V (.tmp V .nil))) V
   | some o =>
    simp only at hI
    have hb2 := hbd o rfl
    refine K9 (yU V V V (F9 (K7 V V (yQ (D5 (Q0 V (J9 (N0 (K9 (G3 V (F9 (C3 V (yQ (D5 (M6 ?_)))))))))))))))
    exact ⟨(k + 1, o, ⟨j.bs, j.fs, i.it⟩), ⟨h, hb2, hra2, hI⟩, arith, ⟨rfl, ⟨E0, E0, E0, E0, E0, .of_eq (C7 (fun n => SV.d (dI n)) hw), D4⟩, D4, D4, V⟩, V⟩
 rw [B9 w2] at hO hget
 by_cases w3 : W = U7
 · rw [C5 w3] at hO hget
   have hc := hLine true out X b i hra hXl (by omega) (fun r hr => by have := hol r hr; omega)
   have hbd := fun o (e : lnG true out X = some o) => QA e (⟨hout, hol⟩ : RuB k out)
   rw [← hO] at hc hbd
   clear hO w1
   refine L5 (H3 V (D5 (G4 (OO u1 V (J9 (G4 (M3 (L5 (C3 V (F9 (yW ex (by omega) rfl rfl (F9 (K5 rfl rfl (F9 (H4 rfl (F9 (B5 rfl (D5 (G4 (L5 (C3 rfl (F9 (C3 rfl (F9 (yN rfl (F9 (G3 rfl (F9 (H3 rfl (D5 (M6 ?_))))))))))))))))))))))))))))))); rw [hwn]; rw [u2]
   refine Q0 V (J9 (L5 (C3 V (F9 (yC (k2) V V (F9 (O5 V (F9 (yX V V (F9 (yX V V (F9 (yX V V (F9 (H4 V (F9 (H4 V (F9 (B5 V (D5 (L5 (C3 V (F9 (C3 V (F9 (yKe V V hget (F9 (B5 V (D5 (L5 (C3 V (F9 (yEf Tryz.underlying86 V (F9 (C3 V (F9 (C3 V (F9 (C3 V ?_))))))))))))))))))))))))))))))))))))))); refine yQ ?_; refine P4 ?_; refine Kq hc MRd.ok V V V ?_
   rintro r j ⟨rfl, hra2⟩
   cases O with
   | none =>
    simp only at hI
    cases hI
    cases hR
    refine K9 (yU V V V (F9 (K7 V V (yQ (D5 (P3 V (L5 (C3 V (F9 (G3 V (F9 (H4 V (F9 (H4 V (F9 (B5 V (D5 (M5 (L2 (I1 (I1 (L2 (I1 ?_))))))))))))))))))))))); rw [hw]
    exact L8 _ (.tnil 2 V (.tmp V (.tmp V .nil))) V
   | some o =>
    simp only at hI
    have hb2 := hbd o rfl
    refine K9 (yU V V V (F9 (K7 V V (yQ (D5 (Q0 V (J9 (N0 (K9 (G3 V (F9 (C3 V (yQ (D5 (M6 ?_)))))))))))))))
    exact ⟨(k + 1, o, ⟨j.bs, j.fs, i.it⟩), ⟨h, hb2, hra2, hI⟩, arith, ⟨rfl, ⟨E0, E0, E0, E0, E0, .of_eq (C7 (fun n => SV.d (dI n)) hw), D4⟩, D4, D4, V⟩, V⟩
 rw [B9 w3] at hO hget
 subst hO
 simp only at hI
 cases hI
 cases hR
 refine L5 (H3 V (D5 (G4 (OO u1 V (J9 (G4 (M3 (L5 (C3 V (F9 (yW ex (by omega) rfl rfl (F9 (K5 rfl rfl (F9 (H4 rfl (F9 (B5 rfl (D5 (G4 (L5 (C3 rfl (F9 (C3 rfl (F9 (yN rfl (F9 (G3 rfl (F9 (H3 rfl (D5 (M6 ?_))))))))))))))))))))))))))))))); rw [hwn]; rw [u2]
 refine Q0 V (J9 (L5 (C3 V (F9 (yC (k2) V V (F9 (O5 V (F9 (yX V V (F9 (yX V V (F9 (yX V V (F9 (H4 V (F9 (H4 V (F9 (B5 V (D5 (L5 (C3 V (F9 (C3 V (F9 (yKe V V hget (F9 (B5 V (D5 (L5 (C3 V (F9 (yEzf Tryz.underlying86 V (F9 (C3 V (F9 (yO V (F9 (yO V ?_))))))))))))))))))))))))))))))))))))))); refine F9 (yO V (F9 (yO V (F9 (K8 V V (yQ (D5 (P3 V (L5 (C3 V (F9 (G3 V (F9 (H4 V (F9 (H4 V (F9 (B5 V (D5 (M5 (L2 (I1 (I1 (L2 (I1 ?_))))))))))))))))))))))))); rw [hw]
 exact L8 _ (.tnil 2 V (.tmp V (.tmp V .nil))) V
abbrev cAT : Nat := 48 * 100000 + 1
abbrev CN (l : List Ac) (n : Int) (cs : List G0) : List Ac := l ++ cs.map fun c => (c, n)
theorem Lt (n : Int) (cs : List G0) (l : List Ac) (hl : l.length ≤ 1000) (hc : cs.length ≤ 1000) : PCx Tryz.prog 68 [.d (dI n), .d (V3 cs), .bx 1 0] [(1, [.ts cAT 2 (l.map O8)])] [(cAT, (l.map O8).length)] (.tup []) [(1, [.ts cAT 2 ((CN l n cs).map O8)])] [(cAT, ((CN l n cs).map O8).length)] := by
 refine Z4 Tryz.func68 V Tryz.ntmps68 Tryz.results68 (by simp) fun B w0 => ?_
 refine H8 V (yN V (C3 V (yQ (B6 ?_)))); refine H2 (fun k : Nat => ⟨20, [(0, .d (dI n)), (2, .bx 10001 0), (7, .d (V3 cs)), (8, .d (dI cs.length)), (9, .d (dI k))], [(10001, [.ts (cAT + 10000) 2 ((CN l n (cs.take k)).map O8)])], [(cAT + 10000, ((CN l n (cs.take k)).map O8).length)]⟩) (fun k => k ≤ cs.length) (fun k => cs.length - k) 0 (D9 _)
  ⟨rfl, ⟨E0, E0, E0, .of_eq (C7 (fun n : Nat => SV.d (dI n)) (by simp)), E0, D4⟩, ⟨⟨_, rfl, K4 (by simp [CN, SV.sh])⟩, D4⟩, ⟨(by simp [CN, Fl]; rfl), D4⟩, rfl⟩ ?_
 intro k hk
 rcases D2 k cs.length with h | h
 · have u1 : decide ((k : Int) < (cs.length : Int)) = true := B0 (by omega)
   obtain ⟨c, hx⟩ := Bq h
   have ex := ix (fun s => [dS s]) cs k k c rfl hx
   have hw := I5 ((k : Int) + 1) (by omega)
   have hnx : CN l n (cs.take (k + 1)) = CN l n (cs.take k) ++ [(c, n)] := by
    unfold CN
    rw [G8, hx]; simp
   have hzl : (CN l n (cs.take k)).length ≤ 2000 := by simp [CN]; omega
   have arith : cs.length - (k + 1) < cs.length - k := by omega
   obtain ⟨zs, hz⟩ := H7 (CN l n (cs.take k))
   rw [← hz] at hnx hzl ⊢
   clear hz
   refine D8 (H3 V (A8 (J8 u1 V (B2 (A8 (B6 (D8 (yW ex (by omega) rfl rfl (K5 rfl rfl (B5 rfl (B4 (Mo rfl rfl rfl (C3 rfl (C3 rfl (yG (ys := [_, _]) rfl rfl ?_))))))))))))))); refine yR (es := [[_, _]]) V V V V V ?_; refine yT (es' := (zs ++ [(c, n)]).map O8) (m := ((zs ++ [(c, n)]).map O8).length) (by simp; omega) (by simp; omega) rfl rfl rfl rfl rfl (by simp) (by simp) ?_; refine ySt (cs' := [_]) V V V V (yQ (B4 (G3 V (C3 V (yQ (B1 ?_))))))
   exact ⟨k + 1, h, arith, V, ⟨E0, E0, E0, E0, .of_eq (C7 (fun n => SV.d (dI n)) hw), D4⟩, ⟨⟨_, V, K4 (by rw [hnx])⟩, D4⟩, ⟨(by rw [hnx]; rfl), D4⟩, rfl⟩
 · have u1 : decide ((k : Int) < (cs.length : Int)) = false := A9 (by omega)
   rw [E9 h]
   refine D8 (H3 V (A8 (L9 u1 V (G1 (Ei (Ei (Ki ?_)))))))
   exact q_x [] .nil V ⟨rfl, D4⟩ ⟨rfl, D4⟩
def cg0 : List G0 := [[49, 46, 97, 99, 99, 114, 117, 101, 100], [49, 46, 97, 109, 111, 114, 116, 105, 122, 101, 100], [49, 46, 99, 97, 115, 104], [49, 46, 114, 101, 118, 97, 108, 117, 101, 100], [49, 46, 115, 101, 99, 117, 114, 105, 116, 105, 101, 115]]
def cg1 : List G0 := [[51, 46, 99, 97, 112, 105, 116, 97, 108], [51, 46, 101, 120, 99, 104, 97, 110, 103, 101], [51, 46, 105, 110, 118, 101, 115, 116, 111, 114, 115]]
def cg2 : List G0 := [[52, 46, 97, 99, 116, 105, 111, 110, 115], [52, 46, 100, 101, 102, 101, 114, 114, 101, 100], [52, 46, 105, 110, 99, 111, 109, 101], [52, 46, 105, 110, 116, 101, 114, 101, 115, 116], [52, 46, 108, 111, 110, 103], [52, 46, 115, 104, 111, 114, 116], [52, 46, 117, 110, 114, 101, 97, 108, 105, 122, 101, 100]]
def cg3 : List G0 := [[53, 46, 101, 120, 112, 101, 110, 115, 101, 115]]
def ch1 : List Ac := CN [] 1 cg0
def ch2 : List Ac := CN ch1 3 cg1
def ch3 : List Ac := CN ch2 4 cg2
def chtA : List Ac := CN ch3 5 cg3
theorem wChart : PCalls Tryz.prog 29 [] (.d (.sl 2 (chtA.map O8))) := by
 have l1 : ch1.length ≤ 1000 := by decide
 have l2 : ch2.length ≤ 1000 := by decide
 have l3 : ch3.length ≤ 1000 := by decide
 refine B3 Tryz.func29 V Tryz.ntmps29 Tryz.results29 (by simp) fun B w0 => ?_
 refine D8 (B5 V (D8 (yZ (cs := [_]) V V (yQ ?_)))); refine Cu 1 0 cAT 2 V V V V ?_; refine D8 (Mp V (yAf V (yQ (D8 (yMf V ?_))))); refine yR (es := [[_], [_], [_], [_], [_]]) V V V V V ?_; refine yCxv (Lt 1 cg0 [] (by decide) (by decide)) rfl rfl ⟨rfl, D4⟩ ⟨rfl, D4⟩ ?_ (hfit := by kernel_rfl); refine yQ (D8 (yMf V ?_)); refine yR (es := [[_], [_], [_]]) V V V V V ?_; refine yCxv (Lt 3 cg1 ch1 l1 (by decide)) rfl rfl ⟨rfl, D4⟩ ⟨rfl, D4⟩ ?_ (hfit := by kernel_rfl); refine yQ (D8 (yMf V ?_)); refine yR (es := [[_], [_], [_], [_], [_], [_], [_]]) V V V V V ?_; refine yCxv (Lt 4 cg2 ch2 l2 (by decide)) rfl rfl ⟨rfl, D4⟩ ⟨rfl, D4⟩ ?_ (hfit := by kernel_rfl); refine yQ (D8 (yMf V ?_)); refine yR (es := [[_]]) V V V V V ?_; refine yCxv (Lt 5 cg3 ch3 l3 (by decide)) rfl rfl ⟨rfl, D4⟩ ⟨rfl, D4⟩ ?_ (hfit := by kernel_rfl); refine yQ (D8 (Mo V V V (Hi V (yQ (C4 ?_)))))
 exact C9 _ (.tmp V .nil) V
def stdT : G0 := [111, 110, 32, 100, 101, 112, 111, 115, 105, 116, 10, 100, 101, 98, 105, 116, 32, 49, 46, 99, 97, 115, 104, 32, 97, 109, 111, 117, 110, 116, 10, 99, 114, 101, 100, 105, 116, 32, 51, 46, 99, 97, 112, 105, 116, 97, 108, 32, 97, 109, 111, 117, 110, 116, 10, 111, 110, 32, 119, 105, 116, 104, 100, 114, 97, 119, 10, 100, 101, 98, 105, 116, 32, 51, 46, 99, 97, 112, 105, 116, 97, 108, 32, 97, 109, 111, 117, 110, 116, 10, 99, 114, 101, 100, 105, 116, 32, 49, 46, 99, 97, 115, 104, 32, 97, 109, 111, 117, 110, 116, 10, 111, 110, 32, 98, 117, 121, 10, 100, 101, 98, 105, 116, 32, 49, 46, 115, 101, 99, 117, 114, 105, 116, 105, 101, 115, 46, 42, 32, 97, 109, 111, 117, 110, 116, 32, 43, 32, 102, 101, 101, 10, 99, 114, 101, 100, 105, 116, 32, 49, 46, 99, 97, 115, 104, 32, 97, 109, 111, 117, 110, 116, 32, 43, 32, 102, 101, 101, 10, 111, 110, 32, 115, 101, 108, 108, 10, 100, 101, 98, 105, 116, 32, 49, 46, 99, 97, 115, 104, 32, 112, 114, 111, 99, 101, 101, 100, 115, 10, 99, 114, 101, 100, 105, 116, 32, 49, 46, 115, 101, 99, 117, 114, 105, 116, 105, 101, 115, 46, 42, 32, 99, 111, 115, 116, 10, 99, 114, 101, 100, 105, 116, 32, 52, 46, 108, 111, 110, 103, 46, 42, 32, 45, 108, 111, 110, 103, 99, 111, 115, 116, 32, 43, 32, 108, 111, 110, 103, 112, 114, 111, 99, 101, 101, 100, 115, 10, 99, 114, 101, 100, 105, 116, 32, 52, 46, 115, 104, 111, 114, 116, 46, 42, 32, 45, 99, 111, 115, 116, 32, 43, 32, 108, 111, 110, 103, 99, 111, 115, 116, 32, 45, 32, 108, 111, 110, 103, 112, 114, 111, 99, 101, 101, 100, 115, 32, 43, 32, 112, 114, 111, 99, 101, 101, 100, 115, 10, 111, 110, 32, 100, 101, 102, 101, 114, 10, 100, 101, 98, 105, 116, 32, 49, 46, 115, 101, 99, 117, 114, 105, 116, 105, 101, 115, 46, 42, 32, 97, 109, 111, 117, 110, 116, 10, 99, 114, 101, 100, 105, 116, 32, 52, 46, 100, 101, 102, 101, 114, 114, 101, 100, 46, 42, 32, 97, 109, 111, 117, 110, 116, 10, 111, 110, 32, 105, 110, 99, 111, 109, 101, 10, 100, 101, 98, 105, 116, 32, 49, 46, 99, 97, 115, 104, 32, 97, 109, 111, 117, 110, 116, 10, 99, 114, 101, 100, 105, 116, 32, 52, 46, 105, 110, 99, 111, 109, 101, 46, 42, 32, 97, 109, 111, 117, 110, 116, 10, 111, 110, 32, 101, 120, 112, 101, 110, 115, 101, 10, 100, 101, 98, 105, 116, 32, 53, 46, 101, 120, 112, 101, 110, 115, 101, 115, 32, 97, 109, 111, 117, 110, 116, 10, 99, 114, 101, 100, 105, 116, 32, 49, 46, 99, 97, 115, 104, 32, 97, 109, 111, 117, 110, 116, 10, 111, 110, 32, 112, 97, 105, 100, 10, 100, 101, 98, 105, 116, 32, 51, 46, 101, 120, 99, 104, 97, 110, 103, 101, 32, 97, 109, 111, 117, 110, 116, 10, 99, 114, 101, 100, 105, 116, 32, 49, 46, 99, 97, 115, 104, 32, 97, 109, 111, 117, 110, 116, 10, 111, 110, 32, 103, 111, 116, 10, 100, 101, 98, 105, 116, 32, 49, 46, 99, 97, 115, 104, 32, 97, 109, 111, 117, 110, 116, 10, 99, 114, 101, 100, 105, 116, 32, 51, 46, 101, 120, 99, 104, 97, 110, 103, 101, 32, 97, 109, 111, 117, 110, 116, 10, 111, 110, 32, 115, 112, 108, 105, 116, 10, 100, 101, 98, 105, 116, 32, 49, 46, 99, 97, 115, 104, 32, 99, 97, 115, 104, 10, 99, 114, 101, 100, 105, 116, 32, 49, 46, 115, 101, 99, 117, 114, 105, 116, 105, 101, 115, 46, 42, 32, 99, 111, 115, 116, 10, 99, 114, 101, 100, 105, 116, 32, 52, 46, 97, 99, 116, 105, 111, 110, 115, 46, 42, 32, 99, 97, 115, 104, 32, 45, 32, 99, 111, 115, 116, 10, 111, 110, 32, 115, 112, 105, 110, 111, 102, 102, 10, 100, 101, 98, 105, 116, 32, 49, 46, 99, 97, 115, 104, 32, 99, 97, 115, 104, 10, 100, 101, 98, 105, 116, 32, 49, 46, 115, 101, 99, 117, 114, 105, 116, 105, 101, 115, 46, 43, 32, 109, 111, 118, 101, 100, 10, 99, 114, 101, 100, 105, 116, 32, 49, 46, 115, 101, 99, 117, 114, 105, 116, 105, 101, 115, 46, 42, 32, 99, 111, 115, 116, 32, 43, 32, 109, 111, 118, 101, 100, 10, 99, 114, 101, 100, 105, 116, 32, 52, 46, 97, 99, 116, 105, 111, 110, 115, 46, 42, 32, 99, 97, 115, 104, 32, 45, 32, 99, 111, 115, 116, 10, 111, 110, 32, 101, 120, 99, 104, 97, 110, 103, 101, 10, 100, 101, 98, 105, 116, 32, 49, 46, 99, 97, 115, 104, 32, 99, 97, 115, 104, 10, 100, 101, 98, 105, 116, 32, 49, 46, 115, 101, 99, 117, 114, 105, 116, 105, 101, 115, 46, 43, 32, 98, 97, 115, 105, 115, 10, 99, 114, 101, 100, 105, 116, 32, 49, 46, 115, 101, 99, 117, 114, 105, 116, 105, 101, 115, 46, 42, 32, 99, 111, 115, 116, 10, 99, 114, 101, 100, 105, 116, 32, 52, 46, 97, 99, 116, 105, 111, 110, 115, 46, 42, 32, 98, 97, 115, 105, 115, 32, 43, 32, 99, 97, 115, 104, 32, 45, 32, 99, 111, 115, 116, 10, 111, 110, 32, 101, 120, 101, 114, 99, 105, 115, 101, 10, 100, 101, 98, 105, 116, 32, 49, 46, 115, 101, 99, 117, 114, 105, 116, 105, 101, 115, 46, 43, 32, 109, 111, 118, 101, 100, 32, 43, 32, 112, 97, 105, 100, 10, 99, 114, 101, 100, 105, 116, 32, 49, 46, 99, 97, 115, 104, 32, 112, 97, 105, 100, 10, 99, 114, 101, 100, 105, 116, 32, 49, 46, 115, 101, 99, 117, 114, 105, 116, 105, 101, 115, 46, 42, 32, 109, 111, 118, 101, 100, 10, 111, 110, 32, 99, 97, 112, 105, 116, 97, 108, 10, 100, 101, 98, 105, 116, 32, 49, 46, 99, 97, 115, 104, 32, 99, 97, 115, 104, 10, 99, 114, 101, 100, 105, 116, 32, 49, 46, 115, 101, 99, 117, 114, 105, 116, 105, 101, 115, 46, 42, 32, 99, 111, 115, 116, 10, 99, 114, 101, 100, 105, 116, 32, 52, 46, 97, 99, 116, 105, 111, 110, 115, 46, 42, 32, 99, 97, 115, 104, 32, 45, 32, 99, 111, 115, 116, 10, 111, 110, 32, 105, 115, 115, 117, 101, 10, 100, 101, 98, 105, 116, 32, 49, 46, 99, 97, 115, 104, 32, 97, 109, 111, 117, 110, 116, 10, 99, 114, 101, 100, 105, 116, 32, 51, 46, 105, 110, 118, 101, 115, 116, 111, 114, 115, 32, 97, 109, 111, 117, 110, 116, 10, 111, 110, 32, 99, 97, 110, 99, 101, 108, 10, 100, 101, 98, 105, 116, 32, 51, 46, 105, 110, 118, 101, 115, 116, 111, 114, 115, 32, 97, 109, 111, 117, 110, 116, 10, 99, 114, 101, 100, 105, 116, 32, 49, 46, 99, 97, 115, 104, 32, 97, 109, 111, 117, 110, 116, 10, 111, 110, 32, 97, 99, 99, 114, 117, 101, 10, 100, 101, 98, 105, 116, 32, 49, 46, 97, 99, 99, 114, 117, 101, 100, 46, 42, 32, 97, 109, 111, 117, 110, 116, 10, 99, 114, 101, 100, 105, 116, 32, 52, 46, 105, 110, 116, 101, 114, 101, 115, 116, 46, 42, 32, 97, 109, 111, 117, 110, 116, 10, 111, 110, 32, 97, 109, 111, 114, 116, 105, 122, 101, 10, 100, 101, 98, 105, 116, 32, 49, 46, 97, 109, 111, 114, 116, 105, 122, 101, 100, 46, 42, 32, 97, 109, 111, 117, 110, 116, 10, 99, 114, 101, 100, 105, 116, 32, 52, 46, 105, 110, 116, 101, 114, 101, 115, 116, 46, 42, 32, 97, 109, 111, 117, 110, 116, 10, 111, 110, 32, 114, 101, 118, 97, 108, 117, 101, 10, 100, 101, 98, 105, 116, 32, 49, 46, 114, 101, 118, 97, 108, 117, 101, 100, 46, 42, 32, 97, 109, 111, 117, 110, 116, 10, 99, 114, 101, 100, 105, 116, 32, 52, 46, 117, 110, 114, 101, 97, 108, 105, 122, 101, 100, 46, 42, 32, 97, 109, 111, 117, 110, 116, 10]
def paRi (s : G0) : List Cf := if s = [48] then [] else if NM s then (if 16 < (Il s).length then [] else nfi (Il s)) else []
def paOi (t : G0) : Option (List Cf) := if paE t = 0 then some (paRi t) else none
theorem paO_i : ID = paOi := funext fun t => by
 have h : paR t = paRi t := by rw [paR, paRi, nf_i]
 rw [ID, paOi, h]
def stdR : List Ru := (EJ (P1 J5) paOi stdT).1
theorem std_prs : EJ (P1 J5) ID stdT = (stdR, 0, 0) := by
 rw [paO_i]
 kernel_rfl
theorem Mq : PCalls Tryz.prog 26 [] (.d (O7 stdR)) := by
 have p := FJ stdT
 rw [std_prs] at p
 obtain ⟨S, hS⟩ := H7 (stdR)
 rw [← hS] at p ⊢
 clear hS
 refine B3 Tryz.func26 V Tryz.ntmps26 Tryz.results26 (by simp) fun B w0 => ?_
 refine D8 (B5 V (D8 (yC (p) V V (O5 V (yX V V (yX V V (yX V V (H4 V (H4 V (B5 V (H8 V (B5 V (C4 ?_)))))))))))))
 exact C9 _ (.tmp V .nil) V
def awT0 : G0 := [111, 110, 32, 105, 110, 99, 111, 109, 101, 10, 100, 101, 98, 105, 116, 32, 49, 46, 99, 97, 115, 104, 32, 97, 109, 111, 117, 110, 116, 10, 99, 114, 101, 100, 105, 116, 32, 52, 46, 105, 110, 99, 111, 109, 101, 46, 42, 32, 97, 109, 111, 117, 110, 116, 10]
def Lh : Ru := ((EJ (P1 J5) ID awT0).1)[0]!
def awT1 : G0 := [111, 110, 32, 105, 110, 99, 111, 109, 101, 10, 100, 101, 98, 105, 116, 32, 49, 46, 99, 97, 115, 104, 32, 97, 109, 111, 117, 110, 116, 10, 99, 114, 101, 100, 105, 116, 32, 52, 46, 105, 110, 99, 111, 109, 101, 46, 42, 32, 50, 42, 97, 109, 111, 117, 110, 116, 10]
def Lg : Ru := ((EJ (P1 J5) ID awT1).1)[0]!
def awT2 : G0 := [111, 110, 32, 100, 101, 112, 111, 115, 105, 116, 10, 100, 101, 98, 105, 116, 32, 49, 46, 115, 101, 99, 117, 114, 105, 116, 105, 101, 115, 46, 42, 32, 97, 109, 111, 117, 110, 116, 10]
def OI : Ru := ((EJ (P1 J5) ID awT2).1)[0]!
theorem awE0 : EJ (P1 J5) ID awT0 = ([Lh], 0, 0) := by kernel_rfl
theorem awE1 : EJ (P1 J5) ID awT1 = ([Lg], 0, 0) := by kernel_rfl
theorem awE2 : EJ (P1 J5) ID awT2 = ([OI], 0, 0) := by kernel_rfl
def qR (r : Ru) : Bool := decide (r.2.length ≤ 1000000) && r.2.all fun l => decide (l.1.length ≤ 1000000) && (decide (l.2.2.length ≤ 1000000) && l.2.2.all fun c => decide (c.1.length ≤ 1000000) && decide (c.2.length ≤ 70000))
theorem Lf {r : Ru} (h : qR r = true) : OH r := by
 simp only [qR, D3, E5, decide_eq_true_eq] at h
 exact ⟨h.1, fun l hl => ⟨(h.2 l hl).1, (h.2 l hl).2.1, fun c hc => (h.2 l hl).2.2 c hc⟩⟩
theorem awQ0 : qR Lh = true := by kernel_rfl
theorem awQ1 : qR Lg = true := by kernel_rfl
theorem awQ2 : qR OI = true := by kernel_rfl
theorem awB0 : OH Lh := Lf awQ0
theorem awB1 : OH Lg := Lf awQ1
theorem awB2 : OH OI := Lf awQ2
def qC (l : List Ac) : Bool := decide (l.length ≤ 1000000) && l.all fun a => decide (a.1.length ≤ 1000000)
theorem chtQ : qC chtA = true := by kernel_rfl
theorem chtB : chtA.length ≤ 1000000 ∧ ∀ a ∈ chtA, a.1.length ≤ 1000000 := by
 have h := chtQ
 simp only [qC, D3, E5, decide_eq_true_eq] at h
 exact h
theorem stdL : stdR.length = 19 := by kernel_rfl
theorem wAwake : PCalls Tryz.prog 13 [] (.d (dB true)) := by
 have p0 := FJ awT0
 have p1 := FJ awT1
 have p2 := FJ awT2
 rw [awE0] at p0
 rw [awE1] at p1
 rw [awE2] at p2
 have b0 := De Lh awB0
 have b1 := De Lg awB1
 rw [show U2 Lh = 0 by kernel_rfl, show Ag Lh.2 = true by kernel_rfl] at b0
 rw [show U2 Lg = 0 by kernel_rfl, show Ag Lg.2 = false by kernel_rfl] at b1
 have c0 := Om [OI] chtA (by decide) (fun r hr => by rw [List.mem_singleton.1 hr]; exact awB2) chtB.1 chtB.2
 rw [show MA [OI] chtA = (0, 9) by kernel_rfl] at c0
 have s0 := Mq
 have h0 := wChart
 have t0 : (((stdR.map U4).length : Int) == 19) = true := by rw [A7, stdL]; rfl
 obtain ⟨⟨n0, l0⟩, hr0⟩ := H7 (Lh)
 obtain ⟨⟨n1, l1⟩, hr1⟩ := H7 (Lg)
 obtain ⟨r2, hr2⟩ := H7 (OI)
 obtain ⟨S, hS⟩ := H7 (stdR)
 obtain ⟨C, hC⟩ := H7 (chtA)
 rw [← hr0] at p0 b0
 rw [← hr1] at p1 b1
 rw [← hr2] at p2 c0
 rw [← hS] at s0 t0
 rw [← hC] at h0 c0
 clear hr0 hr1 hr2 hS hC
 have e0 := ix U4 [(n0, l0)] 0 0 (n0, l0) rfl rfl
 have e1 := ix U4 [(n1, l1)] 0 0 (n1, l1) rfl rfl
 refine B3 Tryz.func13 V Tryz.ntmps13 Tryz.results13 (by simp) fun B w0 => ?_
 refine D8 (B5 V (D8 (yC (p0) V V (O5 V (yX V V (yX V V (yX V V (H4 V (H4 V (B5 V (D8 (yC (p1) V V (O5 V (yX V V (yX V V (yX V V (H4 V (H4 V (B5 V (D8 (yC (p2) V V (O5 V (yX V V (yX V V (yX V V (H4 V (H4 V (B5 V (I0 V (C3 V (C3 V (yI V V V (G3 V (C3 V (C3 V (C3 V (G3 V (C3 V (G3 V ?_))))))))))))))))))))))))))))))))))))))); refine G3 V (K7 V V (C3 V (C3 V (yN V (G3 V (K7 V V (C3 V (C3 V (yN V (G3 V (K7 V V (C3 V (C3 V (yN V (G3 V (K7 V V (yQ (F6 V (B2 (H8 V (yW e0 (by omega) rfl rfl (R7 (ys := [_, _]) rfl rfl rfl (yC (b0) rfl rfl (O5 rfl (yX rfl rfl (yX rfl rfl (H4 rfl (B5 rfl (H8 rfl (yW e1 (by omega) rfl rfl (R7 (ys := [_, _]) rfl rfl rfl (yC (b1) rfl rfl (O5 rfl (yX rfl rfl (yX rfl rfl (H4 rfl (B5 rfl (H8 rfl (yC (h0) rfl rfl ?_))))))))))))))))))))))))))))))))))))))); refine yC (c0) V V (O5 V (yX V V (yX V V (H4 V (B5 V (H8 V (C3 V (yI V V V (G3 V (C3 V (C3 V (K8 V V (C3 V (C3 V (yU V V V (K8 V V (C3 V (C3 V (G3 V (K8 V V (C3 V (C3 V (G3 V (K8 V V (C3 V (yC (s0) V V (yN V (G3 V (K8 V V (B5 V (C4 ?_))))))))))))))))))))))))))))))); rw [t0]
 exact C9 _ (.tmp V .nil) V
end Go.Proofs.YtddfimjiihggmaaGreatDoor
namespace Go.Proofs.YtddfimjiihggmaaGreatDoor.Px
open Go.RowKit Go.Shelf
section
variable {P : Program} {ops : Array Oper} {K : PS → Prop} {rest : List Oper} {st : PS} {d : Option Nat} {ty : TypeId} {pos : String} {af : Array Edge} {gd : Option (Nat × Bool)}
end
end Go.Proofs.YtddfimjiihggmaaGreatDoor.Px