/- Walk: charts. -/
import Derived.Test.YtddfimjiihggmaaGreatDoorB8
set_option maxHeartbeats 16000000
set_option maxRecDepth 20000
namespace Go.Proofs.YtddfimjiihggmaaGreatDoor
open Go.RowKit Px
theorem le_nlt (a b : F6) : (lt8 a b || a == b) = !lt8 b a := by
 show (ltS a b || a == b) = !ltS b a
 rcases X2 a b with h | h | h
 · rw [h, Z3 h]; rfl
 · subst h; rw [U3]; simp
 · rw [h, Z3 h]
   have := ltS_ne h
   simp [Ne.symm this]
def acJ (l : List Ac) (k : Nat) (a : Ac) : Int :=
 if acE a.1 ≠ 0 then 3 else if a.2 < 1 ∨ 5 < a.2 then 7
 else if k ≠ 0 ∧ lt8 ((l[k - 1]?).getD ([], 0)).1 a.1 = false then 8
 else if (l.take k).any (fun b => JI a.1 b.1 && !(a.2 == b.2)) = true then 18 else 0
def chJ (l : List Ac) : Nat → Nat → Int
 | 0, _ => 0
 | n + 1, k => match l[k]? with
  | none => 0
  | some a => if acJ l k a = 0 then chJ l n (k + 1) else acJ l k a
def ctE (l : List Ac) : Int := if 256 < l.length then 4 else chJ l l.length 0
theorem Vt {l : List Ac} {k : Nat} {a : Ac} (h : l[k]? = some a) : chJ l (l.length - k) k = if acJ l k a = 0 then chJ l (l.length - (k + 1)) (k + 1) else acJ l k a := by
 have h1 := (A5.1 h).1
 rw [show l.length - k = (l.length - (k + 1)) + 1 by omega, chJ, h]
theorem NJ {α : Type} {b : α → Bool} {l : List α} {m : Nat} (h : m ≥ l.length) (h0 : ∀ (j : Nat) x, j < m → l[j]? = some x → b x = false) : l.any b = false := by
 rw [List.any_eq_false]
 intro x hx
 obtain ⟨j, hj⟩ := List.mem_iff_getElem?.1 hx
 rw [h0 j x (by have := (A5.1 hj).1; omega) hj]
 simp
theorem Qn (l : List Ac) (hl : l.length ≤ 1000000) (hb : ∀ a ∈ l, a.1.length ≤ 1000000) : PCalls Tryz.prog 33 [.sl 2 (l.map Z9)] (.d (dI (ctE l))) := by
 obtain ⟨E, hE⟩ := I0 (ctE l)
 rw [← hE]
 unfold ctE at hE
 by_cases h0 : 256 < l.length
 · have t1 : decide (((l.map Z9).length : Int) > 256) = true := B1 (by rw [A8]; omega)
   rw [B9 h0] at hE
   subst hE
   refine M0 Tryz.func33 V Tryz.ntmps33 Tryz.results33 fun B w0 => ?_
   refine E5 (A9 V (H2 V (yN V (I3 V (B3 ?_)))))
   rw [t1]; refine G4 V ?_; refine B0 ?_; refine B6 ?_; refine H5 V ?_; refine yQ ?_; refine C4 ?_; refine A6 ?_
   exact M8 V V
 have t1 : decide (((l.map Z9).length : Int) > 256) = false := A7 (by rw [A8]; omega)
 rw [B5 h0] at hE
 refine M0 Tryz.func33 V Tryz.ntmps33 Tryz.results33 fun B w0 => ?_
 refine E5 (A9 V (H2 V (yN V (I3 V (B3 ?_)))))
 rw [t1]; refine F4 V ?_; refine B2 ?_; refine B0 ?_; refine B0 ?_; refine B6 ?_; refine B4 V ?_; refine yN V ?_; refine B4 V ?_; refine yQ ?_; refine B8 ?_
 refine I1 (fun k : Nat => ⟨67, [(0, .d (.sl 2 (l.map Z9))), (10, .d (.sl 2 (l.map Z9))), (11, .d (dI l.length)), (12, .d (dI k))], [], []⟩) (fun k => k ≤ l.length ∧ chJ l (l.length - k) k = E) (fun k => l.length - k) 0 ⟨E8 _, hE.symm⟩
  ⟨rfl, ⟨F5, F5, Ht (by simp), F5, D5⟩, D5, D5, rfl⟩ ?_
 rintro k ⟨hk, hI⟩
 clear hE
 rcases D6 k l.length with h | h
 rotate_left
 · have u1 : decide ((k : Int) < (l.length : Int)) = false := A7 (by omega)
   have : E = 0 := by rw [← hI, Nat.sub_eq_zero_of_le h]; rfl
   subst this
   refine E5 (I3 V (B0 (O1 u1 V (F8 (E5 (A9 V (C4 ?_)))))))
   exact M8 V V
 have u1 : decide ((k : Int) < (l.length : Int)) = true := B1 (by omega)
 obtain ⟨⟨a0, a1⟩, ha⟩ : ∃ a, l[k]? = some a := ⟨_, A4 h⟩
 have ex := ix Z9 l k k (a0, a1) rfl ha
 have hw := J0 ((k : Int) + 1) (by omega)
 have hla := hb _ (C0 ha)
 simp only at hla
 have c1 := TL a0 hla
 rw [Vt ha] at hI
 have arith : l.length - (k + 1) < l.length - k := by omega
 obtain ⟨J, hJ⟩ := I0 (acJ l k (a0, a1))
 rw [← hJ] at hI
 unfold acJ at hJ
 simp only at hJ
 by_cases e1 : acE a0 = 0
 rotate_left
 · rw [B9 e1] at hJ
   rw [hJ, B5 (by omega)] at hI
   subst hI
   have t2 : (acE a0 != 0) = true := by simp [e1]
   obtain ⟨x, hx⟩ := I0 (acE a0)
   rw [← hx] at c1 t2
   refine E5 (I3 V (B0 (L8 u1 V (B2 (B0 (B8 (H9 V (L6 ex V (V0 (ys := [_, _]) V V V (yZ (cs := [_, _]) V V (H5 V (yS (cs' := [_, _]) V V V V V (yQ (B0 (B8 (E5 (L1 V (yC (c1) V V (F9 V (A9 V (B3 ?_)))))))))))))))))))))
   rw [t2]; refine G4 V ?_; refine B0 ?_; refine B6 ?_; refine H5 V ?_; refine yQ ?_; refine C4 ?_; refine C3 ?_; refine A6 ?_; refine C3 ?_; refine A6 ?_; refine A6 ?_
   refine C3 ?_; refine A6 ?_
   exact M8 V V
 rw [e1] at c1
 rw [B5 (by simp [e1])] at hJ
 by_cases e2 : a1 < 1 ∨ 5 < a1
 · rw [B9 e2] at hJ
   rw [hJ, B5 (by omega)] at hI
   subst hI
   by_cases e3 : a1 < 1
   · have t3 : decide (a1 < 1) = true := B1 e3
     refine E5 (I3 V (B0 (L8 u1 V (B2 (B0 (B8 (H9 V (L6 ex V (V0 (ys := [_, _]) V V V (yZ (cs := [_, _]) V V (H5 V (yS (cs' := [_, _]) V V V V V (yQ (B0 (B8 (E5 (L1 V (yC (c1) V V (F9 V (A9 V (F4 V (E5 (L1 V (F9 V (B4 V ?_))))))))))))))))))))))))); rw [t3]; refine L4 V V (yO V (L2 V V (A9 V (G4 V (E5 (A9 V (C4 (C3 (A6 (C3 (A6 (A6 (C3 (A6 ?_))))))))))))))
     exact M8 V V
   · have t3 : decide (a1 < 1) = false := A7 e3
     have t4 : decide (a1 > 5) = true := B1 (by omega)
     refine E5 (I3 V (B0 (L8 u1 V (B2 (B0 (B8 (H9 V (L6 ex V (V0 (ys := [_, _]) V V V (yZ (cs := [_, _]) V V (H5 V (yS (cs' := [_, _]) V V V V V (yQ (B0 (B8 (E5 (L1 V (yC (c1) V V (F9 V (A9 V (F4 V (E5 (L1 V (F9 V (B4 V ?_))))))))))))))))))))))))); rw [t3]; refine L1 V (F9 V (L3 V V (A9 V (B3 (L8 t4 V (E5 (A9 V (C4 (C3 (A6 (C3 (A6 (A6 (C3 (A6 ?_)))))))))))))))
     exact M8 V V
 have t3 : decide (a1 < 1) = false := A7 (by omega)
 have t4 : decide (a1 > 5) = false := A7 (by omega)
 rw [B5 e2] at hJ
 have inner : ∀ (B : Nat) (w0 : Cx) (Q : Exit → PS → Prop), True := fun _ _ _ => trivial
 clear inner
 rcases H1 k with hk0 | hk0
 · subst hk0
   rw [B5 (by simp), B5 (by simp)] at hJ
   rw [hJ, B9 rfl] at hI
   have t5 : decide (((0 : Nat) : Int) > 0) = false := rfl
   refine E5 (I3 V (B0 (L8 u1 V (B2 (B0 (B8 (H9 V (L6 ex V (V0 (ys := [_, _]) V V V (yZ (cs := [_, _]) V V (H5 V (yS (cs' := [_, _]) V V V V V (yQ (B0 (B8 (E5 (L1 V (yC (c1) V V (F9 V (A9 V (F4 V (E5 (L1 V (F9 V (B4 V ?_))))))))))))))))))))))))); rw [t3]; refine L1 V (F9 V (L3 V V (A9 V (B3 (O1 t4 V (B0 ?_)))))); refine J2 Tryz.mixed (by kernel_rfl) ?_; refine B4 V (F9 V (B4 V (L4 V V (L4 V V (L4 V V (L4 V V (yO V (L3 V V (A9 V (F4 V (B2 (H9 V (B4 V ?_))))))))))))); refine yDh (by omega) (by simp) V V ?_; refine yN V (B4 V (yQ (B8 ?_))); rw [t5]
   refine I1 (fun m : Nat => ⟨67, [(0, .d (.sl 2 (l.map Z9))), (10, .d (.sl 2 (l.map Z9))), (11, .d (dI l.length)), (12, .d (dI ((0 : Nat) : Int))), (48, .d (dI 0)), (49, .d (dI 0))], [], []⟩) (fun m => m = 0) (fun _ => 0) 0 V
    ⟨rfl, ⟨F5, F5, F5, F5, Ht (by simp), F5, D5⟩, D5, D5, rfl⟩ ?_
   rintro m rfl
   refine E5 (I3 V (B0 (F4 V (F8 (B6 (F9 V (B4 V (yQ (B3 ?_)))))))))
   exact ⟨0 + 1, ⟨h, hI⟩, arith, V, ⟨F5, F5, F5, Q7 hw, D5⟩, D5, D5, V⟩
 have t5 : decide ((k : Int) > 0) = true := B1 (by omega)
 obtain ⟨⟨p0, p1⟩, hp⟩ : ∃ a, l[k - 1]? = some a := ⟨_, A4 (by omega)⟩
 have ep := ix Z9 l ((k : Int) - 1) (k - 1) (p0, p1) (by omega) hp
 have hwk := J0 ((k : Int) - 1) (by omega)
 have hle := le_nlt a0 p0
 rw [hp] at hJ
 simp only [Option.getD_some] at hJ
 cases hlt : lt8 p0 a0 with
 | false =>
  rw [hlt] at hle
  rw [B9 ⟨by omega, hlt⟩] at hJ
  rw [hJ, B5 (by omega)] at hI
  subst hI
  refine E5 (I3 V (B0 (L8 u1 V (B2 (B0 (B8 (H9 V (L6 ex V (V0 (ys := [_, _]) V V V (yZ (cs := [_, _]) V V (H5 V (yS (cs' := [_, _]) V V V V V (yQ (B0 (B8 (E5 (L1 V (yC (c1) V V (F9 V (A9 V (F4 V (E5 (L1 V (F9 V (B4 V ?_))))))))))))))))))))))))); rw [t3]; refine L1 V (F9 V (L3 V V (A9 V (B3 (O1 t4 V (B0 ?_)))))); refine J2 Tryz.mixed (by kernel_rfl) ?_; refine B4 V (F9 V (B4 V ?_)); rw [t5]; refine L1 V (B4 V (B4 V (F9 V ?_))); rw [hwk]; refine yW ep (by omega) V V (X8 V V (K8 V V (yBsm V V (L2 V V (A9 V (B3 (L8 hle V (E5 (A9 V (C4 (C3 (A6 (C3 (A6 (A6 (C3 (A6 ?_)))))))))))))))))
  exact M8 V V
 | true =>
 rw [hlt] at hle
 rw [B5 (fun h => by rw [hlt] at h; exact G5 h.2 (by simp))] at hJ
 obtain ⟨P, hP⟩ := I0 (l.take k)
 have hPl : P.length = k := by rw [hP, E4]; omega
 have Af : (l.map Z9).take (k : Int).toNat = P.map Z9 := by rw [H0, hP, List.map_take]
 rw [← hP] at hJ
 refine E5 (I3 V (B0 (L8 u1 V (B2 (B0 (B8 (H9 V (L6 ex V (V0 (ys := [_, _]) V V V (yZ (cs := [_, _]) V V (H5 V (yS (cs' := [_, _]) V V V V V (yQ (B0 (B8 (E5 (L1 V (yC (c1) V V (F9 V (A9 V (F4 V (E5 (L1 V (F9 V (B4 V ?_))))))))))))))))))))))))); rw [t3]; refine L1 V (F9 V (L3 V V (A9 V (B3 (O1 t4 V (B0 ?_)))))); refine J2 Tryz.mixed (by kernel_rfl) ?_; refine B4 V (F9 V (B4 V ?_)); rw [t5]; refine L1 V (B4 V (B4 V (F9 V ?_))); rw [hwk]; refine yW ep (by omega) V V (X8 V V (K8 V V (yBsm V V (L2 V V (A9 V (B3 (O1 hle V (B2 (H9 V (B4 V ?_)))))))))); refine yDh (by omega) (by rw [A8]; omega) V V ?_; refine yN V (B4 V (yQ (B8 ?_))); rw [Af]
 refine I1 (fun m : Nat => ⟨67, [(0, .d (.sl 2 (l.map Z9))), (10, .d (.sl 2 (l.map Z9))), (11, .d (dI l.length)), (12, .d (dI k)), (4, .bx 4 0), (47, .d (.sl 2 (P.map Z9))), (48, .d (dI k)), (49, .d (dI m))], [(4, [.d (dS a0), .d (dI a1)])], []⟩) (fun m => m ≤ k ∧ ∀ (j : Nat) x, j < m → P[j]? = some x → (JI a0 x.1 && !(a1 == x.2)) = false) (fun m => k - m) 0 ⟨E8 _, fun j x hj => G5 hj (Nat.not_lt_zero _)⟩
  ⟨rfl, ⟨F5, F5, F5, F5, F5, F5, .of_eq (G6 (fun n : Nat => SV.d (dI n)) (by simp [hPl])), F5, D5⟩, ⟨⟨_, rfl, H6 _⟩, D5⟩, D5, rfl⟩ ?_
 rintro m ⟨hm, AZ⟩
 rcases D6 m k with h2 | h2
 rotate_left
 · have u2 : decide ((m : Int) < (k : Int)) = false := A7 (by omega)
   rw [NJ (by omega) AZ, B5 (by simp)] at hJ
   rw [hJ, B9 rfl] at hI
   refine E5 (I3 V (B0 (O1 u2 V (F8 (B6 (F9 V (B4 V (yQ (B3 ?_)))))))))
   exact ⟨k + 1, ⟨h, hI⟩, arith, V, ⟨F5, F5, F5, Q7 hw, D5⟩, D5, D5, V⟩
 have u2 : decide ((m : Int) < (k : Int)) = true := B1 (by omega)
 obtain ⟨⟨b0, b1⟩, hbm⟩ : ∃ a, P[m]? = some a := ⟨_, A4 (by omega)⟩
 have eb := ix Z9 P m m (b0, b1) rfl hbm
 have HH := J0 ((m : Int) + 1) (by omega)
 have c2 := Sk a0 b0
 have BJ : k - (m + 1) < k - m := by omega
 have nxt : (JI a0 b0 && !(a1 == b1)) = false → ∀ (j : Nat) x, j < m + 1 → P[j]? = some x → (JI a0 x.1 && !(a1 == x.2)) = false := fun he j x hj hx => by
  rcases D6 j m with h3 | h3
  · exact AZ j x h3 hx
  · obtain rfl : j = m := by omega
    rw [hbm] at hx; cases hx; exact he
 have bad : (JI a0 b0 && !(a1 == b1)) = true → E = 18 := fun he => by
  rw [B9 (List.any_eq_true.2 ⟨_, C0 hbm, he⟩)] at hJ
  rw [hJ, B5 (by omega)] at hI
  exact hI.symm
 clear hJ hI AZ hP ep hle Af
 cases hu : JI a0 b0 with
 | false =>
  rw [hu] at c2 nxt
  have Eb := nxt (by rfl)
  refine E5 (I3 V (B0 (L8 u2 V (B2 (B0 (B8 (E5 (yW eb (by omega) V V (V0 (ys := [_, _]) V V V (yZ (cs := [_, _]) V V (yS (cs' := [_, _]) V V V V V (yQ (E5 (L1 V (L1 V (yC (c2) V V (B4 V (L4 V V (L4 V V (yO V (L3 V V (yQ (F4 V (B2 (B6 (F9 V (B4 V (yQ (B3 ?_)))))))))))))))))))))))))))))
  exact ⟨m + 1, ⟨h2, Eb⟩, BJ, V, ⟨F5, F5, F5, F5, F5, F5, F5, Q7 HH, D5⟩, ⟨⟨_, V, H6 _⟩, D5⟩, D5, V⟩
 | true =>
  rw [hu] at c2 nxt bad
  by_cases he : a1 = b1
  · have t6 : (a1 != b1) = false := by simp [he]
    have Eb := nxt (by simp [he])
    refine E5 (I3 V (B0 (L8 u2 V (B2 (B0 (B8 (E5 (yW eb (by omega) V V (V0 (ys := [_, _]) V V V (yZ (cs := [_, _]) V V (yS (cs' := [_, _]) V V V V V (yQ (E5 (L1 V (L1 V (yC (c2) V V (B4 V (L1 V (L1 V (F9 V (L2 V V (yQ (B3 (O1 t6 V (B2 (B6 (F9 V (B4 V (yQ (B3 ?_))))))))))))))))))))))))))))))
    exact ⟨m + 1, ⟨h2, Eb⟩, BJ, V, ⟨F5, F5, F5, F5, F5, F5, F5, Q7 HH, D5⟩, ⟨⟨_, V, H6 _⟩, D5⟩, D5, V⟩
  · have t6 : (a1 != b1) = true := by simp [he]
    have hE := bad (by simp [he])
    subst hE
    refine E5 (I3 V (B0 (L8 u2 V (B2 (B0 (B8 (E5 (yW eb (by omega) V V (V0 (ys := [_, _]) V V V (yZ (cs := [_, _]) V V (yS (cs' := [_, _]) V V V V V (yQ (E5 (L1 V (L1 V (yC (c2) V V (B4 V (L1 V (L1 V (F9 V (L2 V V (yQ (B3 (L8 t6 V (E5 (A9 V (C4 (C3 (A6 (A6 (C3 (C3 (A6 (A6 (C3 (A6 ?_))))))))))))))))))))))))))))))))))))
    exact M8 V V
abbrev dKd (kw : F6) (nms : List F6) (sg : F6) : List DV := [dS kw, U7 nms, dS sg]
def Dj (sg s : F6) : Bool := (s == [42] && !sg.contains 42) || (s == [43] && !sg.contains 43)
theorem luE_eq (n : Int) (kw : F6) (nms : List F6) (sg : F6) (ch : List Ac) (x : Ln) : luE nf (n, kw, nms, sg) ch x = if (S5 46 x.1).any (Dj sg) = true then 9 else if (nf x.2.2).any (fun c => !nms.contains c.1) = true then 6 else if (SD x.1 ch).2 then 0 else 6 := rfl
theorem wCl1 (kw : F6) (nms : List F6) (sg : F6) (hn : nms.length ≤ 1000000) : ∀ xs r, phC (fun c => !nms.contains c.1) xs r → PCalls Tryz.prog 109 (xs ++ [dKd kw nms sg].map DV.ref) r := by
 rintro _ _ ⟨⟨c0, c1⟩, rfl, rfl⟩
 show PCalls Tryz.prog 109 [.agg [dS c0, dS c1], .ref [dS kw, U7 nms, dS sg]] _
 have k1 := wContS nms c0 hn
 obtain ⟨b, hb⟩ := I0 (nms.contains c0)
 rw [← hb] at k1
 show PCalls Tryz.prog 109 [.agg [dS c0, dS c1], .ref [dS kw, U7 nms, dS sg]] (.d (dB (!nms.contains c0)))
 rw [← hb]
 refine M0 Tryz.func109 V Tryz.ntmps109 Tryz.results109 fun B w0 => ?_
 refine CL 1 V ?_; refine E5 (yK (cs := [_, _]) V V (A9 V (E5 (X8 V V (K8 V V (L1 V (yC (k1) V V (yU V V V (A9 V (C4 ?_))))))))))
 exact M8 V V
theorem Nk (n : Int) (kw : F6) (nms : List F6) (sg : F6) (ch : List Ac) (x : Ln) (hn : nms.length ≤ 1000000) (hx : bdN x) (h0 : KP x.2.2 = 0) : PCalls Tryz.prog 57 [.agg (dKd kw nms sg), .agg (Aa x), .sl 2 (ch.map Z9)] (.d (dI (luE nf (n, kw, nms, sg) ch x))) := by
 obtain ⟨a, c, e⟩ := x
 obtain ⟨b1, b2, b3⟩ := hx
 simp only at b1 b2 b3 h0
 obtain ⟨E, hE⟩ := I0 (luE nf (n, kw, nms, sg) ch (a, c, e))
 rw [← hE]
 rw [luE_eq] at hE
 simp only at hE
 have k1 := Sm a 46 b1
 have hsl : (S5 46 a).length ≤ 1000001 := F3 (Av 46 a) (by omega)
 have k2 := Ll e b2 fun c hc => (b3 c hc).2
 rw [h0, nmE, B9 h0] at k2
 have JE := nf_len e
 have k3 := wHasC (fun c => !nms.contains c.1) (nf e) (by have := (FO.1 h0).1; omega)
 have k4 := wFindA ch a
 have k5 := Jh sg 42
 have k6 := Jh sg 43
 have h1 := wCl1 kw nms sg hn
 obtain ⟨SS, hS⟩ := I0 (S5 46 a)
 rw [← hS] at hE k1 hsl
 obtain ⟨N, hN⟩ := I0 (nf e)
 rw [← hN] at hE k2 k3
 obtain ⟨⟨f0, f1⟩, hf⟩ := I0 (SD a ch)
 obtain ⟨f00, f01⟩ := f0
 rw [← hf] at hE k4
 simp only at hE k4
 clear hS hN hf h0 b1 b2 b3 JE
 refine M0 Tryz.func57 V Tryz.ntmps57 Tryz.results57 fun B w0 => ?_
 refine E5 (yK (cs := [_, _, _]) V V (yK (cs := [_, _, _]) V V (A9 V (B0 (E5 (L1 V (yC (k1) V V (yN V (B4 V (yQ (B8 ?_))))))))))); refine I1 (fun i : Nat => ⟨53, [(2, .d (.sl 2 (ch.map Z9))), (3, .bx 3 0), (4, .bx 4 0), (15, .d (.sl 1 (SS.map fun t => [dS t]))), (16, .d (dI SS.length)), (17, .d (dI i))], [(3, [.d (dS kw), .d (U7 nms), .d (dS sg)]), (4, [.d (dS a), .d (dB c), .d (.sl 2 (e.map dCf))])], []⟩) (fun i => i ≤ SS.length ∧ ∀ (j : Nat) x, j < i → SS[j]? = some x → Dj sg x = false) (fun i => SS.length - i) 0 ⟨E8 _, fun j x hj => G5 hj (Nat.not_lt_zero _)⟩
  ⟨rfl, ⟨F5, F5, F5, F5, Ht (by simp), F5, D5⟩, ⟨⟨_, rfl, H6 _⟩, ⟨_, rfl, H6 _⟩, D5⟩, D5, rfl⟩ ?_
 rintro i ⟨hi, AZ⟩
 rcases D6 i SS.length with h | h
 · have u1 : decide ((i : Int) < (SS.length : Int)) = true := B1 (by omega)
   obtain ⟨s, hs⟩ := DL h
   have es := ix (fun t => [dS t]) SS i i s rfl hs
   have hw := J0 ((i : Int) + 1) (by omega)
   have arith : SS.length - (i + 1) < SS.length - i := by omega
   have bad : Dj sg s = true → E = 9 := fun hb => by
    rw [B9 (List.any_eq_true.2 ⟨s, C0 hs, hb⟩)] at hE
    exact hE
   have nxt : Dj sg s = false → ∀ (j : Nat) x, j < i + 1 → SS[j]? = some x → Dj sg x = false := fun hb => Br hs AZ hb
   clear hE AZ
   by_cases h42 : s = [42]
   · subst h42
     have e1 : Dj sg [42] = !sg.contains 42 := by simp [Dj]
     rw [e1] at bad nxt
     cases hc : sg.contains 42 with
     | true =>
      rw [hc] at k5 nxt
      have Eb := nxt rfl
      refine E5 (I3 V (B0 (L8 u1 V (B2 (B0 (B8 (E5 (yW es (by omega) V V (K8 V V (A9 V (H9 V (N7 V V (B4 V (L4 V V (L2 V V (B4 V (L1 V (B4 V (yC (k5) V V (yU V V V (L2 V V (yQ (F4 V (B2 (B6 (F9 V (B4 V (yQ (B3 ?_)))))))))))))))))))))))))))))
      exact ⟨i + 1, ⟨h, Eb⟩, arith, V, ⟨F5, F5, F5, F5, F5, Q7 hw, D5⟩, ⟨⟨_, V, H6 _⟩, ⟨_, V, H6 _⟩, D5⟩, D5, V⟩
     | false =>
      rw [hc] at k5 bad
      have hE9 := bad rfl
      subst hE9
      refine E5 (I3 V (B0 (L8 u1 V (B2 (B0 (B8 (E5 (yW es (by omega) V V (K8 V V (A9 V (H9 V (N7 V V (B4 V (L4 V V (L2 V V (B4 V (L1 V (B4 V (yC (k5) V V (yU V V V (L2 V V (yQ (G4 V (E5 (A9 V (C4 (C3 (A6 (A6 (C3 (A6 ?_)))))))))))))))))))))))))))))))
      exact M8 V V
   have t42 : (s == [42]) = false := by simp [h42]
   by_cases h43 : s = [43]
   · subst h43
     have e1 : Dj sg [43] = !sg.contains 43 := by simp [Dj]
     rw [e1] at bad nxt
     cases hc : sg.contains 43 with
     | true =>
      rw [hc] at k6 nxt
      have Eb := nxt rfl
      refine E5 (I3 V (B0 (L8 u1 V (B2 (B0 (B8 (E5 (yW es (by omega) V V (K8 V V (A9 V (H9 V (N7 V V (B4 V (B4 V (N7 V V (L3 V V (B4 V (L1 V (B4 V (yC (k6) V V (yU V V V (L2 V V (yQ (F4 V (B2 (B6 (F9 V (B4 V (yQ (B3 ?_))))))))))))))))))))))))))))))
      exact ⟨i + 1, ⟨h, Eb⟩, arith, V, ⟨F5, F5, F5, F5, F5, Q7 hw, D5⟩, ⟨⟨_, V, H6 _⟩, ⟨_, V, H6 _⟩, D5⟩, D5, V⟩
     | false =>
      rw [hc] at k6 bad
      have hE9 := bad rfl
      subst hE9
      refine E5 (I3 V (B0 (L8 u1 V (B2 (B0 (B8 (E5 (yW es (by omega) V V (K8 V V (A9 V (H9 V (N7 V V (B4 V (B4 V (N7 V V (L3 V V (B4 V (L1 V (B4 V (yC (k6) V V (yU V V V (L2 V V (yQ (G4 V (E5 (A9 V (C4 (C3 (A6 (A6 (C3 (A6 ?_))))))))))))))))))))))))))))))))
      exact M8 V V
   have t43 : (s == [43]) = false := by simp [h43]
   have Eb := nxt (by simp [Dj, t42, t43])
   refine E5 (I3 V (B0 (L8 u1 V (B2 (B0 (B8 (E5 (yW es (by omega) V V (K8 V V (A9 V (H9 V (N7 V V (B4 V ?_))))))))))))); rw [t42]; refine B4 V (N7 V V (L3 V V (B4 V ?_))); rw [t43]; refine L4 V V (L4 V V (yO V (L3 V V (yQ (F4 V (B2 (B6 (F9 V (B4 V (yQ (B3 ?_)))))))))))
   exact ⟨i + 1, ⟨h, Eb⟩, arith, V, ⟨F5, F5, F5, F5, F5, Q7 hw, D5⟩, ⟨⟨_, V, H6 _⟩, ⟨_, V, H6 _⟩, D5⟩, D5, V⟩
 · have u1 : decide ((i : Int) < (SS.length : Int)) = false := A7 (by omega)
   rw [NJ h AZ, B5 (by simp)] at hE
   clear AZ
   cases hc : (N.any fun c => !nms.contains c.1) with
   | true =>
    rw [hc] at k3 hE
    rw [B9 rfl] at hE
    subst hE
    refine E5 (I3 V (B0 (O1 u1 V (F8 (E5 (L1 V (yC (k2) V V (O6 V (yX V V (yX V V (H5 V (A9 V (H2 V (Qj V ?_)))))))))))))); refine LY k3 (.d V (.fn D4 V V h1 .nil)) V ?_; refine yQ (G4 V (E5 (A9 V (C4 (A6 ?_)))))
    exact M8 V V
   | false =>
    rw [hc] at k3 hE
    rw [B5 (by simp)] at hE
    cases f1 with
    | true =>
     rw [B9 rfl] at hE
     subst hE
     refine E5 (I3 V (B0 (O1 u1 V (F8 (E5 (L1 V (yC (k2) V V (O6 V (yX V V (yX V V (H5 V (A9 V (H2 V (Qj V ?_)))))))))))))); refine LY k3 (.d V (.fn D4 V V h1 .nil)) V ?_; refine yQ (F4 V (B2 (H2 V (L1 V (yC (k4) V V (O6 V (yX V V (yX V V (yZ (cs := [_, _]) V V (yS (cs' := [_, _]) V V V V V (A9 V (H9 V (yU V V V (yQ (F4 V (B2 (E5 (A9 V (C4 ?_)))))))))))))))))))
     exact M8 V V
    | false =>
     rw [B5 (by simp)] at hE
     subst hE
     refine E5 (I3 V (B0 (O1 u1 V (F8 (E5 (L1 V (yC (k2) V V (O6 V (yX V V (yX V V (H5 V (A9 V (H2 V (Qj V ?_)))))))))))))); refine LY k3 (.d V (.fn D4 V V h1 .nil)) V ?_; refine yQ (F4 V (B2 (H2 V (L1 V (yC (k4) V V (O6 V (yX V V (yX V V (yZ (cs := [_, _]) V V (yS (cs' := [_, _]) V V V V V (A9 V (H9 V (yU V V V (yQ (G4 V (E5 (A9 V (C4 (A6 ?_)))))))))))))))))))
     exact M8 V V
def ruI (l : List Ru) (ch : List Ac) : Int × Int := if ctE ch ≠ 0 then (0, 1) else if 64 < l.length then (0, 4) else Qp (P1 J5) KP nf ch 0 [] l
theorem RT {nm : List Cf → List Cf} {kk : ST} {ch : List Ac} {ls : List Ln} {k : Nat} {l : Ln} (h : ls[k]? = some l) : IV nm kk ch (ls.drop k) = if luE nm kk ch l = 0 then IV nm kk ch (ls.drop (k + 1)) else luE nm kk ch l := by
 obtain ⟨h1, h2⟩ := A5.1 h
 rw [I2 h1, h2, IV]
theorem Qo {ch : List Ac} {l : List Ru} {k : Nat} {r : Ru} (h : l[k]? = some r) : Qp (P1 J5) KP nf ch k (l.take k) (l.drop k) =
 if EA r ≠ 0 then ((k : Int), EA r)
 else if ((l.take k).any fun x => x.1 == r.1) = true then ((k : Int), 5)
 else match Y8 r.1 with
  | none => (0, 0)
  | some kk => if IV nf kk ch r.2 ≠ 0 then ((k : Int), IV nf kk ch r.2) else if HN r.2 then Qp (P1 J5) KP nf ch (k + 1) (l.take (k + 1)) (l.drop (k + 1)) else ((k : Int), 14) := by
 obtain ⟨h1, h2⟩ := A5.1 h
 rw [I2 h1, h2, Qp, G8, h]
 rfl
theorem Vf (l : List Ru) (n : Int) : (EQ l n).isSome = l.any fun x => x.1 == n := by
 unfold EQ
 induction l with
 | nil => rfl
 | cons x l ih =>
  rw [List.find?_cons, List.any_cons]
  cases x.1 == n with
  | true => rfl
  | false => simpa using ih
theorem TH (l : List Ru) (ch : List Ac) (hl : l.length ≤ 1000000) (hb : ∀ r ∈ l, Sf r) (hc : ch.length ≤ 1000000) (QM : ∀ a ∈ ch, a.1.length ≤ 1000000) : PCalls Tryz.prog 14 [Q5 l, .sl 2 (ch.map Z9)] (.tup [dI (ruI l ch).1, dI (ruI l ch).2]) := by
 have c0 := Qn ch hc QM
 have k0 := Hq
 obtain ⟨⟨E1, E2⟩, hE⟩ := I0 (ruI l ch)
 rw [← hE]
 unfold ruI at hE
 by_cases h0 : ctE ch = 0
 rotate_left
 · have t1 : (ctE ch != 0) = true := by simp [h0]
   rw [B9 h0] at hE
   cases hE
   obtain ⟨x, hx⟩ := I0 (ctE ch)
   rw [← hx] at c0 t1
   refine M0 Tryz.func14 V Tryz.ntmps14 Tryz.results14 fun B w0 => ?_
   refine E5 (H5 V (A9 V (H2 V (yC (c0) V V (I3 V (B3 (L8 t1 V (E5 (H5 V (A9 V (C4 (A6 ?_))))))))))))
   exact Az V V V
 rw [B5 (by simp [h0])] at hE
 rw [h0] at c0
 by_cases h1 : 64 < l.length
 · have t2 : decide (((l.map AE).length : Int) > 64) = true := B1 (by rw [A8]; omega)
   rw [B9 h1] at hE
   cases hE
   refine M0 Tryz.func14 V Tryz.ntmps14 Tryz.results14 fun B w0 => ?_
   refine E5 (H5 V (A9 V (H2 V (yC (c0) V V (I3 V (F4 V (B2 (H2 V (yN V (I3 V (B3 ?_))))))))))); rw [t2]
   refine G4 V (E5 (H5 V (A9 V (C4 (A6 ?_)))))
   exact Az V V V
 have t2 : decide (((l.map AE).length : Int) > 64) = false := A7 (by rw [A8]; omega)
 rw [B5 h1] at hE
 refine M0 Tryz.func14 V Tryz.ntmps14 Tryz.results14 fun B w0 => ?_
 refine E5 (H5 V (A9 V (H2 V (yC (c0) V V (I3 V (F4 V (B2 (H2 V (yN V (I3 V (B3 ?_))))))))))); rw [t2]
 refine F4 V (B2 (H2 V (yN V (B4 V (yQ (B8 ?_))))))
 clear c0 h0 hc QM
 refine I1 (fun k : Nat => ⟨68, [(0, .d (Q5 l)), (1, .d (.sl 2 (ch.map Z9))), (20, .d (Q5 l)), (21, .d (dI l.length)), (22, .d (dI k))], [], []⟩) (fun k => k ≤ l.length ∧ Qp (P1 J5) KP nf ch k (l.take k) (l.drop k) = (E1, E2)) (fun k => l.length - k) 0 ⟨E8 _, hE.symm⟩
  ⟨rfl, ⟨F5, F5, F5, Ht (by simp), F5, D5⟩, D5, D5, rfl⟩ ?_
 rintro k ⟨hk, hI⟩
 clear hE
 rcases D6 k l.length with h | h
 rotate_left
 · have u1 : decide ((k : Int) < (l.length : Int)) = false := A7 (by omega)
   rw [J8 h] at hI
   cases hI
   refine E5 (I3 V (B0 (O1 u1 V (F8 (E5 (H5 V (A9 V (C4 ?_))))))))
   exact Az V V V
 have u1 : decide ((k : Int) < (l.length : Int)) = true := B1 (by omega)
 obtain ⟨r, hr⟩ := DL h
 have JR := hb _ (C0 hr)
 rw [Qo hr] at hI
 have ex := ix AE l k k r rfl hr
 have hw := J0 ((k : Int) + 1) (by omega)
 have c1 := Lj r JR
 have c2 := TC (l.take k) r.1 (by rw [E4]; omega)
 have Af : (l.map AE).take (k : Int).toNat = (l.take k).map AE := by rw [H0, List.map_take]
 have arith : l.length - (k + 1) < l.length - k := by omega
 rw [Vf] at c2
 by_cases e1 : EA r = 0
 rotate_left
 · have t3 : (EA r != 0) = true := by simp [e1]
   rw [B9 e1] at hI
   cases hI
   obtain ⟨x, hx⟩ := I0 (EA r)
   rw [← hx] at c1 t3 ⊢
   obtain ⟨n, ls⟩ := r
   refine E5 (I3 V (B0 (L8 u1 V (B2 (B0 (B8 (H9 V (L6 ex V (V0 (ys := [_, _]) V V V (yZ (cs := [_, _]) V V (H5 V (yS (cs' := [_, _]) V V V V V (yQ (B0 (E5 (Ab (ys := [_, _]) V V V V (yC (c1) V V (A9 V (H9 V (I3 V (B3 (L8 t3 V (H9 V (B4 V (H5 V (A9 V (C4 (A6 (C3 (A6 (A6 (C3 (A6 ?_)))))))))))))))))))))))))))))))))
   exact Az V V V
 have hwf := (Pb (tp := P1 J5) (ce := KP)).1 e1
 rw [B5 (by simp [e1])] at hI
 rw [e1] at c1
 obtain ⟨P, hP⟩ := I0 (l.take k)
 rw [← hP] at c2 Af
 obtain ⟨o, ho⟩ := I0 (UH (EQ P r.1))
 rw [← ho] at c2
 obtain ⟨o0, o1⟩ := o
 have hPl : (P.map AE).length = k := by rw [hP, A8, E4]; omega
 rw [← hP] at hI
 clear hP ho hb
 cases e2 : (P.any fun x => x.1 == r.1) with
 | true =>
  rw [e2] at c2 hI
  rw [B9 rfl] at hI
  cases hI
  obtain ⟨n, ls⟩ := r
  refine E5 (I3 V (B0 (L8 u1 V (B2 (B0 (B8 (H9 V (L6 ex V (V0 (ys := [_, _]) V V V (yZ (cs := [_, _]) V V (H5 V (yS (cs' := [_, _]) V V V V V (yQ (B0 (E5 (Ab (ys := [_, _]) V V V V (yC (c1) V V (A9 V (H9 V (I3 V (F4 V (B2 (B0 (B0 ?_)))))))))))))))))))))))); refine J2 Tryz.mixed (by kernel_rfl) ?_; refine B4 V (B4 V ?_); refine yDh (by omega) (by rw [A8]; omega) V V ?_; refine L1 V ?_; rw [Af]; refine yC (c2) V V (O6 V (yX V V (yX V V (yZ (cs := [_, _]) V V (yS (cs' := [_, _]) V V V V V (A9 V (H9 V (yQ (G4 V (H9 V (H5 V (A9 V (C4 (A6 (C3 (A6 (A6 (C3 (A6 ?_)))))))))))))))))))
  exact Az V V V
 | false =>
 rw [e2] at c2 hI
 rw [B5 (by simp)] at hI
 obtain ⟨n, ls⟩ := r
 obtain ⟨⟨kk, GP⟩, Lf, hlw⟩ := hwf
 simp only at GP Lf hlw hI
 rw [GP] at hI
 simp only at hI
 obtain ⟨hg, hh⟩ := FA n
 have hkeq : kk = (n, Fj n, X7 n, Qy n) := by
  have h3 := (Bu GP).2
  rw [Fj, X7, Qy, GP]
  obtain ⟨q0, q1, q2, q3⟩ := kk
  simp only at h3
  subst h3
  rfl
 have JE : (X7 n).length ≤ 1000000 := by
  have h2 : ∀ k ∈ kndL, k.2.2.1.length ≤ 1000000 := by
   have : ∀ k ∈ kndL, k.2.2.1.length ≤ 4 := by decide
   exact fun k hk => F3 (this k hk) (by omega)
  have := h2 kk (Bu GP).1
  rw [hkeq] at this
  exact this
 rw [hkeq] at hI
 have k2 := fun x => Nk n (Fj n) (X7 n) (Qy n) ch x JE
 obtain ⟨M, hM⟩ := I0 (Bt)
 rw [← hM] at k0 hg
 obtain ⟨kw, hkw⟩ := I0 (Fj n)
 obtain ⟨kg, hkg⟩ := I0 (Qy n)
 obtain ⟨kn, hkn⟩ := I0 (X7 n)
 rw [← hkw, ← hkg, ← hkn] at hg hI k2
 clear hM hkw hkg hkn hkeq JE GP hh e2 e1
 have k3 := Ji (n, ls) Lf fun x hx => ⟨(FO.1 (hlw x hx).2).1, fun c hc => ((JR.2 x hx).2.2 c hc).2⟩
 simp only at k3
 refine E5 (I3 V (B0 (L8 u1 V (B2 (B0 (B8 (H9 V (L6 ex V (V0 (ys := [_, _]) V V V (yZ (cs := [_, _]) V V (H5 V (yS (cs' := [_, _]) V V V V V (yQ (B0 (E5 (Ab (ys := [_, _]) V V V V (yC (c1) V V (A9 V (H9 V (I3 V (F4 V (B2 (B0 (B0 ?_)))))))))))))))))))))))); refine J2 Tryz.mixed (by kernel_rfl) ?_; refine B4 V (B4 V ?_); refine yDh (by omega) (by rw [A8]; omega) V V ?_; refine L1 V ?_; rw [Af]; refine yC (c2) V V (O6 V (yX V V (yX V V (yZ (cs := [_, _]) V V (yS (cs' := [_, _]) V V V V V (A9 V (H9 V (yQ (F4 V (B2 (B0 (E5 (L1 V (yN V (B4 V (yQ (B8 ?_))))))))))))))))); refine I1 (fun j : Nat => ⟨68, [(0, .d (Q5 l)), (1, .d (.sl 2 (ch.map Z9))), (20, .d (Q5 l)), (21, .d (dI l.length)), (22, .d (dI k)), (6, .d (dI k)), (7, .bx 7 0), (45, .d (.sl 3 (ls.map Aa))), (46, .d (dI ls.length)), (47, .d (dI j))], [(7, [.d (dI n), .d (.sl 3 (ls.map Aa))])], []⟩) (fun j => j ≤ ls.length ∧ IV nf (n, kw, kn, kg) ch (ls.drop j) = IV nf (n, kw, kn, kg) ch ls) (fun j => ls.length - j) 0 ⟨E8 _, V⟩
  ⟨rfl, ⟨F5, F5, F5, F5, F5, F5, F5, F5, Ht (by simp), F5, D5⟩, ⟨⟨_, rfl, H6 _⟩, D5⟩, D5, rfl⟩ ?_
 rintro j ⟨hj, hJ⟩
 rcases D6 j ls.length with h2 | h2
 · have u2 : decide ((j : Int) < (ls.length : Int)) = true := B1 (by omega)
   obtain ⟨x, hx⟩ := DL h2
   have em := ix Aa ls j j x rfl hx
   have HH := J0 ((j : Int) + 1) (by omega)
   have hxm := C0 hx
   have k4 := k2 x (JR.2 x hxm) (hlw x hxm).2
   have BJ : ls.length - (j + 1) < ls.length - j := by omega
   rw [RT hx] at hJ
   obtain ⟨y, hy⟩ := I0 (luE nf (n, kw, kn, kg) ch x)
   rw [← hy] at k4 hJ
   obtain ⟨x0, x1, x2⟩ := x
   clear k2 k3 hy hxm JR Lf hlw
   by_cases OR : y = 0
   · have t4 : (y != 0) = false := by simp [OR]
     rw [B9 OR] at hJ
     refine E5 (I3 V (B0 (L8 u2 V (B2 (B0 (B8 (E5 (L6 em V (V0 (ys := [_, _, _]) V V V (yZ (cs := [_, _, _]) V V (yS (cs' := [_, _, _]) V V V V V (yQ (B0 ?_))))))))))))); refine J2 Tryz.mixed (by kernel_rfl) ?_; refine yC (k0) V V (L1 V (yKeI V V hg (Ab (ys := [_, _, _]) V V V V (B4 V (yC (k4) V V (A9 V (H9 V (I3 V (B3 (O1 t4 V (B2 (B6 (F9 V (B4 V (yQ (B3 ?_))))))))))))))))
     exact ⟨j + 1, ⟨h2, hJ⟩, BJ, V, ⟨F5, F5, F5, F5, F5, F5, F5, F5, F5, Q7 HH, D5⟩, ⟨⟨_, V, H6 _⟩, D5⟩, D5, V⟩
   · have t4 : (y != 0) = true := by simp [OR]
     rw [B5 OR] at hJ
     rw [← hJ, B9 OR] at hI
     cases hI
     refine E5 (I3 V (B0 (L8 u2 V (B2 (B0 (B8 (E5 (L6 em V (V0 (ys := [_, _, _]) V V V (yZ (cs := [_, _, _]) V V (yS (cs' := [_, _, _]) V V V V V (yQ (B0 ?_))))))))))))); refine J2 Tryz.mixed (by kernel_rfl) ?_; refine yC (k0) V V (L1 V (yKeI V V hg (Ab (ys := [_, _, _]) V V V V (B4 V (yC (k4) V V (A9 V (H9 V (I3 V (B3 (L8 t4 V (H9 V (B4 V (H5 V (A9 V (C4 (C3 (A6 (A6 (C3 (A6 (C3 (A6 (A6 (C3 (A6 ?_)))))))))))))))))))))))))
     exact Az V V V
 · have u2 : decide ((j : Int) < (ls.length : Int)) = false := A7 (by omega)
   have hz : IV nf (n, kw, kn, kg) ch ls = 0 := by rw [← hJ, J8 h2]; rfl
   rw [hz, B5 (by simp)] at hI
   clear k2 JR Lf hlw hJ hz
   cases hbal : HN ls with
   | true =>
    rw [hbal] at k3 hI
    rw [B9 rfl] at hI
    refine E5 (I3 V (B0 (O1 u2 V (F8 (E5 (Ab (ys := [_, _]) V V V V (yC (k3) V V (yU V V V (yQ (F4 V (B2 (B6 (F9 V (B4 V (yQ (B3 ?_))))))))))))))))
    exact ⟨k + 1, ⟨h, hI⟩, arith, V, ⟨F5, F5, F5, F5, Q7 hw, D5⟩, D5, D5, V⟩
   | false =>
    rw [hbal] at k3 hI
    rw [B5 (by simp)] at hI
    cases hI
    refine E5 (I3 V (B0 (O1 u2 V (F8 (E5 (Ab (ys := [_, _]) V V V V (yC (k3) V V (yU V V V (yQ (G4 V (H9 V (H5 V (A9 V (C4 (C3 (A6 (A6 (C3 (A6 ?_)))))))))))))))))))
    exact Az V V V
def insI (x : F6) : List F6 → List F6
 | [] => [x]
 | y :: l => if ltS y x then y :: insI x l else x :: y :: l
def Mb : List F6 → List F6
 | [] => []
 | x :: l => insI x (Mb l)
theorem KB (x : F6) (l : List F6) : (insI x l).Perm (x :: l) := by
 induction l with
 | nil => exact .refl _
 | cons y l ih =>
  rw [insI]
  split
  · exact (ih.cons y).trans (.swap x y l)
  · exact .refl _
theorem OQ (l : List F6) : (Mb l).Perm l := by
 induction l with
 | nil => exact .refl _
 | cons x l ih => exact (KB x _).trans (ih.cons x)
theorem ltS_no {a b : F6} (h : ltS a b = true) : ltS b a = false := by
 cases e : ltS b a with
 | false => rfl
 | true =>
  have := Bs h e
  rw [U3] at this
  cases this
theorem insI_up {x : F6} {l : List F6} (h : l.Pairwise fun x y => ltS y x = false) : (insI x l).Pairwise fun x y => ltS y x = false := by
 induction l with
 | nil => exact List.pairwise_singleton _ _
 | cons y l ih =>
  rw [List.pairwise_cons] at h
  rw [insI]
  split
  · rename_i hy
    refine List.pairwise_cons.2 ⟨fun z hz => ?_, ih h.2⟩
    rcases List.mem_cons.1 ((KB x l).mem_iff.1 hz) with rfl | hz
    · exact ltS_no hy
    · exact h.1 z hz
  · rename_i hy
    have hy : ltS y x = false := by simpa using hy
    refine List.pairwise_cons.2 ⟨fun z hz => ?_, List.pairwise_cons.2 h⟩
    rcases List.mem_cons.1 hz with rfl | hz
    · exact hy
    · have h1 := h.1 z hz
      cases e : ltS z x with
      | false => rfl
      | true =>
       rcases X2 x y with h2 | h2 | h2
       · rw [Bs e h2] at h1; cases h1
       · subst h2; rw [e] at h1; cases h1
       · rw [h2] at hy; cases hy
theorem Uu (l : List F6) : (Mb l).Pairwise fun x y => ltS y x = false := by
 induction l with
 | nil => exact .nil
 | cons x l ih => exact insI_up ih
theorem mSort_i (l : List F6) : Jy l = Mb l := by
 refine List.Perm.eq_of_pairwise (le := fun x y : F6 => ltS y x = false) (fun x y _ _ h1 h2 => ?_) (MQ l) (Uu l) ((List.mergeSort_perm l _).trans (OQ l).symm)
 rcases X2 x y with h | h | h
 · rw [h] at h2; cases h2
 · exact h
 · rw [h] at h1; cases h1
def nfi (e : List Cf) : List Cf := (Mb ((P8 e e.length).map (·.1))).filterMap (keep (P8 e e.length))
theorem nf_i (e : List Cf) : nf e = nfi e := by rw [nf, mSort_i]; rfl
open Go.RowKit Go.Shelf Px
variable {F : Nat → Nat → Prop}
attribute [local go_sem] Oper.semAt_some
def JK : Nat → Bool → F6 → List (Bool × F6)
 | 0, _, _ => []
 | n + 1, neg, s => (neg, S7 32 s) :: if Bi 32 s then (if S7 32 (Q6 32 s) = [43] ∨ S7 32 (Q6 32 s) = [45] then JK n (S7 32 (Q6 32 s) == [45]) (Q6 32 (Q6 32 s)) else [(false, [])]) else []
def Eo (neg : Bool) (s : F6) : List (Bool × F6) := JK (s.length + 1) neg s
theorem Js : ∀ (n m : Nat) (neg : Bool) (s : F6), s.length < n → s.length < m → JK n neg s = JK m neg s
 | n + 1, m + 1, neg, s, h1, h2 => by
  rw [JK, JK]
  by_cases hb : Bi 32 s = true
  · have l1 := (Y5 32 s).2.2 hb
    have l2 := (Y5 32 (Q6 32 s)).2.1
    rw [Js n m _ _ (by omega) (by omega)]
  · rw [B5 hb, B5 hb]
theorem CN (neg : Bool) (s : F6) : Eo neg s = (neg, S7 32 s) :: if Bi 32 s then (if S7 32 (Q6 32 s) = [43] ∨ S7 32 (Q6 32 s) = [45] then Eo (S7 32 (Q6 32 s) == [45]) (Q6 32 (Q6 32 s)) else [(false, [])]) else [] := by
 unfold Eo
 rw [JK]
 by_cases hb : Bi 32 s = true
 · have l1 := (Y5 32 s).2.2 hb
   have l2 := (Y5 32 (Q6 32 s)).2.1
   rw [Js s.length ((Q6 32 (Q6 32 s)).length + 1) _ _ (by omega) (by omega)]
 · rw [B5 hb, B5 hb]
abbrev JH (p : Bool × F6) : List Value := [.bool p.1, vS p.2]
def S9 (s : F6) : List (Bool × F6) := Eo (Lh 45 s) (JF 45 s)
theorem ML {P : Program} {f : FuncId} {vs us : List Value} (h : PCalls P f (vs.map .val) (.tup (us.map .val))) (h1 : ∀ v ∈ vs, v.oneCell' = true) {W : World} (hg : GlobOk F W) : Calls P f vs.toArray W fun e W' => e = .returned (.tuple us.toArray) ∧ Below W.heap.size W W' := by
 refine (h F W vs (by simp) (fun i v x hv hx => ?_) hg).mono ?_
 · rw [C6, hv] at hx
   cases hx
   exact DRep.val v (h1 v (C0 hv))
 · rintro e W' ⟨v, rfl, ⟨ws, rfl, h3, h4⟩, h5⟩
   have : ws = us := by
    refine List.ext_getElem (by simpa using h3) fun i h6 h7 => ?_
    exact DRep.val_eq (h4 i _ _ (A4 h6) (by rw [C6, A4 h7]; rfl))
   rw [this]
   exact ⟨rfl, h5⟩
theorem DT {W W' : World} (h : GlobOk F W) (hb : Below W.heap.size W W') : GlobOk F W' := fun q cs hq => by
 obtain ⟨h1, vs, h2, T, z, h3⟩ := h q cs hq
 exact ⟨h1.mono fun b o hf hs => ⟨hf, L0 (hb.block b (Y0 hs)) o⟩, vs, h2, T, z, (hb.block q (D1.1 h3).1).trans h3⟩
theorem LS {c : UInt8} (s : F6) {n : Nat} (h : s.length ≤ n) : (JF c s).length ≤ n := by
 cases s with
 | nil => exact h
 | cons x t =>
  rw [JF]
  split
  · rw [List.length_cons] at h; omega
  · exact h
def lenV : Value → Nat
 | .string b => b.size
 | _ => 0
theorem Hc (s : F6) : lenV (vS s) = s.length := by simp [lenV, ByteArray.size]
theorem MM (s : F6) (hs : s.length ≤ 1000000) (F : Nat → Nat → Prop) (w : World) (p : Value) (hp : DRep F w p (.ref [dS s])) : PF Tryz.prog 177 #[p] ((S9 s).map JH) F w := by
 intro l J Jx hJ hJx hY Df h0
 obtain ⟨b, off, rfl, hc⟩ : ∃ b off, p = .pointer (some ⟨b, off, none⟩) ∧ w.cell? ⟨b, off, none⟩ = some (vS s) := by
  cases hp with
  | @ref b off _ f hc h =>
   refine ⟨b, off, V, ?_⟩
   have := (hc 0 (by simp)).1
   rw [DRep.val_eq (h 0 (dS s) rfl)] at this
   exact this
 refine callsIn_of_wp Tryz.func177 V trivial ?_ V
 simp only [Tryz.ntmps177, List.size_toArray, List.length_cons, List.length_nil, Nat.reduceAdd, Nat.reduceSub, Array.replicate_succ, Array.replicate_zero, List.push_toArray, List.append_toArray, List.nil_append, List.cons_append]
 have HJ := Lib.hid hJ
 have HJX := Lib.hid hJx
 have HY := Lib.hid hY
 have HG := Lib.hid Df
 have C1 : Hid (∀ W, GlobOk F W → Calls Tryz.prog 121 #[vS s, vS [45]] W fun e W' => e = .returned (.tuple #[vS (JF 45 s), .bool (Lh 45 s)]) ∧ Below W.heap.size W W') :=
  Lib.hid fun W hg => ML (vs := [vS s, vS [45]]) (us := [vS (JF 45 s), .bool (Lh 45 s)]) (wCutP1 s 45 hs) (fun v hv => by simp at hv; rcases hv with rfl | rfl <;> rfl) hg
 have C2 : Hid (∀ t, t.length ≤ 1000000 → ∀ W, GlobOk F W → Calls Tryz.prog 79 #[vS t, vS [32]] W fun e W' => e = .returned (.tuple #[vS (S7 32 t), vS (Q6 32 t), .bool (Bi 32 t)]) ∧ Below W.heap.size W W') :=
  Lib.hid fun t ht W hg => ML (vs := [vS t, vS [32]]) (us := [vS (S7 32 t), vS (Q6 32 t), .bool (Bi 32 t)]) (Lq t 32 ht) (fun v hv => by simp at hv; rcases hv with rfl | rfl <;> rfl) hg
 clear hJ hJx hY Df
 have SY : Hid ((JF 45 s).length ≤ 1000000) := Lib.hid (LS s hs)
 gi_wp2_with (refine ⟨D5, rfl, ?_⟩; gi_at_call 121; refine (callsIn_wide.2 (C1.out _ HG.out)).mono ?_; rintro e w' ⟨rfl, Dg⟩)
 have HG1 := Lib.hid (DT HG.out Dg)
 have J1 := HJ.out 0 _ _ h0 Dg
 clear Dg HG h0
 gi_loopw [3, 4] (fun v3 v4 wr => ∃ (i : Nat) (neg : Bool) (s' : F6), v3 = vS s' ∧ v4 = .bool neg ∧ J i wr ∧ Hid (((S9 s).map JH).drop i = (Eo neg s').map JH ∧ s'.length ≤ 1000000 ∧ GlobOk F wr))
  (fun v3 _ _ => lenV v3)
 case atStart => exact ⟨0, _, _, rfl, rfl, J1, Lib.hid ⟨rfl, SY.out, HG1.out⟩⟩
 case round =>
  obtain ⟨i, neg, s', rfl, rfl, hJi, HR⟩ := hrel
  have K2 := Lib.hid (C2.out s' HR.out.2.1 wr HR.out.2.2)
  have Cc := HR.out.1
  rw [CN, List.map_cons] at Cc
  have HX : Hid (((S9 s).map JH)[i]? = some (JH (neg, S7 32 s')) ∧ ((S9 s).map JH).drop (i + 1) = (if Bi 32 s' then (if S7 32 (Q6 32 s') = [43] ∨ S7 32 (Q6 32 s') = [45] then Eo (S7 32 (Q6 32 s') == [45]) (Q6 32 (Q6 32 s')) else [(false, [])]) else []).map JH) := Lib.hid ⟨by
   have := G6 (fun l => l[0]?) Cc
   simpa using this, by
   have := G6 (List.drop 1) Cc
   simpa using this⟩
  clear Cc
  gi_wp2_with (refine ⟨D5, rfl, ?_⟩; gi_at_call 79; refine (callsIn_wide.2 K2.out).mono ?_; rintro e w' ⟨rfl, Aq⟩; obtain ⟨fn, tmps, assign, body, hy, hR⟩ := HY.out i _ w' HX.out.1 (HJ.out i _ _ hJi Aq); have HR2 := Lib.hid hR; have HG2 := Lib.hid (DT HR.out.2.2 Aq); clear hR Aq)
  refine ⟨rfl, ?_⟩
  refine HR2.out.mono ?_
  rintro e W3 (⟨rfl, hJ3, -, hg3⟩ | ⟨rfl, hJx3⟩)
  · have HG3 := Lib.hid hg3
    have HD := Lib.hid HX.out.2
    clear hg3
    cases hb : Bi 32 s' with
    | false =>
     have HL : Hid (i + 1 = ((S9 s).map JH).length) := Lib.hid (by
      have h1 := HD.out
      rw [hb, B5 (by simp), List.map_nil, List.drop_eq_nil_iff] at h1
      have h2 := (A5.1 HX.out.1).1
      omega)
     gi_wp2
     refine bodyPost_ret (results_none V _ _ _) V ?_
     exact ⟨⟨_, V⟩, .inl (by rw [← HL.out]; exact hJ3)⟩
    | true =>
     have l1 := Y5 32 s'
     have l2 := Y5 32 (Q6 32 s')
     have HB : Hid ((Q6 32 s').length ≤ 1000000 ∧ (Q6 32 (Q6 32 s')).length ≤ 1000000 ∧ (Q6 32 (Q6 32 s')).length < s'.length) := Lib.hid ⟨by have := HR.out.2.1; omega, by have := HR.out.2.1; omega, by have := l1.2.2 hb; omega⟩
     have K3 := Lib.hid (C2.out (Q6 32 s') HB.out.1 W3 HG3.out)
     clear l1 l2
     have HD2 : Hid (((S9 s).map JH).drop (i + 1) = (if S7 32 (Q6 32 s') = [43] ∨ S7 32 (Q6 32 s') = [45] then Eo (S7 32 (Q6 32 s') == [45]) (Q6 32 (Q6 32 s')) else [(false, [])]).map JH) := Lib.hid (by have := HD.out; rwa [hb, B9 rfl] at this)
     clear HD
     obtain ⟨sg, hsg⟩ := I0 (S7 32 (Q6 32 s'))
     obtain ⟨nx, K9⟩ := I0 (Q6 32 (Q6 32 s'))
     obtain ⟨mo, hmo⟩ := I0 (Bi 32 (Q6 32 s'))
     rw [← hsg, ← K9, ← hmo] at K3
     rw [← hsg, ← K9] at HD2
     rw [← K9] at HB
     clear hsg K9 hmo
     by_cases h3 : sg = [43] ∨ sg = [45]
     · have HD3 := Lib.hid (show ((S9 s).map JH).drop (i + 1) = (Eo (sg == [45]) nx).map JH by have := HD2.out; rwa [B9 h3] at this)
       clear HD2
       rcases h3 with rfl | rfl
       · gi_wp2_with (refine ⟨D5, rfl, ?_⟩; gi_at_call 79; refine (callsIn_wide.2 K3.out).mono ?_; rintro e w4 ⟨rfl, VT⟩)
         have HG4 := Lib.hid (DT HG3.out VT)
         have J4 := HJ.out _ _ _ hJ3 VT
         go_roundw
         case rel => exact ⟨i + 1, false, nx, rfl, rfl, J4, Lib.hid ⟨HD3.out, HB.out.2.1, HG4.out⟩⟩
         case measure => rw [Hc, Hc]; exact HB.out.2.2
       · gi_wp2_with (refine ⟨D5, rfl, ?_⟩; gi_at_call 79; refine (callsIn_wide.2 K3.out).mono ?_; rintro e w4 ⟨rfl, VT⟩)
         have HG4 := Lib.hid (DT HG3.out VT)
         have J4 := HJ.out _ _ _ hJ3 VT
         go_roundw
         case rel => exact ⟨i + 1, true, nx, rfl, rfl, J4, Lib.hid ⟨HD3.out, HB.out.2.1, HG4.out⟩⟩
         case measure => rw [Hc, Hc]; exact HB.out.2.2
     · have HD3 := Lib.hid (show ((S9 s).map JH).drop (i + 1) = [JH (false, [])] by have := HD2.out; rwa [B5 h3] at this)
       have HX3 : Hid (((S9 s).map JH)[i + 1]? = some (JH (false, [])) ∧ i + 1 + 1 = ((S9 s).map JH).length) := Lib.hid ⟨by
        have := G6 (fun l => l[0]?) HD3.out
        simpa using this, by
        have := G6 List.length HD3.out
        simp at this
        simp
        omega⟩
       have b1 : (!sg == [43]) = true := by have : ¬ sg = [43] := fun e => h3 (.inl e); simp [this]
       have b2 : (!sg == [45]) = true := by have : ¬ sg = [45] := fun e => h3 (.inr e); simp [this]
       clear HD2 HD3 h3
       gi_wp2_with (refine ⟨D5, rfl, ?_⟩; gi_at_call 79; refine (callsIn_wide.2 K3.out).mono ?_; rintro e w4 ⟨rfl, VT⟩; obtain ⟨fn5, tmps5, assign5, body5, hy5, hR5⟩ := HY.out (i + 1) _ w4 HX3.out.1 (HJ.out _ _ _ hJ3 VT); have HR5 := Lib.hid hR5; clear hR5 VT)
       refine ⟨rfl, ?_⟩
       refine HR5.out.mono ?_
       rintro e W5 (⟨rfl, hJ5, -, -⟩ | ⟨rfl, hJx5⟩)
       · gi_wp2
         refine bodyPost_ret (results_none V _ _ _) V ?_
         exact ⟨⟨_, V⟩, .inl (by rw [← HX3.out.2]; exact hJ5)⟩
       · gi_wp2
         refine bodyPost_ret (results_none V _ _ _) V ?_
         exact ⟨⟨_, V⟩, .inr hJx5⟩
  · gi_wp2
    refine bodyPost_ret (results_none V _ _ _) V ?_
    exact ⟨⟨_, V⟩, .inr hJx3⟩
theorem prT_ne (d : F6) : Pj d ≠ [] := by
 unfold Pj
 split
 · simp
 · assumption
theorem PK (d : F6) (hd : d.length ≤ 65536) : PCalls Tryz.prog 178 [dS d] (.tup [dS (if Pj d = d then J7 (val d) else []), dI (if Pj d = d then 0 else 3)]) := by
 have k1 := wPrintT d (by omega)
 have k2 := Dx d (by omega)
 have t0 : decide ((d.length : Int) > 65536) = false := A7 (by omega)
 obtain ⟨p, hp⟩ := I0 (Pj d)
 obtain ⟨q, hq⟩ := I0 (J7 (val d))
 rw [← hp] at k1 ⊢
 rw [← hq] at k2 ⊢
 by_cases h : p = d
 · have t1 : (!(p == d)) = false := by simp [h]
   rw [B9 h, B9 h]
   refine M0 Tryz.func178 V Tryz.ntmps178 Tryz.results178 fun B w0 => ?_
   refine E5 (H5 V (A9 V (H2 V (O2 V (I3 V (B3 (O1 t0 V (B2 (H2 V (yC (k1) V V (B4 V (N5 V V (yQ (B3 (O1 t1 V (B2 (H9 V (yC (k2) V V (H5 V (A9 V (C4 ?_)))))))))))))))))))))
   exact Az V V V
 · have t1 : (!(p == d)) = true := by simp [h]
   rw [B5 h, B5 h]
   refine M0 Tryz.func178 V Tryz.ntmps178 Tryz.results178 fun B w0 => ?_
   refine E5 (H5 V (A9 V (H2 V (O2 V (I3 V (B3 (O1 t0 V (B2 (H2 V (yC (k1) V V (B4 V (N5 V V (yQ (B3 (L8 t1 V (E5 (H5 V (A9 V (C4 (A6 ?_))))))))))))))))))))
   exact Az V V V
def TU (d nm : F6) : Option Cf := if Pj d = d ∧ d.head? ≠ some 45 ∧ Cg nm = true then some (nm, J7 (val d)) else none
def TV (t : F6) : Option Cf := if Bi 42 t then TU (S7 42 t) (Q6 42 t) else TU [49] t
abbrev oCf (o : Option Cf) : Cf := o.getD ([], [])
theorem Nh (t : F6) (ht : t.length ≤ 65536) : PCalls Tryz.prog 127 [dS t] (.tup [.agg (dCf (oCf (TV t))), dB (TV t).isSome]) := by
 have k1 := Lq t 42 (by omega)
 obtain ⟨Dp, BN, -⟩ := Y5 42 t
 unfold TV
 cases hb : Bi 42 t with
 | true =>
  rw [hb] at k1
  rw [B9 rfl]
  obtain ⟨d, hd⟩ := I0 (S7 42 t)
  obtain ⟨nm, Sa⟩ := I0 (Q6 42 t)
  rw [← hd] at Dp
  rw [← hd, ← Sa] at k1 ⊢
  have k2 := PK d (by omega)
  have k3 := KU nm
  clear hd Sa hb
  unfold TU
  by_cases h1 : Pj d = d
  rotate_left
  · rw [B5 h1, B5 h1] at k2
    rw [B5 (fun h => h1 h.1)]
    refine M0 Tryz.func127 V Tryz.ntmps127 Tryz.results127 fun B w0 => ?_
    refine E5 (yZ (cs := [_, _]) V V (A9 V (H9 V (yC (k1) V V (O6 V (yX V V (yX V V (yX V V (H5 V (H5 V (A9 V (H2 V (yU V V V (yQ (F4 V (B2 (H9 V (yC (k2) V V (O6 V (yX V V (yX V V (H5 V (A9 V (H2 V (F9 V (B4 V (L4 V V (yO V (L2 V V (B4 V (L4 V V (yO V (L2 V V (yQ (G4 V (E5 (yG (ys := [_, _]) V V (yS (cs' := [_, _]) V V V V V (A9 V ?_))))))))))))))))))))))))))))))))))))))); refine C4 (A6 ?_)
    exact I9 _ (.agg D4 V V V V (.tmp V .nil)) V
  rw [B9 h1, B9 h1] at k2
  obtain ⟨x, d, rfl⟩ : ∃ x l, d = x :: l := by
   cases d with
   | nil => exact G5 h1 (prT_ne _)
   | cons x l => exact ⟨x, l, V⟩
  have hx : (x :: d : F6)[(0 : Int).toNat]? = some x := rfl
  obtain ⟨q, hq⟩ := I0 (J7 (val (x :: d)))
  rw [← hq] at k2 ⊢
  by_cases h2 : x = 45
  · have t2 : ((x.toNat : Int) == 45) = true := by rw [h2]; rfl
    rw [B5 (fun h => h.2.1 (by rw [h2]; rfl))]
    refine M0 Tryz.func127 V Tryz.ntmps127 Tryz.results127 fun B w0 => ?_
    refine E5 (yZ (cs := [_, _]) V V (A9 V (H9 V (yC (k1) V V (O6 V (yX V V (yX V V (yX V V (H5 V (H5 V (A9 V (H2 V (yU V V V (yQ (F4 V (B2 (H9 V (yC (k2) V V (O6 V (yX V V (yX V V (H5 V (A9 V (H2 V (F9 V (B4 V (B4 V (U1 hx (by omega) V V (F9 V (L3 V V (B4 V ?_))))))))))))))))))))))))))))))); rw [t2]; refine L4 V V (yO V (L2 V V (yQ (G4 V (E5 (yG (ys := [_, _]) V V (yS (cs' := [_, _]) V V V V V (A9 V (C4 (A6 ?_))))))))))
    exact I9 _ (.agg D4 V V V V (.tmp V .nil)) V
  have t2 : ((x.toNat : Int) == 45) = false := G2 fun h => h2 (UInt8.toNat_inj.1 (by have : (45 : UInt8).toNat = 45 := rfl; omega))
  cases h3 : Cg nm with
  | false =>
   rw [h3] at k3
   rw [B5 (fun h => by simp at h)]
   refine M0 Tryz.func127 V Tryz.ntmps127 Tryz.results127 fun B w0 => ?_
   refine E5 (yZ (cs := [_, _]) V V (A9 V (H9 V (yC (k1) V V (O6 V (yX V V (yX V V (yX V V (H5 V (H5 V (A9 V (H2 V (yU V V V (yQ (F4 V (B2 (H9 V (yC (k2) V V (O6 V (yX V V (yX V V (H5 V (A9 V (H2 V (F9 V (B4 V (B4 V (U1 hx (by omega) V V (F9 V (L3 V V (B4 V ?_))))))))))))))))))))))))))))))); rw [t2]; refine B4 V (yC (k3) V V (yU V V V (L3 V V (yQ (G4 V (E5 (yG (ys := [_, _]) V V (yS (cs' := [_, _]) V V V V V (A9 V (C4 (A6 ?_)))))))))))
   exact I9 _ (.agg D4 V V V V (.tmp V .nil)) V
  | true =>
   rw [h3] at k3
   rw [B9 ⟨h1, fun h => h2 (by simpa using h), rfl⟩]
   refine M0 Tryz.func127 V Tryz.ntmps127 Tryz.results127 fun B w0 => ?_
   refine E5 (yZ (cs := [_, _]) V V (A9 V (H9 V (yC (k1) V V (O6 V (yX V V (yX V V (yX V V (H5 V (H5 V (A9 V (H2 V (yU V V V (yQ (F4 V (B2 (H9 V (yC (k2) V V (O6 V (yX V V (yX V V (H5 V (A9 V (H2 V (F9 V (B4 V (B4 V (U1 hx (by omega) V V (F9 V (L3 V V (B4 V ?_))))))))))))))))))))))))))))))); rw [t2]; refine B4 V (yC (k3) V V (yU V V V (L3 V V (yQ (F4 V (B2 (H9 V (B4 V (yG (ys := [_, _]) V V (yS (cs' := [_, _]) V V V V V (A9 V (C4 ?_))))))))))))
   exact I9 _ (.agg D4 V V V V (.tmp V .nil)) V
 | false =>
  rw [hb] at k1
  rw [B5 (by simp)]
  have e1 : Pj [49] = [49] := by kernel_rfl
  have e2 : J7 (val [49]) = [49] := by kernel_rfl
  have k2 := PK [49] (by simp)
  rw [B9 e1, B9 e1, e2] at k2
  have k3 := KU t
  obtain ⟨d, hd⟩ := I0 (S7 42 t)
  obtain ⟨nm, Sa⟩ := I0 (Q6 42 t)
  rw [← hd, ← Sa] at k1
  clear hd Sa hb
  have hx : ([49] : F6)[(0 : Int).toNat]? = some 49 := rfl
  unfold TU
  cases h3 : Cg t with
  | false =>
   rw [h3] at k3
   rw [B5 (fun h => by simp at h)]
   refine M0 Tryz.func127 V Tryz.ntmps127 Tryz.results127 fun B w0 => ?_
   refine E5 (yZ (cs := [_, _]) V V (A9 V (H9 V (yC (k1) V V (O6 V (yX V V (yX V V (yX V V (H5 V (H5 V (A9 V (H2 V (yU V V V (yQ (G4 V (B6 (B4 V (H5 V (A9 V (H9 V (yC (k2) V V (O6 V (yX V V (yX V V (H5 V (A9 V (H2 V (F9 V (B4 V (B4 V (U1 hx (by omega) V V (F9 V (L3 V V (B4 V (B4 V (yC (k3) V V (yU V V V (L3 V V (yQ ?_))))))))))))))))))))))))))))))))))))))); refine G4 V (E5 (yG (ys := [_, _]) V V (yS (cs' := [_, _]) V V V V V (A9 V (C4 (A6 ?_))))))
   exact I9 _ (.agg D4 V V V V (.tmp V .nil)) V
  | true =>
   rw [h3] at k3
   rw [B9 ⟨e1, by simp, rfl⟩, e2]
   refine M0 Tryz.func127 V Tryz.ntmps127 Tryz.results127 fun B w0 => ?_
   refine E5 (yZ (cs := [_, _]) V V (A9 V (H9 V (yC (k1) V V (O6 V (yX V V (yX V V (yX V V (H5 V (H5 V (A9 V (H2 V (yU V V V (yQ (G4 V (B6 (B4 V (H5 V (A9 V (H9 V (yC (k2) V V (O6 V (yX V V (yX V V (H5 V (A9 V (H2 V (F9 V (B4 V (B4 V (U1 hx (by omega) V V (F9 V (L3 V V (B4 V (B4 V (yC (k3) V V (yU V V V (L3 V V (yQ ?_))))))))))))))))))))))))))))))))))))))); refine F4 V (B2 (H9 V (B4 V (yG (ys := [_, _]) V V (yS (cs' := [_, _]) V V V V V (A9 V (C4 ?_)))))))
   exact I9 _ (.agg D4 V V V V (.tmp V .nil)) V
def Am (p : Bool × F6) : Option Cf := (TV p.2).map fun c => if p.1 then (c.1, J7 (- val c.2)) else c
def OB (s : F6) : Bool := (S9 s).all fun p => (Am p).isSome
def JL (s : F6) : List Cf := (S9 s).filterMap Am
def Nx (s : F6) : Int := if s = [48] then 0 else if OB s then (if 16 < (JL s).length then 4 else 0) else 3
def Nw (s : F6) : List Cf := if s = [48] then [] else if OB s then (if 16 < (JL s).length then [] else nf (JL s)) else []
theorem MN : ∀ (n : Nat) (neg : Bool) (s : F6), s.length < n → (JK n neg s).length ≤ s.length + 1 ∧ ∀ p ∈ JK n neg s, p.2.length ≤ s.length
 | 0, _, _, h => by omega
 | n + 1, neg, s, h => by
  rw [JK]
  have l0 := Y5 32 s
  by_cases hb : Bi 32 s = true
  · have l1 := l0.2.2 hb
    have l2 := (Y5 32 (Q6 32 s)).2.1
    rw [B9 hb]
    by_cases hc : S7 32 (Q6 32 s) = [43] ∨ S7 32 (Q6 32 s) = [45]
    · rw [B9 hc]
      obtain ⟨h1, h2⟩ := MN n (S7 32 (Q6 32 s) == [45]) (Q6 32 (Q6 32 s)) (by omega)
      refine ⟨by rw [List.length_cons]; omega, fun p hp => ?_⟩
      rcases List.mem_cons.1 hp with rfl | hp
      · exact l0.1
      · have := h2 p hp; omega
    · rw [B5 hc]
      refine ⟨by simp; omega, fun p hp => ?_⟩
      simp at hp
      rcases hp with rfl | rfl
      · exact l0.1
      · simp
  · rw [B5 hb]
    refine ⟨by simp, fun p hp => ?_⟩
    simp at hp
    rw [hp]
    exact l0.1
theorem Tv (s : F6) : (S9 s).length ≤ s.length + 1 ∧ ∀ p ∈ S9 s, p.2.length ≤ s.length := by
 have h := LS (c := 45) s (D9 _)
 obtain ⟨h1, h2⟩ := MN ((JF 45 s).length + 1) (Lh 45 s) (JF 45 s) (Nat.lt_succ_self _)
 exact ⟨F3 h1 (by omega), fun p hp => F3 (h2 p hp) h⟩
theorem HW {t : F6} {c : Cf} (h : TV t = some c) : Cg c.1 = true ∧ c.2.length ≤ t.length + 1 := by
 have hl := (Y5 42 t).1
 have hR : ∀ d nm, TU d nm = some c → Cg c.1 = true ∧ c.2.length ≤ d.length := fun d nm h => by
  unfold TU at h
  split at h
  · rename_i h1
    cases h
    exact ⟨h1.2.2, GB d⟩
  · cases h
 unfold TV at h
 split at h
 · have := hR _ _ h
   exact ⟨this.1, by omega⟩
 · have := hR _ _ h
   exact ⟨this.1, by have := this.2; simp at this; omega⟩
theorem Eh {p : Bool × F6} {c : Cf} (h : Am p = some c) : Cg c.1 = true ∧ c.2.length ≤ p.2.length + 2 := by
 unfold Am at h
 rw [C7] at h
 obtain ⟨d, h1, h2⟩ := h
 obtain ⟨h3, h4⟩ := HW h1
 split at h2
 · rw [← h2]
   exact ⟨h3, F3 (Ix (k := p.2.length + 1) (by rw [Int.natAbs_neg]; exact KY h4)) (by omega)⟩
 · rw [← h2]
   exact ⟨h3, by omega⟩
abbrev pT : Nat := 113 * 100000 + 4
theorem itParts (s : F6) (hs : s.length ≤ 1000000) : PCalls Tryz.prog 126 [dS s] (.d (dIt Tryz.prog ((S9 s).map JH))) := by
 refine M0 Tryz.func126 V Tryz.ntmps126 Tryz.results126 fun B w0 => ?_
 refine E5 (yK (cs := [_]) V V (A9 V (E5 (Qj V (yAf V (yQ ?_)))))); refine pw_it1 2 1 ((S9 s).map JH) (ds := [dS s]) (MM s hs) V V V ?_; refine C4 ?_
 exact M8 V V
theorem wParseG (s : F6) (hs : s.length ≤ 65536) (SY : (S9 s).length ≤ 65537) (hpt : ∀ p ∈ S9 s, p.2.length ≤ 65536) : PCalls Tryz.prog 80 [dS s] (.tup [.sl 2 ((Nw s).map dCf), dI (Nx s)]) := by
 have t0 : decide ((s.length : Int) > 65536) = false := A7 (by omega)
 by_cases h0 : s = [48]
 · have t1 : (s == [48]) = true := by simp [h0]
   rw [Nw, Nx, B9 h0, B9 h0]
   refine M0 Tryz.func80 V Tryz.ntmps80 Tryz.results80 fun B w0 => ?_
   refine E5 (yZ (cs := [_]) V V (yZ (cs := [_]) V V (yQ (H2 V (O2 V (I3 V (B3 (O1 t0 V (B2 (H2 V (N7 V V (yQ (B3 (L8 t1 V (E5 (Y9 (cs' := [_]) V V V V (Y9 (cs' := [_]) V V V V (yQ (C4 (A6 ?_))))))))))))))))))))
   exact I9 _ (.onil 2 D4 V V (.one D4 V V V .nil)) V
 have t1 : (s == [48]) = false := by simp [h0]
 rw [Nw, Nx, B5 h0, B5 h0]
 have k1 := itParts s (by omega)
 obtain ⟨R, hR⟩ := I0 ((if OB s = true then (if 16 < (JL s).length then [] else nf (JL s)) else []))
 obtain ⟨E, hE⟩ : ∃ E : Int, E = (if OB s = true then (if 16 < (JL s).length then 4 else 0) else 3) := ⟨_, rfl⟩
 rw [← hR, ← hE]
 have hLl : ∀ i, (((S9 s).take i).filterMap Am).length ≤ 65537 := fun i => F3 (List.length_filterMap_le _ _) (by rw [E4]; omega)
 refine Dm Tryz.func80 V Tryz.ntmps80 Tryz.results80 (by simp) fun B w0 Ib => ?_
 refine E5 (yZ (cs := [_]) V V (yZ (cs := [_]) V V (yQ (H2 V (O2 V (I3 V (B3 (O1 t0 V (B2 (H2 V (N7 V V (yQ (B3 (O1 t1 V (B2 (E5 (yZ (cs := [_]) V V (yQ ?_)))))))))))))))))); refine Em 4 0 pT 2 V V V V ?_; refine H2 V (yC (k1) V V (yQ (B8 ?_))); refine Tu (st' := ⟨39, [(2, .bx 2 0), (3, .bx 3 0), (4, .bx 4 0), (15, .d (dIt Tryz.prog ((S9 s).map JH)))], [(2, [.d (.val (.slice none 0 0))]), (3, [.d (dI 0)]), (4, [.ts pT 2 ((((S9 s).take 0).filterMap Am).map dCf)])], [(pT, ((((S9 s).take 0).filterMap Am).map dCf).length)]⟩) ⟨rfl, ⟨F5, F5, F5, F5, D5⟩, ⟨⟨_, V, H6 _⟩, ⟨_, V, H6 _⟩, ⟨_, V, H6 _⟩, D5⟩, ⟨rfl, D5⟩, V⟩ ?_; refine pw_rf ((S9 s).map JH) [(5, 16), (6, 17)] (fun i => ∀ p ∈ (S9 s).take i, (Am p).isSome = true)
  (fun i => [(2, [.d (.val (.slice none 0 0))]), (3, [.d (dI 0)]), (4, [.ts pT 2 ((((S9 s).take i).filterMap Am).map dCf)])])
  (fun i => [(pT, ((((S9 s).take i).filterMap Am).map dCf).length)]) (fun p hp => by simp at hp) Ib rfl (fun x hx => by obtain ⟨p, -, rfl⟩ := G7.1 hx; rfl) rfl rfl (by decide) ?_ ?_
 · intro i x hx hI
   rw [C6, C7] at hx
   obtain ⟨⟨neg, t⟩, hp, rfl⟩ := hx
   refine ⟨[.any, .any, .bx 2 0, .bx 3 0, .bx 4 0, .d (dB neg), .d (dS t)], of_decide_eq_true V, .any (.any (.keep V (.refl _) (.keep V (.refl _) (.keep V (.refl _) (.new V V (.new V V .nil)))))), V, V, by kernel_rfl, fun B w0 => ?_⟩
   have htl := hpt _ (C0 hp)
   simp only at htl
   have k2 := Nh t (by omega)
   have hli := hLl i
   have Af : (S9 s).take (i + 1) = (S9 s).take i ++ [(neg, t)] := by rw [G8, hp]; rfl
   cases ht : TV t with
   | none =>
    rw [ht] at k2
    have hok : OB s = false := by
     rw [OB, List.all_eq_false]
     exact ⟨(neg, t), C0 hp, by simp [Am, ht]⟩
    rw [hok, B5 (by simp)] at hR hE
    subst hR hE
    obtain ⟨l, hl⟩ := I0 ((((S9 s).take i).filterMap Am).map dCf)
    rw [← hl]
    refine B8 (H9 V (yC (k2) V V (O6 V (yX V V (yX V V (yZ (cs := [_, _]) V V (yS (cs' := [_, _]) V V V V V (A9 V (H2 V (yU V V V (yQ (G4 V (E5 (Y9 (cs' := [_]) V V V V (Y9 (cs' := [_]) V V V V (yQ (C4 (A6 (C3 ?_)))))))))))))))))))
    exact ⟨[(2, [.d (.val (.slice none 0 0))]), (3, [.d (dI 3)]), (4, [.ts pT 2 l])], [(pT, l.length)], ⟨rfl, V, V, D5⟩, ⟨rfl, D5⟩, V, V, by kernel_rfl, I9 _ (.onil 2 D4 rfl rfl (.one D4 rfl rfl rfl .nil)) rfl⟩
   | some c =>
    obtain ⟨c0, c1⟩ := c
    rw [ht] at k2
    have DC := HW ht
    simp only at DC
    cases neg with
    | false =>
     have K9 : ((S9 s).take (i + 1)).filterMap Am = ((S9 s).take i).filterMap Am ++ [(c0, c1)] := by rw [Af, List.filterMap_append]; simp [Am, ht]
     have VW : ∀ p ∈ (S9 s).take (i + 1), (Am p).isSome = true := fun p Lc => by
      rw [Af] at Lc
      rcases List.mem_append.1 Lc with h | h
      · exact hI p h
      · rw [List.mem_singleton.1 h]; simp [Am, ht]
     obtain ⟨zs, hz⟩ := I0 (((S9 s).take i).filterMap Am)
     rw [← hz] at K9 hli ⊢
     clear hz
     refine B8 (H9 V (yC (k2) V V (O6 V (yX V V (yX V V (yZ (cs := [_, _]) V V (yS (cs' := [_, _]) V V V V V (A9 V (H2 V (yU V V V (yQ (F4 V (B2 (H2 V (yQ (F4 V (B2 (B6 (Qi V V V (Ab (ys := [_, _]) V V V V ?_)))))))))))))))))))); refine yR (es := [[_, _]]) V V V V V ?_; refine yT (es' := (zs ++ [(c0, c1)]).map dCf) (m := ((zs ++ [(c0, c1)]).map dCf).length) (by simp; omega) (by simp; omega) V V V V V (by simp) (by simp) ?_; refine ySt (cs' := [_]) V V V V (yQ (BT ?_))
     exact ⟨VW, ⟨rfl, V, (by rw [K9]; rfl), D5⟩, ⟨(by rw [K9]; rfl), D5⟩⟩
    | true =>
     have K9 : ((S9 s).take (i + 1)).filterMap Am = ((S9 s).take i).filterMap Am ++ [(c0, J7 (- val c1))] := by rw [Af, List.filterMap_append]; simp [Am, ht]
     have VW : ∀ p ∈ (S9 s).take (i + 1), (Am p).isSome = true := fun p Lc => by
      rw [Af] at Lc
      rcases List.mem_append.1 Lc with h | h
      · exact hI p h
      · rw [List.mem_singleton.1 h]; simp [Am, ht]
     have k3 := wNegT c1 (by omega)
     obtain ⟨zs, hz⟩ := I0 (((S9 s).take i).filterMap Am)
     obtain ⟨q, hq⟩ := I0 (J7 (- val c1))
     rw [← hz, ← hq] at K9
     rw [← hz] at hli ⊢
     rw [← hq] at k3
     clear hz hq
     refine B8 (H9 V (yC (k2) V V (O6 V (yX V V (yX V V (yZ (cs := [_, _]) V V (yS (cs' := [_, _]) V V V V V (A9 V (H2 V (yU V V V (yQ (F4 V (B2 (H2 V (yQ (G4 V (B6 (L1 V (yC (k3) V V (Bd V (Y9 (cs' := [_, _]) V V V V (yQ (B6 (Qi V V V (Ab (ys := [_, _]) V V V V ?_))))))))))))))))))))))))); refine yR (es := [[_, _]]) V V V V V ?_; refine yT (es' := (zs ++ [(c0, q)]).map dCf) (m := ((zs ++ [(c0, q)]).map dCf).length) (by simp; omega) (by simp; omega) V V V V V (by simp) (by simp) ?_; refine ySt (cs' := [_]) V V V V (yQ (BT ?_))
     exact ⟨VW, ⟨rfl, V, (by rw [K9]; rfl), D5⟩, ⟨(by rw [K9]; rfl), D5⟩⟩
 · intro hI
   rw [A8, I6] at hI
   have hok : OB s = true := D7.2 hI
   rw [hok, B9 rfl] at hR hE
   rw [A8, I6]
   show BM 0 _ .normal ⟨39, _, [(2, [.d (.val (.slice none 0 0))]), (3, [.d (dI 0)]), (4, [.ts pT 2 ((JL s).map dCf)])], [(pT, ((JL s).map dCf).length)]⟩
   have Lf : (JL s).length ≤ 65537 := by have := hLl (S9 s).length; rwa [I6] at this
   by_cases h3 : 16 < (JL s).length
   · have t2 : decide ((((JL s).map dCf).length : Int) > 16) = true := B1 (by rw [A8]; omega)
     rw [B9 h3] at hR hE
     subst hR hE
     obtain ⟨l, hl⟩ := I0 ((JL s).map dCf)
     rw [← hl] at t2 ⊢
     refine B0 (E5 (Qi V V V (yN V (I3 V (B3 (L8 t2 V (E5 (Y9 (cs' := [_]) V V V V (Y9 (cs' := [_]) V V V V (yQ (C4 (A6 ?_))))))))))))
     exact I9 _ (.onil 2 D4 V V (.one D4 V V V .nil)) V
   · have t2 : decide ((((JL s).map dCf).length : Int) > 16) = false := A7 (by rw [A8]; omega)
     rw [B5 h3] at hR hE
     subst hE
     have hm : ∀ c ∈ JL s, Cg c.1 = true ∧ c.2.length ≤ 70000 := fun c hc => by
      obtain ⟨p, hp, h4⟩ := List.mem_filterMap.1 hc
      have h5 := Eh h4
      have h6 := hpt p hp
      exact ⟨h5.1, by omega⟩
     have k4 := Lk (JL s) (by omega) (fun c hc => by have := Ps (hm c hc).1; omega) (fun c hc => (hm c hc).2)
     rw [← hR] at k4
     obtain ⟨l, hl⟩ := I0 ((JL s).map dCf)
     rw [← hl] at t2 k4 ⊢
     refine B0 (E5 (Qi V V V (yN V (I3 V (B3 (O1 t2 V (B2 (E5 (Qi V V V (yC (k4) V V (ySl (cs' := [_]) V V V V (Y9 (cs' := [_]) V V V V (yQ (C4 ?_))))))))))))))
     exact I9 _ (.one D4 V V V (.one D4 V V V .nil)) V
theorem wParse (s : F6) (hs : s.length ≤ 65536) : PCalls Tryz.prog 80 [dS s] (.tup [.sl 2 ((Nw s).map dCf), dI (Nx s)]) := by
 obtain ⟨SY, hpt⟩ := Tv s
 exact wParseG s (by omega) (by omega) fun p hp => F3 (hpt p hp) hs
abbrev Jl : Nat := 32
abbrev SU : Nat := 53
abbrev Dt (l : List Ru) : List (Int × List (List DV)) := l.map fun r => (r.1, r.2.map Aa)
def Ct (t : F6) : Option (List Cf) := if Nx t = 0 then some (Nw t) else none
def lnG (c : Bool) (out : List Ru) (t : F6) : Option (List Ru) :=
 if Bi 32 t && P1 J5 (S7 32 t) && !out.isEmpty then (Ct (Q6 32 t)).map fun e => LX (S7 32 t, c, e) out else none
def MRd (bo : Nat) (out : List Ru) (o : Option (List Ru)) (r : SV) (j : EI) : Prop := r = .d (dB o.isSome) ∧ RA j bo Jl SU (Dt (o.getD out))
theorem MRd.ok {bo : Nat} {out : List Ru} {o : Option (List Ru)} (r : SV) (j : EI) (h : MRd bo out o r j) : Bn r = true := by
 rw [h.1]; rfl
theorem hLine (c : Bool) (out : List Ru) (t : F6) (bo : Nat) (i : EI) (hi : RA i bo Jl SU (Dt out)) (ht : t.length ≤ 65536) (ho : out.length ≤ 100000) (JM : ∀ r ∈ out, r.2.length ≤ 100000) :
 HCE Tryz.prog 78 [dS t, .val (.pointer (some ⟨bo, 0, none⟩)), .ref [dB c]] i (MRd bo out (lnG c out t)) := by
 obtain ⟨Dp, BN, -⟩ := Y5 32 t
 have k1 := Lq t 32 (by omega)
 have k2 := wParse (Q6 32 t) (by omega)
 have k3 := Sz (S7 32 t) (by omega)
 obtain ⟨O, hO⟩ := I0 (lnG c out t)
 rw [← hO]
 unfold lnG Ct at hO
 obtain ⟨T, hT⟩ := I0 (S7 32 t)
 obtain ⟨R, hR⟩ := I0 (Q6 32 t)
 obtain ⟨b, hb⟩ := I0 (Bi 32 t)
 rw [← hT, ← hR, ← hb] at k1 hO
 rw [← hR] at k2
 rw [← hT] at k3
 obtain ⟨e, he⟩ := I0 (Nw R)
 obtain ⟨x, hx⟩ := I0 (Nx R)
 obtain ⟨tp, htp⟩ := I0 (P1 J5 T)
 rw [← he, ← hx] at k2 hO
 rw [← htp] at k3 hO
 clear hT hR hb he hx htp Dp BN
 have fail : O = none → MRd bo out O (.d (dB false)) ⟨i.bs, i.fs, none⟩ := fun h => by rw [h]; exact ⟨rfl, hi⟩
 obtain ⟨xs0, To, v, cells, h1, h2, h3, h4, h5⟩ := hi
 have Cy := h3.one
 cases b with
 | false =>
  have f1 := fail (by rw [hO]; simp)
  refine Z6 Tryz.func78 V Tryz.ntmps78 Tryz.results78 (by simp) fun p d0 => ?_
  refine K0 (A9 V (C5 (K0 (B4 V (C8 (yC (k1) V V (C8 (O6 V (C8 (yX V V (C8 (yX V V (C8 (yX V V (C8 (H5 V (C8 (H5 V (C8 (A9 V (C5 (K0 (B4 V (C8 (yC (k2) V V (C8 (O6 V (C8 (yX V V (C8 (yX V V (C8 (H5 V (C8 (A9 V (C5 (E7 (K0 (B4 V ?_))))))))))))))))))))))))))))))))))))))); refine C8 (yU V V V (C8 (B4 V (C8 (yO V (C8 (yO V (C8 (L2 V V (C8 (B4 V (C8 (yO V (C8 (yO V (C8 (yO V (C8 (L2 V V (C8 (B4 V (C8 (yO V (C8 (yO V (C8 (yO V (C8 (L2 V V (yQ (C5 (O7 V (K0 (A9 V (C5 (M1 (F7 ?_)))))))))))))))))))))))))))))))))))))
  exact L7 _ (.tmp V .nil) f1
 | true =>
 by_cases JC : x = 0
 rotate_left
 · have t1 : (x != 0) = true := by simp [JC]
   have f1 := fail (by rw [hO]; split <;> simp)
   refine Z6 Tryz.func78 V Tryz.ntmps78 Tryz.results78 (by simp) fun p d0 => ?_
   refine K0 (A9 V (C5 (K0 (B4 V (C8 (yC (k1) V V (C8 (O6 V (C8 (yX V V (C8 (yX V V (C8 (yX V V (C8 (H5 V (C8 (H5 V (C8 (A9 V (C5 (K0 (B4 V (C8 (yC (k2) V V (C8 (O6 V (C8 (yX V V (C8 (yX V V (C8 (H5 V (C8 (A9 V (C5 (E7 (K0 (B4 V ?_))))))))))))))))))))))))))))))))))))))); refine C8 (yU V V V (C8 (B4 V (C8 (B4 V (C8 (F9 V (C8 (L3 V V (C8 (B4 V (C8 ?_)))))))))))); rw [t1]; refine yO V (C8 (yO V (C8 (yO V (C8 (L2 V V (C8 (B4 V (C8 (yO V (C8 (yO V (C8 (yO V (C8 (L2 V V (yQ (C5 (O7 V (K0 (A9 V (C5 (M1 (F7 ?_))))))))))))))))))))))))
   exact L7 _ (.tmp V .nil) f1
 subst JC
 cases tp with
 | false =>
  have f1 := fail (by rw [hO]; simp)
  refine Z6 Tryz.func78 V Tryz.ntmps78 Tryz.results78 (by simp) fun p d0 => ?_
  refine K0 (A9 V (C5 (K0 (B4 V (C8 (yC (k1) V V (C8 (O6 V (C8 (yX V V (C8 (yX V V (C8 (yX V V (C8 (H5 V (C8 (H5 V (C8 (A9 V (C5 (K0 (B4 V (C8 (yC (k2) V V (C8 (O6 V (C8 (yX V V (C8 (yX V V (C8 (H5 V (C8 (A9 V (C5 (E7 (K0 (B4 V ?_))))))))))))))))))))))))))))))))))))))); refine C8 (yU V V V (C8 (B4 V (C8 (B4 V (C8 (F9 V (C8 (L3 V V (C8 (B4 V (C8 (B4 V (C8 (yC (k3) V V (C8 (yU V V V (C8 (L3 V V (C8 (B4 V (C8 (yO V (C8 (yO V (C8 (yO V (C8 (L2 V V (yQ (C5 (O7 V (K0 (A9 V (C5 (M1 (F7 ?_)))))))))))))))))))))))))))))))))))))
  exact L7 _ (.tmp V .nil) f1
 | true =>
 rcases List.eq_nil_or_concat out with rfl | ⟨l', r, rfl⟩
 · have f1 := fail (by rw [hO]; simp)
   have hv : v = .slice none 0 0 := RowAt.zero h3
   subst hv
   refine Z6 Tryz.func78 V Tryz.ntmps78 Tryz.results78 (by simp) fun p d0 => ?_
   refine K0 (A9 V (C5 (K0 (B4 V (C8 (yC (k1) V V (C8 (O6 V (C8 (yX V V (C8 (yX V V (C8 (yX V V (C8 (H5 V (C8 (H5 V (C8 (A9 V (C5 (K0 (B4 V (C8 (yC (k2) V V (C8 (O6 V (C8 (yX V V (C8 (yX V V (C8 (H5 V (C8 (A9 V (C5 (E7 (K0 (B4 V ?_))))))))))))))))))))))))))))))))))))))); refine C8 (yU V V V (C8 (B4 V (C8 (B4 V (C8 (F9 V (C8 (L3 V V (C8 (B4 V (C8 (B4 V (C8 (yC (k3) V V (C8 (yU V V V (C8 (L3 V V (C8 (B4 V (yQ ?_)))))))))))))))))))))); refine P7 ?_; refine W6 V h1 h2 Cy ?_; refine L5 (yNv V (C8 (F9 V (C8 (L3 V V (yQ (C5 (O7 V (K0 (A9 V (C5 (M1 (F7 ?_)))))))))))))
   exact L7 _ (.tmp V .nil) f1
 rw [List.concat_eq_append] at hO ho JM fail h3 h5 ⊢
 have hOs : O = some (l' ++ [(r.1, r.2 ++ [(T, c, e)])]) := by
  have O4 : (l' ++ [r]).isEmpty = false := by cases l' <;> rfl
  rw [hO, O4]
  exact G6 some (CG _ _ _)
 have hen : (Dt (l' ++ [r])).length = l'.length + 1 := by simp
 obtain ⟨br, cp, xs, rfl, x2, x3, x1, x4, x5⟩ := h3.pos (by rw [hen]; omega)
 rw [hen] at h2 x2 x5 h5 h4 Cy
 have Mg : ((l'.length + 1 : Nat) : Int) ≠ 0 := by omega
 have t1 : (((l'.length + 1 : Nat) : Int) == 0) = false := G2 Mg
 have hw : IntKind.i64.wrap (((l'.length + 1 : Nat) : Int) - 1) = (l'.length : Int) := by
  rw [D3] at ho
  simp only [List.length_cons, List.length_nil] at ho
  rw [J0 _ (by omega)]; omega
 have Ie : 0 + ((l'.length : Int)).toNat * 2 = l'.length * 2 := by rw [H0]; omega
 have hlt : (l'.length : Int) < ((l'.length + 1 : Nat) : Int) := by omega
 have DC : cells.length = (l'.length + 1) * 2 := by rw [← x5, E4]; omega
 have OZ : Dt (l' ++ [r]) = Dt l' ++ [(r.1, r.2.map Aa)] := by simp
 rw [OZ] at h5
 have FV : (Dt l').length = l'.length := by simp
 have X3 : (Dt l' ++ [(r.1, r.2.map Aa)])[l'.length]? = some (r.1, r.2.map Aa) := by rw [E3 (by omega), FV, Nat.sub_self]; rfl
 obtain ⟨-, lv, lc, q1, q2, q3, q4⟩ := h5.1 _ _ X3
 have Mh := q2.one
 have hu : xs[l'.length * 2 + 1]? = some lv := by
  rw [← x5] at q1
  have := (A5.1 q1).1
  rw [E4] at this
  rwa [E0 (by omega)] at q1
 have GQ : br ≠ bo := fun e => h4 (by rw [e]; rfl)
 have Ib : r.2.length ≤ 100000 := JM r (by simp)
 have GO : l'.length * 2 + 1 + 1 ≤ xs.length := by omega
 simp only at q2 q4
 rw [A8] at q2
 have JR : ∀ (b' : Nat) (bs' : EB), (lv.ownBlock = some b' ∨ G1 i.bs b' = none) → (∀ b, b ≠ b' → lv.ownBlock ≠ some b → G1 bs' b = G1 i.bs b) → G1 bs' br = some (xs, Jl) := fun b' bs' w3 w4 => by
  have h6 : lv.ownBlock ≠ some br := fun e => (q3 br e).2 rfl
  have h7 : br ≠ b' := fun e => by
   rcases w3 with w3 | w3
   · exact h6 (e ▸ w3)
   · rw [← e, x1] at w3; cases w3
  rw [w4 br h7 h6]
  exact x1
 have done : ∀ (v' : Value) (b' : Nat) (bs' : EB) (news vs : List Value), v'.ownBlock = some b' → RowAt bs' SU 3 v' (r.2.length + 1) (lc ++ news) → (lv.ownBlock = some b' ∨ G1 i.bs b' = none) → (∀ b, b ≠ b' → lv.ownBlock ≠ some b → G1 bs' b = G1 i.bs b) → news.length = 3 → (∀ u ∈ news, u.oneCell' = true) → vs.length = 1 → Na vs [.val v'] →
  MRd bo (l' ++ [r]) O (.d (dB true)) ⟨(br, (Bl xs (l'.length * 2 + 1) vs, Jl)) :: bs', vs.zip [.val v'] ++ (news.zip [dS T, dB c, .sl 2 (e.map dCf)] ++ i.fs), none⟩ := fun v' b' bs' news vs w1 w2 w3 w4 w5 w6 w7 w8 => by
  have EL := RA.line (i := i) (bo := bo) (br := br) (Er := Jl) (El := SU) (To := To) (c := cp) (b' := b') (rs := Dt l') (r := (r.1, r.2.map Aa)) (e := [dS T, dB c, .sl 2 (e.map dCf)]) (xs0 := xs0) (xs := xs) (vs := vs) (news := news) (cells := cells) (lc := lc) (lv := lv) (v' := v') (bs' := bs') (fs' := vs.zip [.val v'] ++ (news.zip [dS T, dB c, .sl 2 (e.map dCf)] ++ i.fs)) (it' := none)
   h1 (by rw [FV]; exact h2) GQ (by rw [FV]; exact h5) (by rw [FV]; exact DC) x1 (by rw [FV]; exact x2) x3 x4 (by rw [FV]; exact x5) (by rw [FV]; exact q1) (by simpa using q2) (fun m l hm => q4 m l hm) w1 (by simpa using w2) w3 w4 w5 rfl w6 w7 w8 (fun q hq => by simp [hq]) (fun q hq => List.mem_append_right _ (List.mem_append_left _ hq))
  rw [FV] at EL
  rw [hOs]
  refine ⟨rfl, ?_⟩
  have e3 : Dt ((some (l' ++ [(r.1, r.2 ++ [(T, c, e)])])).getD (l' ++ [r])) = Dt l' ++ [(r.1, r.2.map Aa ++ [[dS T, dB c, .sl 2 (e.map dCf)]])] := by simp [Dt]
  rw [e3]
  exact EL
 clear fail hO hOs h5 q4 JM X3 OZ FV
 refine Z6 Tryz.func78 V Tryz.ntmps78 Tryz.results78 (by simp) fun p d0 => ?_
 refine T3 (Ax 2 V) ?_; refine K0 (A9 V (C5 (K0 (B4 V (C8 (yC (k1) V V (C8 (O6 V (C8 (yX V V (C8 (yX V V (C8 (yX V V (C8 (H5 V (C8 (H5 V (C8 (A9 V (C5 (K0 (B4 V (C8 (yC (k2) V V (C8 (O6 V (C8 (yX V V (C8 (yX V V (C8 (H5 V (C8 (A9 V (C5 (E7 (K0 (B4 V ?_))))))))))))))))))))))))))))))))))))))); refine C8 (yU V V V (C8 (B4 V (C8 (B4 V (C8 (F9 V (C8 (L3 V V (C8 (B4 V (C8 (B4 V (C8 (yC (k3) V V (C8 (yU V V V (C8 (L3 V V (C8 (B4 V (yQ ?_)))))))))))))))))))))); refine P7 ?_; refine W6 V h1 h2 Cy ?_; refine L5 (yNv V (C8 (F9 V (C8 (L3 V V (yQ (C5 (O5 V (H7 (E7 (N2 ?_))))))))))); refine P7 ?_; refine W6 V h1 h2 Cy ?_; refine P7 ?_; refine W6 V h1 h2 Cy ?_; refine L5 (yNv V (C8 (F9 V (C8 ?_)))); rw [t1]; rw [hw]
 refine Nb Ie (by omega) hlt V V (C8 (A9 V (C5 (E7 ?_)))); refine UB Tryz.mixed ?_
 refine T8 0 V V V (by kernel_rfl) (X4 V) ?_
 refine T8 1 V V V (by kernel_rfl) (X4 V) ?_
 refine T8 2 V V V (by kernel_rfl) (held_nc V) ?_
 refine T8 3 V V V (by kernel_rfl) (QJ V) ?_
 refine T8 5 V V V (by kernel_rfl) (X4 V) ?_
 refine T8 7 V V V (by kernel_rfl) (X4 V) ?_
 refine J3 [4, 6] V V ⟨⟨_, V, ?_⟩, ⟨_, V, ?_⟩, D5⟩
 · refine W6 V x1 hu Mh ?_; refine J3 [_] V V ⟨⟨_, V, ?_⟩, D5⟩; refine L5 (K8 V V (yQ (C5 ?_))); refine J3 [_] V V ⟨⟨_, V, ?_⟩, D5⟩; refine L5 ?_
   refine yG (ys := [_, _, _]) V V (yQ (C5 ?_)); refine J3 [_] V V ⟨⟨_, V, ?_⟩, D5⟩; refine L5 ?_; refine yR (es := [[_, _, _]]) V V V V V ?_; refine yQ (C5 ?_)
   refine J3 [_] V V ⟨⟨_, V, ?_⟩, D5⟩; refine Cr q2 V V (by omega) (by omega) (fun v' b' bs' news w1 w2 w3 w4 w5 w6 w0 w10 => ?_); refine J3 [_] V V ⟨⟨_, V, ?_⟩, D5⟩; refine L5 ?_
   refine yXv V (yQ (C5 ?_)); refine J3 [_] V V ⟨⟨_, V, ?_⟩, D5⟩; refine L5 (yFv V (yQ (C5 ?_))); refine J3 [_] V V ⟨⟨_, V, ?_⟩, D5⟩
   refine Cs (ds := [.val v']) V (JR b' bs' w3 w4) V V GO (fun vs w7 w9 w8 => ?_); refine CO V ?_; refine K0 (A9 V (C5 (M1 ?_)))
   exact L7 _ (.tmp V .nil) (done v' b' bs' news vs w1 w2 w3 w4 w5 w6 w7 w8)
 · refine L5 (K8 V V (yQ (C5 ?_)))
   refine J3 [4, 8] V V ⟨⟨_, V, ?_⟩, ⟨_, V, ?_⟩, D5⟩
   · refine W6 V x1 hu Mh ?_; refine J3 [_] V V ⟨⟨_, V, ?_⟩, D5⟩; refine L5 (yG (ys := [_, _, _]) V V (yQ (C5 ?_))); refine J3 [_] V V ⟨⟨_, V, ?_⟩, D5⟩
     refine L5 ?_; refine yR (es := [[_, _, _]]) V V V V V ?_; refine yQ (C5 ?_); refine J3 [_] V V ⟨⟨_, V, ?_⟩, D5⟩
     refine Cr q2 V V (by omega) (by omega) (fun v' b' bs' news w1 w2 w3 w4 w5 w6 w0 w10 => ?_); refine J3 [_] V V ⟨⟨_, V, ?_⟩, D5⟩; refine L5 (yXv V (yQ (C5 ?_)))
     refine J3 [_] V V ⟨⟨_, V, ?_⟩, D5⟩; refine L5 (yFv V (yQ (C5 ?_))); refine J3 [_] V V ⟨⟨_, V, ?_⟩, D5⟩
     refine Cs (ds := [.val v']) V (JR b' bs' w3 w4) V V GO (fun vs w7 w9 w8 => ?_); refine CO V ?_; refine K0 (A9 V (C5 (M1 ?_)))
     exact L7 _ (.tmp V .nil) (done v' b' bs' news vs w1 w2 w3 w4 w5 w6 w7 w8)
   · refine L5 (yG (ys := [_, _, _]) V V (yQ (C5 ?_)))
     refine J3 [4, 9] V V ⟨⟨_, V, ?_⟩, ⟨_, V, ?_⟩, D5⟩
     · refine W6 V x1 hu Mh ?_; refine J3 [_] V V ⟨⟨_, V, ?_⟩, D5⟩; refine L5 ?_; refine yR (es := [[_, _, _]]) V V V V V ?_; refine yQ (C5 ?_)
       refine J3 [_] V V ⟨⟨_, V, ?_⟩, D5⟩; refine Cr q2 V V (by omega) (by omega) (fun v' b' bs' news w1 w2 w3 w4 w5 w6 w0 w10 => ?_); refine J3 [_] V V ⟨⟨_, V, ?_⟩, D5⟩; refine L5 ?_
       refine yXv V (yQ (C5 ?_)); refine J3 [_] V V ⟨⟨_, V, ?_⟩, D5⟩; refine L5 (yFv V (yQ (C5 ?_))); refine J3 [_] V V ⟨⟨_, V, ?_⟩, D5⟩
       refine Cs (ds := [.val v']) V (JR b' bs' w3 w4) V V GO (fun vs w7 w9 w8 => ?_); refine CO V ?_; refine K0 (A9 V (C5 (M1 ?_)))
       exact L7 _ (.tmp V .nil) (done v' b' bs' news vs w1 w2 w3 w4 w5 w6 w7 w8)
     · refine L5 ?_; refine yR (es := [[_, _, _]]) V V V V V ?_; refine yQ (C5 ?_); refine J3 [_] V V ⟨⟨_, V, ?_⟩, D5⟩; refine W6 V x1 hu Mh ?_
       refine J3 [_] V V ⟨⟨_, V, ?_⟩, D5⟩; refine Cr q2 V V (by omega) (by omega) (fun v' b' bs' news w1 w2 w3 w4 w5 w6 w0 w10 => ?_); refine J3 [_] V V ⟨⟨_, V, ?_⟩, D5⟩; refine L5 ?_
       refine yXv V (yQ (C5 ?_)); refine J3 [_] V V ⟨⟨_, V, ?_⟩, D5⟩; refine L5 (yFv V (yQ (C5 ?_))); refine J3 [_] V V ⟨⟨_, V, ?_⟩, D5⟩
       refine Cs (ds := [.val v']) V (JR b' bs' w3 w4) V V GO (fun vs w7 w9 w8 => ?_); refine CO V ?_; refine K0 (A9 V (C5 (M1 ?_)))
       exact L7 _ (.tmp V .nil) (done v' b' bs' news vs w1 w2 w3 w4 w5 w6 w7 w8)
instance mapTyKnd : MapTy Tryz.prog 98 := ⟨⟨3, 97, by kernel_rfl⟩⟩
def onG (out : List Ru) (t : F6) : Option (List Ru) := (EE t).map fun k => out ++ [(k.1, [])]
theorem Um {k : Value} {v : DV} (h : (k, v) ∈ U8 Bt) : ∃ kk ∈ kndL, k = vI kk.1 ∧ v = .agg (SK kk.2) := by
 obtain ⟨p, hp, e⟩ := G7.1 h
 obtain ⟨kk, hk, rfl⟩ := G7.1 hp
 cases e
 exact ⟨kk, hk, V, V⟩
theorem kndM_in {kk : ST} (h : kk ∈ kndL) : (vI kk.1, .agg (SK kk.2)) ∈ U8 Bt := G7.2 ⟨(kk.1, .agg (SK kk.2)), G7.2 ⟨kk, h, rfl⟩, rfl⟩
theorem Rj {t : F6} (h : ∀ k ∈ kndL, k.2.1 ≠ t) : EE t = none := by
 cases e : EE t with
 | none => rfl
 | some k => obtain ⟨h1, h2⟩ := Fk e; exact G5 h2 (h k h1)
theorem knd_inj {a b : ST} (ha : a ∈ kndL) (hb : b ∈ kndL) (h : vI a.1 = vI b.1) : a = b := by
 have h1 : a.1 = b.1 := by injection h
 have h2 := Ey ha
 have h3 := Ey hb
 rw [h1, h3] at h2
 exact (I7 h2).symm
def WG (t : F6) (dn : List (Value × DV)) : Prop := (∃ rl, (dn ++ rl).Perm (U8 Bt)) ∧ ∀ kk ∈ kndL, (vI kk.1, DV.agg (SK kk.2)) ∈ dn → kk.2.1 ≠ t
theorem hOn (out : List Ru) (t : F6) (bo : Nat) (i : EI) (hi : RA i bo Jl SU (Dt out)) (ho : out.length ≤ 100000) :
 HCE Tryz.prog 82 [dS t, .val (.pointer (some ⟨bo, 0, none⟩))] i (MRd bo out (onG out t)) := by
 have k0 := Hq
 have Z4 : ∀ q ∈ U8 Bt, q.1.oneCell' = true := fun q hq => by obtain ⟨p, -, rfl⟩ := G7.1 hq; rfl
 have Ig : ∀ (k : Value) (v : DV), (k, v) ∈ U8 Bt → ∃ kk ∈ kndL, k = vI kk.1 ∧ v = .agg (SK kk.2) := fun k v h => Um h
 have Cb : ∀ kk ∈ kndL, (vI kk.1, .agg (SK kk.2)) ∈ U8 Bt := fun kk h => kndM_in h
 obtain ⟨O, hO⟩ := I0 (onG out t)
 rw [← hO]
 unfold onG at hO
 have fail : O = none → ∀ it, MRd bo out O (.d (dB false)) ⟨i.bs, i.fs, it⟩ := fun h it => by rw [h]; exact ⟨rfl, hi⟩
 obtain ⟨xs0, To, v, cells, h1, h2, h3, h4, h5⟩ := hi
 have Cy := h3.one
 have DC := h3.1
 have FV : (Dt out).length = out.length := by simp
 rw [FV] at h3 DC
 have Mn : 0 + 1 ≤ xs0.length := by have := (A5.1 h2).1; omega
 have JR : ∀ (b' : Nat) (bs' : EB), (v.ownBlock = some b' ∨ G1 i.bs b' = none) → (∀ b, b ≠ b' → v.ownBlock ≠ some b → G1 bs' b = G1 i.bs b) → G1 bs' bo = some (xs0, To) := fun b' bs' w3 w4 => by
  have h7 : bo ≠ b' := fun e => by
   rcases w3 with w3 | w3
   · exact h4 (e ▸ w3)
   · rw [← e, h1] at w3; cases w3
  rw [w4 bo h7 h4]
  exact h1
 have done : ∀ (n : Int) (it : Option (Nat × List (Value × DV) × List (Value × DV))) (v' : Value) (b' : Nat) (bs' : EB) (news vs : List Value), O = some (out ++ [(n, [])]) → v'.ownBlock = some b' → RowAt bs' Jl 2 v' (out.length + 1) (cells ++ news) → (v.ownBlock = some b' ∨ G1 i.bs b' = none) → (∀ b, b ≠ b' → v.ownBlock ≠ some b → G1 bs' b = G1 i.bs b) → news.length = 2 → Na news [.val (vI n), .val (.slice none 0 0)] → vs.length = 1 → Na vs [.val v'] →
  MRd bo out O (.d (dB true)) ⟨(bo, (Bl xs0 0 vs, To)) :: bs', vs.zip [.val v'] ++ (news.zip [.val (vI n), .val (.slice none 0 0)] ++ i.fs), it⟩ := fun n it v' b' bs' news vs hOs w1 w2 w3 w4 w5 w6 w7 w8 => by
  have EL := RA.push (i := i) (bo := bo) (Er := Jl) (El := SU) (To := To) (b' := b') (rs := Dt out) (xs0 := xs0) (vs := vs) (news := news) (cells := cells) (v := v) (v' := v') (bs' := bs') (fs' := vs.zip [.val v'] ++ (news.zip [.val (vI n), .val (.slice none 0 0)] ++ i.fs)) (it' := it) (n := n)
   h1 h2 h4 h5 (by rw [FV]; exact DC) w1 (by rw [FV]; exact w2) w3 w4 w5 w6 w7 w8 (fun q hq => by simp [hq])
  rw [hOs]
  refine ⟨rfl, ?_⟩
  have e3 : Dt ((some (out ++ [(n, [])])).getD out) = Dt out ++ [(n, [])] := by simp [Dt]
  rw [e3]
  exact EL
 clear h5 DC
 obtain ⟨M, hM⟩ := I0 (U8 Bt)
 have hsw : WG t = fun dn => (∃ rl, (dn ++ rl).Perm M) ∧ ∀ kk ∈ kndL, (vI kk.1, DV.agg (SK kk.2)) ∈ dn → kk.2.1 ≠ t := by rw [hM]; rfl
 rw [← hM] at k0 Z4 Ig Cb
 refine Z6 Tryz.func82 V Tryz.ntmps82 Tryz.results82 (by simp) fun p d0 => ?_
 refine K0 (A9 V (C5 (E7 (K0 (yC (k0) V V (yQ ?_)))))); refine Tx V fun r => ?_; refine K7 ?_; refine Jr (fun dn : List (Value × DV) => ⟨22, [(0, .d (dS t)), (1, .d (.val (.pointer (some ⟨bo, 0, none⟩)))), (7, .d (.val (.pointer (some ⟨r, 0, none⟩))))], [], []⟩) (fun dn => ⟨i.bs, i.fs, some (r, M, dn)⟩) (fun dn => WG t dn) (fun dn => M.length - dn.length) [] ⟨⟨_, List.Perm.refl _⟩, fun q _ hq => by simp at hq⟩ rfl
  ⟨rfl, ⟨F5, F5, F5, D5⟩, D5, D5, rfl⟩ ?_
 intro dn QL
 rw [hsw] at QL
 obtain ⟨⟨rl0, hp0⟩, hz⟩ := QL
 refine E7 (N2 ?_); refine P7 (Ty V V (fun hp => ?_) (fun kk v' rl hq hp hk1 => ?_) Z4); refine L5 (yX V V (yQ (C5 (E7 (O5 V (R4 (K0 (A9 V (C5 (M1 ?_))))))))))
 · have hOn : O = none := by
    rw [hO, Rj fun k hk => hz k hk (hp.mem_iff.2 (Cb k hk))]; rfl
   have f1 := fail hOn (some (r, M, dn))
   skip
   exact L7 _ (.tmp V .nil) f1
 · obtain ⟨⟨n, w, ns, sg⟩, hk, rfl, rfl⟩ := Ig kk v' hq
   have hlen := hp.length_eq
   rw [D3, List.length_cons] at hlen
   by_cases hw : w = t
   · have t1 : (w == t) = true := by simp [hw]
     have hOs : O = some (out ++ [(n, [])]) := by
      rw [hO, ← hw, Ul hk]; rfl
     clear hO fail hz hp0 hsw Ig Cb Z4
     refine L5 (yX V V (yQ (C5 (E7 (O7 V (H7 (K7 (E7 (N2 ?_))))))))); refine P7 (Kq V (List.getLast?_concat ..) V V ?_); refine L5 (yX V V (C8 (yX V V (C8 (yZ (cs := [_, _, _]) V V (C8 (H5 V (C8 (yS (cs' := [_, _, _]) V V V V V (yQ (C5 (K0 (Bd V (C8 (AQ V V V (C8 (B4 V (C8 (N7 V V (yQ (C5 (I4 ?_)))))))))))))))))))))); rw [t1]
     refine O7 V (E7 (N2 ?_)); refine P7 ?_; refine W6 V h1 h2 Cy ?_; refine L5 (B4 V (C8 (yG (ys := [_, _]) V V (C8 ?_)))); refine yR (es := [[_, _]]) V V V V V ?_; refine yQ ?_; refine P7 ?_; refine Cr h3 V V (by omega) (by omega) (fun v' b' bs' news w1 w2 w3 w4 w5 w6 w0 w10 => ?_); refine Cs (ds := [.val v']) V (JR b' bs' w3 w4) V V Mn (fun vs w7 w9 w8 => ?_); refine K0 (A9 V (C5 (M1 (K1 (F7 (K1 (F7 ?_)))))))
     exact L7 _ (.tmp V .nil) (done n _ v' b' bs' news vs hOs w1 w2 w3 w4 w5 w0 w7 w8)
   · have t1 : (w == t) = false := by simp [hw]
     have HA : WG t (dn ++ [(vI n, .agg (SK (w, ns, sg)))]) := by
      rw [hsw]
      refine ⟨⟨rl, by rw [G9]; exact hp⟩, fun k VK hm => ?_⟩
      rcases List.mem_append.1 hm with hm | hm
      · exact hz k VK hm
      · have e1 := G6 Prod.fst (List.mem_singleton.1 hm)
        have := knd_inj VK hk e1
        rw [this]; exact hw
     clear hO fail hp0 hsw Ig Cb done
     refine L5 (yX V V (yQ (C5 (E7 (O7 V (H7 (K7 (E7 (N2 ?_))))))))); refine P7 (Kq V (List.getLast?_concat ..) V V ?_); refine L5 (yX V V (C8 (yX V V (C8 (yZ (cs := [_, _, _]) V V (C8 (H5 V (C8 (yS (cs' := [_, _, _]) V V V V V (yQ (C5 (K0 (Bd V (C8 (AQ V V V (C8 (B4 V (C8 (N7 V V (yQ (C5 (I4 ?_)))))))))))))))))))))); rw [t1]
     refine O5 V (H7 (Tr (I4 ?_)))
     exact ⟨dn ++ [(vI n, .agg (SK (w, ns, sg)))], HA, by rw [D3]; simp only [List.length_cons, List.length_nil]; omega, ⟨rfl, ⟨F5, F5, F5, D5⟩, D5, D5, rfl⟩, rfl⟩
theorem TD (c : Bool) (bo : Nat) : PCalls Tryz.prog 77 [dB c, .val (.pointer (some ⟨bo, 0, none⟩))] (.d (dH 78 [.val (.pointer (some ⟨bo, 0, none⟩)), .ref [dB c]])) := by
 refine M0 Tryz.func77 V Tryz.ntmps77 Tryz.results77 fun B w0 => ?_
 refine E5 (yK (cs := [_]) V V (A9 V ?_)); refine S8 (GC 2 2 V V V) ?_; refine E5 (yMh V (A9 V (C4 ?_)))
 exact M8 V V
def AK (r : Ru) : Bool := decide (64 < r.2.length)
theorem QO : ∀ xs r, phR AK xs r → PCalls Tryz.prog 84 (xs ++ ([] : List (List DV)).map DV.ref) r := by
 rintro _ _ ⟨⟨n, ls⟩, rfl, rfl⟩
 show PCalls Tryz.prog 84 [.agg (AE (n, ls))] (.d (dB (decide (64 < ls.length))))
 have t1 : decide (((ls.map Aa).length : Int) > 64) = decide (64 < ls.length) := by rw [A8]; exact decide_eq_decide.2 (by omega)
 obtain ⟨b, hb⟩ := I0 (decide (64 < ls.length))
 rw [← hb] at t1 ⊢
 refine M0 Tryz.func84 V Tryz.ntmps84 Tryz.results84 fun B w0 => ?_
 refine E5 (yK (cs := [_, _]) V V (A9 V (E5 (L1 V (yN V (F9 V (A9 V (C4 ?_)))))))); rw [t1]
 exact M8 V V
instance hMf : MapOf Tryz.prog 122 (.val .nilFunc) := ⟨⟨9, 86, by kernel_rfl, by kernel_rfl, fun w => ⟨.nilFunc, by kernel_rfl, fun F w' => DRep.val _ rfl⟩⟩⟩
abbrev pvO (b : Nat) : Value := .pointer (some ⟨b, 0, none⟩)
abbrev rdOn (b : Nat) : DV := dH 82 [.val (pvO b)]
abbrev rdLn (b : Nat) (c : Bool) : DV := dH 78 [.val (pvO b), .ref [dB c]]
def rdM (b : Nat) : List (F6 × DV) := [(Jp, rdOn b), (S0, rdLn b false), (N8, rdLn b true)]
theorem rdM_get (b : Nat) (w : F6) : Ev (.val .nilFunc) w (rdM b) = if w = Jp then rdOn b else if w = S0 then rdLn b false else if w = N8 then rdLn b true else .val .nilFunc := by
 unfold rdM
 simp only [Ev]
 by_cases h1 : w = Jp
 · rw [B9 h1.symm, B9 h1]
 · rw [B5 (Ne.symm h1), B5 h1]
   by_cases h2 : w = S0
   · rw [B9 h2.symm, B9 h2]
   · rw [B5 (Ne.symm h2), B5 h2]
     by_cases h3 : w = N8
     · rw [B9 h3.symm, B9 h3]
     · rw [B5 (Ne.symm h3), B5 h3]
theorem Tn (x y : DV) : BF S0 y [(Jp, x)] = [(Jp, x), (S0, y)] := by
 rw [BF, B5 (by decide)]; rfl
theorem Tm (x y z : DV) : BF N8 z [(Jp, x), (S0, y)] = [(Jp, x), (S0, y), (N8, z)] := by
 rw [BF, B5 (by decide), BF, B5 (by decide)]; rfl
theorem Rg (out : List Ru) (s : F6) : Dn (P1 J5) Ct out s = if S7 32 s = Jp then onG out (Q6 32 s) else if S7 32 s = S0 then lnG false out (Q6 32 s) else if S7 32 s = N8 then lnG true out (Q6 32 s) else none := by
 unfold Dn onG lnG
 by_cases h1 : S7 32 s = Jp
 · rw [B9 h1, B9 h1]
 · rw [B5 h1, B5 h1]
   by_cases h2 : S7 32 s = S0
   · rw [B9 (.inl h2), B9 h2]
     have : decide (S7 32 s = N8) = false := A7 (by rw [h2]; decide)
     rw [this]
   · rw [B5 h2]
     by_cases h3 : S7 32 s = N8
     · rw [B9 (.inr h3), B9 h3, B1 h3]
     · rw [B5 (by rintro (h | h); exact h2 h; exact h3 h), B5 h3]
def PD (k : Nat) (l : List Ru) : Prop := l.length ≤ k ∧ ∀ r ∈ l, r.2.length ≤ k
theorem onG_bd {k : Nat} {out o : List Ru} {t : F6} (h : onG out t = some o) (hb : PD k out) : PD (k + 1) o := by
 unfold onG at h
 rw [C7] at h
 obtain ⟨kk, -, rfl⟩ := h
 refine ⟨by have := hb.1; simp; omega, fun r hr => ?_⟩
 rcases List.mem_append.1 hr with hr | hr
 · exact Nat.le_succ_of_le (hb.2 r hr)
 · rw [List.mem_singleton.1 hr]; simp
theorem Ud {c : Bool} {k : Nat} {out o : List Ru} {t : F6} (h : lnG c out t = some o) (hb : PD k out) : PD (k + 1) o := by
 unfold lnG at h
 split at h
 · rename_i hc
   rw [C7] at h
   obtain ⟨e, -, rfl⟩ := h
   rcases List.eq_nil_or_concat out with rfl | ⟨l', r, rfl⟩
   · simp at hc
   · rw [List.concat_eq_append] at hb ⊢
     rw [CG]
     refine ⟨by have := hb.1; simp at this ⊢; omega, fun q hq => ?_⟩
     rcases List.mem_append.1 hq with hq | hq
     · exact Nat.le_succ_of_le (hb.2 q (by simp [hq]))
     · have := hb.2 r (by simp)
       rw [List.mem_singleton.1 hq]; simp; omega
 · cases h
theorem FN (l : List Ru) : ((Dt l).map fun r => ([.val (vI r.1), .sl 3 r.2] : List DV)) = l.map AE := by
 rw [List.map_map]; rfl
abbrev pjS (L : List F6) (b k : Nat) : PS := ⟨72, [(5, .d (.sl 1 (L.map fun t => [dS t]))), (6, .d (.val (pvO b))), (8, .d (.mp (Q8 (rdM b)))), (28, .d (.sl 1 (L.map fun t => [dS t]))), (29, .d (dI L.length)), (30, .d (dI k))], [], []⟩
theorem HS (s : F6) : PCalls Tryz.prog 37 [dS s] (.tup [Q5 (Ce (P1 J5) Ct s).1, dI (Ce (P1 J5) Ct s).2.1, dI (Ce (P1 J5) Ct s).2.2]) := by
 obtain ⟨⟨R1, R2, R3⟩, hR⟩ := I0 (Ce (P1 J5) Ct s)
 rw [← hR]
 unfold Ce at hR
 by_cases h0 : 65536 < s.length
 · have t0 : decide ((s.length : Int) > 65536) = true := B1 (by omega)
   rw [B9 h0] at hR
   cases hR
   refine M0 Tryz.func37 V Tryz.ntmps37 Tryz.results37 fun B w0 => ?_
   refine E5 (H5 V (H5 V (A9 V (H2 V (O2 V (I3 V (B3 (L8 t0 V (E5 (H5 V (H5 V (A9 V (C4 (A6 ?_))))))))))))))
   exact I9 _ (.tnil 2 V (.tmp V (.tmp V .nil))) V
 have t0 : decide ((s.length : Int) > 65536) = false := A7 (by omega)
 rw [B5 h0] at hR
 have k1 := Sm s 10 (by omega)
 have Lf := Ej 10 s
 have QH := Av 10 s
 have O4 := Kb 10 s
 obtain ⟨L, hL⟩ := I0 (S5 10 s)
 rw [← hL] at k1 hR Lf QH O4
 have hL1 : 1 ≤ L.length := by cases L with | nil => exact G5 rfl O4 | cons _ _ => simp
 obtain ⟨⟨RO, RN⟩, hG⟩ := I0 (GY (Dn (P1 J5) Ct) 0 [] L)
 rw [← hG] at hR
 clear hL O4
 refine P4 Tryz.func37 V Tryz.ntmps37 Tryz.results37 (by simp) fun p d0 hex => ?_
 refine K0 (H5 V (C8 (H5 V (C8 (A9 V (C5 (E7 (K0 (B4 V (C8 (O2 V (C8 (I3 V (C5 (I4 ?_))))))))))))))); rw [t0]
 refine O5 V (H7 (K0 (B4 V (C8 (yC (k1) V V (C8 (A9 V (C5 (K0 (yZ (cs := [_]) V V (yQ (C5 ?_)))))))))))); refine Pc 6 6 (vs := [.slice none 0 0]) V V fun b xs T h1 h2 => ?_; refine K0 (yMh V (C8 (A9 V (C5 (K0 (yKm V (C8 (yMh V (C8 (yKi (l := []) V V V V V (C8 (B4 V (C8 (yCh (TD false b) V V V (C8 (yKi V V V V (Tn _ _) (C8 (B4 V (C8 (yCh (TD true b) V V V (C8 (yKi V V V V (Tm _ _ _) (C8 (yMm V (C8 (yAm V (yQ (C5 ?_)))))))))))))))))))))))))))); refine T3 (Ft 8 500021 (ms := Q8 (rdM b)) V V) ?_; refine E7 (K0 (B4 V (C8 (yN V (C8 (B4 V (yQ (C5 (K7 ?_)))))))))
 have JC : xs[0]? = some (.slice none 0 0) := by
  cases xs with
  | nil => cases h1
  | cons x l => cases h1; rfl
 have VD : RA ⟨[(b, (xs, T))], [], none⟩ b Jl SU (Dt []) := RA.start (To := T) (xs0 := xs) (by show G1 [(b, (xs, T))] b = _; rw [G3, B9 rfl]) JC
 clear JC h1 h2
 refine Jr (fun q : Nat × List Ru × EI => pjS L b q.1) (fun q => q.2.2) (fun q => q.1 ≤ L.length ∧ PD q.1 q.2.1 ∧ RA q.2.2 b Jl SU (Dt q.2.1) ∧ GY (Dn (P1 J5) Ct) q.1 q.2.1 (L.drop q.1) = (RO, RN)) (fun q => L.length - q.1) (0, [], ⟨[(b, (xs, T))], [], none⟩) ⟨E8 _, ⟨E8 _, fun r hr => by cases hr⟩, VD, hG.symm⟩ rfl
  ⟨rfl, ⟨F5, F5, F5, F5, Ht (by simp), F5, D5⟩, D5, D5, rfl⟩ ?_
 clear hG VD
 rintro ⟨k, out, i⟩ ⟨hk, ⟨Ag, JM⟩, EL, hI⟩
 simp only at hk Ag JM EL hI ⊢
 unfold pjS
 rcases D6 k L.length with h | h
 rotate_left
 · have u1 : decide ((k : Int) < (L.length : Int)) = false := A7 (by omega)
   rw [J8 h] at hI
   rw [GY] at hI
   obtain ⟨e1, e2⟩ := FX hI
   subst e2
   rw [← e1] at hR
   simp only at hR
   have BH : ∀ (F : Nat → Nat → Prop) (w : World), (∀ (b : Nat) (xs : List Value) (T : Nat), G1 i.bs b = some (xs, T) → w.heap[b]? = some (.cells xs.toArray T (0, 0)) ∧ ∀ o, F b o) → (∀ q ∈ i.fs, DRep F w q.1 q.2) → DRep F w (pvO b) (.ref [Q5 out]) := fun F w Dq Hj => by
    have := EL.data (F := F) (w := w) Dq Hj
    rwa [FN] at this
   have c1 := wHasR AK out (by omega)
   clear EL Ag JM
   by_cases VY : 64 < out.length
   · have t1 : decide (((out.map AE).length : Int) > 64) = true := B1 (by rw [A8]; omega)
     rw [B9 (.inl VY)] at hR
     cases hR
     refine V5 6 hex V BH ?_; refine T3 (Ax 6 V) ?_; refine K0 (I3 V (C5 (E7 (Lg u1 V (R4 (E7 (K0 (K8 V V (C8 (yN V (C8 (F9 V (C8 (B4 V (C8 ?_))))))))))))))); rw [t1]; refine yO V (C8 (yO V (C8 (L2 V V (yQ (C5 (O7 V (K0 (H5 V (C8 (H5 V (C8 (A9 V (C5 (M1 (F7 ?_))))))))))))))))
     exact L7 _ (.tnil 2 V (.tmp V (.tmp V .nil))) V
   have t1 : decide (((out.map AE).length : Int) > 64) = false := A7 (by rw [A8]; omega)
   cases JO : out.any AK with
   | true =>
    rw [JO] at c1
    rw [B9 (.inr JO)] at hR
    cases hR
    refine V5 6 hex V BH ?_; refine T3 (Ax 6 V) ?_; refine K0 (I3 V (C5 (E7 (Lg u1 V (R4 (E7 (K0 (K8 V V (C8 (yN V (C8 (F9 V (C8 (B4 V (C8 ?_))))))))))))))); rw [t1]; refine K8 V V (C8 ?_); refine LY c1 (.d V (.fn D4 V V QO .nil)) V ?_; refine C8 (L3 V V (yQ (C5 (O7 V (K0 (H5 V (C8 (H5 V (C8 (A9 V (C5 (M1 (F7 ?_)))))))))))))
    exact L7 _ (.tnil 2 V (.tmp V (.tmp V .nil))) V
   | false =>
    rw [JO] at c1
    rw [B5 (by rintro (h | h); exact VY h; exact G5 (JO.symm.trans h) (by simp))] at hR
    cases hR
    refine V5 6 hex V BH ?_; refine T3 (Ax 6 V) ?_; refine K0 (I3 V (C5 (E7 (Lg u1 V (R4 (E7 (K0 (K8 V V (C8 (yN V (C8 (F9 V (C8 (B4 V (C8 ?_))))))))))))))); rw [t1]; refine K8 V V (C8 ?_); refine LY c1 (.d V (.fn D4 V V QO .nil)) V ?_; refine C8 (L3 V V (yQ (C5 (O5 V (H7 (K0 (K8 V V (C8 (H5 V (C8 (H5 V (C8 (A9 V (C5 (M1 ?_)))))))))))))))
    exact L7 _ (.tmp V (.tmp V (.tmp V .nil))) V
 have u1 : decide ((k : Int) < (L.length : Int)) = true := B1 (by omega)
 obtain ⟨line, hx⟩ := DL h
 have ex := ix (fun t => [dS t]) L k k line rfl hx
 have hw : IntKind.i64.wrap ((k : Int) + 1) = ((k + 1 : Nat) : Int) := J0 ((k : Int) + 1) (by omega)
 have LF : IntKind.i64.wrap (((L.map fun t => ([dS t] : List DV)).length : Int) - 1) = ((L.length - 1 : Nat) : Int) := by rw [A8, J0 _ (by omega)]; omega
 have hlb := Lf line (C0 hx)
 have arith : L.length - (k + 1) < L.length - k := by omega
 obtain ⟨q1, q2⟩ := A5.1 hx
 rw [I2 q1, q2] at hI
 clear hx q2
 by_cases X3 : k = L.length - 1
 · have u2 : ((k : Int) == ((L.length - 1 : Nat) : Int)) = true := by simp [← X3]
   rw [J8 (by omega), GY] at hI
   by_cases hle : line = []
   · have u3 : (!line == []) = false := by simp [hle]
     rw [B9 hle] at hI
     obtain ⟨e1, e2⟩ := FX hI
     subst e2
     rw [← e1] at hR
     simp only at hR
     have BH : ∀ (F : Nat → Nat → Prop) (w : World), (∀ (b : Nat) (xs : List Value) (T : Nat), G1 i.bs b = some (xs, T) → w.heap[b]? = some (.cells xs.toArray T (0, 0)) ∧ ∀ o, F b o) → (∀ q ∈ i.fs, DRep F w q.1 q.2) → DRep F w (pvO b) (.ref [Q5 out]) := fun F w Dq Hj => by
      have := EL.data (F := F) (w := w) Dq Hj
      rwa [FN] at this
     have c1 := wHasR AK out (by omega)
     clear EL Ag JM
     by_cases VY : 64 < out.length
     · have t1 : decide (((out.map AE).length : Int) > 64) = true := B1 (by rw [A8]; omega)
       rw [B9 (.inl VY)] at hR
       cases hR
       refine V5 6 hex V BH ?_; refine T3 (Ax 6 V) ?_; refine K0 (I3 V (C5 (E7 (GS u1 V (H7 (E7 (K7 (K0 (B4 V (C8 (L6 ex V (C8 (K8 V V (C8 (H5 V (C8 (A9 V (C5 (E7 (K0 (B4 V (C8 (B4 V (C8 (yN V (C8 (F9 V (C8 (I3 V (C5 (I4 ?_))))))))))))))))))))))))))))))); rw [LF]; rw [u2]; refine O7 V (E7 (K0 (B4 V (C8 (N5 V V (yQ (C5 (I4 (Lg u3 V (H7 (R4 (E7 (K0 (K8 V V (C8 (yN V (C8 (F9 V (C8 (B4 V (C8 ?_))))))))))))))))))))); rw [t1]; refine yO V (C8 (yO V (C8 (L2 V V (yQ (C5 (O7 V (K0 (H5 V (C8 (H5 V (C8 (A9 V (C5 (M1 (F7 ?_))))))))))))))))
       exact L7 _ (.tnil 2 V (.tmp V (.tmp V .nil))) V
     have t1 : decide (((out.map AE).length : Int) > 64) = false := A7 (by rw [A8]; omega)
     cases JO : out.any AK with
     | true =>
      rw [JO] at c1
      rw [B9 (.inr JO)] at hR
      cases hR
      refine V5 6 hex V BH ?_; refine T3 (Ax 6 V) ?_; refine K0 (I3 V (C5 (E7 (GS u1 V (H7 (E7 (K7 (K0 (B4 V (C8 (L6 ex V (C8 (K8 V V (C8 (H5 V (C8 (A9 V (C5 (E7 (K0 (B4 V (C8 (B4 V (C8 (yN V (C8 (F9 V (C8 (I3 V (C5 (I4 ?_))))))))))))))))))))))))))))))); rw [LF]; rw [u2]; refine O7 V (E7 (K0 (B4 V (C8 (N5 V V (yQ (C5 (I4 (Lg u3 V (H7 (R4 (E7 (K0 (K8 V V (C8 (yN V (C8 (F9 V (C8 (B4 V (C8 ?_))))))))))))))))))))); rw [t1]; refine K8 V V (C8 ?_); refine LY c1 (.d V (.fn D4 V V QO .nil)) V ?_; refine C8 (L3 V V (yQ (C5 (O7 V (K0 (H5 V (C8 (H5 V (C8 (A9 V (C5 (M1 (F7 ?_)))))))))))))
      exact L7 _ (.tnil 2 V (.tmp V (.tmp V .nil))) V
     | false =>
      rw [JO] at c1
      rw [B5 (by rintro (h | h); exact VY h; exact G5 (JO.symm.trans h) (by simp))] at hR
      cases hR
      refine V5 6 hex V BH ?_; refine T3 (Ax 6 V) ?_; refine K0 (I3 V (C5 (E7 (GS u1 V (H7 (E7 (K7 (K0 (B4 V (C8 (L6 ex V (C8 (K8 V V (C8 (H5 V (C8 (A9 V (C5 (E7 (K0 (B4 V (C8 (B4 V (C8 (yN V (C8 (F9 V (C8 (I3 V (C5 (I4 ?_))))))))))))))))))))))))))))))); rw [LF]; rw [u2]; refine O7 V (E7 (K0 (B4 V (C8 (N5 V V (yQ (C5 (I4 (Lg u3 V (H7 (R4 (E7 (K0 (K8 V V (C8 (yN V (C8 (F9 V (C8 (B4 V (C8 ?_))))))))))))))))))))); rw [t1]; refine K8 V V (C8 ?_); refine LY c1 (.d V (.fn D4 V V QO .nil)) V ?_; refine C8 (L3 V V (yQ (C5 (O5 V (H7 (K0 (K8 V V (C8 (H5 V (C8 (H5 V (C8 (A9 V (C5 (M1 ?_)))))))))))))))
      exact L7 _ (.tmp V (.tmp V (.tmp V .nil))) V
   · have u3 : (!line == []) = true := by simp [hle]
     rw [B5 hle] at hI
     cases hI
     cases hR
     refine K0 (I3 V (C5 (E7 (GS u1 V (H7 (E7 (K7 (K0 (B4 V (C8 (L6 ex V (C8 (K8 V V (C8 (H5 V (C8 (A9 V (C5 (E7 (K0 (B4 V (C8 (B4 V (C8 (yN V (C8 (F9 V (C8 (I3 V (C5 (I4 ?_))))))))))))))))))))))))))))))); rw [LF]; rw [u2]
     refine O7 V (E7 (K0 (B4 V (C8 (N5 V V (yQ (C5 (I4 ?_)))))))); rw [u3]
     refine O7 V (K0 (B4 V (C8 (F9 V (C8 (H5 V (C8 (H5 V (C8 (A9 V (C5 (M1 (F7 (F7 (K1 (F7 (F7 (K1 (F7 ?_))))))))))))))))))); rw [hw]
     exact L7 _ (.tnil 2 V (.tmp V (.tmp V .nil))) V
 have u2 : ((k : Int) == ((L.length - 1 : Nat) : Int)) = false := G2 (by omega)
 obtain ⟨line2, rest2, BO⟩ : ∃ a l, L.drop (k + 1) = a :: l := by
  cases e : L.drop (k + 1) with
  | nil => rw [List.drop_eq_nil_iff] at e; omega
  | cons a l => exact ⟨a, l, V⟩
 rw [BO, Jq] at hI
 rw [← BO] at hI
 clear BO
 have hrb := (Y5 32 line).2.1
 have k2 := Lq line 32 (by omega)
 obtain ⟨O, hO⟩ := I0 (Dn (P1 J5) Ct out line)
 rw [← hO] at hI
 rw [Rg] at hO
 have AM := rdM_get b (S7 32 line)
 obtain ⟨W, hW⟩ := I0 (S7 32 line)
 obtain ⟨X, hX⟩ := I0 (Q6 32 line)
 obtain ⟨Y, hY⟩ := I0 (Bi 32 line)
 rw [← hX] at hrb
 rw [← hW, ← hX, ← hY] at k2
 rw [← hW] at AM
 rw [← hW, ← hX] at hO
 clear hW hX hY
 have hXl : X.length ≤ 65536 := by omega
 by_cases w1 : W = Jp
 · rw [B9 w1] at hO AM
   have hc := hOn out X b i EL (by omega)
   have NW := fun o (e : onG out X = some o) => onG_bd e (⟨Ag, JM⟩ : PD k out)
   rw [← hO] at hc NW
   clear hO w1
   refine K0 (I3 V (C5 (E7 (GS u1 V (H7 (E7 (K7 (K0 (B4 V (C8 (L6 ex V (C8 (K8 V V (C8 (H5 V (C8 (A9 V (C5 (E7 (K0 (B4 V (C8 (B4 V (C8 (yN V (C8 (F9 V (C8 (I3 V (C5 (I4 ?_))))))))))))))))))))))))))))))); rw [LF]; rw [u2]
   refine O5 V (H7 (K0 (B4 V (C8 (yC (k2) V V (C8 (O6 V (C8 (yX V V (C8 (yX V V (C8 (yX V V (C8 (H5 V (C8 (H5 V (C8 (A9 V (C5 (K0 (B4 V (C8 (B4 V (C8 (yKe V V AM (C8 (A9 V (C5 (K0 (B4 V (C8 (yEf Tryz.underlying86 V (C8 (B4 V (C8 (B4 V (C8 (B4 V ?_))))))))))))))))))))))))))))))))))))))); refine yQ ?_; refine P7 ?_; refine Ns hc MRd.ok V V V ?_
   rintro r j ⟨rfl, VC⟩
   cases O with
   | none =>
    simp only at hI
    cases hI
    cases hR
    refine L5 (yU V V V (C8 (L3 V V (yQ (C5 (O7 V (K0 (B4 V (C8 (F9 V (C8 (H5 V (C8 (H5 V (C8 (A9 V (C5 (M1 (K1 (F7 (F7 (K1 (F7 ?_))))))))))))))))))))))); rw [hw]
    exact L7 _ (.tnil 2 V (.tmp V (.tmp V .nil))) V
   | some o =>
    simp only at hI
    have Aq := NW o rfl
    refine L5 (yU V V V (C8 (L3 V V (yQ (C5 (O5 V (H7 (N2 (L5 (F9 V (C8 (B4 V (yQ (C5 (I4 ?_)))))))))))))))
    exact ⟨(k + 1, o, ⟨j.bs, j.fs, i.it⟩), ⟨h, Aq, VC, hI⟩, arith, ⟨rfl, ⟨F5, F5, F5, F5, F5, Q7 hw, D5⟩, D5, D5, V⟩, V⟩
 rw [B5 w1] at hO AM
 by_cases w2 : W = S0
 · rw [B9 w2] at hO AM
   have hc := hLine false out X b i EL hXl (by omega) (fun r hr => by have := JM r hr; omega)
   have NW := fun o (e : lnG false out X = some o) => Ud e (⟨Ag, JM⟩ : PD k out)
   rw [← hO] at hc NW
   clear hO w1
   refine K0 (I3 V (C5 (E7 (GS u1 V (H7 (E7 (K7 (K0 (B4 V (C8 (L6 ex V (C8 (K8 V V (C8 (H5 V (C8 (A9 V (C5 (E7 (K0 (B4 V (C8 (B4 V (C8 (yN V (C8 (F9 V (C8 (I3 V (C5 (I4 ?_))))))))))))))))))))))))))))))); rw [LF]; rw [u2]
   refine O5 V (H7 (K0 (B4 V (C8 (yC (k2) V V (C8 (O6 V (C8 (yX V V (C8 (yX V V (C8 (yX V V (C8 (H5 V (C8 (H5 V (C8 (A9 V (C5 (K0 (B4 V (C8 (B4 V (C8 (yKe V V AM (C8 (A9 V (C5 (K0 (B4 V (C8 (yEf Tryz.underlying86 V (C8 (B4 V (C8 (B4 V (C8 (B4 V ?_))))))))))))))))))))))))))))))))))))))); refine yQ ?_; refine P7 ?_; refine Ns hc MRd.ok V V V ?_
   rintro r j ⟨rfl, VC⟩
   cases O with
   | none =>
    simp only at hI
    cases hI
    cases hR
    refine L5 (yU V V V (C8 (L3 V V (yQ (C5 (O7 V (K0 (B4 V (C8 (F9 V (C8 (H5 V (C8 (H5 V (C8 (A9 V (C5 (M1 (K1 (F7 (F7 (K1 (F7 ?_))))))))))))))))))))))); rw [hw]
    exact L7 _ (.tnil 2 V (.tmp V (.tmp V .nil))) V
   | some o =>
    simp only at hI
    have Aq := NW o rfl
    refine L5 (yU V V V (C8 (L3 V V (yQ (C5 (O5 V (H7 (N2 (L5 (F9 V (C8 (B4 V (yQ (C5 (I4 ?_)))))))))))))))
    exact ⟨(k + 1, o, ⟨j.bs, j.fs, i.it⟩), ⟨h, Aq, VC, hI⟩, arith, ⟨rfl, ⟨F5, F5, F5, F5, F5, Q7 hw, D5⟩, D5, D5, V⟩, V⟩
 rw [B5 w2] at hO AM
 by_cases w3 : W = N8
 · rw [B9 w3] at hO AM
   have hc := hLine true out X b i EL hXl (by omega) (fun r hr => by have := JM r hr; omega)
   have NW := fun o (e : lnG true out X = some o) => Ud e (⟨Ag, JM⟩ : PD k out)
   rw [← hO] at hc NW
   clear hO w1
   refine K0 (I3 V (C5 (E7 (GS u1 V (H7 (E7 (K7 (K0 (B4 V (C8 (L6 ex V (C8 (K8 V V (C8 (H5 V (C8 (A9 V (C5 (E7 (K0 (B4 V (C8 (B4 V (C8 (yN V (C8 (F9 V (C8 (I3 V (C5 (I4 ?_))))))))))))))))))))))))))))))); rw [LF]; rw [u2]
   refine O5 V (H7 (K0 (B4 V (C8 (yC (k2) V V (C8 (O6 V (C8 (yX V V (C8 (yX V V (C8 (yX V V (C8 (H5 V (C8 (H5 V (C8 (A9 V (C5 (K0 (B4 V (C8 (B4 V (C8 (yKe V V AM (C8 (A9 V (C5 (K0 (B4 V (C8 (yEf Tryz.underlying86 V (C8 (B4 V (C8 (B4 V (C8 (B4 V ?_))))))))))))))))))))))))))))))))))))))); refine yQ ?_; refine P7 ?_; refine Ns hc MRd.ok V V V ?_
   rintro r j ⟨rfl, VC⟩
   cases O with
   | none =>
    simp only at hI
    cases hI
    cases hR
    refine L5 (yU V V V (C8 (L3 V V (yQ (C5 (O7 V (K0 (B4 V (C8 (F9 V (C8 (H5 V (C8 (H5 V (C8 (A9 V (C5 (M1 (K1 (F7 (F7 (K1 (F7 ?_))))))))))))))))))))))); rw [hw]
    exact L7 _ (.tnil 2 V (.tmp V (.tmp V .nil))) V
   | some o =>
    simp only at hI
    have Aq := NW o rfl
    refine L5 (yU V V V (C8 (L3 V V (yQ (C5 (O5 V (H7 (N2 (L5 (F9 V (C8 (B4 V (yQ (C5 (I4 ?_)))))))))))))))
    exact ⟨(k + 1, o, ⟨j.bs, j.fs, i.it⟩), ⟨h, Aq, VC, hI⟩, arith, ⟨rfl, ⟨F5, F5, F5, F5, F5, Q7 hw, D5⟩, D5, D5, V⟩, V⟩
 rw [B5 w3] at hO AM
 subst hO
 simp only at hI
 cases hI
 cases hR
 refine K0 (I3 V (C5 (E7 (GS u1 V (H7 (E7 (K7 (K0 (B4 V (C8 (L6 ex V (C8 (K8 V V (C8 (H5 V (C8 (A9 V (C5 (E7 (K0 (B4 V (C8 (B4 V (C8 (yN V (C8 (F9 V (C8 (I3 V (C5 (I4 ?_))))))))))))))))))))))))))))))); rw [LF]; rw [u2]
 refine O5 V (H7 (K0 (B4 V (C8 (yC (k2) V V (C8 (O6 V (C8 (yX V V (C8 (yX V V (C8 (yX V V (C8 (H5 V (C8 (H5 V (C8 (A9 V (C5 (K0 (B4 V (C8 (B4 V (C8 (yKe V V AM (C8 (A9 V (C5 (K0 (B4 V (C8 (yEzf Tryz.underlying86 V (C8 (B4 V (C8 (yO V (C8 (yO V ?_))))))))))))))))))))))))))))))))))))))); refine C8 (yO V (C8 (yO V (C8 (L2 V V (yQ (C5 (O7 V (K0 (B4 V (C8 (F9 V (C8 (H5 V (C8 (H5 V (C8 (A9 V (C5 (M1 (K1 (F7 (F7 (K1 (F7 ?_))))))))))))))))))))))))); rw [hw]
 exact L7 _ (.tnil 2 V (.tmp V (.tmp V .nil))) V
abbrev cAT : Nat := 48 * 100000 + 1
abbrev Dh (l : List Ac) (n : Int) (cs : List F6) : List Ac := l ++ cs.map fun c => (c, n)
theorem PN (n : Int) (cs : List F6) (l : List Ac) (hl : l.length ≤ 1000) (hc : cs.length ≤ 1000) : PCx Tryz.prog 68 [.d (dI n), .d (U7 cs), .bx 1 0] [(1, [.ts cAT 2 (l.map Z9)])] [(cAT, (l.map Z9).length)] (.tup []) [(1, [.ts cAT 2 ((Dh l n cs).map Z9)])] [(cAT, ((Dh l n cs).map Z9).length)] := by
 refine Ao Tryz.func68 V Tryz.ntmps68 Tryz.results68 (by simp) fun B w0 => ?_
 refine H9 V (yN V (B4 V (yQ (B8 ?_)))); refine I1 (fun k : Nat => ⟨20, [(0, .d (dI n)), (2, .bx 10001 0), (7, .d (U7 cs)), (8, .d (dI cs.length)), (9, .d (dI k))], [(10001, [.ts (cAT + 10000) 2 ((Dh l n (cs.take k)).map Z9)])], [(cAT + 10000, ((Dh l n (cs.take k)).map Z9).length)]⟩) (fun k => k ≤ cs.length) (fun k => cs.length - k) 0 (E8 _)
  ⟨rfl, ⟨F5, F5, F5, Ht (by simp), F5, D5⟩, ⟨⟨_, rfl, K6 (by simp [Dh, SV.sh])⟩, D5⟩, ⟨(by simp [Dh, Hz]; rfl), D5⟩, rfl⟩ ?_
 intro k hk
 rcases D6 k cs.length with h | h
 · have u1 : decide ((k : Int) < (cs.length : Int)) = true := B1 (by omega)
   obtain ⟨c, hx⟩ := DL h
   have ex := ix (fun s => [dS s]) cs k k c rfl hx
   have hw := J0 ((k : Int) + 1) (by omega)
   have K9 : Dh l n (cs.take (k + 1)) = Dh l n (cs.take k) ++ [(c, n)] := by
    unfold Dh
    rw [G8, hx]; simp
   have LZ : (Dh l n (cs.take k)).length ≤ 2000 := by simp [Dh]; omega
   have arith : cs.length - (k + 1) < cs.length - k := by omega
   obtain ⟨zs, hz⟩ := I0 (Dh l n (cs.take k))
   rw [← hz] at K9 LZ ⊢
   clear hz
   refine E5 (I3 V (B0 (L8 u1 V (B2 (B0 (B8 (E5 (L6 ex V (K8 V V (A9 V (B6 (Qi V V V (B4 V (B4 V (yG (ys := [_, _]) V V ?_))))))))))))))); refine yR (es := [[_, _]]) V V V V V ?_; refine yT (es' := (zs ++ [(c, n)]).map Z9) (m := ((zs ++ [(c, n)]).map Z9).length) (by simp; omega) (by simp; omega) V V V V V (by simp) (by simp) ?_; refine ySt (cs' := [_]) V V V V (yQ (B6 (F9 V (B4 V (yQ (B3 ?_))))))
   exact ⟨k + 1, h, arith, V, ⟨F5, F5, F5, F5, Q7 hw, D5⟩, ⟨⟨_, V, K6 (by rw [K9])⟩, D5⟩, ⟨(by rw [K9]; rfl), D5⟩, rfl⟩
 · have u1 : decide ((k : Int) < (cs.length : Int)) = false := A7 (by omega)
   rw [D8 h]
   refine E5 (I3 V (B0 (O1 u1 V (F8 (GK (GK (Nn ?_)))))))
   exact q_x [] .nil V ⟨rfl, D5⟩ ⟨rfl, D5⟩
def cg0 : List F6 := [[49, 46, 97, 99, 99, 114, 117, 101, 100], [49, 46, 97, 109, 111, 114, 116, 105, 122, 101, 100], [49, 46, 99, 97, 115, 104], [49, 46, 114, 101, 118, 97, 108, 117, 101, 100], [49, 46, 115, 101, 99, 117, 114, 105, 116, 105, 101, 115]]
def cg1 : List F6 := [[51, 46, 99, 97, 112, 105, 116, 97, 108], [51, 46, 101, 120, 99, 104, 97, 110, 103, 101], [51, 46, 105, 110, 118, 101, 115, 116, 111, 114, 115]]
def cg2 : List F6 := [[52, 46, 97, 99, 116, 105, 111, 110, 115], [52, 46, 100, 101, 102, 101, 114, 114, 101, 100], [52, 46, 105, 110, 99, 111, 109, 101], [52, 46, 105, 110, 116, 101, 114, 101, 115, 116], [52, 46, 108, 111, 110, 103], [52, 46, 115, 104, 111, 114, 116], [52, 46, 117, 110, 114, 101, 97, 108, 105, 122, 101, 100]]
def cg3 : List F6 := [[53, 46, 101, 120, 112, 101, 110, 115, 101, 115]]
def ch1 : List Ac := Dh [] 1 cg0
def ch2 : List Ac := Dh ch1 3 cg1
def ch3 : List Ac := Dh ch2 4 cg2
def chtA : List Ac := Dh ch3 5 cg3
theorem TI : PCalls Tryz.prog 29 [] (.d (.sl 2 (chtA.map Z9))) := by
 have l1 : ch1.length ≤ 1000 := by decide
 have l2 : ch2.length ≤ 1000 := by decide
 have l3 : ch3.length ≤ 1000 := by decide
 refine M0 Tryz.func29 V Tryz.ntmps29 Tryz.results29 fun B w0 => ?_
 refine E5 (A9 V (E5 (yZ (cs := [_]) V V (yQ ?_)))); refine Em 1 0 cAT 2 V V V V ?_; refine E5 (Qj V (yAf V (yQ (E5 (yMf V ?_))))); refine yR (es := [[_], [_], [_], [_], [_]]) V V V V V ?_; refine yCxv (PN 1 cg0 [] (by decide) (by decide)) V V ⟨rfl, D5⟩ ⟨rfl, D5⟩ ?_ (hfit := by kernel_rfl); refine yQ (E5 (yMf V ?_)); refine yR (es := [[_], [_], [_]]) V V V V V ?_; refine yCxv (PN 3 cg1 ch1 l1 (by decide)) V V ⟨rfl, D5⟩ ⟨rfl, D5⟩ ?_ (hfit := by kernel_rfl); refine yQ (E5 (yMf V ?_)); refine yR (es := [[_], [_], [_], [_], [_], [_], [_]]) V V V V V ?_; refine yCxv (PN 4 cg2 ch2 l2 (by decide)) V V ⟨rfl, D5⟩ ⟨rfl, D5⟩ ?_ (hfit := by kernel_rfl); refine yQ (E5 (yMf V ?_)); refine yR (es := [[_]]) V V V V V ?_; refine yCxv (PN 5 cg3 ch3 l3 (by decide)) V V ⟨rfl, D5⟩ ⟨rfl, D5⟩ ?_ (hfit := by kernel_rfl); refine yQ (E5 (Qi V V V (Cj V (yQ (C4 ?_)))))
 exact M8 V V
def Qu : F6 := [111, 110, 32, 100, 101, 112, 111, 115, 105, 116, 10, 100, 101, 98, 105, 116, 32, 49, 46, 99, 97, 115, 104, 32, 97, 109, 111, 117, 110, 116, 10, 99, 114, 101, 100, 105, 116, 32, 51, 46, 99, 97, 112, 105, 116, 97, 108, 32, 97, 109, 111, 117, 110, 116, 10, 111, 110, 32, 119, 105, 116, 104, 100, 114, 97, 119, 10, 100, 101, 98, 105, 116, 32, 51, 46, 99, 97, 112, 105, 116, 97, 108, 32, 97, 109, 111, 117, 110, 116, 10, 99, 114, 101, 100, 105, 116, 32, 49, 46, 99, 97, 115, 104, 32, 97, 109, 111, 117, 110, 116, 10, 111, 110, 32, 98, 117, 121, 10, 100, 101, 98, 105, 116, 32, 49, 46, 115, 101, 99, 117, 114, 105, 116, 105, 101, 115, 46, 42, 32, 97, 109, 111, 117, 110, 116, 32, 43, 32, 102, 101, 101, 10, 99, 114, 101, 100, 105, 116, 32, 49, 46, 99, 97, 115, 104, 32, 97, 109, 111, 117, 110, 116, 32, 43, 32, 102, 101, 101, 10, 111, 110, 32, 115, 101, 108, 108, 10, 100, 101, 98, 105, 116, 32, 49, 46, 99, 97, 115, 104, 32, 112, 114, 111, 99, 101, 101, 100, 115, 10, 99, 114, 101, 100, 105, 116, 32, 49, 46, 115, 101, 99, 117, 114, 105, 116, 105, 101, 115, 46, 42, 32, 99, 111, 115, 116, 10, 99, 114, 101, 100, 105, 116, 32, 52, 46, 108, 111, 110, 103, 46, 42, 32, 45, 108, 111, 110, 103, 99, 111, 115, 116, 32, 43, 32, 108, 111, 110, 103, 112, 114, 111, 99, 101, 101, 100, 115, 10, 99, 114, 101, 100, 105, 116, 32, 52, 46, 115, 104, 111, 114, 116, 46, 42, 32, 45, 99, 111, 115, 116, 32, 43, 32, 108, 111, 110, 103, 99, 111, 115, 116, 32, 45, 32, 108, 111, 110, 103, 112, 114, 111, 99, 101, 101, 100, 115, 32, 43, 32, 112, 114, 111, 99, 101, 101, 100, 115, 10, 111, 110, 32, 100, 101, 102, 101, 114, 10, 100, 101, 98, 105, 116, 32, 49, 46, 115, 101, 99, 117, 114, 105, 116, 105, 101, 115, 46, 42, 32, 97, 109, 111, 117, 110, 116, 10, 99, 114, 101, 100, 105, 116, 32, 52, 46, 100, 101, 102, 101, 114, 114, 101, 100, 46, 42, 32, 97, 109, 111, 117, 110, 116, 10, 111, 110, 32, 105, 110, 99, 111, 109, 101, 10, 100, 101, 98, 105, 116, 32, 49, 46, 99, 97, 115, 104, 32, 97, 109, 111, 117, 110, 116, 10, 99, 114, 101, 100, 105, 116, 32, 52, 46, 105, 110, 99, 111, 109, 101, 46, 42, 32, 97, 109, 111, 117, 110, 116, 10, 111, 110, 32, 101, 120, 112, 101, 110, 115, 101, 10, 100, 101, 98, 105, 116, 32, 53, 46, 101, 120, 112, 101, 110, 115, 101, 115, 32, 97, 109, 111, 117, 110, 116, 10, 99, 114, 101, 100, 105, 116, 32, 49, 46, 99, 97, 115, 104, 32, 97, 109, 111, 117, 110, 116, 10, 111, 110, 32, 112, 97, 105, 100, 10, 100, 101, 98, 105, 116, 32, 51, 46, 101, 120, 99, 104, 97, 110, 103, 101, 32, 97, 109, 111, 117, 110, 116, 10, 99, 114, 101, 100, 105, 116, 32, 49, 46, 99, 97, 115, 104, 32, 97, 109, 111, 117, 110, 116, 10, 111, 110, 32, 103, 111, 116, 10, 100, 101, 98, 105, 116, 32, 49, 46, 99, 97, 115, 104, 32, 97, 109, 111, 117, 110, 116, 10, 99, 114, 101, 100, 105, 116, 32, 51, 46, 101, 120, 99, 104, 97, 110, 103, 101, 32, 97, 109, 111, 117, 110, 116, 10, 111, 110, 32, 115, 112, 108, 105, 116, 10, 100, 101, 98, 105, 116, 32, 49, 46, 99, 97, 115, 104, 32, 99, 97, 115, 104, 10, 99, 114, 101, 100, 105, 116, 32, 49, 46, 115, 101, 99, 117, 114, 105, 116, 105, 101, 115, 46, 42, 32, 99, 111, 115, 116, 10, 99, 114, 101, 100, 105, 116, 32, 52, 46, 97, 99, 116, 105, 111, 110, 115, 46, 42, 32, 99, 97, 115, 104, 32, 45, 32, 99, 111, 115, 116, 10, 111, 110, 32, 115, 112, 105, 110, 111, 102, 102, 10, 100, 101, 98, 105, 116, 32, 49, 46, 99, 97, 115, 104, 32, 99, 97, 115, 104, 10, 100, 101, 98, 105, 116, 32, 49, 46, 115, 101, 99, 117, 114, 105, 116, 105, 101, 115, 46, 43, 32, 109, 111, 118, 101, 100, 10, 99, 114, 101, 100, 105, 116, 32, 49, 46, 115, 101, 99, 117, 114, 105, 116, 105, 101, 115, 46, 42, 32, 99, 111, 115, 116, 32, 43, 32, 109, 111, 118, 101, 100, 10, 99, 114, 101, 100, 105, 116, 32, 52, 46, 97, 99, 116, 105, 111, 110, 115, 46, 42, 32, 99, 97, 115, 104, 32, 45, 32, 99, 111, 115, 116, 10, 111, 110, 32, 101, 120, 99, 104, 97, 110, 103, 101, 10, 100, 101, 98, 105, 116, 32, 49, 46, 99, 97, 115, 104, 32, 99, 97, 115, 104, 10, 100, 101, 98, 105, 116, 32, 49, 46, 115, 101, 99, 117, 114, 105, 116, 105, 101, 115, 46, 43, 32, 98, 97, 115, 105, 115, 10, 99, 114, 101, 100, 105, 116, 32, 49, 46, 115, 101, 99, 117, 114, 105, 116, 105, 101, 115, 46, 42, 32, 99, 111, 115, 116, 10, 99, 114, 101, 100, 105, 116, 32, 52, 46, 97, 99, 116, 105, 111, 110, 115, 46, 42, 32, 98, 97, 115, 105, 115, 32, 43, 32, 99, 97, 115, 104, 32, 45, 32, 99, 111, 115, 116, 10, 111, 110, 32, 101, 120, 101, 114, 99, 105, 115, 101, 10, 100, 101, 98, 105, 116, 32, 49, 46, 115, 101, 99, 117, 114, 105, 116, 105, 101, 115, 46, 43, 32, 109, 111, 118, 101, 100, 32, 43, 32, 112, 97, 105, 100, 10, 99, 114, 101, 100, 105, 116, 32, 49, 46, 99, 97, 115, 104, 32, 112, 97, 105, 100, 10, 99, 114, 101, 100, 105, 116, 32, 49, 46, 115, 101, 99, 117, 114, 105, 116, 105, 101, 115, 46, 42, 32, 109, 111, 118, 101, 100, 10, 111, 110, 32, 99, 97, 112, 105, 116, 97, 108, 10, 100, 101, 98, 105, 116, 32, 49, 46, 99, 97, 115, 104, 32, 99, 97, 115, 104, 10, 99, 114, 101, 100, 105, 116, 32, 49, 46, 115, 101, 99, 117, 114, 105, 116, 105, 101, 115, 46, 42, 32, 99, 111, 115, 116, 10, 99, 114, 101, 100, 105, 116, 32, 52, 46, 97, 99, 116, 105, 111, 110, 115, 46, 42, 32, 99, 97, 115, 104, 32, 45, 32, 99, 111, 115, 116, 10, 111, 110, 32, 105, 115, 115, 117, 101, 10, 100, 101, 98, 105, 116, 32, 49, 46, 99, 97, 115, 104, 32, 97, 109, 111, 117, 110, 116, 10, 99, 114, 101, 100, 105, 116, 32, 51, 46, 105, 110, 118, 101, 115, 116, 111, 114, 115, 32, 97, 109, 111, 117, 110, 116, 10, 111, 110, 32, 99, 97, 110, 99, 101, 108, 10, 100, 101, 98, 105, 116, 32, 51, 46, 105, 110, 118, 101, 115, 116, 111, 114, 115, 32, 97, 109, 111, 117, 110, 116, 10, 99, 114, 101, 100, 105, 116, 32, 49, 46, 99, 97, 115, 104, 32, 97, 109, 111, 117, 110, 116, 10, 111, 110, 32, 97, 99, 99, 114, 117, 101, 10, 100, 101, 98, 105, 116, 32, 49, 46, 97, 99, 99, 114, 117, 101, 100, 46, 42, 32, 97, 109, 111, 117, 110, 116, 10, 99, 114, 101, 100, 105, 116, 32, 52, 46, 105, 110, 116, 101, 114, 101, 115, 116, 46, 42, 32, 97, 109, 111, 117, 110, 116, 10, 111, 110, 32, 97, 109, 111, 114, 116, 105, 122, 101, 10, 100, 101, 98, 105, 116, 32, 49, 46, 97, 109, 111, 114, 116, 105, 122, 101, 100, 46, 42, 32, 97, 109, 111, 117, 110, 116, 10, 99, 114, 101, 100, 105, 116, 32, 52, 46, 105, 110, 116, 101, 114, 101, 115, 116, 46, 42, 32, 97, 109, 111, 117, 110, 116, 10, 111, 110, 32, 114, 101, 118, 97, 108, 117, 101, 10, 100, 101, 98, 105, 116, 32, 49, 46, 114, 101, 118, 97, 108, 117, 101, 100, 46, 42, 32, 97, 109, 111, 117, 110, 116, 10, 99, 114, 101, 100, 105, 116, 32, 52, 46, 117, 110, 114, 101, 97, 108, 105, 122, 101, 100, 46, 42, 32, 97, 109, 111, 117, 110, 116, 10]
def paRi (s : F6) : List Cf := if s = [48] then [] else if OB s then (if 16 < (JL s).length then [] else nfi (JL s)) else []
def paOi (t : F6) : Option (List Cf) := if Nx t = 0 then some (paRi t) else none
theorem paO_i : Ct = paOi := funext fun t => by
 have h : Nw t = paRi t := by rw [Nw, paRi, nf_i]
 rw [Ct, paOi, h]
def stdR : List Ru := (Ce (P1 J5) paOi Qu).1
theorem PT : Ce (P1 J5) Ct Qu = (stdR, 0, 0) := by
 rw [paO_i]
 kernel_rfl
theorem Jf : PCalls Tryz.prog 26 [] (.d (Q5 stdR)) := by
 have p := HS Qu
 rw [PT] at p
 obtain ⟨S, hS⟩ := I0 (stdR)
 rw [← hS] at p ⊢
 clear hS
 refine M0 Tryz.func26 V Tryz.ntmps26 Tryz.results26 fun B w0 => ?_
 refine E5 (A9 V (E5 (yC (p) V V (O6 V (yX V V (yX V V (yX V V (H5 V (H5 V (A9 V (H9 V (A9 V (C4 ?_)))))))))))))
 exact M8 V V
def awT0 : F6 := [111, 110, 32, 105, 110, 99, 111, 109, 101, 10, 100, 101, 98, 105, 116, 32, 49, 46, 99, 97, 115, 104, 32, 97, 109, 111, 117, 110, 116, 10, 99, 114, 101, 100, 105, 116, 32, 52, 46, 105, 110, 99, 111, 109, 101, 46, 42, 32, 97, 109, 111, 117, 110, 116, 10]
def PB : Ru := ((Ce (P1 J5) Ct awT0).1)[0]!
def awT1 : F6 := [111, 110, 32, 105, 110, 99, 111, 109, 101, 10, 100, 101, 98, 105, 116, 32, 49, 46, 99, 97, 115, 104, 32, 97, 109, 111, 117, 110, 116, 10, 99, 114, 101, 100, 105, 116, 32, 52, 46, 105, 110, 99, 111, 109, 101, 46, 42, 32, 50, 42, 97, 109, 111, 117, 110, 116, 10]
def Oz : Ru := ((Ce (P1 J5) Ct awT1).1)[0]!
def awT2 : F6 := [111, 110, 32, 100, 101, 112, 111, 115, 105, 116, 10, 100, 101, 98, 105, 116, 32, 49, 46, 115, 101, 99, 117, 114, 105, 116, 105, 101, 115, 46, 42, 32, 97, 109, 111, 117, 110, 116, 10]
def SO : Ru := ((Ce (P1 J5) Ct awT2).1)[0]!
theorem awE0 : Ce (P1 J5) Ct awT0 = ([PB], 0, 0) := by kernel_rfl
theorem awE1 : Ce (P1 J5) Ct awT1 = ([Oz], 0, 0) := by kernel_rfl
theorem awE2 : Ce (P1 J5) Ct awT2 = ([SO], 0, 0) := by kernel_rfl
def qR (r : Ru) : Bool := decide (r.2.length ≤ 1000000) && r.2.all fun l => decide (l.1.length ≤ 1000000) && (decide (l.2.2.length ≤ 1000000) && l.2.2.all fun c => decide (c.1.length ≤ 1000000) && decide (c.2.length ≤ 70000))
theorem LV {r : Ru} (h : qR r = true) : Sf r := by
 simp only [qR, C9, D7, decide_eq_true_eq] at h
 exact ⟨h.1, fun l hl => ⟨(h.2 l hl).1, (h.2 l hl).2.1, fun c hc => (h.2 l hl).2.2 c hc⟩⟩
theorem awQ0 : qR PB = true := by kernel_rfl
theorem awQ1 : qR Oz = true := by kernel_rfl
theorem awQ2 : qR SO = true := by kernel_rfl
theorem awB0 : Sf PB := LV awQ0
theorem awB1 : Sf Oz := LV awQ1
theorem awB2 : Sf SO := LV awQ2
def qC (l : List Ac) : Bool := decide (l.length ≤ 1000000) && l.all fun a => decide (a.1.length ≤ 1000000)
theorem chtQ : qC chtA = true := by kernel_rfl
theorem chtB : chtA.length ≤ 1000000 ∧ ∀ a ∈ chtA, a.1.length ≤ 1000000 := by
 have h := chtQ
 simp only [qC, C9, D7, decide_eq_true_eq] at h
 exact h
theorem stdL : stdR.length = 19 := by kernel_rfl
theorem stdQ : stdR.all qR = true := by kernel_rfl
theorem stdB : ∀ r ∈ stdR, Sf r := fun r hr => LV (D7.1 stdQ r hr)
theorem wAwake : PCalls Tryz.prog 13 [] (.d (dB true)) := by
 have p0 := HS awT0
 have p1 := HS awT1
 have p2 := HS awT2
 rw [awE0] at p0
 rw [awE1] at p1
 rw [awE2] at p2
 have b0 := Jj PB awB0
 have b1 := Jj Oz awB1
 rw [show EA PB = 0 by kernel_rfl, show HN PB.2 = true by kernel_rfl] at b0
 rw [show EA Oz = 0 by kernel_rfl, show HN Oz.2 = false by kernel_rfl] at b1
 have c0 := TH [SO] chtA (by decide) (fun r hr => by rw [List.mem_singleton.1 hr]; exact awB2) chtB.1 chtB.2
 rw [show ruI [SO] chtA = (0, 9) by kernel_rfl] at c0
 have s0 := Jf
 have h0 := TI
 have t0 : (((stdR.map AE).length : Int) == 19) = true := by rw [A8, stdL]; rfl
 obtain ⟨⟨n0, l0⟩, FE⟩ := I0 (PB)
 obtain ⟨⟨n1, l1⟩, Lb⟩ := I0 (Oz)
 obtain ⟨r2, FU⟩ := I0 (SO)
 obtain ⟨S, hS⟩ := I0 (stdR)
 obtain ⟨C, hC⟩ := I0 (chtA)
 rw [← FE] at p0 b0
 rw [← Lb] at p1 b1
 rw [← FU] at p2 c0
 rw [← hS] at s0 t0
 rw [← hC] at h0 c0
 clear FE Lb FU hS hC
 have e0 := ix AE [(n0, l0)] 0 0 (n0, l0) rfl rfl
 have e1 := ix AE [(n1, l1)] 0 0 (n1, l1) rfl rfl
 refine M0 Tryz.func13 V Tryz.ntmps13 Tryz.results13 fun B w0 => ?_
 refine E5 (A9 V (E5 (yC (p0) V V (O6 V (yX V V (yX V V (yX V V (H5 V (H5 V (A9 V (E5 (yC (p1) V V (O6 V (yX V V (yX V V (yX V V (H5 V (H5 V (A9 V (E5 (yC (p2) V V (O6 V (yX V V (yX V V (yX V V (H5 V (H5 V (A9 V (H2 V (B4 V (B4 V (yI V V V (F9 V (B4 V (B4 V (B4 V (F9 V (B4 V (F9 V ?_))))))))))))))))))))))))))))))))))))))); refine F9 V (L3 V V (B4 V (B4 V (yN V (F9 V (L3 V V (B4 V (B4 V (yN V (F9 V (L3 V V (B4 V (B4 V (yN V (F9 V (L3 V V (yQ (F4 V (B2 (H9 V (yW e0 (by omega) V V (V0 (ys := [_, _]) V V V (yC (b0) V V (O6 V (yX V V (yX V V (H5 V (A9 V (H9 V (yW e1 (by omega) V V (V0 (ys := [_, _]) V V V (yC (b1) V V (O6 V (yX V V (yX V V (H5 V (A9 V (H9 V (yC (h0) V V ?_))))))))))))))))))))))))))))))))))))))); refine yC (c0) V V (O6 V (yX V V (yX V V (H5 V (A9 V (H9 V (B4 V (yI V V V (F9 V (B4 V (B4 V (L2 V V (B4 V (B4 V (yU V V V (L2 V V (B4 V (B4 V (F9 V (L2 V V (B4 V (B4 V (F9 V (L2 V V (B4 V (yC (s0) V V (yN V (F9 V (L2 V V (A9 V (C4 ?_))))))))))))))))))))))))))))))); rw [t0]
 exact M8 V V
end Go.Proofs.YtddfimjiihggmaaGreatDoor
namespace Go.Proofs.YtddfimjiihggmaaGreatDoor.Px
open Go.RowKit Go.Shelf
section
variable {P : Program} {ops : Array Oper} {K : PS → Prop} {rest : List Oper} {st : PS} {d : Option Nat} {ty : TypeId} {pos : String} {af : Array Edge} {gd : Option (Nat × Bool)}
end
end Go.Proofs.YtddfimjiihggmaaGreatDoor.Px