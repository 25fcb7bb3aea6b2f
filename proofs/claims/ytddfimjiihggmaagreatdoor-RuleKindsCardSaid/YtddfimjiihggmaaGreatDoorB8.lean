/- Walks: words and names of kinds, by the reference. -/
import Derived.Test.YtddfimjiihggmaaGreatDoorB7
import Derived.Lib.JoinLaws
set_option maxHeartbeats 16000000
set_option maxRecDepth 20000
namespace Go.Proofs.YtddfimjiihggmaaGreatDoor
open Go.RowKit Px
variable {n : Int}
def X7 (n : Int) : List F6 := (Y8 n).elim [] fun k => k.2.2.1
def Qy (n : Int) : F6 := (Y8 n).elim [] fun k => k.2.2.2
def erK (n : Int) : Int := if (Y8 n).isSome then 0 else 7
theorem Uk {P : Int → Prop} (h : ∀ k : Nat, k < 19 → P ((k + 1 : Nat) : Int)) (h0 : ∀ n : Int, (∀ k : Nat, k < 19 → n ≠ ((k + 1 : Nat) : Int)) → P n) (n : Int) : P n := by
 by_cases hn : ∃ k : Nat, k < 19 ∧ n = ((k + 1 : Nat) : Int)
 · obtain ⟨k, hk, rfl⟩ := hn; exact h k hk
 · exact h0 n fun k hk e => hn ⟨k, hk, e⟩
theorem Pw (h : n < 1 ∨ 19 < n) : Y8 n = none := by
 have := Py n
 cases e : Y8 n with
 | none => rfl
 | some k => rw [e] at this; simp at this; omega
theorem KT (n : Int) : PCalls Tryz.prog 65 [dI n] (.d (dS (Fj n))) := by
 refine M0 Tryz.func65 V Tryz.ntmps65 Tryz.results65 fun B w0 => ?_
 refine E5 (A9 V (H2 V (yQ (B8 (E5 (F9 V (A9 V (B3 ?_))))))))
 by_cases h1 : n = 1
 · have t1 : (n == 1) = true := by simp [h1]
   rw [t1]; refine G4 V ?_; refine B0 ?_; refine B6 ?_; refine H5 V ?_; refine yQ ?_; refine C4 ?_; refine C3 ?_; refine A6 ?_
   exact I9 _ (.tmp V .nil) (by rw [h1]; kernel_rfl)
 have t1 : (n == 1) = false := G2 h1
 rw [t1]; refine F4 V ?_; refine B0 ?_; refine B6 ?_; refine yB V V V V ?_; refine H5 V ?_; refine yQ ?_; refine B3 ?_
 by_cases h2 : n = 2
 · have t2 : (n == 2) = true := by simp [h2]
   rw [t2]; refine G4 V ?_; refine B0 ?_; refine B6 ?_; refine H5 V ?_; refine yQ ?_; refine C4 ?_; refine C3 ?_; refine A6 ?_
   exact I9 _ (.tmp V .nil) (by rw [h2]; kernel_rfl)
 have t2 : (n == 2) = false := G2 h2
 rw [t2]; refine F4 V ?_; refine B0 ?_; refine B6 ?_; refine yB V V V V ?_; refine H5 V ?_; refine yQ ?_; refine B3 ?_
 by_cases h3 : n = 3
 · have t3 : (n == 3) = true := by simp [h3]
   rw [t3]; refine G4 V ?_; refine B0 ?_; refine B6 ?_; refine H5 V ?_; refine yQ ?_; refine C4 ?_; refine C3 ?_; refine A6 ?_
   exact I9 _ (.tmp V .nil) (by rw [h3]; kernel_rfl)
 have t3 : (n == 3) = false := G2 h3
 rw [t3]; refine F4 V ?_; refine B0 ?_; refine B6 ?_; refine yB V V V V ?_; refine H5 V ?_; refine yQ ?_; refine B3 ?_
 by_cases h4 : n = 4
 · have t4 : (n == 4) = true := by simp [h4]
   rw [t4]; refine G4 V ?_; refine B0 ?_; refine B6 ?_; refine H5 V ?_; refine yQ ?_; refine C4 ?_; refine C3 ?_; refine A6 ?_
   exact I9 _ (.tmp V .nil) (by rw [h4]; kernel_rfl)
 have t4 : (n == 4) = false := G2 h4
 rw [t4]; refine F4 V ?_; refine B0 ?_; refine B6 ?_; refine yB V V V V ?_; refine H5 V ?_; refine yQ ?_; refine B3 ?_
 by_cases h5 : n = 5
 · have t5 : (n == 5) = true := by simp [h5]
   rw [t5]; refine G4 V ?_; refine B0 ?_; refine B6 ?_; refine H5 V ?_; refine yQ ?_; refine C4 ?_; refine C3 ?_; refine A6 ?_
   exact I9 _ (.tmp V .nil) (by rw [h5]; kernel_rfl)
 have t5 : (n == 5) = false := G2 h5
 rw [t5]; refine F4 V ?_; refine B0 ?_; refine B6 ?_; refine yB V V V V ?_; refine H5 V ?_; refine yQ ?_; refine B3 ?_
 by_cases h6 : n = 6
 · have t6 : (n == 6) = true := by simp [h6]
   rw [t6]; refine G4 V ?_; refine B0 ?_; refine B6 ?_; refine H5 V ?_; refine yQ ?_; refine C4 ?_; refine C3 ?_; refine A6 ?_
   exact I9 _ (.tmp V .nil) (by rw [h6]; kernel_rfl)
 have t6 : (n == 6) = false := G2 h6
 rw [t6]; refine F4 V ?_; refine B0 ?_; refine B6 ?_; refine yB V V V V ?_; refine H5 V ?_; refine yQ ?_; refine B3 ?_
 by_cases h7 : n = 7
 · have t7 : (n == 7) = true := by simp [h7]
   rw [t7]; refine G4 V ?_; refine B0 ?_; refine B6 ?_; refine H5 V ?_; refine yQ ?_; refine C4 ?_; refine C3 ?_; refine A6 ?_
   exact I9 _ (.tmp V .nil) (by rw [h7]; kernel_rfl)
 have t7 : (n == 7) = false := G2 h7
 rw [t7]; refine F4 V ?_; refine B0 ?_; refine B6 ?_; refine yB V V V V ?_; refine H5 V ?_; refine yQ ?_; refine B3 ?_
 by_cases h8 : n = 8
 · have t8 : (n == 8) = true := by simp [h8]
   rw [t8]; refine G4 V ?_; refine B0 ?_; refine B6 ?_; refine H5 V ?_; refine yQ ?_; refine C4 ?_; refine C3 ?_; refine A6 ?_
   exact I9 _ (.tmp V .nil) (by rw [h8]; kernel_rfl)
 have t8 : (n == 8) = false := G2 h8
 rw [t8]; refine F4 V ?_; refine B0 ?_; refine B6 ?_; refine yB V V V V ?_; refine H5 V ?_; refine yQ ?_; refine B3 ?_
 by_cases h9 : n = 9
 · have t9 : (n == 9) = true := by simp [h9]
   rw [t9]; refine G4 V ?_; refine B0 ?_; refine B6 ?_; refine H5 V ?_; refine yQ ?_; refine C4 ?_; refine C3 ?_; refine A6 ?_
   exact I9 _ (.tmp V .nil) (by rw [h9]; kernel_rfl)
 have t9 : (n == 9) = false := G2 h9
 rw [t9]; refine F4 V ?_; refine B0 ?_; refine B6 ?_; refine yB V V V V ?_; refine H5 V ?_; refine yQ ?_; refine B3 ?_
 by_cases AX : n = 10
 · have t10 : (n == 10) = true := by simp [AX]
   rw [t10]; refine G4 V ?_; refine B0 ?_; refine B6 ?_; refine H5 V ?_; refine yQ ?_; refine C4 ?_; refine C3 ?_; refine A6 ?_
   exact I9 _ (.tmp V .nil) (by rw [AX]; kernel_rfl)
 have t10 : (n == 10) = false := G2 AX
 rw [t10]; refine F4 V ?_; refine B0 ?_; refine B6 ?_; refine yB V V V V ?_; refine H5 V ?_; refine yQ ?_; refine B3 ?_
 by_cases Fr : n = 11
 · have t11 : (n == 11) = true := by simp [Fr]
   rw [t11]; refine G4 V ?_; refine B0 ?_; refine B6 ?_; refine H5 V ?_; refine yQ ?_; refine C4 ?_; refine C3 ?_; refine A6 ?_
   exact I9 _ (.tmp V .nil) (by rw [Fr]; kernel_rfl)
 have t11 : (n == 11) = false := G2 Fr
 rw [t11]; refine F4 V ?_; refine B0 ?_; refine B6 ?_; refine yB V V V V ?_; refine H5 V ?_; refine yQ ?_; refine B3 ?_
 by_cases Ds : n = 12
 · have t12 : (n == 12) = true := by simp [Ds]
   rw [t12]; refine G4 V ?_; refine B0 ?_; refine B6 ?_; refine H5 V ?_; refine yQ ?_; refine C4 ?_; refine C3 ?_; refine A6 ?_
   exact I9 _ (.tmp V .nil) (by rw [Ds]; kernel_rfl)
 have t12 : (n == 12) = false := G2 Ds
 rw [t12]; refine F4 V ?_; refine B0 ?_; refine B6 ?_; refine yB V V V V ?_; refine H5 V ?_; refine yQ ?_; refine B3 ?_
 by_cases Il : n = 13
 · have t13 : (n == 13) = true := by simp [Il]
   rw [t13]; refine G4 V ?_; refine B0 ?_; refine B6 ?_; refine H5 V ?_; refine yQ ?_; refine C4 ?_; refine C3 ?_; refine A6 ?_
   exact I9 _ (.tmp V .nil) (by rw [Il]; kernel_rfl)
 have t13 : (n == 13) = false := G2 Il
 rw [t13]; refine F4 V ?_; refine B0 ?_; refine B6 ?_; refine yB V V V V ?_; refine H5 V ?_; refine yQ ?_; refine B3 ?_
 by_cases NZ : n = 14
 · have t14 : (n == 14) = true := by simp [NZ]
   rw [t14]; refine G4 V ?_; refine B0 ?_; refine B6 ?_; refine H5 V ?_; refine yQ ?_; refine C4 ?_; refine C3 ?_; refine A6 ?_
   exact I9 _ (.tmp V .nil) (by rw [NZ]; kernel_rfl)
 have t14 : (n == 14) = false := G2 NZ
 rw [t14]; refine F4 V ?_; refine B0 ?_; refine B6 ?_; refine yB V V V V ?_; refine H5 V ?_; refine yQ ?_; refine B3 ?_
 by_cases h15 : n = 15
 · have t15 : (n == 15) = true := by simp [h15]
   rw [t15]; refine G4 V ?_; refine B0 ?_; refine B6 ?_; refine H5 V ?_; refine yQ ?_; refine C4 ?_; refine C3 ?_; refine A6 ?_
   exact I9 _ (.tmp V .nil) (by rw [h15]; kernel_rfl)
 have t15 : (n == 15) = false := G2 h15
 rw [t15]; refine F4 V ?_; refine B0 ?_; refine B6 ?_; refine yB V V V V ?_; refine H5 V ?_; refine yQ ?_; refine B3 ?_
 by_cases NY : n = 16
 · have t16 : (n == 16) = true := by simp [NY]
   rw [t16]; refine G4 V ?_; refine B0 ?_; refine B6 ?_; refine H5 V ?_; refine yQ ?_; refine C4 ?_; refine C3 ?_; refine A6 ?_
   exact I9 _ (.tmp V .nil) (by rw [NY]; kernel_rfl)
 have t16 : (n == 16) = false := G2 NY
 rw [t16]; refine F4 V ?_; refine B0 ?_; refine B6 ?_; refine yB V V V V ?_; refine H5 V ?_; refine yQ ?_; refine B3 ?_
 by_cases Od : n = 17
 · have t17 : (n == 17) = true := by simp [Od]
   rw [t17]; refine G4 V ?_; refine B0 ?_; refine B6 ?_; refine H5 V ?_; refine yQ ?_; refine C4 ?_; refine C3 ?_; refine A6 ?_
   exact I9 _ (.tmp V .nil) (by rw [Od]; kernel_rfl)
 have t17 : (n == 17) = false := G2 Od
 rw [t17]; refine F4 V ?_; refine B0 ?_; refine B6 ?_; refine yB V V V V ?_; refine H5 V ?_; refine yQ ?_; refine B3 ?_
 by_cases h18 : n = 18
 · have t18 : (n == 18) = true := by simp [h18]
   rw [t18]; refine G4 V ?_; refine B0 ?_; refine B6 ?_; refine H5 V ?_; refine yQ ?_; refine C4 ?_; refine C3 ?_; refine A6 ?_
   exact I9 _ (.tmp V .nil) (by rw [h18]; kernel_rfl)
 have t18 : (n == 18) = false := G2 h18
 rw [t18]; refine F4 V ?_; refine B0 ?_; refine B6 ?_; refine yB V V V V ?_; refine H5 V ?_; refine yQ ?_; refine B3 ?_
 by_cases h19 : n = 19
 · have t19 : (n == 19) = true := by simp [h19]
   rw [t19]; refine G4 V ?_; refine B0 ?_; refine B6 ?_; refine H5 V ?_; refine yQ ?_; refine C4 ?_; refine C3 ?_; refine A6 ?_
   exact I9 _ (.tmp V .nil) (by rw [h19]; kernel_rfl)
 have t19 : (n == 19) = false := G2 h19
 rw [t19]; refine F4 V ?_; refine B2 ?_; refine B0 ?_; refine B6 ?_; refine H5 V ?_; refine yQ ?_; refine C4 ?_
 exact I9 _ (.tmp V .nil) (by rw [Fj, Pw (by omega)]; rfl)
theorem Pv (n : Int) : (Fj n == []) = !(Y8 n).isSome := by
 cases h : Y8 n with
 | none => rw [Fj, h]; rfl
 | some k =>
  have := (KA (Bu h).1).2.2
  rw [Fj, h]
  simpa using this
theorem wRWord (n : Int) : PCalls Tryz.prog 21 [dI n] (.tup [dS (Fj n), dI (erK n)]) := by
 have c1 := KT n
 have t1 := Pv n
 unfold erK
 cases h : (Y8 n).isSome with
 | true =>
  rw [h] at t1
  obtain ⟨w, hw⟩ := I0 (Fj n)
  rw [← hw] at c1 t1 ⊢
  refine M0 Tryz.func21 V Tryz.ntmps21 Tryz.results21 fun B w0 => ?_
  refine E5 (H5 V (A9 V (H9 V (yC (c1) V V (A9 V (H2 V (N7 V V (yQ (B3 (O1 t1 V (B2 (H9 V (H5 V (A9 V (C4 ?_)))))))))))))))
  exact Az V V V
 | false =>
  rw [h] at t1
  have e : Fj n = [] := by simpa using t1
  rw [e] at c1 ⊢
  refine M0 Tryz.func21 V Tryz.ntmps21 Tryz.results21 fun B w0 => ?_
  refine E5 (H5 V (A9 V (H9 V (yC (c1) V V (A9 V (H2 V (N7 V V (yQ (G4 V (E5 (H5 V (A9 V (C4 (A6 ?_))))))))))))))
  exact Az V V V
theorem OC (h : n = 1 ∨ n = 2 ∨ n = 5 ∨ n = 6 ∨ n = 7 ∨ n = 8 ∨ n = 9 ∨ n = 15 ∨ n = 16 ∨ n = 17 ∨ n = 18 ∨ n = 19) : X7 n = [[97, 109, 111, 117, 110, 116]] := by
 rcases h with rfl | rfl | rfl | rfl | rfl | rfl | rfl | rfl | rfl | rfl | rfl | rfl
 · exact of_decide_eq_true V
 · exact of_decide_eq_true V
 · exact of_decide_eq_true V
 · exact of_decide_eq_true V
 · exact of_decide_eq_true V
 · exact of_decide_eq_true V
 · exact of_decide_eq_true V
 · exact of_decide_eq_true V
 · exact of_decide_eq_true V
 · exact of_decide_eq_true V
 · exact of_decide_eq_true V
 · exact of_decide_eq_true V
theorem Su (n : Int) : PCalls Tryz.prog 19 [dI n] (.tup [U7 (X7 n), dI (erK n)]) := by
 have c1 := KT n
 have u1 := Pv n
 refine M0 Tryz.func19 V Tryz.ntmps19 Tryz.results19 fun B w0 => ?_
 refine E5 (H5 V (A9 V (H2 V (yQ (B8 (E5 (F9 V (A9 V (B3 ?_)))))))))
 by_cases h3 : n = 3
 · have t3 : (n == 3) = true := by simp [h3]
   rw [t3]; refine G4 V ?_; refine B0 ?_; refine B6 ?_; refine yR (es := [[_], [_]]) V V V V V ?_; refine H5 V ?_; refine H5 V ?_; refine yQ ?_; refine C4 ?_; refine C3 ?_
   refine A6 ?_
   exact I9 _ (.tmp V (.tmp V .nil)) (by rw [h3]; kernel_rfl)
 have t3 : (n == 3) = false := G2 h3
 rw [t3]; refine F4 V ?_; refine B0 ?_; refine B6 ?_; refine yB V V V V ?_; refine H5 V ?_; refine yQ ?_; refine B3 ?_
 by_cases h4 : n = 4
 · have t4 : (n == 4) = true := by simp [h4]
   rw [t4]; refine G4 V ?_; refine B0 ?_; refine B6 ?_; refine yR (es := [[_], [_], [_], [_]]) V V V V V ?_; refine H5 V ?_; refine H5 V ?_; refine yQ ?_; refine C4 ?_; refine C3 ?_
   refine A6 ?_
   exact I9 _ (.tmp V (.tmp V .nil)) (by rw [h4]; kernel_rfl)
 have t4 : (n == 4) = false := G2 h4
 rw [t4]; refine F4 V ?_; refine B0 ?_; refine B0 ?_; refine B6 ?_; refine yB V V V V ?_; refine H5 V ?_; refine yQ ?_; refine B3 ?_
 by_cases AX : n = 10
 · have t10 : (n == 10) = true := by simp [AX]
   rw [t10]; refine G4 V ?_; refine B2 ?_; refine G4 V ?_; refine B0 ?_; refine B6 ?_; refine yR (es := [[_], [_]]) V V V V V ?_; refine H5 V ?_; refine H5 V ?_; refine yQ ?_; refine C4 ?_
   refine C3 ?_; refine A6 ?_
   exact I9 _ (.tmp V (.tmp V .nil)) (by rw [AX]; kernel_rfl)
 have t10 : (n == 10) = false := G2 AX
 rw [t10]; refine F4 V ?_; refine B6 ?_; refine yB V V V V ?_; refine H5 V ?_; refine yQ ?_; refine B3 ?_
 by_cases NZ : n = 14
 · have t14 : (n == 14) = true := by simp [NZ]
   rw [t14]; refine G4 V ?_; refine B0 ?_; refine B6 ?_; refine yR (es := [[_], [_]]) V V V V V ?_; refine H5 V ?_; refine H5 V ?_; refine yQ ?_; refine C4 ?_; refine C3 ?_
   refine A6 ?_
   exact I9 _ (.tmp V (.tmp V .nil)) (by rw [NZ]; kernel_rfl)
 have t14 : (n == 14) = false := G2 NZ
 rw [t14]; refine F4 V ?_; refine B0 ?_; refine B6 ?_; refine yB V V V V ?_; refine H5 V ?_; refine yQ ?_; refine B3 ?_
 by_cases Fr : n = 11
 · have t11 : (n == 11) = true := by simp [Fr]
   rw [t11]; refine G4 V ?_; refine B0 ?_; refine B6 ?_; refine yR (es := [[_], [_], [_]]) V V V V V ?_; refine H5 V ?_; refine H5 V ?_; refine yQ ?_; refine C4 ?_; refine C3 ?_
   refine A6 ?_
   exact I9 _ (.tmp V (.tmp V .nil)) (by rw [Fr]; kernel_rfl)
 have t11 : (n == 11) = false := G2 Fr
 rw [t11]; refine F4 V ?_; refine B0 ?_; refine B6 ?_; refine yB V V V V ?_; refine H5 V ?_; refine yQ ?_; refine B3 ?_
 by_cases Ds : n = 12
 · have t12 : (n == 12) = true := by simp [Ds]
   rw [t12]; refine G4 V ?_; refine B0 ?_; refine B6 ?_; refine yR (es := [[_], [_], [_]]) V V V V V ?_; refine H5 V ?_; refine H5 V ?_; refine yQ ?_; refine C4 ?_; refine C3 ?_
   refine A6 ?_
   exact I9 _ (.tmp V (.tmp V .nil)) (by rw [Ds]; kernel_rfl)
 have t12 : (n == 12) = false := G2 Ds
 rw [t12]; refine F4 V ?_; refine B0 ?_; refine B6 ?_; refine yB V V V V ?_; refine H5 V ?_; refine yQ ?_; refine B3 ?_
 by_cases Il : n = 13
 · have t13 : (n == 13) = true := by simp [Il]
   rw [t13]; refine G4 V ?_; refine B0 ?_; refine B6 ?_; refine yR (es := [[_], [_]]) V V V V V ?_; refine H5 V ?_; refine H5 V ?_; refine yQ ?_; refine C4 ?_; refine C3 ?_
   refine A6 ?_
   exact I9 _ (.tmp V (.tmp V .nil)) (by rw [Il]; kernel_rfl)
 have t13 : (n == 13) = false := G2 Il
 rw [t13]; refine F4 V ?_; refine B2 ?_; refine B0 ?_; refine B0 ?_; refine B6 ?_; refine B4 V ?_
 cases h : (Y8 n).isSome with
 | true =>
  rw [h] at u1
  have e : X7 n = [[97, 109, 111, 117, 110, 116]] := by
   rw [Py] at h
   simp at h
   exact OC (by omega)
  rw [erK, h, e, B9 rfl]
  clear h e
  obtain ⟨w, hw⟩ := I0 (Fj n)
  rw [← hw] at c1 u1
  refine yC (c1) V V (N7 V V (yQ (B3 (O1 u1 V (B2 (E5 ?_)))))); refine yR (es := [[_]]) V V V V V ?_; refine H5 V (A9 V (C4 ?_))
  exact Az V V V
 | false =>
  rw [h] at u1
  have e : X7 n = [] := by
   cases e : Y8 n with
   | none => rw [X7, e]; rfl
   | some k => rw [e] at h; cases h
  rw [erK, h, e, B5 (by simp)]
  clear h e
  obtain ⟨w, hw⟩ := I0 (Fj n)
  rw [← hw] at c1 u1
  refine yC (c1) V V (N7 V V (yQ (B3 (L8 u1 V (E5 (H5 V (A9 V (C4 (A6 ?_)))))))))
  exact I9 _ (.tnil 1 V (.tmp V .nil)) V
theorem FA (n : Int) : EH (.agg [dS [], .sl 1 [], dS []]) n Bt = .agg (SK (Fj n, X7 n, Qy n)) ∧ LD n Bt = (Y8 n).isSome := by
 refine Uk (P := fun n => EH (.agg [dS [], .sl 1 [], dS []]) n Bt = .agg (SK (Fj n, X7 n, Qy n)) ∧ LD n Bt = (Y8 n).isSome) (fun k hk => ?_) (fun n hn => ?_) n
 · have : ∀ k, k < 19 → EH (.agg [dS [], .sl 1 [], dS []]) ((k + 1 : Nat) : Int) Bt = .agg (SK (Fj ((k + 1 : Nat) : Int), X7 ((k + 1 : Nat) : Int), Qy ((k + 1 : Nat) : Int))) ∧ LD ((k + 1 : Nat) : Int) Bt = (Y8 ((k + 1 : Nat) : Int)).isSome := by
    intro k hk
    match k, hk with
    | 0, _ => exact ⟨by kernel_rfl, by kernel_rfl⟩
    | 1, _ => exact ⟨by kernel_rfl, by kernel_rfl⟩
    | 2, _ => exact ⟨by kernel_rfl, by kernel_rfl⟩
    | 3, _ => exact ⟨by kernel_rfl, by kernel_rfl⟩
    | 4, _ => exact ⟨by kernel_rfl, by kernel_rfl⟩
    | 5, _ => exact ⟨by kernel_rfl, by kernel_rfl⟩
    | 6, _ => exact ⟨by kernel_rfl, by kernel_rfl⟩
    | 7, _ => exact ⟨by kernel_rfl, by kernel_rfl⟩
    | 8, _ => exact ⟨by kernel_rfl, by kernel_rfl⟩
    | 9, _ => exact ⟨by kernel_rfl, by kernel_rfl⟩
    | 10, _ => exact ⟨by kernel_rfl, by kernel_rfl⟩
    | 11, _ => exact ⟨by kernel_rfl, by kernel_rfl⟩
    | 12, _ => exact ⟨by kernel_rfl, by kernel_rfl⟩
    | 13, _ => exact ⟨by kernel_rfl, by kernel_rfl⟩
    | 14, _ => exact ⟨by kernel_rfl, by kernel_rfl⟩
    | 15, _ => exact ⟨by kernel_rfl, by kernel_rfl⟩
    | 16, _ => exact ⟨by kernel_rfl, by kernel_rfl⟩
    | 17, _ => exact ⟨by kernel_rfl, by kernel_rfl⟩
    | 18, _ => exact ⟨by kernel_rfl, by kernel_rfl⟩
    | k + 19, h => omega
   exact this k hk
 · have h1 : Y8 n = none := by
    refine Pw ?_
    by_cases h : n < 1 ∨ 19 < n
    · exact h
    · exact G5 (by omega : n = (((n.toNat - 1) + 1 : Nat) : Int)) (hn (n.toNat - 1) (by omega))
   have h2 : ∀ (l : List (Int × DV)) z, (∀ p ∈ l, p.1 ≠ n) → EH z n l = z ∧ LD n l = false := by
    intro l z hl
    induction l with
    | nil => exact ⟨rfl, V⟩
    | cons p l ih =>
     obtain ⟨q1, q2⟩ := ih fun q hq => hl q (by simp [hq])
     refine ⟨?_, ?_⟩
     · rw [EH, B5 (hl p (by simp)), q1]
     · have := hl p (by simp)
       simp only [LD, List.any_cons] at q2 ⊢
       rw [q2, G2 this]; rfl
   obtain ⟨q1, q2⟩ := h2 Bt (.agg [dS [], .sl 1 [], dS []]) fun p hp e => by
    obtain ⟨k, hk, rfl⟩ := G7.1 hp
    have := Ey hk
    rw [show k.1 = n from e, h1] at this
    cases this
   rw [q1, q2, Fj, X7, Qy, h1]
   exact ⟨rfl, V⟩
abbrev vSs (l : List F6) : List Value := l.map vS
theorem Jk (l : List F6) {n : Nat} (h : l.length = n) : O8 1 n ((vSs l).map .val) = l.map fun s => [dS s] := by
 subst h
 induction l with
 | nil => rfl
 | cons x l ih =>
  show [dS x] :: O8 1 l.length ((vSs l).map .val) = [dS x] :: l.map fun s => [dS s]
  rw [ih]
theorem TS (vs : List Value) : Ad (vs.map fun u => SV.d (.val u)) = some (vs.map DV.val) := Hs (fun u => DV.val u) vs
theorem UL (vs : List Value) (t : Nat) : ((vs.map fun u => SV.d (.val u)).all fun x => x.noTs t) = true := by
 rw [D7]
 intro x hx
 rw [G7] at hx
 obtain ⟨u, -, rfl⟩ := hx
 rfl
abbrev cSt5 : Nat := 9 * 100000 + 5
theorem TG (l : List F6) (h0 : 0 < l.length) (hl : l.length ≤ 1000000) : POwn Tryz.prog 64 [U7 l] 9 1 (l.map fun s => [dS s]) := by
 refine IP (t := cSt5) Tryz.func64 V Tryz.ntmps64 Tryz.results64 (by simp) V fun B w0 => ?_
 refine E5 (A9 V (H2 V ?_)); refine yEn Tryz.underlying36 (by simp; omega) V ?_; refine yQ (F4 V (B2 (E5 (yEb V (B4 V ?_))))); refine NQ (us := []) (vs := vSs l) (m := l.length) (n := 0) h0 (by omega) (by omega) (Jk l V) (by simp) V V V V ?_; refine EZ V (yQ ?_); refine IL 2 5 cSt5 (n := 0 + l.length) (es := l.map fun s => [dS s]) (ds := (vSs l).map .val) (by simp) (Jk l (by simp)) (TS _) V V V V (Jv (i := 5) (cs := (vSs l).map fun u => SV.d (.val u)) V V (UL _ _)) ?_; refine C4 ?_
 exact q_own V (G6 some (by simp))
theorem wNamesK (n : Int) : PCalls Tryz.prog 18 [dI n] (.tup [U7 (X7 n), dI (erK n)]) := by
 have k0 := Hq
 obtain ⟨hg, hh⟩ := FA n
 obtain ⟨M, hM⟩ := I0 (Bt)
 rw [← hM] at k0 hg hh
 unfold erK
 cases h : Y8 n with
 | none =>
  rw [h] at hh
  have e : X7 n = [] := by rw [X7, h]; rfl
  obtain ⟨w, hw⟩ := I0 (Fj n)
  obtain ⟨g, VN⟩ := I0 (Qy n)
  rw [← hw, ← VN, e] at hg
  rw [e]
  clear h e hw VN hM
  refine M0 Tryz.func18 V Tryz.ntmps18 Tryz.results18 fun B w0 => ?_
  refine E5 (H5 V (A9 V (E5 (yC (k0) V V (B4 V (Nd (t := false) V V hg hh (O6 V (yX V V (yX V V (yZ (cs := [_, _, _]) V V (yS (cs' := [_, _, _]) V V V V V (A9 V (H2 V (yU V V V (yQ (G4 V (E5 (H5 V (A9 V (C4 (A6 ?_)))))))))))))))))))))
  exact I9 _ (.tnil 1 V (.tmp V .nil)) V
 | some k =>
  rw [h] at hh
  have e : 0 < (X7 n).length ∧ (X7 n).length ≤ 4 := by
   have h1 : X7 n = k.2.2.1 := by rw [X7, h]; rfl
   rw [h1]
   have h2 : ∀ k ∈ kndL, 0 < k.2.2.1.length ∧ k.2.2.1.length ≤ 4 := by decide
   exact h2 k (Bu h).1
  obtain ⟨w, hw⟩ := I0 (Fj n)
  obtain ⟨g, VN⟩ := I0 (Qy n)
  obtain ⟨l, hl⟩ := I0 (X7 n)
  rw [← hw, ← VN, ← hl] at hg
  rw [← hl] at e ⊢
  have k1 := (TG l e.1 (by omega)).pcalls
  clear h e hw VN hM hl
  refine M0 Tryz.func18 V Tryz.ntmps18 Tryz.results18 fun B w0 => ?_
  refine E5 (H5 V (A9 V (E5 (yC (k0) V V (B4 V (Nd (t := true) V V hg hh (O6 V (yX V V (yX V V (yZ (cs := [_, _, _]) V V (yS (cs' := [_, _, _]) V V V V V (A9 V (H2 V (yU V V V (yQ (F4 V (B2 (E5 (L1 V (yC (k1) V V (H5 V (A9 V (C4 ?_)))))))))))))))))))))))
  exact Az V V V
theorem wWordK (n : Int) : PCalls Tryz.prog 20 [dI n] (.tup [dS (Fj n), dI (erK n)]) := by
 have k0 := Hq
 obtain ⟨hg, hh⟩ := FA n
 obtain ⟨M, hM⟩ := I0 (Bt)
 rw [← hM] at k0 hg hh
 unfold erK
 cases h : Y8 n with
 | none =>
  rw [h] at hh
  have e : Fj n = [] := by rw [Fj, h]; rfl
  obtain ⟨w, hw⟩ := I0 (X7 n)
  obtain ⟨g, VN⟩ := I0 (Qy n)
  rw [← hw, ← VN, e] at hg
  rw [e]
  clear h e hw VN hM
  refine M0 Tryz.func20 V Tryz.ntmps20 Tryz.results20 fun B w0 => ?_
  refine E5 (H5 V (A9 V (E5 (yC (k0) V V (B4 V (Nd (t := false) V V hg hh (O6 V (yX V V (yX V V (yZ (cs := [_, _, _]) V V (yS (cs' := [_, _, _]) V V V V V (A9 V (H2 V (yU V V V (yQ (G4 V (E5 (H5 V (A9 V (C4 (A6 ?_)))))))))))))))))))))
  exact Az V V V
 | some k =>
  rw [h] at hh
  obtain ⟨w, hw⟩ := I0 (Fj n)
  obtain ⟨g, VN⟩ := I0 (Qy n)
  obtain ⟨l, hl⟩ := I0 (X7 n)
  rw [← hw, ← VN, ← hl] at hg
  rw [← hw]
  clear h hw VN hM hl
  refine M0 Tryz.func20 V Tryz.ntmps20 Tryz.results20 fun B w0 => ?_
  refine E5 (H5 V (A9 V (E5 (yC (k0) V V (B4 V (Nd (t := true) V V hg hh (O6 V (yX V V (yX V V (yZ (cs := [_, _, _]) V V (yS (cs' := [_, _, _]) V V V V V (A9 V (H2 V (yU V V V (yQ (F4 V (B2 (E5 (L1 V (H5 V (A9 V (C4 ?_))))))))))))))))))))))
  exact Az V V V
theorem Ps {s : F6} (h : Cg s = true) : s.length ≤ 16 := by
 unfold Cg J5 at h
 simp only [C9, decide_eq_true_eq] at h
 exact h.1.1.2
theorem Qb {c : Cf} : cE c = 0 ↔ Cg c.1 = true ∧ Fo c.2 = true := by
 unfold cE
 cases Cg c.1 <;> cases Fo c.2 <;> simp
theorem FO {e : List Cf} : KP e = 0 ↔ e.length ≤ 16 ∧ ∀ c ∈ e, Cg c.1 = true ∧ Fo c.2 = true := by
 unfold KP
 constructor
 · intro h
   split at h
   · cases h
   · exact ⟨by omega, fun c hc => Qb.1 (Vr h c hc)⟩
 · rintro ⟨h1, h2⟩
   rw [B5 (by omega)]
   exact Vs fun c hc => Qb.2 (h2 c hc)
def nmE (e : List Cf) : List Cf := if KP e = 0 then nf e else []
theorem Ll (e : List Cf) (hl : e.length ≤ 1000000) (hf : ∀ c ∈ e, c.2.length ≤ 70000) : PCalls Tryz.prog 94 [.sl 2 (e.map dCf)] (.tup [.sl 2 ((nmE e).map dCf), dI (KP e)]) := by
 have k1 := wCheckE e hl fun c hc => by have := hf c hc; omega
 by_cases h : KP e = 0
 · obtain ⟨h1, h2⟩ := FO.1 h
   have k2 := Lk e (by omega) (fun c hc => by have := Ps (h2 c hc).1; omega) hf
   rw [nmE, B9 h, h]
   rw [h] at k1
   obtain ⟨r, hr⟩ := I0 (nf e)
   rw [← hr] at k2 ⊢
   refine M0 Tryz.func94 V Tryz.ntmps94 Tryz.results94 fun B w0 => ?_
   refine E5 (H5 V (A9 V (H2 V (yC (k1) V V (A9 V (H9 V (I3 V (F4 V (B2 (H9 V (yC (k2) V V (H5 V (A9 V (C4 ?_))))))))))))))
   exact Az V V V
 · have t : (KP e != 0) = true := by simpa using h
   rw [nmE, B5 h]
   obtain ⟨x, hx⟩ := I0 (KP e)
   rw [← hx] at k1 t ⊢
   refine M0 Tryz.func94 V Tryz.ntmps94 Tryz.results94 fun B w0 => ?_
   refine E5 (H5 V (A9 V (H2 V (yC (k1) V V (A9 V (H9 V (I3 V (B3 (L8 t V (H9 V (H5 V (A9 V (C4 (A6 ?_))))))))))))))
   exact I9 _ (.tnil 2 V (.tmp V .nil)) V
end Go.Proofs.YtddfimjiihggmaaGreatDoor
namespace Go.Proofs.YtddfimjiihggmaaGreatDoor.Px
open Go.RowKit
variable {vs : List Value} {u : Value}
section
variable {P : Program} {sq : Bool} {ops : Array Oper} {K : PS → Prop} {rest : List Oper} {st : PS} {d : Option Nat} {ty : TypeId} {pos : String} {af : Array Edge} {gd : Option (Nat × Bool)}
theorem ls_ext (f : FuncId) (l : List Operand) (ts : Array TypeId) (hf : ∀ w, (callFunc f vs.toArray).run P w = .ok (.value u) w) (hx : AY st l = some vs) (hu : u.oneCell' = true) (hd : H8 ⟨d, .call { callee := .value (.func f), args := l.toArray, argTypes := ts }, ty, pos, af, gd⟩ st = true) :
 M6 P ⟨d, .call { callee := .value (.func f), args := l.toArray, argTypes := ts }, ty, pos, af, gd⟩ st (.d (.val u)) .no := fun st2 ha =>
 OpS.value (ha.dst hd) fun _ _ _ a w h => by
  have h1 : AY st2 l = some vs := by rw [FM fun x hx => ha.ev x (by simp [Op.operands, Call.operands, hx])]; exact hx
  have h2 := Is h1 h
  refine ⟨u, w, ?_, Below.refl _ _, DRep.val _ hu⟩
  have h3 : (execOp a.eval ⟨d, .call { callee := .value (.func f), args := l.toArray, argTypes := ts }, ty, pos, af, gd⟩).run P w = (callFunc f (l.map a.eval).toArray).run P w := by
   simp only [execOp, resolve, Act.eval, Deferred.ofValue, Sem.run_bind, Sem.run_pure, D2, invoke, List.map_toArray]
   simp
  rw [h3, h2, hf]
theorem yEx {f : Nat} {l : List Operand} {ts : Array TypeId} (hf : ∀ w, (callFunc f vs.toArray).run P w = .ok (.value u) w) (hx : AY st l = some vs) (hu : u.oneCell' = true) (h : YR P sq ops K rest (st.put d (.d (.val u)))) (zz : zk ops st ⟨d, .call { callee := .value (.func f), args := l.toArray, argTypes := ts }, ty, pos, af, gd⟩ .no = true := by kernel_rfl) :
 YR P sq ops K (⟨d, .call { callee := .value (.func f), args := l.toArray, argTypes := ts }, ty, pos, af, gd⟩ :: rest) st := M4 (ls_ext f l ts hf hx hu (zd zz)) (zo zz) (zw zz) h
end
end Go.Proofs.YtddfimjiihggmaaGreatDoor.Px
namespace Go.Proofs.YtddfimjiihggmaaGreatDoor
open Go.RowKit Px Go.Lib
theorem hIB (s : F6) (c : UInt8) (w : World) : (callFunc 245 #[vS s, .int .u8 c.toNat]).run Tryz.prog w = .ok (.value (.int .i64 (indexByte s c))) w := by
 rw [run_callFunc_indexByte Tryz.func245 (by kernel_rfl) (by kernel_rfl) (by kernel_rfl) (by kernel_rfl), run_indexByteString]
 simp [Result.andThen]
theorem wIdxB (s : F6) (c : UInt8) : PCalls Tryz.prog 219 [dS s, .val (.int .u8 c.toNat)] (.d (dI (indexByte s c))) := by
 refine M0 Tryz.func219 V Tryz.ntmps219 Tryz.results219 fun B w0 => ?_
 refine E5 (A9 V (H9 V (B4 V ?_))); refine yEx (vs := [vS s, .int .u8 c.toNat]) (fun w => hIB s c w) V V ?_; refine A9 V (C4 ?_)
 exact M8 V V
theorem wIdx1 (s : F6) (c : UInt8) : PCalls Tryz.prog 176 [dS s, dS [c]] (.d (dI (indexByte s c))) := by
 have k1 := wIdxB s c
 have hx : ([c] : F6)[(0 : Int).toNat]? = some c := rfl
 cases h : ([c] == s) with
 | true =>
  have e : s = [c] := by simpa using (beq_iff_eq.1 h).symm
  subst e
  have e0 : indexByte [c] c = 0 := by simp [indexByte]
  rw [e0]
  refine M0 Tryz.func176 V Tryz.ntmps176 Tryz.results176 fun B w0 => ?_
  refine E5 (A9 V (H9 V (O2 V (A9 V (B0 (B8 (H9 V (F9 V (B4 V (B4 V (B4 V (N7 V V (L3 V V (A9 V (B3 (L8 h V (E5 (A9 V (C4 (C3 (A6 ?_)))))))))))))))))))))
  exact M8 V V
 | false =>
  obtain ⟨r, hr⟩ := I0 (indexByte s c)
  rw [← hr] at k1 ⊢
  refine M0 Tryz.func176 V Tryz.ntmps176 Tryz.results176 fun B w0 => ?_
  refine E5 (A9 V (H9 V (O2 V (A9 V (B0 (B8 (H9 V (F9 V (B4 V (B4 V (B4 V (N7 V V (L3 V V (A9 V (B3 (O1 h V (H9 V (F9 V (A9 V (G4 V (H9 V (B4 V (U1 hx (by omega) V V (yC (k1) V V (A9 V (C4 (C3 (A6 ?_))))))))))))))))))))))))))))
  exact M8 V V
theorem wCutI (s : F6) (c : UInt8) (hl : s.length ≤ 1000000) : PCalls Tryz.prog 125 [dS s, dS [c]] (.tup [dS (S7 c s), dS (Q6 c s), dB (Bi c s)]) := by
 have k1 := wIdx1 s c
 rw [EU] at k1
 unfold S7 Q6 Bi
 cases h : T9 c s with
 | none =>
  rw [h] at k1
  refine M0 Tryz.func125 V Tryz.ntmps125 Tryz.results125 fun B w0 => ?_
  refine E5 (H5 V (H5 V (A9 V (H2 V (B4 V (yC (k1) V V (A9 V (H9 V (I3 V (F4 V (B2 (H9 V (H5 V (H5 V (A9 V (C4 ?_))))))))))))))))
  exact I9 _ (.tmp V (.tmp V (.tmp V .nil))) V
 | some p =>
  rw [h] at k1
  obtain ⟨t, r⟩ := p
  have he := Ak h
  simp only at k1 he ⊢
  have hle : t.length ≤ s.length := by rw [he]; simp
  have hw : IntKind.i64.wrap ((t.length : Int) + (([c] : F6).length : Int)) = (t.length : Int) + 1 := J0 ((t.length : Int) + 1) (by omega)
  have h1 : s.take ((t.length : Int)).toNat = t := by rw [H0, he]; simp
  have h2 : s.drop (((t.length : Int) + 1)).toNat = r := by
   rw [show ((t.length : Int) + 1).toNat = t.length + 1 by omega, he]
   simp
  have h3 : (t.length : Int) + 1 ≤ s.length := by rw [he]; simp; omega
  have t1 : decide ((t.length : Int) ≥ 0) = true := B1 (by omega)
  obtain ⟨n, hn⟩ : ∃ n : Int, n = (t.length : Int) := ⟨_, rfl⟩
  rw [← hn] at k1 hw h1 h2 h3 t1
  have AR : 0 ≤ n := by omega
  clear he hn h
  refine M0 Tryz.func125 V Tryz.ntmps125 Tryz.results125 fun B w0 => ?_
  refine E5 (H5 V (H5 V (A9 V (H2 V (B4 V (yC (k1) V V (A9 V (H9 V (I3 V (B3 (L8 t1 V (B0 ?_)))))))))))); refine J2 Tryz.mixed (by kernel_rfl) ?_; refine B4 V (B4 V (W0 AR (by omega) h1 V V (B4 V (B4 V (B4 V (O2 V (F9 V ?_)))))))
  rw [hw]; refine U9 (by omega) h3 h2 V V ?_; refine H5 V ?_; refine H5 V ?_; refine H5 V ?_; refine yQ ?_; refine C4 ?_; refine A6 ?_
  exact I9 _ (.tmp V (.tmp V (.tmp V .nil))) V
theorem Lq (s : F6) (c : UInt8) (hl : s.length ≤ 1000000) : PCalls Tryz.prog 79 [dS s, dS [c]] (.tup [dS (S7 c s), dS (Q6 c s), dB (Bi c s)]) := by
 have k1 := wCutI s c hl
 refine M0 Tryz.func79 V Tryz.ntmps79 Tryz.results79 fun B w0 => ?_
 refine E5 (H5 V (H5 V (A9 V (H9 V (B4 V (yC (k1) V V (yX V V (yX V V (yX V V (H5 V (H5 V (A9 V (C4 ?_)))))))))))))
 exact I9 _ (.tmp V (.tmp V (.tmp V .nil))) V
def JF (c : UInt8) : F6 → F6
 | [] => []
 | b :: l => if b = c then l else b :: l
def Lh (c : UInt8) : F6 → Bool
 | [] => false
 | b :: _ => b == c
theorem wHasP1 (s : F6) (c : UInt8) (hl : s.length ≤ 1000000) : PCalls Tryz.prog 211 [dS s, dS [c]] (.d (dB (Lh c s))) := by
 cases s with
 | nil =>
  refine M0 Tryz.func211 V Tryz.ntmps211 Tryz.results211 fun B w0 => ?_
  refine E5 (A9 V (H9 V (O2 V (B4 V (O2 V (F9 V (B4 V (L4 V V (L4 V V (L4 V V (L3 V V (A9 V (C4 ?_)))))))))))))
  exact M8 V V
 | cons b l =>
  have t1 : decide ((((b :: l : F6).length : Nat) : Int) ≥ (([c] : F6).length : Int)) = true := B1 (by simp; omega)
  have h1 : (b :: l : F6).take ((([c] : F6).length : Int)).toNat = [b] := rfl
  have e : Lh c (b :: l) = (([b] : F6) == [c]) := by simp [Lh]
  rw [e]
  obtain ⟨s, hs⟩ := I0 ((b :: l : F6))
  rw [← hs] at t1 h1 ⊢
  have h2 : ((([c] : F6).length : Nat) : Int) ≤ s.length := of_decide_eq_true t1
  refine M0 Tryz.func211 V Tryz.ntmps211 Tryz.results211 fun B w0 => ?_
  refine E5 (A9 V (H9 V (O2 V (B4 V (O2 V (F9 V (B4 V ?_))))))); rw [t1]; refine B4 V (B4 V (O2 V (W0 (by omega) h2 h1 V V (B4 V (N7 V V (L2 V V (A9 V (C4 ?_))))))))
  exact M8 V V
theorem wCutPI (s : F6) (c : UInt8) (hl : s.length ≤ 1000000) : PCalls Tryz.prog 164 [dS s, dS [c]] (.tup [dS (JF c s), dB (Lh c s)]) := by
 have k1 := wHasP1 s c hl
 cases h : Lh c s with
 | false =>
  rw [h] at k1
  have e : JF c s = s := by
   cases s with
   | nil => rfl
   | cons b l => have : ¬ b = c := by simpa [Lh] using h
                 rw [JF, B5 this]
  rw [e]
  refine M0 Tryz.func164 V Tryz.ntmps164 Tryz.results164 fun B w0 => ?_
  refine E5 (H5 V (A9 V (H2 V (B4 V (yC (k1) V V (yU V V V (yQ (G4 V (H9 V (H5 V (A9 V (C4 (A6 ?_)))))))))))))
  exact Az V V V
 | true =>
  rw [h] at k1
  obtain ⟨l, rfl⟩ : ∃ l, s = c :: l := by
   cases s with
   | nil => cases h
   | cons b l => exact ⟨l, by rw [show b = c by simpa [Lh] using h]⟩
  have e : JF c (c :: l) = l := by rw [JF, B9 rfl]
  have h1 : (c :: l : F6).drop ((([c] : F6).length : Int)).toNat = l := rfl
  have h2 : ((([c] : F6).length : Nat) : Int) ≤ ((c :: l : F6).length : Int) := by simp; omega
  rw [e]
  obtain ⟨s, hs⟩ := I0 ((c :: l : F6))
  rw [← hs] at k1 h1 h2 ⊢
  refine M0 Tryz.func164 V Tryz.ntmps164 Tryz.results164 fun B w0 => ?_
  refine E5 (H5 V (A9 V (H2 V (B4 V (yC (k1) V V (yU V V V (yQ (F4 V (B2 (H9 V (B4 V (O2 V (U9 (by omega) h2 h1 V V (H5 V (A9 V (C4 ?_))))))))))))))))
  exact Az V V V
theorem wCutP1 (s : F6) (c : UInt8) (hl : s.length ≤ 1000000) : PCalls Tryz.prog 121 [dS s, dS [c]] (.tup [dS (JF c s), dB (Lh c s)]) := by
 have k1 := wCutPI s c hl
 refine M0 Tryz.func121 V Tryz.ntmps121 Tryz.results121 fun B w0 => ?_
 refine E5 (H5 V (A9 V (H9 V (B4 V (yC (k1) V V (yX V V (yX V V (H5 V (A9 V (C4 ?_))))))))))
 exact Az V V V
open Go.RowKit Go.Shelf Px
variable {F : Nat → Nat → Prop} {W : World} {b : Nat}
attribute [local go_sem] Oper.semAt_some
theorem RF {P : Program} {f : FuncId} {vs us : List Value} (h : PCalls P f (vs.map .val) (.tup (us.map .val))) (h1 : ∀ v ∈ vs, v.oneCell' = true) (hg : GlobOk F W) : Calls P f vs.toArray W fun e W' => e = .returned (.tuple us.toArray) ∧ Below W.heap.size W W' := by
 refine (h F W vs (by simp) (fun i v x hv hx => ?_) hg).mono ?_
 · rw [C6, hv] at hx
   cases hx
   exact DRep.val v (h1 v (C0 hv))
 · rintro e W' ⟨v, rfl, ⟨ws, rfl, h3, h4⟩, h5⟩
   have : ws = us := by
    refine List.ext_getElem (by simpa using h3) fun i h6 h7 => ?_
    exact DRep.val_eq (h4 i _ _ (A4 h6) (by rw [C6, A4 h7]; rfl))
   rw [this]
   exact ⟨rfl, h5⟩
theorem Oh {W' : World} (h : GlobOk F W) (hb : Below W.heap.size W W') : GlobOk F W' := fun q cs hq => by
 obtain ⟨h1, vs, h2, T, z, h3⟩ := h q cs hq
 exact ⟨h1.mono fun b o hf hs => ⟨hf, L0 (hb.block b (Y0 hs)) o⟩, vs, h2, T, z, (hb.block q (D1.1 h3).1).trans h3⟩
theorem gs_ne {q : Nat} {cs : List DV} (h : G1 gs q = some cs) : cs ≠ [] := by
 have h1 : gs.all (fun p => !p.2.isEmpty) = true := by rfl
 have h2 := D7.1 h1 _ (N0 h)
 rintro rfl
 cases h2
theorem SB {W' : World} (h : GlobOk F W) (hF : ∀ o, ¬ F b o) (hb : ∀ c, c < W.heap.size → c ≠ b → W'.heap[c]? = W.heap[c]?) : GlobOk F W' := fun q cs hq => by
 obtain ⟨h1, vs, h2, T, z, h3⟩ := h q cs hq
 have hqb : q ≠ b := fun e => by
  cases h1 with
  | ref f hc _ =>
   have := (hc 0 (List.length_pos_iff.2 (gs_ne hq))).2.1
   rw [e] at this
   exact hF _ this
 refine ⟨h1.mono fun c o hf hs => ⟨hf, L0 (hb c (Y0 hs) fun e => hF o (e ▸ hf)) o⟩, vs, h2, T, z, (hb q (D1.1 h3).1 hqb).trans h3⟩
def CellS (W : World) (b : Nat) (s : F6) : Prop := ∃ (ys : List Value) (T : Nat), W.heap[b]? = some (.cells ys.toArray T (0, 0)) ∧ ys[0]? = some (vS s)
theorem CellS.cell {s : F6} (h : CellS W b s) : W.cell? ⟨b, 0, none⟩ = some (vS s) := by
 obtain ⟨ys, T, h1, h2⟩ := h
 simp [World.cell?, h1, h2]
theorem CellS.frz {s : F6} (h : CellS W b s) : W.frozen? ⟨b, 0, none⟩ = false := by
 obtain ⟨ys, T, h1, h2⟩ := h
 simp [World.frozen?, h1]
theorem CellS.lt {s : F6} (h : CellS W b s) : b < W.heap.size := by
 obtain ⟨ys, T, h1, h2⟩ := h
 exact (D1.1 h1).1
theorem CellS.same {W' : World} {s : F6} (h : CellS W b s) (e : W'.heap[b]? = W.heap[b]?) : CellS W' b s := by
 obtain ⟨ys, T, h1, h2⟩ := h
 exact ⟨ys, T, e.trans h1, h2⟩
theorem CellS.below {W' : World} {s : F6} (h : CellS W b s) (hb : Below W.heap.size W W') : JB b W W' := by
 have hlt := h.lt
 obtain ⟨ys, T, h1, h2⟩ := h
 exact ⟨hb.os, hb.tape, hb.output, hb.size, fun c hc _ => hb.block c hc, _, _, _, (hb.block b hlt).trans h1⟩
theorem CellS.set {s : F6} (h : CellS W b s) (t : F6) : CellS (W.setCell ⟨b, 0, none⟩ (vS t)) b t ∧ JB b W (W.setCell ⟨b, 0, none⟩ (vS t)) := by
 obtain ⟨ys, T, h1, h2⟩ := h
 have h3 : (W.setCell ⟨b, 0, none⟩ (vS t)).heap[b]? = some (.cells (ys.set 0 (vS t)).toArray T (0, 0)) := by
  simp [World.setCell, Array.getElem?_modify, h1]
 obtain ⟨hlt, -⟩ := A5.1 h2
 exact ⟨⟨_, T, h3, by simp [hlt]⟩, rfl, rfl, rfl, by simp [World.setCell], fun c _ hc => Below.heap_setCell W _ _ c (by simpa using hc), _, _, _, h3⟩
def LT (W : World) (b : Nat) : Nat := match W.cell? ⟨b, 0, none⟩ with
 | some (.string s) => s.size
 | _ => 0
theorem CellS.len {s : F6} (h : CellS W b s) : LT W b = s.length := by
 rw [LT, h.cell]
 simp [ByteArray.size]
theorem Qz (s : F6) (hs : s.length ≤ 1000000) (F : Nat → Nat → Prop) (w : World) (b : Nat) (hF : ∀ o, ¬ F b o) (hw : CellS w b s) : Hm Tryz.prog 210 #[.pointer (some ⟨b, 0, none⟩)] ((S5 46 s).map fun t => [vS t]) b F w := by
 intro l J Jx hJ hJx hY Df h0
 refine callsIn_of_wp Tryz.func210 V trivial ?_ V
 simp only [Tryz.ntmps210, List.size_toArray, List.length_cons, List.length_nil, Nat.reduceAdd, Nat.reduceSub, Array.replicate_succ, Array.replicate_zero, List.push_toArray, List.append_toArray, List.nil_append, List.cons_append]
 have HJ := Lib.hid hJ
 have HJX := Lib.hid hJx
 have HY := Lib.hid hY
 have HG := Lib.hid Df
 have HF := Lib.hid hF
 have C2 : Hid (∀ t, t.length ≤ 1000000 → ∀ W, GlobOk F W → Calls Tryz.prog 79 #[vS t, vS [46]] W fun e W' => e = .returned (.tuple #[vS (S7 46 t), vS (Q6 46 t), .bool (Bi 46 t)]) ∧ Below W.heap.size W W') :=
  Lib.hid fun t ht W hg => RF (vs := [vS t, vS [46]]) (us := [vS (S7 46 t), vS (Q6 46 t), .bool (Bi 46 t)]) (Lq t 46 ht) (fun v hv => by simp at hv; rcases hv with rfl | rfl <;> rfl) hg
 clear hJ hJx hY Df hF
 gi_wp2
 gi_loopw [3] (fun v3 wr => ∃ (i : Nat) (s' : F6), CellS wr b s' ∧ J i wr ∧ Hid (((S5 46 s).map fun t => [vS t]).drop i = (S5 46 s').map (fun t => [vS t]) ∧ s'.length ≤ 1000000 ∧ GlobOk F wr))
  (fun _ wr => LT wr b)
 case atStart => exact ⟨0, s, hw, h0, Lib.hid ⟨rfl, hs, HG.out⟩⟩
 case round =>
  obtain ⟨i, s', hc, hJi, HR⟩ := hrel
  have HC := Lib.hid hc
  have c1 := hc.cell
  have K2 := Lib.hid (C2.out s' HR.out.2.1 wr HR.out.2.2)
  have HX : Hid (((S5 46 s).map fun t => [vS t])[i]? = some [vS (S7 46 s')] ∧ ((S5 46 s).map fun t => [vS t]).drop (i + 1) = if Bi 46 s' then (S5 46 (Q6 46 s')).map (fun t => [vS t]) else []) := by
   have Cc := HR.out.1
   rw [BS 46 s'] at Cc
   unfold S7 Q6 Bi
   refine Lib.hid ?_
   cases e : T9 46 s' with
   | none =>
    rw [e] at Cc
    have h1 := G6 (fun l => l[0]?) Cc
    have h2 := G6 (List.drop 1) Cc
    exact ⟨by simpa using h1, by simpa using h2⟩
   | some p =>
    rw [e] at Cc
    have h1 := G6 (fun l => l[0]?) Cc
    have h2 := G6 (List.drop 1) Cc
    exact ⟨by simpa using h1, by simpa using h2⟩
  clear hc
  gi_wp2_with (refine ⟨D5, rfl, ?_⟩; gi_at_call 79; refine (callsIn_wide.2 K2.out).mono ?_; rintro e w' ⟨rfl, Aq⟩; obtain ⟨fn, tmps, assign, body, hy, hR⟩ := HY.out i _ w' HX.out.1 (HJ.out i _ _ hJi (HC.out.below Aq)); have HR2 := Lib.hid hR; have HC2 := Lib.hid (HC.out.same (Aq.block b HC.out.lt)); have HG2 := Lib.hid (Oh HR.out.2.2 Aq); clear hR Aq)
  refine ⟨rfl, ?_⟩
  refine HR2.out.mono ?_
  rintro e W3 (⟨rfl, hJ3, -, hg3, hb3⟩ | ⟨rfl, hJx3, hb3⟩)
  · have HG3 := Lib.hid hg3
    have HC3 := Lib.hid (HC2.out.same hb3)
    clear hg3 hb3
    cases hb : Bi 46 s' with
    | false =>
     have HL : Hid (i + 1 = ((S5 46 s).map fun t => [vS t]).length) := Lib.hid (by
      have h1 := HX.out.2
      rw [hb, B5 (by simp), List.drop_eq_nil_iff] at h1
      have h2 := (A5.1 HX.out.1).1
      omega)
     gi_wp2
     refine bodyPost_ret (results_none V _ _ _) V ?_
     exact ⟨⟨_, V⟩, .inl (by rw [← HL.out]; exact hJ3)⟩
    | true =>
     have c3 := HC3.out.cell
     have f3 := HC3.out.frz
     gi_wp2
     obtain ⟨s1, s2⟩ := HC3.out.set (Q6 46 s')
     have HG4 := Lib.hid (SB HG3.out HF.out s2.2.2.2.2.1)
     have J4 := HJ.out _ _ _ hJ3 s2
     go_roundw
     case rel => exact ⟨i + 1, Q6 46 s', s1, J4, Lib.hid ⟨by have := HX.out.2; rwa [hb, B9 rfl] at this, by have := (Y5 46 s').2.1; have := HR.out.2.1; omega, HG4.out⟩⟩
     case measure => rw [s1.len, HC.out.len]; exact (Y5 46 s').2.2 hb
  · clear hb3
    gi_wp2
    refine bodyPost_ret (results_none V _ _ _) V ?_
    exact ⟨⟨_, V⟩, .inr hJx3⟩
open Go.RowKit Px
theorem Qe {α : Type} (b : Nat) (x : α) (l : List (Nat × α)) : G1 ((b, x) :: l) b = some x := by rw [G3, B9 rfl]
theorem TX {xs : List Value} {v : Value} (h : xs.take 1 = [v]) : xs[0]? = some v := by
 cases xs with
 | nil => cases h
 | cons x l => cases h; rfl
def MSeg (s : F6) (i : EI) (r : SV) (j : EI) : Prop := ∃ b xs T, xs[0]? = some (vS s) ∧ G1 i.bs b = none ∧ r = .d (dH 210 [.val (.pointer (some ⟨b, 0, none⟩))]) ∧ j = ⟨(b, (xs, T)) :: i.bs, i.fs, none⟩
theorem Mo (s : F6) (i : EI) : HCE Tryz.prog 163 [dS s] i (MSeg s i) := by
 refine Z6 Tryz.func163 V Tryz.ntmps163 Tryz.results163 (by simp) fun p d0 => ?_
 refine K0 (yK (cs := [_]) V V (C8 (A9 V (C5 ?_)))); refine Pc 1 1 (vs := [vS s]) V V fun b xs T h1 h2 => ?_; refine K0 (yMh V (C8 (A9 V (C5 (M1 ?_)))))
 exact L7 _ (.tmp V .nil) ⟨b, xs, T, TX h1, h2, V, V⟩
theorem MSeg.ok {s : F6} {i : EI} (r : SV) (j : EI) (h : MSeg s i r j) : Bn r = true := by
 obtain ⟨b, xs, T, -, -, rfl, -⟩ := h
 rfl
def phT (cn : F6 → Bool) (xs : List DV) (r : SV) : Prop := ∃ x : F6, xs = [dS x] ∧ r = .d (dB (cn x))
abbrev vsg (s : F6) : List (List Value) := (S5 46 s).map fun t => [vS t]
theorem TM {s : F6} {k : Nat} {x : List Value} (h : (vsg s)[k]? = some x) : ∃ t, (S5 46 s)[k]? = some t ∧ x = [vS t] := by
 rw [C6, C7] at h
 obtain ⟨t, h1, rfl⟩ := h
 exact ⟨t, h1, V⟩
theorem ME (s : F6) (hs : s.length ≤ 1000000) {ys : List Value} {T b : Nat} (hy : ys[0]? = some (vS s)) : ∀ (F : Nat → Nat → Prop) (w : World), (∀ o, ¬ F b o) → w.heap[b]? = some (.cells ys.toArray T (0, 0)) → Hm Tryz.prog 210 #[.pointer (some ⟨b, 0, none⟩)] (vsg s) b F w :=
 fun F w hF hw => Qz s hs F w b hF ⟨ys, T, hw, hy⟩
abbrev fmS (b : Nat) : List (Nat × SV) := [(3, .bx 3 0), (4, .bx 4 0), (5, .bx 5 0), (8, .d (.val (.func (.func 210) #[] #[.pointer (some ⟨b, 0, none⟩)])))]
abbrev fmB (cn : F6 → Bool) (k : Nat) : List (Nat × List SV) := [(3, [.d (dF Tryz.prog (phT cn))]), (4, [.d (dB false)]), (5, [.d (dI k)])]
theorem PM (cn : F6 → Bool) (s : F6) (hs : s.length ≤ 1000000) : PCalls Tryz.prog 119 [dS s, dF Tryz.prog (phT cn)] (.d (dB (Iq cn s))) := by
 obtain ⟨r, hr⟩ := I0 (Iq cn s)
 rw [← hr]
 unfold Iq at hr
 refine P4 Tryz.func119 V Tryz.ntmps119 Tryz.results119 (by simp) fun p d0 hex => ?_
 refine K0 (yK (cs := [_]) V V (C8 (yZ (cs := [_]) V V (yQ (C5 (K0 (yZ (cs := [_]) V V (C8 (Y9 (cs' := [_]) V V V V (yQ (C5 (E7 (K0 (B4 V (yQ ?_))))))))))))))); refine MK (Mo s _) MSeg.ok V ?_
 rintro r0 j ⟨b, xs, T, hx, hn, rfl, rfl⟩
 refine T3 (QC 8 (vs := [.pointer (some ⟨b, 0, none⟩)]) V) ?_; refine K7 ?_; refine px_le (HE.stb _) (st' := ⟨20, fmS b, fmB cn 0, []⟩) ⟨rfl, ⟨F5, F5, F5, F5, D5⟩, ⟨⟨_, V, H6 _⟩, ⟨_, V, H6 _⟩, ⟨_, V, H6 _⟩, D5⟩, D5, V⟩ ?_; refine Ts (ys := xs) (T0 := T) (b := b) (vsg s) [(6, 9)] (fun k => k ≤ 6 ∧ ∀ t ∈ (S5 46 s).take k, cn t = true) (fun k => fmB cn k) (fun _ => []) ⟨by omega, fun t ht => by simp at ht⟩ rfl (Qe b (xs, T) []) (ME s hs hx) (fun x hx => by obtain ⟨t, -, rfl⟩ := G7.1 hx; rfl) rfl rfl (by decide) ?_ ?_
 · rintro k x hx ⟨hk, hI⟩
   obtain ⟨t, ht, rfl⟩ := TM hx
   refine ⟨[.any, .any, .any, .bx 3 0, .bx 4 0, .bx 5 0, .d (dS t)], of_decide_eq_true V, .any (.any (.any (.keep V (.refl _) (.keep V (.refl _) (.keep V (.refl _) (.new V V .nil)))))), V, V, by kernel_rfl, fun B w0 => ?_⟩
   have hw : IntKind.i64.wrap ((k : Int) + 1) = ((k + 1 : Nat) : Int) := J0 ((k : Int) + 1) (by omega)
   have hlt := (A5.1 ht).1
   have Af : (S5 46 s).take (k + 1) = (S5 46 s).take k ++ [t] := by rw [G8, ht]; rfl
   by_cases h6 : k = 6
   · have t1 : decide (((k + 1 : Nat) : Int) > 6) = true := B1 (by omega)
     have FE : r = false := by rw [hr, A7 (by omega)]; rfl
     subst FE
     refine B8 (E5 (AQ V V V (F9 V (Y9 (cs' := [_]) V V V V (yQ (E5 (AQ V V V (F9 V (B4 V ?_))))))))); rw [hw]; rw [t1]; refine L4 V V (L4 V V (L2 V V (yQ (G4 V (E5 (Y9 (cs' := [_]) V V V V (yQ (C4 (C3 ?_)))))))))
     exact ⟨[(3, [.d (dF Tryz.prog (phT cn))]), (4, [.d (dB false)]), (5, [.d (dI ((k + 1 : Nat) : Int))])], [], ⟨rfl, V, V, D5⟩, D5, V, V, by kernel_rfl, K1 (F7 (L7 _ (.one D4 rfl rfl rfl .nil) rfl))⟩
   · have t1 : decide (((k + 1 : Nat) : Int) > 6) = false := A7 (by omega)
     have NT : phT cn [dS t] (.d (dB (cn t))) := ⟨t, rfl, rfl⟩
     cases hc : cn t with
     | false =>
      have FE : r = false := by
       rw [hr]
       have : (S5 46 s).all cn = false := List.all_eq_false.2 ⟨t, C0 ht, by simp [hc]⟩
       rw [this, Bool.and_false]
      subst FE
      rw [hc] at NT
      refine B8 (E5 (AQ V V V (F9 V (Y9 (cs' := [_]) V V V V (yQ (E5 (AQ V V V (F9 V (B4 V ?_))))))))); rw [hw]; rw [t1]; refine AQ V V V (B4 V (yCv NT V V V (yU V V V (L3 V V (yQ (G4 V (E5 (Y9 (cs' := [_]) V V V V (yQ (C4 (C3 ?_)))))))))))
      exact ⟨[(3, [.d (dF Tryz.prog (phT cn))]), (4, [.d (dB false)]), (5, [.d (dI ((k + 1 : Nat) : Int))])], [], ⟨rfl, V, V, D5⟩, D5, V, V, by kernel_rfl, K1 (F7 (L7 _ (.one D4 rfl rfl rfl .nil) rfl))⟩
     | true =>
      rw [hc] at NT
      have VW : ∀ u ∈ (S5 46 s).take (k + 1), cn u = true := fun u hu => by
       rw [Af] at hu
       rcases List.mem_append.1 hu with h | h
       · exact hI u h
       · rw [List.mem_singleton.1 h]; exact hc
      have VK : k + 1 ≤ 6 := by omega
      refine B8 (E5 (AQ V V V (F9 V (Y9 (cs' := [_]) V V V V (yQ (E5 (AQ V V V (F9 V (B4 V ?_))))))))); rw [hw]; rw [t1]; refine AQ V V V (B4 V (yCv NT V V V (yU V V V (L3 V V (yQ (F4 V (B2 (BT ?_))))))))
      exact ⟨⟨VK, VW⟩, ⟨rfl, V, V, D5⟩, D5⟩
 · rintro ⟨hk, hI⟩
   rw [A8] at hk hI
   rw [I6] at hI
   have FE : r = true := by rw [hr, B1 hk, D7.2 hI]; rfl
   subst FE
   show CW 0 _ .normal ⟨20, _, [(3, _), (4, _), (5, _)], []⟩ _
   refine K0 (Y9 (cs' := [_]) V V V V (yQ (C5 (M1 ?_))))
   exact L7 _ (.one D4 V V V .nil) V
open Go.RowKit Px Go.Shelf
theorem QN : ∀ xs r, phT J5 xs r → PCalls Tryz.prog 120 (xs ++ ([] : List (List DV)).map DV.ref) r := by
 rintro _ _ ⟨x, rfl, rfl⟩
 exact Lm x
def acE (s : F6) : Int := if Iq J5 s then 0 else 3
theorem TL (s : F6) (hs : s.length ≤ 1000000) : PCalls Tryz.prog 70 [dS s] (.d (dI (acE s))) := by
 have c1 := PM J5 s hs
 unfold acE
 cases h : Iq J5 s with
 | true =>
  rw [h] at c1
  refine M0 Tryz.func70 V Tryz.ntmps70 Tryz.results70 fun B w0 => ?_
  refine E5 (A9 V (H2 V ?_)); refine LY c1 (.d V (.fn D4 V V QN .nil)) V ?_; refine yU V V V (yQ (F4 V (B2 (E5 (A9 V (C4 ?_))))))
  exact M8 V V
 | false =>
  rw [h] at c1
  refine M0 Tryz.func70 V Tryz.ntmps70 Tryz.results70 fun B w0 => ?_
  refine E5 (A9 V (H2 V ?_)); refine LY c1 (.d V (.fn D4 V V QN .nil)) V ?_; refine yU V V V (yQ (G4 V (E5 (A9 V (C4 (A6 ?_))))))
  exact M8 V V
def Gx (n o x : F6) : F6 := if x = [42] then n else if x = [43] then o else x
abbrev Vo (n o : F6) : DV := dH 224 [.ref [dS n], .ref [dS o]]
theorem PI (n o x : F6) : PCalls Tryz.prog 224 [dS x, .ref [dS n], .ref [dS o]] (.tup [dS (Gx n o x), dB (Ke x)]) := by
 unfold Gx Ke
 by_cases h1 : x = [42]
 · have t1 : (x == [42]) = true := by simp [h1]
   rw [B9 h1, t1]
   refine M0 Tryz.func224 V Tryz.ntmps224 Tryz.results224 fun B w0 => ?_
   refine CL 1 V ?_; refine CL 2 V ?_; refine E5 (H5 V (A9 V (H2 V (yQ (B8 (E5 (N7 V V (A9 V (B3 (L8 t1 V (E5 (K8 V V (H5 V (A9 V (C4 (C3 (A6 ?_)))))))))))))))))
   exact Az V V V
 have t1 : (x == [42]) = false := by simp [h1]
 rw [B5 h1, t1]
 by_cases h2 : x = [43]
 · have t2 : (x == [43]) = true := by simp [h2]
   rw [B9 h2, t2]
   refine M0 Tryz.func224 V Tryz.ntmps224 Tryz.results224 fun B w0 => ?_
   refine CL 1 V ?_; refine CL 2 V ?_; refine E5 (H5 V (A9 V (H2 V (yQ (B8 (E5 (N7 V V (A9 V (B3 (O1 t1 V (E5 (N7 V V (A9 V (B3 (L8 t2 V (E5 (K8 V V (H5 V (A9 V (C4 (C3 (A6 ?_))))))))))))))))))))))
   exact Az V V V
 have t2 : (x == [43]) = false := by simp [h2]
 rw [B5 h2, t2]
 refine M0 Tryz.func224 V Tryz.ntmps224 Tryz.results224 fun B w0 => ?_
 refine CL 1 V ?_; refine CL 2 V ?_; refine E5 (H5 V (A9 V (H2 V (yQ (B8 (E5 (N7 V V (A9 V (B3 (O1 t1 V (E5 (N7 V V (A9 V (B3 (O1 t2 V (B2 (H9 V (H5 V (A9 V (C4 ?_))))))))))))))))))))
 exact Az V V V
theorem wNamesF (n o : F6) : PCalls Tryz.prog 181 [dS n, dS o] (.d (Vo n o)) := by
 refine M0 Tryz.func181 V Tryz.ntmps181 Tryz.results181 fun B w0 => ?_
 refine E5 (yK (cs := [_]) V V (yK (cs := [_]) V V (A9 V ?_))); refine S8 (GC 2 2 V V V) ?_; refine S8 (GC 3 3 V V V) ?_; refine E5 (yMh V (A9 V (C4 ?_)))
 exact M8 V V
def tsB (x : F6) : Bool := Ke x || J5 x
theorem wExp1 (n o : F6) : ∀ xs r, phT tsB xs r → PCalls Tryz.prog 182 (xs ++ [[Vo n o]].map DV.ref) r := by
 rintro _ _ ⟨x, rfl, rfl⟩
 show PCalls Tryz.prog 182 [dS x, .ref [Vo n o]] _
 have c1 := PI n o x
 have c2 := Lm x
 unfold tsB
 obtain ⟨y, hy⟩ := I0 (Gx n o x)
 rw [← hy] at c1
 cases h : Ke x with
 | true =>
  rw [h] at c1
  rw [Bool.true_or]
  refine M0 Tryz.func182 V Tryz.ntmps182 Tryz.results182 fun B w0 => ?_
  refine CL 1 V ?_; refine E5 (A9 V (E5 (K8 V V (B4 V (yCh c1 V V V (O6 V (yX V V (yX V V (H5 V (A9 V (H9 V (B4 V (L4 V V (L2 V V (A9 V (C4 ?_))))))))))))))))
  exact M8 V V
 | false =>
  rw [h] at c1
  rw [Bool.false_or]
  obtain ⟨b, hb⟩ := I0 (J5 x)
  rw [← hb] at c2 ⊢
  refine M0 Tryz.func182 V Tryz.ntmps182 Tryz.results182 fun B w0 => ?_
  refine CL 1 V ?_; refine E5 (A9 V (E5 (K8 V V (B4 V (yCh c1 V V V (O6 V (yX V V (yX V V (H5 V (A9 V (H9 V (B4 V (B4 V (yC (c2) V V (L3 V V (A9 V (C4 ?_)))))))))))))))))
  exact M8 V V
open Go.RowKit Px Go.Shelf Go.Lib
variable {M : Nat}
theorem Vd {F : Nat → Nat → Prop} {w : World} {l : List Value} {T : Nat} (h1 : ∀ v ∈ l, v.oneCell' = true) (hl : l.length ≤ 9223372036854775807) : DRep (Fx (gF fun b o => F b o ∨ w.heap.size ≤ b)) (w.alloc (.cells l.toArray T)) (.slice (some ⟨w.heap.size, 0, none⟩) l.length l.length) (.sl 1 (l.map fun v => [.val v])) := by
 have AM : ∀ i, i < l.length → ∃ v, l[i]? = some v ∧ v ∈ l := fun i hi => ⟨l[i], A4 hi, List.getElem_mem _⟩
 refine .sl (fun i j => (l[i]?).getD undef) (by simp) (D9 _) hl (fun e he => by obtain ⟨v, -, rfl⟩ := G7.1 he; rfl) (fun h0 => ⟨w.heap.size, 0, rfl, fun i j hi hj => ?_⟩) (fun i j hi hj => ?_) fun i j e x he hx => ?_
 · obtain ⟨v, hv, -⟩ := AM i hi
   refine ⟨?_, Fx.gF (.inr (D9 _))⟩
   have : 0 + i * 1 + j = i := by omega
   rw [this]
   have hh : (w.alloc (.cells l.toArray T)).heap[w.heap.size]? = some (.cells l.toArray T (0, 0)) := World.alloc_heap_new w _
   simp only [World.cell?, hh]
   rw [hv]
   simpa using hv
 · obtain ⟨v, hv, hm⟩ := AM i hi
   simp only [hv]
   exact h1 v hm
 · rw [C6, C7] at he
   obtain ⟨v, hv, rfl⟩ := he
   match j with
   | 0 =>
    cases hx
    simp only [hv]
    exact DRep.val v (h1 v (C0 hv))
   | j + 1 => simp at hx
theorem Tb (b : ByteArray) : Value.string b = vS b.data.toList := by cases b; simp
theorem Hv (s : F6) (c : UInt8) : (Lib.splitB ⟨#[c]⟩ 0 (s.count c) ⟨s.toArray⟩).map Value.string = (S5 c s).map vS := by
 have h1 := Lib.splitB_data ⟨#[c]⟩ 0 (s.count c) ⟨s.toArray⟩
 have h2 : Lib.splitK [c] 0 (s.count c) s = S5 c s := Hw c _ s rfl
 have h3 : (Lib.splitB ⟨#[c]⟩ 0 (s.count c) ⟨s.toArray⟩).map (·.data.toList) = S5 c s := h1.trans (by simpa using h2)
 rw [← h3, List.map_map]
 exact List.map_congr_left fun b _ => Tb b
theorem Qk (s : F6) (c : UInt8) (hs : s.length ≤ 1000000) : PCalls Tryz.prog 124 [dS s, dS [c], dI 0, dI (-1)] (.d (.sl 1 ((S5 c s).map fun t => [dS t]))) := fun F w vals hl hr hg => by
 obtain rfl : vals = [vS s, vS [c], .int .i64 0, .int .i64 (-1)] := HU (us := [vS s, vS [c], .int .i64 0, .int .i64 (-1)]) hl hr
 have hcnt : Lib.countB ⟨s.toArray⟩ ⟨#[c]⟩ = s.count c := by
  show Lib.count s.toArray.toList [c] = _
  rw [Lib.count_one]
 have h1 : 1 ≤ (⟨#[c]⟩ : ByteArray).size := D9 _
 have BP := Lib.splitB_all ⟨#[c]⟩ h1 0 _ ⟨s.toArray⟩ hcnt
 have hle := List.count_le_length (a := c) (l := s)
 have h := Any.strings_genSplit_core Tryz.gspl (by kernel_rfl) ⟨s.toArray⟩ ⟨#[c]⟩ 0 (-1) (s.count c + 1) w (by show s.toArray.size < _; rw [List.size_toArray]; omega) h1 (E8 _) (fun x cs hx => by
  refine (Any.strings_Index_one { Tryz.gspl with } x c _).mono fun e w' ⟨he, hw⟩ => ⟨?_, hw⟩
  rw [he, ← index_one]) (by
  refine (Any.strings_Count_one { Tryz.gspl with } ⟨s.toArray⟩ c w).mono fun e w' ⟨he, hw⟩ => ⟨?_, hw⟩
  rw [he]
  show _ = Ending.returned (Value.int .i64 ((Lib.count s.toArray.toList [c] : Nat) : Int))
  rw [Lib.count_one]
  rfl) (by decide) (by decide) (by rw [B9 (by decide), hcnt]; show ((s.count c + 1 : Nat) : Int) = min ((s.count c : Int) + 1) ((s.toArray.size : Int) + 1); rw [List.size_toArray]; omega)
 rw [Nat.add_sub_cancel, BP] at h
 have e2 : Lib.cellsOf (Lib.splitB ⟨#[c]⟩ 0 (s.count c) ⟨s.toArray⟩) (s.count c + 1) = ((S5 c s).map vS).toArray := by
  rw [← Hv, ← BP]
  exact Lib.cellsOf_full _
 have e3 : s.count c + 1 = ((S5 c s).map vS).length := by
  rw [← Hv, A8]; exact BP.symm
 rw [e2, e3] at h
 refine Calls.mono h ?_
 rintro e w' ⟨rfl, rfl⟩
 refine ⟨_, V, ?_, (Below.refl _ w).alloc (D9 _) _⟩
 have := Vd (F := F) (w := w) (l := (S5 c s).map vS) (T := Tryz.gspl_ren.t 9) (fun v hv => by obtain ⟨t, -, rfl⟩ := G7.1 hv; rfl) (by have := Av c s; rw [A8]; omega)
 rw [List.map_map] at this
 exact this
theorem Sm (s : F6) (c : UInt8) (hs : s.length ≤ 1000000) : PCalls Tryz.prog 76 [dS s, dS [c]] (.d (.sl 1 ((S5 c s).map fun t => [dS t]))) := by
 have c1 := Qk s c hs
 obtain ⟨l, hl⟩ := I0 ((S5 c s).map fun t => [dS t])
 rw [← hl] at c1 ⊢
 refine M0 Tryz.func76 V Tryz.ntmps76 Tryz.results76 fun B w0 => ?_
 refine E5 (A9 V (H9 V (B4 V (yC (c1) V V (A9 V (C4 ?_))))))
 exact M8 V V
theorem ixb_in (s : F6) (c : UInt8) : decide (indexByte s c ≥ 0) = s.contains c := by
 rw [EU, Bool.eq_iff_iff, decide_eq_true_iff, List.contains_iff_mem]
 cases h : T9 c s with
 | none =>
  have := Fw.1 h
  simp [this]
 | some p =>
  have := Ak h
  simp only
  constructor
  · intro _; rw [this]; simp
  · intro _; omega
theorem wIndex1 (s : F6) (c : UInt8) : PCalls Tryz.prog 155 [dS s, dS [c]] (.d (dI (indexByte s c))) := by
 have c1 := wIdx1 s c
 obtain ⟨n, hn⟩ := I0 (indexByte s c)
 rw [← hn] at c1 ⊢
 refine M0 Tryz.func155 V Tryz.ntmps155 Tryz.results155 fun B w0 => ?_
 refine E5 (A9 V (H9 V (B4 V (yC (c1) V V (A9 V (C4 ?_))))))
 exact M8 V V
theorem Jh (s : F6) (c : UInt8) : PCalls Tryz.prog 107 [dS s, dS [c]] (.d (dB (s.contains c))) := by
 have c1 := wIndex1 s c
 rw [← ixb_in]
 obtain ⟨n, hn⟩ := I0 (indexByte s c)
 rw [← hn] at c1 ⊢
 obtain ⟨b, hb⟩ := I0 (decide (n ≥ 0))
 rw [← hb]
 refine M0 Tryz.func107 V Tryz.ntmps107 Tryz.results107 fun B w0 => ?_
 refine E5 (A9 V (H9 V (B4 V (yC (c1) V V (F9 V (A9 V (C4 ?_))))))); rw [← hb]
 exact M8 V V
theorem wJoin (xs : List F6) (sep : F6) (hl : xs.length ≤ 1000000) (hj : (Lib.join xs sep).length ≤ 140737488355328) : PCalls Tryz.prog 183 [.sl 1 (xs.map fun t => [dS t]), dS sep] (.d (dS (Lib.join xs sep))) := by
 obtain ⟨r, hrr⟩ := I0 (Lib.join xs sep)
 rw [← hrr] at hj ⊢
 have e1 : Lib.join xs (⟨sep.toArray⟩ : ByteArray).data.toList = r := by rw [hrr]
 refine PCalls.of_any (us := [vS r]) V (Et _ V) fun F w vals FB hr hg => ?_
 match vals, FB with
 | [v, u], _ =>
  obtain rfl : u = vS sep := DRep.val_eq (hr 1 u (dS sep) rfl rfl)
  obtain ⟨A, cap, news, hv, Rw, -, -, JE, M3, Z4, P6⟩ := DRep.row (hr 0 v _ rfl rfl)
  subst hv
  rw [A8] at Rw JE M3 ⊢
  have hX : Builder.Extra Tryz.prog Tryz.join_ren := { sizeBuilder := by kernel_rfl, liesBuilder := by kernel_rfl, t5 := by kernel_rfl, a5 := fun _ => by kernel_rfl, z5 := fun _ => by kernel_rfl, v5 := fun _ => by kernel_rfl, infoByte := by kernel_rfl, cellsByte := by kernel_rfl, sizeByte := by kernel_rfl, neB5 := by decide }
  have VJ : (xs.map fun t => (⟨t.toArray⟩ : ByteArray)).map (·.data.toList) = xs := by rw [List.map_map]; exact (List.map_congr_left fun t _ => by simp).trans (List.map_id xs)
  rcases H1 xs.length with h0 | h0
  · obtain rfl : xs = [] := List.eq_nil_of_length_eq_zero h0
    have := Any.strings_Join_none Tryz.join hX A cap ⟨sep.toArray⟩ w
    have FE : r = [] := by rw [hrr]; exact Lib.join_nil sep
    rw [FE]
    refine Calls.mono this ?_
    rintro e w' ⟨rfl, rfl⟩
    exact ⟨rfl, Below.refl _ _⟩
  · obtain ⟨b, off, rfl, hc⟩ := M3 h0
    have VQ : ∀ (j : Nat) x, (xs.map fun t => (⟨t.toArray⟩ : ByteArray))[j]? = some x → w.cell? ⟨b, off + j, none⟩ = some (.string x) := fun j x hx => by
     rw [C6, C7] at hx
     obtain ⟨t, ht, rfl⟩ := hx
     obtain ⟨u, hu, hd⟩ := P6 j 0 [dS t] (dS t) (by rw [C6, ht]; rfl) rfl
     rw [Nat.mul_one, Nat.add_zero] at hu
     rw [(hc j u hu).1, DRep.val_eq hd]
    have hb : b < w.heap.size := by
     obtain ⟨t, ht⟩ := DL h0
     exact World.block_lt_of_cell? _ _ (VQ 0 ⟨t.toArray⟩ (by rw [C6, ht]; rfl))
    have := Any.strings_Join Tryz.join hX b off cap (xs.map fun t => (⟨t.toArray⟩ : ByteArray)) ⟨sep.toArray⟩ w VQ hb (by rw [A8]; omega) (by rw [A8]; exact Rw) (by rw [VJ, e1]; exact hj)
    rw [VJ, A8, e1] at this
    refine Calls.mono this ?_
    rintro e w' ⟨rfl, h⟩
    exact ⟨rfl, h⟩
def Ol (s n o : F6) : Int := if P1 J5 s = false then 3 else if (n ≠ [] ∧ J5 n = false) ∨ (o ≠ [] ∧ J5 o = false) then 23 else if ((S5 46 s).map (Gx n o)).any (fun x => x == []) then 9 else 0
def expR (s n o : F6) : F6 := if Ol s n o = 0 then Go.Lib.join ((S5 46 s).map (Gx n o)) [46] else []
theorem Up {l : List F6} {sep : F6} (h : ∀ x ∈ l, x.length ≤ M) : (Go.Lib.join l sep).length ≤ l.length * (M + sep.length) := by
 cases l with
 | nil => simp [Go.Lib.join_nil]
 | cons x r =>
  rw [Go.Lib.join_cons]
  have h1 : (Go.Lib.joinTail sep r).length ≤ r.length * (M + sep.length) := by
   have h2 : ∀ y ∈ r, y.length ≤ M := fun y hy => h y (by simp [hy])
   clear h
   unfold Go.Lib.joinTail
   induction r with
   | nil => simp
   | cons y r ih =>
    have h3 := ih fun z hz => h2 z (by simp [hz])
    have h4 := h2 y (by simp)
    rw [List.map_cons, List.flatten_cons, D3, D3, List.length_cons, Nat.succ_mul]
    omega
  have h2 := h x (by simp)
  rw [D3, List.length_cons, Nat.succ_mul]
  omega
theorem Th {n o x : F6} (hn : n.length ≤ M) (ho : o.length ≤ M) (hx : x.length ≤ M) : (Gx n o x).length ≤ M := by
 unfold Gx
 split
 · exact hn
 · split
   · exact ho
   · exact hx
abbrev exT : Nat := 9 * 100000 + 9
abbrev exS (b : Nat) : List (Nat × SV) := [(6, .bx 6 0), (7, .bx 7 0), (8, .bx 8 0), (9, .bx 9 0), (37, .d (.val (.func (.func 210) #[] #[.pointer (some ⟨b, 0, none⟩)])))]
abbrev exB (n o : F6) (l : List F6) : List (Nat × List SV) := [(6, [.d (dS [])]), (7, [.d (dI 0)]), (8, [.d (Vo n o)]), (9, [.ts exT 1 (l.map fun t => [dS t])])]
abbrev exK (l : List F6) : List (Nat × Nat) := [(exT, (l.map fun t => ([dS t] : List DV)).length)]
theorem wExpand (s n o : F6) (hs : s.length ≤ 1000000) (QH : n.length ≤ 1000000) (Sc : o.length ≤ 1000000) : PCalls Tryz.prog 129 [dS s, dS n, dS o] (.tup [dS (expR s n o), dI (Ol s n o)]) := by
 have c1 := PM tsB s hs
 have c2 := wNamesF n o
 have h1 := wExp1 n o
 have e1 : P1 J5 s = Iq tsB s := rfl
 obtain ⟨R, hR⟩ := I0 (expR s n o)
 obtain ⟨E, hE⟩ := I0 (Ol s n o)
 rw [← hR, ← hE]
 rw [expR, ← hE] at hR
 rw [Ol, e1] at hE
 cases hf : Iq tsB s with
 | false =>
  rw [hf] at c1 hE
  rw [B9 rfl] at hE
  rw [hE, B5 (by omega)] at hR
  subst hR hE
  refine P4 Tryz.func129 V Tryz.ntmps129 Tryz.results129 (by simp) fun p d0 hex => ?_
  refine K0 (yZ (cs := [_]) V V (C8 (yZ (cs := [_]) V V (yQ (C5 (K0 (B4 V (C8 (B4 V (C8 (yC (c2) V V (C8 (yZ (cs := [_]) V V (C8 (yS (cs' := [_]) V V V V V (yQ (C5 (E7 (K0 (B4 V (C8 (Qj V (C8 ?_))))))))))))))))))))))); refine LY c1 (.d V (.fn D4 V V h1 .nil)) V ?_; refine C8 (yU V V V (yQ (C5 (O7 V (K0 (Y9 (cs' := [_]) V V V V (C8 (Y9 (cs' := [_]) V V V V (yQ (C5 (M1 (F7 ?_))))))))))))
  exact L7 _ (.one D4 V V V (.one D4 V V V .nil)) V
 | true =>
 rw [hf] at c1 hE
 rw [B5 (by simp)] at hE
 have k1 := Lm n
 have k2 := Lm o
 by_cases JS : n ≠ [] ∧ J5 n = false
 · have t1 : (!n == []) = true := by simp [JS.1]
   rw [JS.2] at k1
   rw [B9 (.inl JS)] at hE
   rw [hE, B5 (by omega)] at hR
   subst hR hE
   refine P4 Tryz.func129 V Tryz.ntmps129 Tryz.results129 (by simp) fun p d0 hex => ?_
   refine K0 (yZ (cs := [_]) V V (C8 (yZ (cs := [_]) V V (yQ (C5 (K0 (B4 V (C8 (B4 V (C8 (yC (c2) V V (C8 (yZ (cs := [_]) V V (C8 (yS (cs' := [_]) V V V V V (yQ (C5 (E7 (K0 (B4 V (C8 (Qj V (C8 ?_))))))))))))))))))))))); refine LY c1 (.d V (.fn D4 V V h1 .nil)) V ?_; refine C8 (yU V V V (yQ (C5 (O5 V (H7 (E7 (K0 (B4 V (C8 (N5 V V (C8 (B4 V (C8 ?_))))))))))))); rw [t1]; refine B4 V (C8 (yC (k1) V V (C8 (yU V V V (C8 (L2 V V (C8 (B4 V (C8 (yO V (C8 (yO V (C8 (yO V (C8 (yO V (C8 (yO V (C8 (yO V (C8 (yO V (C8 (L2 V V (yQ (C5 (O7 V (K0 (Y9 (cs' := [_]) V V V V (C8 (Y9 (cs' := [_]) V V V V (yQ (C5 (M1 (F7 ?_)))))))))))))))))))))))))))))))))))
   exact L7 _ (.one D4 V V V (.one D4 V V V .nil)) V
 have Ld : n = [] ∨ ((!n == []) = true ∧ J5 n = true) := by
  by_cases h : n = []
  · exact .inl h
  · refine .inr ⟨by simp [h], ?_⟩
    cases e : J5 n with
    | true => rfl
    | false => exact G5 ⟨h, e⟩ JS
 by_cases GQ : o ≠ [] ∧ J5 o = false
 · have t2 : (!o == []) = true := by simp [GQ.1]
   rw [GQ.2] at k2
   rw [B9 (.inr GQ)] at hE
   rw [hE, B5 (by omega)] at hR
   subst hR hE
   rcases Ld with AR | ⟨t1, Mg⟩
   · have t1 : (!n == []) = false := by simp [AR]
     refine P4 Tryz.func129 V Tryz.ntmps129 Tryz.results129 (by simp) fun p d0 hex => ?_
     refine K0 (yZ (cs := [_]) V V (C8 (yZ (cs := [_]) V V (yQ (C5 (K0 (B4 V (C8 (B4 V (C8 (yC (c2) V V (C8 (yZ (cs := [_]) V V (C8 (yS (cs' := [_]) V V V V V (yQ (C5 (E7 (K0 (B4 V (C8 (Qj V (C8 ?_))))))))))))))))))))))); refine LY c1 (.d V (.fn D4 V V h1 .nil)) V ?_; refine C8 (yU V V V (yQ (C5 (O5 V (H7 (E7 (K0 (B4 V (C8 (N5 V V (C8 (B4 V (C8 ?_))))))))))))); rw [t1]; refine yO V (C8 (yO V (C8 (yO V (C8 (L3 V V (C8 (B4 V (C8 (B4 V (C8 (N5 V V (C8 (B4 V (C8 ?_))))))))))))))); rw [t2]; refine B4 V (C8 (yC (k2) V V (C8 (yU V V V (C8 (L2 V V (C8 (L3 V V (yQ (C5 (O7 V (K0 (Y9 (cs' := [_]) V V V V (C8 (Y9 (cs' := [_]) V V V V (yQ (C5 (M1 (F7 ?_)))))))))))))))))))
     exact L7 _ (.one D4 V V V (.one D4 V V V .nil)) V
   · rw [Mg] at k1
     refine P4 Tryz.func129 V Tryz.ntmps129 Tryz.results129 (by simp) fun p d0 hex => ?_
     refine K0 (yZ (cs := [_]) V V (C8 (yZ (cs := [_]) V V (yQ (C5 (K0 (B4 V (C8 (B4 V (C8 (yC (c2) V V (C8 (yZ (cs := [_]) V V (C8 (yS (cs' := [_]) V V V V V (yQ (C5 (E7 (K0 (B4 V (C8 (Qj V (C8 ?_))))))))))))))))))))))); refine LY c1 (.d V (.fn D4 V V h1 .nil)) V ?_; refine C8 (yU V V V (yQ (C5 (O5 V (H7 (E7 (K0 (B4 V (C8 (N5 V V (C8 (B4 V (C8 ?_))))))))))))); rw [t1]; refine B4 V (C8 (yC (k1) V V (C8 (yU V V V (C8 (L2 V V (C8 (B4 V (C8 (B4 V (C8 (N5 V V (C8 (B4 V (C8 ?_))))))))))))))); rw [t2]; refine B4 V (C8 (yC (k2) V V (C8 (yU V V V (C8 (L2 V V (C8 (L3 V V (yQ (C5 (O7 V (K0 (Y9 (cs' := [_]) V V V V (C8 (Y9 (cs' := [_]) V V V V (yQ (C5 (M1 (F7 ?_)))))))))))))))))))
     exact L7 _ (.one D4 V V V (.one D4 V V V .nil)) V
 have JN : o = [] ∨ ((!o == []) = true ∧ J5 o = true) := by
  by_cases h : o = []
  · exact .inl h
  · refine .inr ⟨by simp [h], ?_⟩
    cases e : J5 o with
    | true => rfl
    | false => exact G5 ⟨h, e⟩ GQ
 rw [B5 (by rintro (h | h); exact JS h; exact GQ h)] at hE
 have h6 : (S5 46 s).length ≤ 6 := by
  rw [Iq, C9] at hf
  exact of_decide_eq_true hf.1
 obtain ⟨X, hX⟩ := I0 ((S5 46 s).map (Gx n o))
 rw [← hX] at hE hR
 have hXl : X.length ≤ 6 := by rw [hX, A8]; exact h6
 have hXm : ∀ x ∈ X, x.length ≤ 1000000 := fun x hx => by
  rw [hX] at hx
  obtain ⟨t, ht, rfl⟩ := G7.1 hx
  exact Th QH Sc (F3 (Ej 46 s t ht) hs)
 have QI : (Go.Lib.join X [46]).length ≤ 140737488355328 := by
  have h1 := Up (sep := [46]) hXm
  have h2 : X.length * (1000000 + ([46] : F6).length) ≤ 6 * 1000001 := Nat.mul_le_mul hXl (D9 _)
  omega
 have k3 := wJoin X [46] (by omega) QI
 refine P4 Tryz.func129 V Tryz.ntmps129 Tryz.results129 (by simp) fun p d0 hex => ?_
 rcases Ld with AR | ⟨t1, Mg⟩ <;> rcases JN with ho0 | ⟨t2, ho1⟩
 all_goals
  first
   | (have t1 : (!n == []) = false := by simp [AR]); skip
   | rw [Mg] at k1
  first
   | (have t2 : (!o == []) = false := by simp [ho0]); skip
   | rw [ho1] at k2
  first
   | (refine E7 ?_; refine N2 ?_; refine L5 ?_; refine yZ (cs := [_]) V V (yQ ?_); refine L5 ?_; refine yZ (cs := [_]) V V (yQ ?_); refine C5 ?_; refine E7 ?_; refine N2 ?_; refine L5 ?_; refine B4 V (yQ ?_); refine L5 ?_; refine B4 V (yQ ?_); refine L5 ?_; refine yC (c2) V V (yQ ?_); refine L5 ?_; refine yZ (cs := [_]) V V (yQ ?_); refine L5 ?_; refine yS (cs' := [_]) V V V V V (yQ ?_); refine C5 ?_; refine E7 ?_; refine E7 ?_; refine N2 ?_; refine L5 ?_; refine B4 V (yQ ?_); refine L5 ?_; refine Qj V (yQ ?_); refine L5 ?_; refine LY c1 (.d V (.fn D4 V V h1 .nil)) V ?_; refine yQ ?_; refine L5 ?_; refine yU V V V (yQ ?_); refine C5 ?_; refine O5 V ?_; refine H7 ?_; refine E7 ?_; refine E7 ?_; refine N2 ?_; refine L5 ?_; refine B4 V (yQ ?_); refine L5 ?_; refine N5 V V (yQ ?_); refine L5 ?_; refine B4 V (yQ ?_); refine L5 ?_; rw [t1]; refine yO V (yQ ?_); refine L5 ?_; refine yO V (yQ ?_); refine L5 ?_; refine yO V (yQ ?_); refine L5 ?_; refine L3 V V (yQ ?_); refine L5 ?_; refine B4 V (yQ ?_); refine L5 ?_; refine B4 V (yQ ?_); refine L5 ?_; refine N5 V V (yQ ?_); refine L5 ?_; refine B4 V (yQ ?_); refine L5 ?_; rw [t2]; refine yO V (yQ ?_); refine L5 ?_; refine yO V (yQ ?_); refine L5 ?_; refine yO V (yQ ?_); refine L5 ?_; refine L3 V V (yQ ?_); refine L5 ?_; refine L3 V V (yQ ?_); refine C5 ?_; refine O5 V ?_; refine H7 ?_; refine E7 ?_; refine N2 ?_; refine L5 ?_; refine yZ (cs := [_]) V V (yQ ?_); refine C5 ?_; refine T3 (DM 9 0 exT 1 V V V V) ?_; refine E7 ?_; refine E7 ?_; refine N2 ?_; refine L5 ?_; refine B4 V (yQ ?_); refine MK (Mo s _) MSeg.ok V ?_)
   | (refine E7 ?_; refine N2 ?_; refine L5 ?_; refine yZ (cs := [_]) V V (yQ ?_); refine L5 ?_; refine yZ (cs := [_]) V V (yQ ?_); refine C5 ?_; refine E7 ?_; refine N2 ?_; refine L5 ?_; refine B4 V (yQ ?_); refine L5 ?_; refine B4 V (yQ ?_); refine L5 ?_; refine yC (c2) V V (yQ ?_); refine L5 ?_; refine yZ (cs := [_]) V V (yQ ?_); refine L5 ?_; refine yS (cs' := [_]) V V V V V (yQ ?_); refine C5 ?_; refine E7 ?_; refine E7 ?_; refine N2 ?_; refine L5 ?_; refine B4 V (yQ ?_); refine L5 ?_; refine Qj V (yQ ?_); refine L5 ?_; refine LY c1 (.d V (.fn D4 V V h1 .nil)) V ?_; refine yQ ?_; refine L5 ?_; refine yU V V V (yQ ?_); refine C5 ?_; refine O5 V ?_; refine H7 ?_; refine E7 ?_; refine E7 ?_; refine N2 ?_; refine L5 ?_; refine B4 V (yQ ?_); refine L5 ?_; refine N5 V V (yQ ?_); refine L5 ?_; refine B4 V (yQ ?_); refine L5 ?_; rw [t1]; refine yO V (yQ ?_); refine L5 ?_; refine yO V (yQ ?_); refine L5 ?_; refine yO V (yQ ?_); refine L5 ?_; refine L3 V V (yQ ?_); refine L5 ?_; refine B4 V (yQ ?_); refine L5 ?_; refine B4 V (yQ ?_); refine L5 ?_; refine N5 V V (yQ ?_); refine L5 ?_; refine B4 V (yQ ?_); refine L5 ?_; rw [t2]; refine B4 V (yQ ?_); refine L5 ?_; refine yC (k2) V V (yQ ?_); refine L5 ?_; refine yU V V V (yQ ?_); refine L5 ?_; refine L2 V V (yQ ?_); refine L5 ?_; refine L3 V V (yQ ?_); refine C5 ?_; refine O5 V ?_; refine H7 ?_; refine E7 ?_; refine N2 ?_; refine L5 ?_; refine yZ (cs := [_]) V V (yQ ?_); refine C5 ?_; refine T3 (DM 9 0 exT 1 V V V V) ?_; refine E7 ?_; refine E7 ?_; refine N2 ?_; refine L5 ?_; refine B4 V (yQ ?_); refine MK (Mo s _) MSeg.ok V ?_)
   | (refine E7 ?_; refine N2 ?_; refine L5 ?_; refine yZ (cs := [_]) V V (yQ ?_); refine L5 ?_; refine yZ (cs := [_]) V V (yQ ?_); refine C5 ?_; refine E7 ?_; refine N2 ?_; refine L5 ?_; refine B4 V (yQ ?_); refine L5 ?_; refine B4 V (yQ ?_); refine L5 ?_; refine yC (c2) V V (yQ ?_); refine L5 ?_; refine yZ (cs := [_]) V V (yQ ?_); refine L5 ?_; refine yS (cs' := [_]) V V V V V (yQ ?_); refine C5 ?_; refine E7 ?_; refine E7 ?_; refine N2 ?_; refine L5 ?_; refine B4 V (yQ ?_); refine L5 ?_; refine Qj V (yQ ?_); refine L5 ?_; refine LY c1 (.d V (.fn D4 V V h1 .nil)) V ?_; refine yQ ?_; refine L5 ?_; refine yU V V V (yQ ?_); refine C5 ?_; refine O5 V ?_; refine H7 ?_; refine E7 ?_; refine E7 ?_; refine N2 ?_; refine L5 ?_; refine B4 V (yQ ?_); refine L5 ?_; refine N5 V V (yQ ?_); refine L5 ?_; refine B4 V (yQ ?_); refine L5 ?_; rw [t1]; refine B4 V (yQ ?_); refine L5 ?_; refine yC (k1) V V (yQ ?_); refine L5 ?_; refine yU V V V (yQ ?_); refine L5 ?_; refine L2 V V (yQ ?_); refine L5 ?_; refine B4 V (yQ ?_); refine L5 ?_; refine B4 V (yQ ?_); refine L5 ?_; refine N5 V V (yQ ?_); refine L5 ?_; refine B4 V (yQ ?_); refine L5 ?_; rw [t2]; refine yO V (yQ ?_); refine L5 ?_; refine yO V (yQ ?_); refine L5 ?_; refine yO V (yQ ?_); refine L5 ?_; refine L3 V V (yQ ?_); refine L5 ?_; refine L3 V V (yQ ?_); refine C5 ?_; refine O5 V ?_; refine H7 ?_; refine E7 ?_; refine N2 ?_; refine L5 ?_; refine yZ (cs := [_]) V V (yQ ?_); refine C5 ?_; refine T3 (DM 9 0 exT 1 V V V V) ?_; refine E7 ?_; refine E7 ?_; refine N2 ?_; refine L5 ?_; refine B4 V (yQ ?_); refine MK (Mo s _) MSeg.ok V ?_)
   | (refine E7 ?_; refine N2 ?_; refine L5 ?_; refine yZ (cs := [_]) V V (yQ ?_); refine L5 ?_; refine yZ (cs := [_]) V V (yQ ?_); refine C5 ?_; refine E7 ?_; refine N2 ?_; refine L5 ?_; refine B4 V (yQ ?_); refine L5 ?_; refine B4 V (yQ ?_); refine L5 ?_; refine yC (c2) V V (yQ ?_); refine L5 ?_; refine yZ (cs := [_]) V V (yQ ?_); refine L5 ?_; refine yS (cs' := [_]) V V V V V (yQ ?_); refine C5 ?_; refine E7 ?_; refine E7 ?_; refine N2 ?_; refine L5 ?_; refine B4 V (yQ ?_); refine L5 ?_; refine Qj V (yQ ?_); refine L5 ?_; refine LY c1 (.d V (.fn D4 V V h1 .nil)) V ?_; refine yQ ?_; refine L5 ?_; refine yU V V V (yQ ?_); refine C5 ?_; refine O5 V ?_; refine H7 ?_; refine E7 ?_; refine E7 ?_; refine N2 ?_; refine L5 ?_; refine B4 V (yQ ?_); refine L5 ?_; refine N5 V V (yQ ?_); refine L5 ?_; refine B4 V (yQ ?_); refine L5 ?_; rw [t1]; refine B4 V (yQ ?_); refine L5 ?_; refine yC (k1) V V (yQ ?_); refine L5 ?_; refine yU V V V (yQ ?_); refine L5 ?_; refine L2 V V (yQ ?_); refine L5 ?_; refine B4 V (yQ ?_); refine L5 ?_; refine B4 V (yQ ?_); refine L5 ?_; refine N5 V V (yQ ?_); refine L5 ?_; refine B4 V (yQ ?_); refine L5 ?_; rw [t2]; refine B4 V (yQ ?_); refine L5 ?_; refine yC (k2) V V (yQ ?_); refine L5 ?_; refine yU V V V (yQ ?_); refine L5 ?_; refine L2 V V (yQ ?_); refine L5 ?_; refine L3 V V (yQ ?_); refine C5 ?_; refine O5 V ?_; refine H7 ?_; refine E7 ?_; refine N2 ?_; refine L5 ?_; refine yZ (cs := [_]) V V (yQ ?_); refine C5 ?_; refine T3 (DM 9 0 exT 1 V V V V) ?_; refine E7 ?_; refine E7 ?_; refine N2 ?_; refine L5 ?_; refine B4 V (yQ ?_); refine MK (Mo s _) MSeg.ok V ?_)
  rintro r0 j ⟨b, xs, T, hx, hn, rfl, rfl⟩
  refine T3 (QC 37 (vs := [.pointer (some ⟨b, 0, none⟩)]) V) ?_; refine K7 ?_; refine px_le (HE.stb _) (st' := ⟨53, exS b, exB n o (X.take 0), exK (X.take 0)⟩) ⟨rfl, ⟨F5, F5, F5, F5, F5, D5⟩, ⟨⟨_, V, H6 _⟩, ⟨_, V, H6 _⟩, ⟨_, V, H6 _⟩, ⟨_, V, H6 _⟩, D5⟩, ⟨rfl, D5⟩, V⟩ ?_; refine Ts (ys := xs) (T0 := T) (b := b) (vsg s) [(10, 38)] (fun k => ∀ t ∈ X.take k, t ≠ []) (fun k => exB n o (X.take k)) (fun k => exK (X.take k)) (fun t ht => by simp at ht) rfl (Qe b (xs, T) []) (ME s hs hx) (fun x hx => by obtain ⟨t, -, rfl⟩ := G7.1 hx; rfl) rfl rfl (by decide) ?_ ?_
  · rintro k x hx2 hI
    obtain ⟨t, ht, rfl⟩ := TM hx2
    refine ⟨[.any, .any, .any, .any, .any, .any, .bx 6 0, .bx 7 0, .bx 8 0, .bx 9 0, .d (dS t)], of_decide_eq_true V, .any (.any (.any (.any (.any (.any (.keep V (.refl _) (.keep V (.refl _) (.keep V (.refl _) (.keep V (.refl _) (.new V V .nil)))))))))), V, V, by kernel_rfl, fun B w0 => ?_⟩
    have q1 := PI n o t
    have hXk : X[k]? = some (Gx n o t) := by rw [hX, C6, ht]; rfl
    have Af : X.take (k + 1) = X.take k ++ [Gx n o t] := by rw [G8, hXk]; rfl
    have hkl : (X.take k).length ≤ 6 := by rw [E4]; omega
    obtain ⟨y, hy⟩ := I0 (Gx n o t)
    rw [← hy] at q1 hXk Af
    obtain ⟨Z, hZ⟩ := I0 (X.take k)
    rw [← hZ] at Af hI hkl ⊢
    by_cases OR : y = []
    · have u1 : (y == []) = true := by simp [OR]
      have hE9 : E = 9 := by
       rw [hE, B9]
       exact List.any_eq_true.2 ⟨y, C0 hXk, u1⟩
      rw [hE9, B5 (by omega)] at hR
      subst hR hE9
      refine B8 (E5 (AQ V V V (B4 V (yCh q1 V V V (O6 V (yX V V (yX V V (H5 V (A9 V (H2 V (N7 V V (yQ (B3 (L8 u1 V (E5 (Y9 (cs' := [_]) V V V V (Y9 (cs' := [_]) V V V V (yQ (C4 (A6 (C3 ?_)))))))))))))))))))))
      exact ⟨[(6, [.d (dS [])]), (7, [.d (dI 9)]), (8, [.d (Vo n o)]), (9, [.ts exT 1 (Z.map fun t => [dS t])])], exK Z, ⟨rfl, V, V, V, D5⟩, ⟨rfl, D5⟩, V, V, by kernel_rfl, K1 (F7 (L7 _ (.one D4 rfl rfl rfl (.one D4 rfl rfl rfl .nil)) rfl))⟩
    · have u1 : (y == []) = false := by simp [OR]
      have VW : ∀ t ∈ X.take (k + 1), t ≠ [] := fun u hu => by
       rw [Af] at hu
       rcases List.mem_append.1 hu with h | h
       · exact hI u h
       · rw [List.mem_singleton.1 h]; exact OR
      refine B8 (E5 (AQ V V V (B4 V (yCh q1 V V V (O6 V (yX V V (yX V V (H5 V (A9 V (H2 V (N7 V V (yQ (B3 (O1 u1 V (B2 (B6 (Qi V V V (B4 V ?_)))))))))))))))))); refine yR (es := [[_]]) V V V V V ?_; refine yT (es' := (Z ++ [y]).map fun t => [dS t]) (m := ((Z ++ [y]).map fun t => ([dS t] : List DV)).length) (by simp; omega) (by simp; omega) V V V V V (by simp) (by simp) ?_; refine ySt (cs' := [_]) V V V V (yQ (BT ?_))
      exact ⟨VW, ⟨rfl, V, V, (by rw [Af]; rfl), D5⟩, ⟨(by rw [Af]; rfl), D5⟩⟩
  · intro hI
    have hXs : (vsg s).length = X.length := by rw [hX, A8, A8]
    rw [hXs, I6] at hI
    rw [hXs, I6]
    have hE0 : E = 0 := by
     rw [hE, B5]
     rw [Bool.not_eq_true, List.any_eq_false]
     intro x hx h
     exact hI x hx (by simpa using h)
    rw [hE0, B9 rfl] at hR
    rw [hE0]
    rw [← hR] at k3
    show CW 0 _ .normal ⟨53, _, [(6, _), (7, _), (8, _), (9, [.ts exT 1 (X.map fun t => [dS t])])], _⟩ _
    refine K0 (Qi V V V (C8 (yC (k3) V V (C8 (Y9 (cs' := [_]) V V V V (C8 (Y9 (cs' := [_]) V V V V (yQ (C5 (M1 ?_))))))))))
    exact L7 _ (.one D4 V V V (.one D4 V V V .nil)) V
theorem Sz (s : F6) (hs : s.length ≤ 1000000) : PCalls Tryz.prog 81 [dS s] (.d (dB (P1 J5 s))) := by
 have c1 := wExpand s [97] [98] hs (by simp) (by simp)
 have e : ((Ol s [97] [98] : Int) == 0) = P1 J5 s := by
  unfold Ol
  cases h : P1 J5 s with
  | false => rw [B9 rfl]; rfl
  | true =>
   have h1 : J5 [97] = true := by kernel_rfl
   have h2 : J5 [98] = true := by kernel_rfl
   rw [B5 (by simp), B5 (by simp [h1, h2]), B5]
   · rfl
   · rw [Bool.not_eq_true, List.any_eq_false]
     intro x hx h3
     obtain ⟨t, ht, rfl⟩ := G7.1 hx
     have h4 : tsB t = true := by
      rw [P1, Iq, C9] at h
      exact D7.1 h.2 t ht
     unfold Gx at h3
     unfold tsB Ke at h4
     split at h3
     · cases h3
     · split at h3
       · cases h3
       · have : t = [] := by simpa using h3
         rw [this] at h4
         exact G5 h4 (by decide)
 obtain ⟨x, hx⟩ := I0 (Ol s [97] [98])
 obtain ⟨y, hy⟩ := I0 (expR s [97] [98])
 rw [← hx, ← hy] at c1
 rw [← hx] at e
 obtain ⟨b, hb⟩ := I0 (P1 J5 s)
 rw [← hb] at e ⊢
 refine M0 Tryz.func81 V Tryz.ntmps81 Tryz.results81 fun B w0 => ?_
 refine E5 (A9 V (H9 V (yC (c1) V V (O6 V (yX V V (yX V V (H5 V (A9 V (H9 V (F9 V (A9 V (C4 ?_)))))))))))); rw [e]
 exact M8 V V
def bdE (e : List Cf) : Prop := e.length ≤ 1000000 ∧ ∀ c ∈ e, c.1.length ≤ 1000000 ∧ c.2.length ≤ 70000
def bdN (l : Ln) : Prop := l.1.length ≤ 1000000 ∧ bdE l.2.2
def Sf (r : Ru) : Prop := r.2.length ≤ 1000000 ∧ ∀ l ∈ r.2, bdN l
abbrev EA (r : Ru) : Int := rE (P1 J5) KP r
theorem Rd {tp : F6 → Bool} {ce : List Cf → Int} {ls : List Ln} {k : Nat} {l : Ln} (h : ls[k]? = some l) : LA tp ce (ls.drop k) = if tp l.1 then (if ce l.2.2 = 0 then LA tp ce (ls.drop (k + 1)) else ce l.2.2) else 3 := by
 obtain ⟨h1, h2⟩ := A5.1 h
 rw [I2 h1, h2, LA]
theorem Lj (r : Ru) (hb : Sf r) : PCalls Tryz.prog 56 [.agg (AE r)] (.d (dI (EA r))) := by
 have k0 := Hq
 obtain ⟨n, ls⟩ := r
 obtain ⟨hg, hh⟩ := FA n
 obtain ⟨M, hM⟩ := I0 (Bt)
 rw [← hM] at k0 hg hh
 clear hM
 obtain ⟨Dg, Aq⟩ := hb
 simp only at Dg Aq
 obtain ⟨E, hE⟩ := I0 (EA (n, ls))
 rw [← hE]
 rw [EA, rE] at hE
 obtain ⟨kw, hkw⟩ := I0 (Fj n)
 obtain ⟨kg, hkg⟩ := I0 (Qy n)
 obtain ⟨kn, hkn⟩ := I0 (X7 n)
 rw [← hkw, ← hkg, ← hkn] at hg
 clear hkw hkg hkn
 cases h : Y8 n with
 | none =>
  rw [h] at hh
  simp only [h] at hE
  subst hE
  refine M0 Tryz.func56 V Tryz.ntmps56 Tryz.results56 fun B w0 => ?_
  refine E5 (yK (cs := [_, _]) V V (A9 V (B0 (B0 ?_)))); refine J2 Tryz.mixed (by kernel_rfl) ?_; refine yC (k0) V V (L1 V (Nd (t := false) V V hg hh (O6 V (yX V V (yX V V (yZ (cs := [_, _, _]) V V (yS (cs' := [_, _, _]) V V V V V (A9 V (H9 V (yU V V V (yQ (G4 V (E5 (A9 V (C4 (A6 ?_))))))))))))))))
  exact M8 V V
 | some k =>
 rw [h] at hh
 simp only [h] at hE
 clear h
 by_cases h1 : 64 < ls.length
 · have t1 : decide (((ls.map Aa).length : Int) > 64) = true := B1 (by rw [A8]; omega)
   rw [B9 h1] at hE
   subst hE
   refine M0 Tryz.func56 V Tryz.ntmps56 Tryz.results56 fun B w0 => ?_
   refine E5 (yK (cs := [_, _]) V V (A9 V (B0 (B0 ?_)))); refine J2 Tryz.mixed (by kernel_rfl) ?_; refine yC (k0) V V (L1 V (Nd (t := true) V V hg hh (O6 V (yX V V (yX V V (yZ (cs := [_, _, _]) V V (yS (cs' := [_, _, _]) V V V V V (A9 V (H9 V (yU V V V (yQ (F4 V (B2 (B0 (E5 (L1 V (yN V (I3 V (B3 (L8 t1 V (E5 (A9 V (C4 (A6 ?_))))))))))))))))))))))))
   exact M8 V V
 have t1 : decide (((ls.map Aa).length : Int) > 64) = false := A7 (by rw [A8]; omega)
 rw [B5 h1] at hE
 refine M0 Tryz.func56 V Tryz.ntmps56 Tryz.results56 fun B w0 => ?_
 refine E5 (yK (cs := [_, _]) V V (A9 V (B0 (B0 ?_)))); refine J2 Tryz.mixed (by kernel_rfl) ?_; refine yC (k0) V V (L1 V (Nd (t := true) V V hg hh (O6 V (yX V V (yX V V (yZ (cs := [_, _, _]) V V (yS (cs' := [_, _, _]) V V V V V (A9 V (H9 V (yU V V V (yQ (F4 V (B2 (B0 (E5 (L1 V (yN V (I3 V (B3 (O1 t1 V (B2 (B0 (E5 (L1 V (yN V (B4 V (yQ (B8 ?_)))))))))))))))))))))))))))); refine I1 (fun i : Nat => ⟨43, [(23, .d (.sl 3 (ls.map Aa))), (24, .d (dI ls.length)), (25, .d (dI i))], [], []⟩) (fun i => i ≤ ls.length ∧ LA (P1 J5) KP (ls.drop i) = E) (fun i => ls.length - i) 0 ⟨E8 _, hE.symm⟩
  ⟨rfl, ⟨F5, Ht (by simp), F5, D5⟩, D5, D5, rfl⟩ ?_
 rintro i ⟨hi, hI⟩
 rcases D6 i ls.length with h | h
 rotate_left
 · have u1 : decide ((i : Int) < (ls.length : Int)) = false := A7 (by omega)
   have : E = 0 := by rw [← hI, J8 h]; rfl
   subst this
   refine E5 (I3 V (B0 (O1 u1 V (F8 (E5 (A9 V (C4 ?_)))))))
   exact M8 V V
 have u1 : decide ((i : Int) < (ls.length : Int)) = true := B1 (by omega)
 obtain ⟨⟨a, c, e⟩, hl⟩ : ∃ a, ls[i]? = some a := ⟨_, A4 h⟩
 have ex := ix Aa ls i i (a, c, e) rfl hl
 have hw := J0 ((i : Int) + 1) (by omega)
 obtain ⟨b1, b2, b3⟩ := Aq _ (C0 hl)
 simp only at b1 b2 b3
 have k1 := Sz a b1
 have k2 := Ll e b2 fun c hc => (b3 c hc).2
 have arith : ls.length - (i + 1) < ls.length - i := by omega
 rw [Rd hl] at hI
 simp only at hI
 obtain ⟨N, hN⟩ := I0 ((nmE e).map dCf)
 rw [← hN] at k2
 clear hN hE hg hh hl
 cases ht : P1 J5 a with
 | false =>
  rw [ht] at k1 hI
  rw [B5 (by simp)] at hI
  subst hI
  refine E5 (I3 V (B0 (L8 u1 V (B2 (B0 (B8 (E5 (L6 ex V (V0 (ys := [_, _, _]) V V V (yZ (cs := [_, _, _]) V V (yS (cs' := [_, _, _]) V V V V V (yQ (B0 (E5 (L1 V (yC (k1) V V (yU V V V (yQ (G4 V (E5 (A9 V (C4 (A6 (C3 (A6 (A6 (C3 (A6 ?_))))))))))))))))))))))))))))
  exact M8 V V
 | true =>
 rw [ht] at k1 hI
 rw [B9 rfl] at hI
 obtain ⟨x, hx⟩ := I0 (KP e)
 rw [← hx] at k2 hI
 by_cases h0 : x = 0
 · have t2 : (x != 0) = false := by simp [h0]
   rw [B9 h0] at hI
   refine E5 (I3 V (B0 (L8 u1 V (B2 (B0 (B8 (E5 (L6 ex V (V0 (ys := [_, _, _]) V V V (yZ (cs := [_, _, _]) V V (yS (cs' := [_, _, _]) V V V V V (yQ (B0 (E5 (L1 V (yC (k1) V V (yU V V V (yQ (F4 V (B2 (E5 (L1 V (yC (k2) V V (O6 V (yX V V (yX V V (H5 V (A9 V (H9 V (I3 V (B3 (O1 t2 V (B2 (B6 (F9 V (B4 V (yQ (B3 ?_))))))))))))))))))))))))))))))))))))))
   exact ⟨i + 1, ⟨h, hI⟩, arith, V, ⟨F5, F5, Q7 hw, D5⟩, D5, D5, V⟩
 · have t2 : (x != 0) = true := by simp [h0]
   rw [B5 h0] at hI
   subst hI
   refine E5 (I3 V (B0 (L8 u1 V (B2 (B0 (B8 (E5 (L6 ex V (V0 (ys := [_, _, _]) V V V (yZ (cs := [_, _, _]) V V (yS (cs' := [_, _, _]) V V V V V (yQ (B0 (E5 (L1 V (yC (k1) V V (yU V V V (yQ (F4 V (B2 (E5 (L1 V (yC (k2) V V (O6 V (yX V V (yX V V (H5 V (A9 V (H9 V (I3 V (B3 (L8 t2 V (H9 V (A9 V (C4 (C3 (A6 (A6 (C3 ?_))))))))))))))))))))))))))))))))))))))); refine A6 ?_
   exact M8 V V
end Go.Proofs.YtddfimjiihggmaaGreatDoor
namespace Go.Proofs.YtddfimjiihggmaaGreatDoor.Px
open Go.RowKit
variable {st : PS}
theorem R0 (i off k : Nat) {cs : List SV} (hi : st.bget i = some cs) (hc : cs[off]? = some (.d (.val (.slice none 0 0)))) (hlt : Nat.blt i 500000 = true := by rfl) : ∀ B w0 g a w, Rep B w0 g st a w → ∃ g', Evo g w g' w ∧ Rep B w0 g' (st.bput i (cs.set off (.d (.sl k [])))) a w := fun B w0 g a w hr => by
 have hlt := B7 hlt
 refine ⟨g, Evo.refl _ _, { hr with lim := hr.lim, size := hr.size, slots := hr.slots, boxes := fun j cs' hj OX => ?_, maps := fun j ms hj Q9 => ?_, dom := fun j b hj => ?_, tdom := hr.tdom, tlen := hr.tlen, glob := hr.glob }⟩
 · have Z5 : (st.bput i (cs.set off (.d (.sl k [])))).bget j = some cs' := hj
   rw [K5] at Z5
   by_cases e : j = i
   · rw [B9 e] at Z5
     cases Z5
     subst e
     obtain ⟨b, xs, T, h1, h2, h3, h4, h5⟩ := hr.boxes j cs hi OX
     refine ⟨b, xs, T, h1, h2, by simpa using h3, fun q c hq => ?_, fun q u hq hu => h5 q u (by simpa using hq) hu⟩
     by_cases eq : q = off
     · subst eq
       rw [List.getElem?_set_self (A5.1 hc).1] at hq
       cases hq
       obtain ⟨x, h6, h7⟩ := h4 q _ hc
       have hx : x = .slice none 0 0 := DRep.val_eq h7
       exact ⟨x, h6, by rw [hx]; exact DRep.nil⟩
     · rw [List.getElem?_set_ne (Ne.symm eq)] at hq
       exact h4 q c hq
   · rw [B5 e] at Z5
     exact hr.boxes j cs' Z5 OX
 · have Z5 : (st.bput i (cs.set off (.d (.sl k [])))).bget j = some [.mc ms] := hj
   rw [K5, B5 (by omega)] at Z5
   exact hr.maps j ms Z5 Q9
 · show (st.bput i (cs.set off (.d (.sl k [])))).bget j ≠ none
   rw [K5]
   by_cases e : j = i
   · simp [e]
   · rw [B5 e]; exact hr.dom j b hj
theorem Ax (s : Nat) {cs : List DV} (hs : st.get s = .d (.ref cs)) : ∀ B w0 g a w, Rep B w0 g st a w → ∃ g', Evo g w g' w ∧ Rep B w0 g' (st.put (some s) (.rd cs)) a w := Hy s hs fun _ _ _ h => SRep.le h (.ref cs)
theorem Pm {P : Program} {rl : Option Nat} {d0 : Nat} {p : EP} {Q : Exit → PS → EI → Prop} {i : EI} {id : Nat} {l : Array Oper} (h : ∀ B w0, w0.rl = rl → PW P B w0 (.region id l true) (fun e s => Q e s i) st) : PX P rl d0 (HE p) (.region id l true) Q st i := pe_ord h
section
variable {P : Program} {sq : Bool} {ops : Array Oper} {K : PS → Prop} {rest : List Oper} {d : Option Nat} {ty : TypeId} {pos : String} {af : Array Edge} {gd : Option (Nat × Bool)}
theorem Nb {T : Nat} {x y : Operand} {E k n c b off q : Nat} {m : Int} {kd : IntKind} [SliceOf P T E k] (ho : off + m.toNat * k = q) (h0 : 0 ≤ m) (hm : m < n) (hx : st.ev x = .d (.val (.slice (some ⟨b, off, none⟩) n c))) (hy : st.ev y = .d (.val (.int kd m))) (h : YR P sq ops K rest (st.put d (.d (.val (.pointer (some ⟨b, q, none⟩)))))) (zz : zk ops st ⟨d, .indexAddr T x y, ty, pos, af, gd⟩ .no = true := by kernel_rfl) :
 YR P sq ops K (⟨d, .indexAddr T x y, ty, pos, af, gd⟩ :: rest) st := yWv h0 hm hx hy (ho ▸ h) zz
end
end Go.Proofs.YtddfimjiihggmaaGreatDoor.Px
namespace Go.Proofs.YtddfimjiihggmaaGreatDoor
open Go.RowKit Px
abbrev UH (o : Option Ru) : Ru := o.getD (0, [])
theorem TC (l : List Ru) (n : Int) (hl : l.length ≤ 1000000) : PCalls Tryz.prog 22 [Q5 l, dI n] (.tup [.agg (AE (UH (EQ l n))), dB (EQ l n).isSome]) := by
 obtain ⟨r, hr⟩ := I0 (EQ l n)
 rw [← hr]
 refine M0 Tryz.func22 V Tryz.ntmps22 Tryz.results22 fun B w0 => ?_
 refine E5 (yZ (cs := [_, _]) V V (A9 V ?_)); refine S8 (R0 4 1 3 V V) ?_; refine H2 V (yN V (B4 V (yQ (B8 ?_)))); refine I1 (fun i : Nat => ⟨21, [(1, .d (dI n)), (4, .bx 4 0), (8, .d (Q5 l)), (9, .d (dI l.length)), (10, .d (dI i))], [(4, [.d (dI 0), .d (.sl 3 [])])], []⟩) (fun i => i ≤ l.length ∧ (l.drop i).find? (fun r => r.1 == n) = r) (fun i => l.length - i) 0 ⟨E8 _, hr.symm⟩
  ⟨rfl, ⟨F5, F5, F5, Ht (by simp), F5, D5⟩, ⟨⟨_, rfl, H6 _⟩, D5⟩, D5, rfl⟩ ?_
 rintro i ⟨hi, hI⟩
 clear hr
 rcases D6 i l.length with h | h
 rotate_left
 · have u1 : decide ((i : Int) < (l.length : Int)) = false := A7 (by omega)
   rw [J8 h] at hI
   subst hI
   refine E5 (I3 V (B0 (O1 u1 V (F8 (E5 (yG (ys := [_, _]) V V (yS (cs' := [_, _]) V V V V V (A9 V ?_)))))))); refine S8 (R0 4 1 3 V V) ?_; refine C4 ?_
   exact I9 _ (.agg D4 V V V V (.tmp V .nil)) V
 have u1 : decide ((i : Int) < (l.length : Int)) = true := B1 (by omega)
 obtain ⟨⟨m, ls⟩, hx⟩ : ∃ a, l[i]? = some a := ⟨_, A4 h⟩
 have ex := ix AE l i i (m, ls) rfl hx
 have hw := J0 ((i : Int) + 1) (by omega)
 obtain ⟨q1, q2⟩ := A5.1 hx
 rw [I2 q1, q2, List.find?_cons] at hI
 simp only at hI
 cases he : (m == n) with
 | true =>
  rw [he] at hI
  simp only at hI
  subst hI
  rw [show UH (some (m, ls)) = (m, ls) from rfl]
  refine E5 (I3 V (B0 (L8 u1 V (B2 (B0 (B8 (E5 (L6 ex V (V0 (ys := [_, _]) V V V (yZ (cs := [_, _]) V V (yS (cs' := [_, _]) V V V V V (yQ (E5 (L1 V (B4 V (I3 V (B3 (L8 he V (E5 (Ab (ys := [_, _]) V V V V (yS (cs' := [_, _]) V V V V V (A9 V (C4 (C3 (A6 (A6 (C3 (A6 ?_))))))))))))))))))))))))))))
  exact I9 _ (.agg D4 V V V V (.tmp V .nil)) V
 | false =>
  rw [he] at hI
  simp only at hI
  refine E5 (I3 V (B0 (L8 u1 V (B2 (B0 (B8 (E5 (L6 ex V (V0 (ys := [_, _]) V V V (yZ (cs := [_, _]) V V (yS (cs' := [_, _]) V V V V V (yQ (E5 (L1 V (B4 V (I3 V (B3 (O1 he V (B2 (B6 (F9 V (B4 V (yQ (B3 ?_))))))))))))))))))))))))
  exact ⟨i + 1, ⟨h, hI⟩, by omega, rfl, ⟨F5, F5, F5, F5, Q7 hw, D5⟩, ⟨⟨_, rfl, H6 _⟩, D5⟩, D5, rfl⟩
instance : MapTy Tryz.prog 155 := ⟨⟨9, 72, by kernel_rfl⟩⟩
theorem Ex (a b : List Ln) : W7 (a ++ b) = W7 a ++ W7 b := by simp [W7]
theorem ED (l : Ln) : (lnC l).length = l.2.2.length := by unfold lnC; split <;> simp
theorem lnsC_at {ls : List Ln} {k m : Nat} {l : Ln} {c : Cf} (hl : ls[k]? = some l) (hc : l.2.2[m]? = some c) : (W7 ls)[(W7 (ls.take k)).length + m]? = some (if l.2.1 then ngC c else c) := by
 obtain ⟨h1, h2⟩ := A5.1 hl
 have e : ls = ls.take k ++ l :: ls.drop (k + 1) := by
  rw [← h2, ← I2 h1, List.take_append_drop]
 have e2 : W7 ls = W7 (ls.take k) ++ (lnC l ++ W7 (ls.drop (k + 1))) := by
  conv => lhs; rw [e]
  rw [Ex, show l :: ls.drop (k + 1) = [l] ++ ls.drop (k + 1) from rfl, Ex]
  simp [W7]
 have hlt := (A5.1 hc).1
 rw [e2, E3 (by omega), Nat.add_sub_cancel_left, E9 (by rw [ED]; exact hlt)]
 unfold lnC
 split
 · rw [C6, hc]; rfl
 · exact hc
theorem Re {ls : List Ln} {k : Nat} {l : Ln} (hl : ls[k]? = some l) : (W7 (ls.take (k + 1))).length = (W7 (ls.take k)).length + l.2.2.length := by
 rw [G8, hl, Ex, D3]
 simp [W7, ED]
theorem Uc {ls : List Ln} {A B : Nat} (h1 : ls.length ≤ A) (h2 : ∀ l ∈ ls, l.2.2.length ≤ B) : (W7 ls).length ≤ A * B := by
 have : (W7 ls).length ≤ ls.length * B := by
  clear h1
  induction ls with
  | nil => simp [W7]
  | cons l ls ih =>
   have h3 := ih fun x hx => h2 x (by simp [hx])
   have h4 := h2 l (by simp)
   rw [show l :: ls = [l] ++ ls from rfl, Ex, D3, D3, Nat.add_mul]
   simp [W7, ED] at h3 ⊢
   omega
 exact F3 this (Nat.mul_le_mul_right _ h1)
theorem Pt {c : Cf} {B : Nat} (h : c.2.length ≤ B) : (ngC c).2.length ≤ B + 1 := by
 show (J7 (- val c.2)).length ≤ B + 1
 exact Ix (by rw [Int.natAbs_neg]; exact KY h)
def SeenZ (l dn : List (Value × DV)) : Prop := (∃ rl, (dn ++ rl).Perm l) ∧ ∀ q ∈ dn, q.2 = dS []
theorem vS_inj0 {v : F6} (h : dS v = dS []) : v = [] := by
 have h1 : vS v = vS [] := by injection h
 have h2 : v.toArray = #[] := by injection h1 with h1; injection h1
 simpa using h2
theorem Ji (r : Ru) (Dg : r.2.length ≤ 64) (Aq : ∀ l ∈ r.2, l.2.2.length ≤ 16 ∧ ∀ c ∈ l.2.2, c.2.length ≤ 70000) : PCalls Tryz.prog 59 [.agg (AE r)] (.d (dB (HN r.2))) := by
 obtain ⟨n, ls⟩ := r
 simp only at Dg Aq
 obtain ⟨R, hR⟩ := I0 (HN ls)
 rw [← hR]
 rw [← Vw] at hR
 obtain ⟨e, he⟩ := I0 (W7 ls)
 rw [← he] at hR
 have FV : e.length ≤ 1024 := by rw [he]; exact Uc Dg fun l hl => (Aq l hl).1
 have hef : ∀ c ∈ e, c.2.length ≤ 70001 := fun c hc => by
  rw [he] at hc
  obtain ⟨l, hl, hc⟩ := List.mem_flatMap.1 hc
  unfold lnC at hc
  split at hc
  · obtain ⟨d, hd, rfl⟩ := G7.1 hc
    exact Pt ((Aq l hl).2 d hd)
  · have := (Aq l hl).2 c hc; omega
 have VI := fun i k => Lx hef i k
 refine P4 Tryz.func59 V Tryz.ntmps59 Tryz.results59 (by simp) fun p d0 hex => ?_
 refine K0 (yK (cs := [_, _]) V V (C8 (A9 V (C5 (K0 (yKm V (C8 (yAm V (yQ (C5 (E7 (K0 (Bd V (C8 (AQ V V V (C8 (yN V (C8 (B4 V (yQ (C5 (K7 ?_)))))))))))))))))))))); refine Jr (fun k : Nat => ⟨51, [(3, .mb 500011), (13, .d (.sl 3 (ls.map Aa))), (14, .d (dI ls.length)), (15, .d (dI k))], [(500011, [.mc (Q8 (Y7 (P8 e (W7 (ls.take k)).length)))])], []⟩) (fun _ => ⟨[], [], none⟩) (fun k => k ≤ ls.length) (fun k => ls.length - k) 0 (E8 _) V
  ⟨rfl, ⟨F5, F5, Ht (by simp), F5, D5⟩, ⟨⟨_, rfl, K6 rfl⟩, D5⟩, D5, rfl⟩ ?_
 intro k hk
 rcases D6 k ls.length with h | h
 · have u1 : decide ((k : Int) < (ls.length : Int)) = true := B1 (by omega)
   obtain ⟨⟨a, c, x⟩, hl⟩ : ∃ a, ls[k]? = some a := ⟨_, A4 h⟩
   have ex := ix Aa ls k k (a, c, x) rfl hl
   have hw := J0 ((k : Int) + 1) (by omega)
   have hnk := Re hl
   have Z7 : ∀ m d, x[m]? = some d → e[(W7 (ls.take k)).length + m]? = some (if c then ngC d else d) := fun m d hd => by rw [he]; exact lnsC_at hl hd
   obtain ⟨x1, x2⟩ := Aq _ (C0 hl)
   simp only at hnk x1 x2
   obtain ⟨K, hK⟩ := I0 ((W7 (ls.take k)).length)
   rw [← hK] at hnk Z7 ⊢
   have arith : ls.length - (k + 1) < ls.length - k := by omega
   clear hl hK hR he
   refine K0 (I3 V (C5 (E7 (GS u1 V (H7 (E7 (K7 (K0 (L6 ex V (C8 (V0 (ys := [_, _, _]) V V V (C8 (yZ (cs := [_, _, _]) V V (C8 (yS (cs' := [_, _, _]) V V V V V (yQ (C5 (K0 (Bd V (C8 (AQ V V V (C8 (yN V (C8 (B4 V (yQ (C5 (K7 ?_)))))))))))))))))))))))))))); refine Jr (fun m : Nat => ⟨51, [(3, .mb 500011), (13, .d (.sl 3 (ls.map Aa))), (14, .d (dI ls.length)), (15, .d (dI k)), (5, .bx 5 0), (20, .d (.sl 2 (x.map dCf))), (21, .d (dI x.length)), (22, .d (dI m))], [(500011, [.mc (Q8 (Y7 (P8 e (K + m))))]), (5, [.d (dS a), .d (dB c), .d (.sl 2 (x.map dCf))])], []⟩) (fun _ => ⟨[], [], none⟩) (fun m => m ≤ x.length) (fun m => x.length - m) 0 (E8 _) V
    ⟨rfl, ⟨F5, F5, F5, F5, F5, F5, Ht (by simp), F5, D5⟩, ⟨⟨_, rfl, K6 rfl⟩, ⟨_, rfl, H6 _⟩, D5⟩, D5, rfl⟩ ?_
   intro m hm
   rcases D6 m x.length with h2 | h2
   · have u2 : decide ((m : Int) < (x.length : Int)) = true := B1 (by omega)
     obtain ⟨⟨c0, f⟩, hc⟩ : ∃ a, x[m]? = some a := ⟨_, A4 h2⟩
     have em := ix dCf x m m (c0, f) rfl hc
     have HH := J0 ((m : Int) + 1) (by omega)
     have hq := x2 _ (C0 hc)
     simp only at hq
     have hd := Z7 m _ hc
     have QH := VI (K + m) c0
     have BJ : x.length - (m + 1) < x.length - m := by omega
     have hKm : K + m < e.length := (A5.1 hd).1
     cases c with
     | false =>
      have K9 : P8 e (K + (m + 1)) = Aw c0 (DK (P9 c0 (P8 e (K + m))) f) (P8 e (K + m)) := by
       rw [show K + (m + 1) = (K + m) + 1 by omega, P8, hd]; rfl
      obtain ⟨M, hM⟩ := I0 (P8 e (K + m))
      rw [← hM] at K9 QH ⊢
      have hg := Kv c0 M
      have k1 := TJ (P9 c0 M) f (by omega) (by omega)
      have hs : BF c0 (dS (J7 (val (P9 c0 M) + val f))) (Y7 M) = Y7 (Aw c0 (DK (P9 c0 M) f) M) := OI c0 (DK (P9 c0 M) f) M
      obtain ⟨v, hv⟩ := I0 (P9 c0 M)
      rw [← hv] at hg k1 hs K9
      obtain ⟨M2, hM2⟩ := I0 (Aw c0 (DK v f) M)
      rw [← hM2] at hs K9
      obtain ⟨z, hz⟩ := I0 (J7 (val v + val f))
      rw [← hz] at k1 hs
      clear hz hM2 hv hM Z7 VI hd
      refine K0 (I3 V (C5 (E7 (GS u2 V (H7 (E7 (K7 (K0 (L6 em V (C8 (V0 (ys := [_, _]) V V V (C8 (yZ (cs := [_, _]) V V (C8 (yS (cs' := [_, _]) V V V V V (yQ (C5 (K0 (Bd V (C8 (AQ V V V (C8 (A9 V (C5 (E7 (K0 (Bd V (C8 (AQ V V V (yQ (C5 (O5 V (H7 ?_))))))))))))))))))))))))))))))))); refine Pm fun B w0 Ib => ?_; refine J2 Tryz.mixed (by kernel_rfl) ?_; refine yMm V (L1 V (yMm V (L1 V (yKl (z := dS []) V V V hg (B4 V (yC (k1) V V (yKu (z := dS []) V V V V hs (yQ (N2 (L5 (F9 V (C8 (B4 V (yQ (C5 (I4 ?_))))))))))))))))
      exact ⟨m + 1, h2, BJ, ⟨rfl, ⟨F5, F5, F5, F5, F5, F5, F5, Q7 HH, D5⟩, ⟨⟨_, V, K6 (by rw [K9])⟩, ⟨_, rfl, H6 _⟩, D5⟩, D5, rfl⟩, rfl⟩
     | true =>
      have k2 := wNegT f (by omega)
      have hng := Pt (c := (c0, f)) hq
      have K9 : P8 e (K + (m + 1)) = Aw c0 (DK (P9 c0 (P8 e (K + m))) (J7 (- val f))) (P8 e (K + m)) := by
       rw [show K + (m + 1) = (K + m) + 1 by omega, P8, hd]; rfl
      change (J7 (- val f)).length ≤ _ at hng
      obtain ⟨f2, hf2⟩ := I0 (J7 (- val f))
      rw [← hf2] at K9 k2 hng
      obtain ⟨M, hM⟩ := I0 (P8 e (K + m))
      rw [← hM] at K9 QH ⊢
      have hg := Kv c0 M
      have k1 := TJ (P9 c0 M) f2 (by omega) (by omega)
      have hs : BF c0 (dS (J7 (val (P9 c0 M) + val f2))) (Y7 M) = Y7 (Aw c0 (DK (P9 c0 M) f2) M) := OI c0 (DK (P9 c0 M) f2) M
      obtain ⟨v, hv⟩ := I0 (P9 c0 M)
      rw [← hv] at hg k1 hs K9
      obtain ⟨M2, hM2⟩ := I0 (Aw c0 (DK v f2) M)
      rw [← hM2] at hs K9
      obtain ⟨z, hz⟩ := I0 (J7 (val v + val f2))
      rw [← hz] at k1 hs
      clear hz hM2 hv hM Z7 VI hd hf2
      refine K0 (I3 V (C5 (E7 (GS u2 V (H7 (E7 (K7 (K0 (L6 em V (C8 (V0 (ys := [_, _]) V V V (C8 (yZ (cs := [_, _]) V V (C8 (yS (cs' := [_, _]) V V V V V (yQ (C5 (K0 (Bd V (C8 (AQ V V V (C8 (A9 V (C5 (E7 (K0 (Bd V (C8 (AQ V V V (yQ (C5 (O7 V (N2 (L5 (B4 V (C8 (yC (k2) V V (C8 (A9 V ?_))))))))))))))))))))))))))))))))))))))); refine C5 ?_; refine Pm fun B w0 Ib => ?_; refine J2 Tryz.mixed (by kernel_rfl) ?_; refine yMm V (L1 V (yMm V (L1 V (yKl (z := dS []) V V V hg (B4 V (yC (k1) V V (yKu (z := dS []) V V V V hs (yQ (N2 (L5 (F9 V (C8 (B4 V (yQ (C5 (I4 ?_))))))))))))))))
      exact ⟨m + 1, h2, BJ, ⟨rfl, ⟨F5, F5, F5, F5, F5, F5, F5, Q7 HH, D5⟩, ⟨⟨_, V, K6 (by rw [K9])⟩, ⟨_, rfl, H6 _⟩, D5⟩, D5, rfl⟩, rfl⟩
   · have u2 : decide ((m : Int) < (x.length : Int)) = false := A7 (by omega)
     obtain rfl : m = x.length := by omega
     refine K0 (I3 V (C5 (E7 (Lg u2 V (R4 (N2 (L5 (F9 V (C8 (B4 V (yQ (C5 (I4 ?_)))))))))))))
     exact ⟨k + 1, h, arith, ⟨rfl, ⟨F5, F5, F5, Q7 hw, D5⟩, ⟨⟨_, V, K6 (by rw [hnk])⟩, D5⟩, D5, rfl⟩, rfl⟩
 · have u1 : decide ((k : Int) < (ls.length : Int)) = false := A7 (by omega)
   obtain rfl : k = ls.length := by omega
   rw [I6, ← he]
   obtain ⟨M, hM⟩ := I0 (P8 e e.length)
   rw [← hM] at hR ⊢
   clear VI hef FV
   have Z4 : ∀ q ∈ Q8 (Y7 M), q.1.oneCell' = true := fun q hq => by obtain ⟨p, -, rfl⟩ := G7.1 hq; rfl
   have Ig : ∀ (kk : Value) (v : DV), (kk, v) ∈ Q8 (Y7 M) → ∃ p ∈ M, kk = vS p.1 ∧ v = dS p.2 := fun kk v hq => by
    obtain ⟨p, hp, e⟩ := G7.1 hq
    obtain ⟨q, JD, rfl⟩ := G7.1 hp
    cases e
    exact ⟨q, JD, V, V⟩
   refine T3 (Ft 3 500011 V V) ?_; refine K0 (I3 V (C5 (E7 (Lg u1 V (R4 (E7 (K0 (B4 V (yQ ?_))))))))); refine Tx V fun r => ?_; refine K7 ?_; refine Jr (fun dn : List (Value × DV) => ⟨51, [(44, .d (.val (.pointer (some ⟨r, 0, none⟩))))], [], []⟩) (fun dn => ⟨[], [], some (r, Q8 (Y7 M), dn)⟩) (fun dn => SeenZ (Q8 (Y7 M)) dn) (fun dn => (Q8 (Y7 M)).length - dn.length) [] ⟨⟨_, List.Perm.refl _⟩, fun q hq => by simp at hq⟩ rfl
    ⟨rfl, ⟨F5, D5⟩, D5, D5, rfl⟩ ?_
   rintro dn ⟨⟨rl0, QL⟩, hz⟩
   refine E7 (N2 ?_); refine P7 (Ty V V (fun hp => ?_) (fun kk v rl hq hp hk1 => ?_) Z4); refine L5 (yX V V (yQ (C5 (E7 (O5 V (R4 (K0 (A9 V (C5 (M1 ?_))))))))))
   · have hRt : R = true := by
      rw [hR, D7]
      intro p Lc
      have : (vS p.1, dS p.2) ∈ dn := hp.mem_iff.2 (G7.2 ⟨(p.1, dS p.2), G7.2 ⟨p, Lc, rfl⟩, rfl⟩)
      rw [vS_inj0 (hz _ this)]; rfl
     subst hRt
     skip
     exact L7 _ (.tmp V .nil) V
   · obtain ⟨p, hpM, rfl, rfl⟩ := Ig kk v hq
     have hlen := hp.length_eq
     rw [D3, List.length_cons] at hlen
     by_cases h0 : p.2 = []
     · have t1 : (!p.2 == []) = false := by simp [h0]
       have HA : SeenZ (Q8 (Y7 M)) (dn ++ [(vS p.1, dS p.2)]) := ⟨⟨rl, by rw [G9]; exact hp⟩, fun q hq => by
        rcases List.mem_append.1 hq with hq | hq
        · exact hz q hq
        · rw [List.mem_singleton.1 hq, h0]⟩
       refine L5 (yX V V (yQ (C5 (E7 (O7 V (H7 (K7 (E7 (N2 ?_))))))))); refine P7 (Kq V (List.getLast?_concat ..) V V ?_); refine L5 (yX V V (C8 (A9 V (C5 (K0 (B4 V (C8 (N5 V V (yQ (C5 (I4 (Lg t1 V (H7 (Tr (I4 ?_)))))))))))))))
       exact ⟨dn ++ [(vS p.1, dS p.2)], HA, by rw [D3]; simp only [List.length_cons, List.length_nil]; omega, ⟨rfl, ⟨F5, D5⟩, D5, D5, rfl⟩, rfl⟩
     · have t1 : (!p.2 == []) = true := by simp [h0]
       have hRf : R = false := by
        rw [hR, List.all_eq_false]
        exact ⟨p, hpM, by simp [h0]⟩
       subst hRf
       refine L5 (yX V V (yQ (C5 (E7 (O7 V (H7 (K7 (E7 (N2 ?_))))))))); refine P7 (Kq V (List.getLast?_concat ..) V V ?_); refine L5 (yX V V (C8 (A9 V (C5 (K0 (B4 V (C8 (N5 V V (yQ (C5 (I4 (GS t1 V (K0 (A9 V (C5 (M1 (K1 (F7 (K1 (F7 ?_))))))))))))))))))))
       exact L7 _ (.tmp V .nil) V
theorem Jj (r : Ru) (hb : Sf r) : PCalls Tryz.prog 16 [.agg (AE r)] (.tup [dB (decide (EA r = 0) && HN r.2), dI (EA r)]) := by
 have c1 := Lj r hb
 by_cases h : EA r = 0
 · obtain ⟨h1, h2, h3⟩ := (Pb (tp := P1 J5) (ce := KP)).1 h
   have c2 := Ji r h2 fun l hl => ⟨(FO.1 (h3 l hl).2).1, fun c hc => ((hb.2 l hl).2.2 c hc).2⟩
   rw [h] at c1 ⊢
   rw [B1 rfl, Bool.true_and]
   obtain ⟨b, Ci⟩ := I0 (HN r.2)
   rw [← Ci] at c2 ⊢
   obtain ⟨n, ls⟩ := r
   obtain ⟨L, hL⟩ : ∃ L : DV, L = .sl 3 (ls.map Aa) := ⟨_, rfl⟩
   simp only [AE] at c1 c2
   rw [← hL] at c1 c2
   show PCalls Tryz.prog 16 [.agg [dI n, .sl 3 (ls.map Aa)]] _
   rw [← hL]
   clear hL Ci h h1 h2 h3 hb
   refine M0 Tryz.func16 V Tryz.ntmps16 Tryz.results16 fun B w0 => ?_
   refine E5 (yK (cs := [_, _]) V V (H5 V (A9 V (B0 (E5 (Ab (ys := [_, _]) V V V V (yC (c1) V V (A9 V (H9 V (I3 V (F4 V (B2 (E5 (Ab (ys := [_, _]) V V V V (yC (c2) V V (H5 V (A9 V (C4 ?_))))))))))))))))))
   exact Az V V V
 · rw [A7 h, Bool.false_and]
   have t1 : (EA r != 0) = true := by simp [h]
   obtain ⟨x, hx⟩ := I0 (EA r)
   rw [← hx] at c1 t1 ⊢
   obtain ⟨n, ls⟩ := r
   obtain ⟨L, hL⟩ : ∃ L : DV, L = .sl 3 (ls.map Aa) := ⟨_, rfl⟩
   simp only [AE] at c1
   rw [← hL] at c1
   show PCalls Tryz.prog 16 [.agg [dI n, .sl 3 (ls.map Aa)]] _
   rw [← hL]
   clear hL hx h hb
   refine M0 Tryz.func16 V Tryz.ntmps16 Tryz.results16 fun B w0 => ?_
   refine E5 (yK (cs := [_, _]) V V (H5 V (A9 V (B0 (E5 (Ab (ys := [_, _]) V V V V (yC (c1) V V (A9 V (H9 V (I3 V (B3 (L8 t1 V (H9 V (H5 V (A9 V (C4 (A6 ?_)))))))))))))))))
   exact Az V V V
end Go.Proofs.YtddfimjiihggmaaGreatDoor