/- Walks: words and names of kinds, by the reference. -/
import Derived.Test.YtddfimjiihggmaaGreatDoorB7
import Derived.Lib.JoinLaws
set_option maxHeartbeats 16000000
set_option maxRecDepth 20000
namespace Go.Proofs.YtddfimjiihggmaaGreatDoor
open Go.RowKit Px
variable {n : Int}
def V8 (n : Int) : List G0 := (W0 n).elim [] fun k => k.2.2.1
def Et (n : Int) : G0 := (W0 n).elim [] fun k => k.2.2.2
def erK (n : Int) : Int := if (W0 n).isSome then 0 else 7
theorem QH {P : Int → Prop} (h : ∀ k : Nat, k < 19 → P ((k + 1 : Nat) : Int)) (h0 : ∀ n : Int, (∀ k : Nat, k < 19 → n ≠ ((k + 1 : Nat) : Int)) → P n) (n : Int) : P n := by
 by_cases hn : ∃ k : Nat, k < 19 ∧ n = ((k + 1 : Nat) : Int)
 · obtain ⟨k, hk, rfl⟩ := hn; exact h k hk
 · exact h0 n fun k hk e => hn ⟨k, hk, e⟩
theorem MS (h : n < 1 ∨ 19 < n) : W0 n = none := by
 have := IP n
 cases e : W0 n with
 | none => rfl
 | some k => rw [e] at this; simp at this; omega
theorem Ll (n : Int) : PCalls Tryz.prog 65 [dI n] (.d (dS (Ek n))) := by
 refine B3 Tryz.func65 V Tryz.ntmps65 Tryz.results65 (by simp) fun B w0 => ?_
 refine D8 (B5 V (I0 V (yQ (B6 (D8 (G3 V (B5 V (B1 ?_))))))))
 by_cases h1 : n = 1
 · have t1 : (n == 1) = true := by simp [h1]
   rw [t1]; refine G5 V ?_; refine A8 ?_; refine B4 ?_; refine H4 V ?_; refine yQ ?_; refine C4 ?_; refine B8 ?_; refine A4 ?_
   exact C9 _ (.tmp V .nil) (by rw [h1]; kernel_rfl)
 have t1 : (n == 1) = false := F8 h1
 rw [t1]; refine F6 V ?_; refine A8 ?_; refine B4 ?_; refine yB V V V V ?_; refine H4 V ?_; refine yQ ?_; refine B1 ?_
 by_cases h2 : n = 2
 · have t2 : (n == 2) = true := by simp [h2]
   rw [t2]; refine G5 V ?_; refine A8 ?_; refine B4 ?_; refine H4 V ?_; refine yQ ?_; refine C4 ?_; refine B8 ?_; refine A4 ?_
   exact C9 _ (.tmp V .nil) (by rw [h2]; kernel_rfl)
 have t2 : (n == 2) = false := F8 h2
 rw [t2]; refine F6 V ?_; refine A8 ?_; refine B4 ?_; refine yB V V V V ?_; refine H4 V ?_; refine yQ ?_; refine B1 ?_
 by_cases h3 : n = 3
 · have t3 : (n == 3) = true := by simp [h3]
   rw [t3]; refine G5 V ?_; refine A8 ?_; refine B4 ?_; refine H4 V ?_; refine yQ ?_; refine C4 ?_; refine B8 ?_; refine A4 ?_
   exact C9 _ (.tmp V .nil) (by rw [h3]; kernel_rfl)
 have t3 : (n == 3) = false := F8 h3
 rw [t3]; refine F6 V ?_; refine A8 ?_; refine B4 ?_; refine yB V V V V ?_; refine H4 V ?_; refine yQ ?_; refine B1 ?_
 by_cases h4 : n = 4
 · have t4 : (n == 4) = true := by simp [h4]
   rw [t4]; refine G5 V ?_; refine A8 ?_; refine B4 ?_; refine H4 V ?_; refine yQ ?_; refine C4 ?_; refine B8 ?_; refine A4 ?_
   exact C9 _ (.tmp V .nil) (by rw [h4]; kernel_rfl)
 have t4 : (n == 4) = false := F8 h4
 rw [t4]; refine F6 V ?_; refine A8 ?_; refine B4 ?_; refine yB V V V V ?_; refine H4 V ?_; refine yQ ?_; refine B1 ?_
 by_cases h5 : n = 5
 · have t5 : (n == 5) = true := by simp [h5]
   rw [t5]; refine G5 V ?_; refine A8 ?_; refine B4 ?_; refine H4 V ?_; refine yQ ?_; refine C4 ?_; refine B8 ?_; refine A4 ?_
   exact C9 _ (.tmp V .nil) (by rw [h5]; kernel_rfl)
 have t5 : (n == 5) = false := F8 h5
 rw [t5]; refine F6 V ?_; refine A8 ?_; refine B4 ?_; refine yB V V V V ?_; refine H4 V ?_; refine yQ ?_; refine B1 ?_
 by_cases h6 : n = 6
 · have t6 : (n == 6) = true := by simp [h6]
   rw [t6]; refine G5 V ?_; refine A8 ?_; refine B4 ?_; refine H4 V ?_; refine yQ ?_; refine C4 ?_; refine B8 ?_; refine A4 ?_
   exact C9 _ (.tmp V .nil) (by rw [h6]; kernel_rfl)
 have t6 : (n == 6) = false := F8 h6
 rw [t6]; refine F6 V ?_; refine A8 ?_; refine B4 ?_; refine yB V V V V ?_; refine H4 V ?_; refine yQ ?_; refine B1 ?_
 by_cases h7 : n = 7
 · have t7 : (n == 7) = true := by simp [h7]
   rw [t7]; refine G5 V ?_; refine A8 ?_; refine B4 ?_; refine H4 V ?_; refine yQ ?_; refine C4 ?_; refine B8 ?_; refine A4 ?_
   exact C9 _ (.tmp V .nil) (by rw [h7]; kernel_rfl)
 have t7 : (n == 7) = false := F8 h7
 rw [t7]; refine F6 V ?_; refine A8 ?_; refine B4 ?_; refine yB V V V V ?_; refine H4 V ?_; refine yQ ?_; refine B1 ?_
 by_cases h8 : n = 8
 · have t8 : (n == 8) = true := by simp [h8]
   rw [t8]; refine G5 V ?_; refine A8 ?_; refine B4 ?_; refine H4 V ?_; refine yQ ?_; refine C4 ?_; refine B8 ?_; refine A4 ?_
   exact C9 _ (.tmp V .nil) (by rw [h8]; kernel_rfl)
 have t8 : (n == 8) = false := F8 h8
 rw [t8]; refine F6 V ?_; refine A8 ?_; refine B4 ?_; refine yB V V V V ?_; refine H4 V ?_; refine yQ ?_; refine B1 ?_
 by_cases h9 : n = 9
 · have t9 : (n == 9) = true := by simp [h9]
   rw [t9]; refine G5 V ?_; refine A8 ?_; refine B4 ?_; refine H4 V ?_; refine yQ ?_; refine C4 ?_; refine B8 ?_; refine A4 ?_
   exact C9 _ (.tmp V .nil) (by rw [h9]; kernel_rfl)
 have t9 : (n == 9) = false := F8 h9
 rw [t9]; refine F6 V ?_; refine A8 ?_; refine B4 ?_; refine yB V V V V ?_; refine H4 V ?_; refine yQ ?_; refine B1 ?_
 by_cases h10 : n = 10
 · have t10 : (n == 10) = true := by simp [h10]
   rw [t10]; refine G5 V ?_; refine A8 ?_; refine B4 ?_; refine H4 V ?_; refine yQ ?_; refine C4 ?_; refine B8 ?_; refine A4 ?_
   exact C9 _ (.tmp V .nil) (by rw [h10]; kernel_rfl)
 have t10 : (n == 10) = false := F8 h10
 rw [t10]; refine F6 V ?_; refine A8 ?_; refine B4 ?_; refine yB V V V V ?_; refine H4 V ?_; refine yQ ?_; refine B1 ?_
 by_cases h11 : n = 11
 · have t11 : (n == 11) = true := by simp [h11]
   rw [t11]; refine G5 V ?_; refine A8 ?_; refine B4 ?_; refine H4 V ?_; refine yQ ?_; refine C4 ?_; refine B8 ?_; refine A4 ?_
   exact C9 _ (.tmp V .nil) (by rw [h11]; kernel_rfl)
 have t11 : (n == 11) = false := F8 h11
 rw [t11]; refine F6 V ?_; refine A8 ?_; refine B4 ?_; refine yB V V V V ?_; refine H4 V ?_; refine yQ ?_; refine B1 ?_
 by_cases h12 : n = 12
 · have t12 : (n == 12) = true := by simp [h12]
   rw [t12]; refine G5 V ?_; refine A8 ?_; refine B4 ?_; refine H4 V ?_; refine yQ ?_; refine C4 ?_; refine B8 ?_; refine A4 ?_
   exact C9 _ (.tmp V .nil) (by rw [h12]; kernel_rfl)
 have t12 : (n == 12) = false := F8 h12
 rw [t12]; refine F6 V ?_; refine A8 ?_; refine B4 ?_; refine yB V V V V ?_; refine H4 V ?_; refine yQ ?_; refine B1 ?_
 by_cases h13 : n = 13
 · have t13 : (n == 13) = true := by simp [h13]
   rw [t13]; refine G5 V ?_; refine A8 ?_; refine B4 ?_; refine H4 V ?_; refine yQ ?_; refine C4 ?_; refine B8 ?_; refine A4 ?_
   exact C9 _ (.tmp V .nil) (by rw [h13]; kernel_rfl)
 have t13 : (n == 13) = false := F8 h13
 rw [t13]; refine F6 V ?_; refine A8 ?_; refine B4 ?_; refine yB V V V V ?_; refine H4 V ?_; refine yQ ?_; refine B1 ?_
 by_cases h14 : n = 14
 · have t14 : (n == 14) = true := by simp [h14]
   rw [t14]; refine G5 V ?_; refine A8 ?_; refine B4 ?_; refine H4 V ?_; refine yQ ?_; refine C4 ?_; refine B8 ?_; refine A4 ?_
   exact C9 _ (.tmp V .nil) (by rw [h14]; kernel_rfl)
 have t14 : (n == 14) = false := F8 h14
 rw [t14]; refine F6 V ?_; refine A8 ?_; refine B4 ?_; refine yB V V V V ?_; refine H4 V ?_; refine yQ ?_; refine B1 ?_
 by_cases h15 : n = 15
 · have t15 : (n == 15) = true := by simp [h15]
   rw [t15]; refine G5 V ?_; refine A8 ?_; refine B4 ?_; refine H4 V ?_; refine yQ ?_; refine C4 ?_; refine B8 ?_; refine A4 ?_
   exact C9 _ (.tmp V .nil) (by rw [h15]; kernel_rfl)
 have t15 : (n == 15) = false := F8 h15
 rw [t15]; refine F6 V ?_; refine A8 ?_; refine B4 ?_; refine yB V V V V ?_; refine H4 V ?_; refine yQ ?_; refine B1 ?_
 by_cases h16 : n = 16
 · have t16 : (n == 16) = true := by simp [h16]
   rw [t16]; refine G5 V ?_; refine A8 ?_; refine B4 ?_; refine H4 V ?_; refine yQ ?_; refine C4 ?_; refine B8 ?_; refine A4 ?_
   exact C9 _ (.tmp V .nil) (by rw [h16]; kernel_rfl)
 have t16 : (n == 16) = false := F8 h16
 rw [t16]; refine F6 V ?_; refine A8 ?_; refine B4 ?_; refine yB V V V V ?_; refine H4 V ?_; refine yQ ?_; refine B1 ?_
 by_cases h17 : n = 17
 · have t17 : (n == 17) = true := by simp [h17]
   rw [t17]; refine G5 V ?_; refine A8 ?_; refine B4 ?_; refine H4 V ?_; refine yQ ?_; refine C4 ?_; refine B8 ?_; refine A4 ?_
   exact C9 _ (.tmp V .nil) (by rw [h17]; kernel_rfl)
 have t17 : (n == 17) = false := F8 h17
 rw [t17]; refine F6 V ?_; refine A8 ?_; refine B4 ?_; refine yB V V V V ?_; refine H4 V ?_; refine yQ ?_; refine B1 ?_
 by_cases h18 : n = 18
 · have t18 : (n == 18) = true := by simp [h18]
   rw [t18]; refine G5 V ?_; refine A8 ?_; refine B4 ?_; refine H4 V ?_; refine yQ ?_; refine C4 ?_; refine B8 ?_; refine A4 ?_
   exact C9 _ (.tmp V .nil) (by rw [h18]; kernel_rfl)
 have t18 : (n == 18) = false := F8 h18
 rw [t18]; refine F6 V ?_; refine A8 ?_; refine B4 ?_; refine yB V V V V ?_; refine H4 V ?_; refine yQ ?_; refine B1 ?_
 by_cases h19 : n = 19
 · have t19 : (n == 19) = true := by simp [h19]
   rw [t19]; refine G5 V ?_; refine A8 ?_; refine B4 ?_; refine H4 V ?_; refine yQ ?_; refine C4 ?_; refine B8 ?_; refine A4 ?_
   exact C9 _ (.tmp V .nil) (by rw [h19]; kernel_rfl)
 have t19 : (n == 19) = false := F8 h19
 rw [t19]; refine F6 V ?_; refine B2 ?_; refine A8 ?_; refine B4 ?_; refine H4 V ?_; refine yQ ?_; refine C4 ?_
 exact C9 _ (.tmp V .nil) (by rw [Ek, MS (by omega)]; rfl)
theorem MR (n : Int) : (Ek n == []) = !(W0 n).isSome := by
 cases h : W0 n with
 | none => rw [Ek, h]; rfl
 | some k =>
  have := (Nm (T9 h).1).2.2
  rw [Ek, h]
  simpa using this
theorem Kv (h : n = 1 ∨ n = 2 ∨ n = 5 ∨ n = 6 ∨ n = 7 ∨ n = 8 ∨ n = 9 ∨ n = 15 ∨ n = 16 ∨ n = 17 ∨ n = 18 ∨ n = 19) : V8 n = [[97, 109, 111, 117, 110, 116]] := by
 rcases h with rfl | rfl | rfl | rfl | rfl | rfl | rfl | rfl | rfl | rfl | rfl | rfl
 · exact of_decide_eq_true V
 · exact of_decide_eq_true V
 · exact of_decide_eq_true V
 · exact of_decide_eq_true V
 · exact of_decide_eq_true V
 · exact of_decide_eq_true V
 · exact of_decide_eq_true V
 · exact of_decide_eq_true V
 · exact of_decide_eq_true V
 · exact of_decide_eq_true V
 · exact of_decide_eq_true V
 · exact of_decide_eq_true V
theorem Oa (n : Int) : PCalls Tryz.prog 19 [dI n] (.tup [V3 (V8 n), dI (erK n)]) := by
 have c1 := Ll n
 have u1 := MR n
 refine B3 Tryz.func19 V Tryz.ntmps19 Tryz.results19 (by simp) fun B w0 => ?_
 refine D8 (H4 V (B5 V (I0 V (yQ (B6 (D8 (G3 V (B5 V (B1 ?_)))))))))
 by_cases h3 : n = 3
 · have t3 : (n == 3) = true := by simp [h3]
   rw [t3]; refine G5 V ?_; refine A8 ?_; refine B4 ?_; refine yR (es := [[_], [_]]) V V V V V ?_; refine H4 V ?_; refine H4 V ?_; refine yQ ?_; refine C4 ?_; refine B8 ?_
   refine A4 ?_
   exact C9 _ (.tmp V (.tmp V .nil)) (by rw [h3]; kernel_rfl)
 have t3 : (n == 3) = false := F8 h3
 rw [t3]; refine F6 V ?_; refine A8 ?_; refine B4 ?_; refine yB V V V V ?_; refine H4 V ?_; refine yQ ?_; refine B1 ?_
 by_cases h4 : n = 4
 · have t4 : (n == 4) = true := by simp [h4]
   rw [t4]; refine G5 V ?_; refine A8 ?_; refine B4 ?_; refine yR (es := [[_], [_], [_], [_]]) V V V V V ?_; refine H4 V ?_; refine H4 V ?_; refine yQ ?_; refine C4 ?_; refine B8 ?_
   refine A4 ?_
   exact C9 _ (.tmp V (.tmp V .nil)) (by rw [h4]; kernel_rfl)
 have t4 : (n == 4) = false := F8 h4
 rw [t4]; refine F6 V ?_; refine A8 ?_; refine A8 ?_; refine B4 ?_; refine yB V V V V ?_; refine H4 V ?_; refine yQ ?_; refine B1 ?_
 by_cases h10 : n = 10
 · have t10 : (n == 10) = true := by simp [h10]
   rw [t10]; refine G5 V ?_; refine B2 ?_; refine G5 V ?_; refine A8 ?_; refine B4 ?_; refine yR (es := [[_], [_]]) V V V V V ?_; refine H4 V ?_; refine H4 V ?_; refine yQ ?_; refine C4 ?_
   refine B8 ?_; refine A4 ?_
   exact C9 _ (.tmp V (.tmp V .nil)) (by rw [h10]; kernel_rfl)
 have t10 : (n == 10) = false := F8 h10
 rw [t10]; refine F6 V ?_; refine B4 ?_; refine yB V V V V ?_; refine H4 V ?_; refine yQ ?_; refine B1 ?_
 by_cases h14 : n = 14
 · have t14 : (n == 14) = true := by simp [h14]
   rw [t14]; refine G5 V ?_; refine A8 ?_; refine B4 ?_; refine yR (es := [[_], [_]]) V V V V V ?_; refine H4 V ?_; refine H4 V ?_; refine yQ ?_; refine C4 ?_; refine B8 ?_
   refine A4 ?_
   exact C9 _ (.tmp V (.tmp V .nil)) (by rw [h14]; kernel_rfl)
 have t14 : (n == 14) = false := F8 h14
 rw [t14]; refine F6 V ?_; refine A8 ?_; refine B4 ?_; refine yB V V V V ?_; refine H4 V ?_; refine yQ ?_; refine B1 ?_
 by_cases h11 : n = 11
 · have t11 : (n == 11) = true := by simp [h11]
   rw [t11]; refine G5 V ?_; refine A8 ?_; refine B4 ?_; refine yR (es := [[_], [_], [_]]) V V V V V ?_; refine H4 V ?_; refine H4 V ?_; refine yQ ?_; refine C4 ?_; refine B8 ?_
   refine A4 ?_
   exact C9 _ (.tmp V (.tmp V .nil)) (by rw [h11]; kernel_rfl)
 have t11 : (n == 11) = false := F8 h11
 rw [t11]; refine F6 V ?_; refine A8 ?_; refine B4 ?_; refine yB V V V V ?_; refine H4 V ?_; refine yQ ?_; refine B1 ?_
 by_cases h12 : n = 12
 · have t12 : (n == 12) = true := by simp [h12]
   rw [t12]; refine G5 V ?_; refine A8 ?_; refine B4 ?_; refine yR (es := [[_], [_], [_]]) V V V V V ?_; refine H4 V ?_; refine H4 V ?_; refine yQ ?_; refine C4 ?_; refine B8 ?_
   refine A4 ?_
   exact C9 _ (.tmp V (.tmp V .nil)) (by rw [h12]; kernel_rfl)
 have t12 : (n == 12) = false := F8 h12
 rw [t12]; refine F6 V ?_; refine A8 ?_; refine B4 ?_; refine yB V V V V ?_; refine H4 V ?_; refine yQ ?_; refine B1 ?_
 by_cases h13 : n = 13
 · have t13 : (n == 13) = true := by simp [h13]
   rw [t13]; refine G5 V ?_; refine A8 ?_; refine B4 ?_; refine yR (es := [[_], [_]]) V V V V V ?_; refine H4 V ?_; refine H4 V ?_; refine yQ ?_; refine C4 ?_; refine B8 ?_
   refine A4 ?_
   exact C9 _ (.tmp V (.tmp V .nil)) (by rw [h13]; kernel_rfl)
 have t13 : (n == 13) = false := F8 h13
 rw [t13]; refine F6 V ?_; refine B2 ?_; refine A8 ?_; refine A8 ?_; refine B4 ?_; refine C3 V ?_
 cases h : (W0 n).isSome with
 | true =>
  rw [h] at u1
  have e : V8 n = [[97, 109, 111, 117, 110, 116]] := by
   rw [IP] at h
   simp at h
   exact Kv (by omega)
  rw [erK, h, e, C5 rfl]
  clear h e
  obtain ⟨w, hw⟩ := H7 (Ek n)
  rw [← hw] at c1 u1
  refine yC (c1) V V (O9 V V (yQ (B1 (L9 u1 V (B2 (D8 ?_)))))); refine yR (es := [[_]]) V V V V V ?_; refine H4 V (B5 V (C4 ?_))
  exact C9 _ (.tmp V (.tmp V .nil)) V
 | false =>
  rw [h] at u1
  have e : V8 n = [] := by
   cases e : W0 n with
   | none => rw [V8, e]; rfl
   | some k => rw [e] at h; cases h
  rw [erK, h, e, B9 (by simp)]
  clear h e
  obtain ⟨w, hw⟩ := H7 (Ek n)
  rw [← hw] at c1 u1
  refine yC (c1) V V (O9 V V (yQ (B1 (J8 u1 V (D8 (H4 V (B5 V (C4 (A4 ?_)))))))))
  exact C9 _ (.tnil 1 V (.tmp V .nil)) V
def JI (n : Int) : Bool := !([1, 2, 7, 8, 9, 15, 16] : List Int).contains n
def JW (n : Int) : Bool := ([11, 12, 13] : List Int).contains n
theorem wStars (n : Int) : PCalls Tryz.prog 114 [dI n] (.tup [dB (JI n), dB (JW n)]) := by
 refine B3 Tryz.func114 V Tryz.ntmps114 Tryz.results114 (by simp) fun B w0 => ?_
 refine D8 (H4 V (B5 V (I0 V (yQ (B6 (A8 (D8 (G3 V (B5 V (B1 ?_))))))))))
 by_cases h1 : n = 1
 · have t1 : (n == 1) = true := by simp [h1]
   rw [t1]; refine G5 V ?_; refine B2 ?_; refine G5 V ?_; refine A8 ?_; refine B4 ?_; refine H4 V ?_; refine H4 V ?_; refine yQ ?_; refine C4 ?_; refine B8 ?_; refine A4 ?_
   exact C9 _ (.tmp V (.tmp V .nil)) (by rw [h1]; kernel_rfl)
 have t1 : (n == 1) = false := F8 h1
 rw [t1]; refine F6 V ?_; refine A8 ?_; refine B4 ?_; refine yB V V V V ?_; refine H4 V ?_; refine yQ ?_; refine B1 ?_
 by_cases h2 : n = 2
 · have t2 : (n == 2) = true := by simp [h2]
   rw [t2]; refine G5 V ?_; refine B2 ?_; refine G5 V ?_; refine A8 ?_; refine B4 ?_; refine H4 V ?_; refine H4 V ?_; refine yQ ?_; refine C4 ?_; refine B8 ?_; refine A4 ?_
   exact C9 _ (.tmp V (.tmp V .nil)) (by rw [h2]; kernel_rfl)
 have t2 : (n == 2) = false := F8 h2
 rw [t2]; refine F6 V ?_; refine A8 ?_; refine B4 ?_; refine yB V V V V ?_; refine H4 V ?_; refine yQ ?_; refine B1 ?_
 by_cases h7 : n = 7
 · have t7 : (n == 7) = true := by simp [h7]
   rw [t7]; refine G5 V ?_; refine B2 ?_; refine G5 V ?_; refine A8 ?_; refine B4 ?_; refine H4 V ?_; refine H4 V ?_; refine yQ ?_; refine C4 ?_; refine B8 ?_; refine A4 ?_
   exact C9 _ (.tmp V (.tmp V .nil)) (by rw [h7]; kernel_rfl)
 have t7 : (n == 7) = false := F8 h7
 rw [t7]; refine F6 V ?_; refine A8 ?_; refine B4 ?_; refine yB V V V V ?_; refine H4 V ?_; refine yQ ?_; refine B1 ?_
 by_cases h8 : n = 8
 · have t8 : (n == 8) = true := by simp [h8]
   rw [t8]; refine G5 V ?_; refine B2 ?_; refine G5 V ?_; refine A8 ?_; refine B4 ?_; refine H4 V ?_; refine H4 V ?_; refine yQ ?_; refine C4 ?_; refine B8 ?_; refine A4 ?_
   exact C9 _ (.tmp V (.tmp V .nil)) (by rw [h8]; kernel_rfl)
 have t8 : (n == 8) = false := F8 h8
 rw [t8]; refine F6 V ?_; refine A8 ?_; refine B4 ?_; refine yB V V V V ?_; refine H4 V ?_; refine yQ ?_; refine B1 ?_
 by_cases h9 : n = 9
 · have t9 : (n == 9) = true := by simp [h9]
   rw [t9]; refine G5 V ?_; refine B2 ?_; refine G5 V ?_; refine A8 ?_; refine B4 ?_; refine H4 V ?_; refine H4 V ?_; refine yQ ?_; refine C4 ?_; refine B8 ?_; refine A4 ?_
   exact C9 _ (.tmp V (.tmp V .nil)) (by rw [h9]; kernel_rfl)
 have t9 : (n == 9) = false := F8 h9
 rw [t9]; refine F6 V ?_; refine A8 ?_; refine B4 ?_; refine yB V V V V ?_; refine H4 V ?_; refine yQ ?_; refine B1 ?_
 by_cases h15 : n = 15
 · have t15 : (n == 15) = true := by simp [h15]
   rw [t15]; refine G5 V ?_; refine B2 ?_; refine G5 V ?_; refine A8 ?_; refine B4 ?_; refine H4 V ?_; refine H4 V ?_; refine yQ ?_; refine C4 ?_; refine B8 ?_; refine A4 ?_
   exact C9 _ (.tmp V (.tmp V .nil)) (by rw [h15]; kernel_rfl)
 have t15 : (n == 15) = false := F8 h15
 rw [t15]; refine F6 V ?_; refine B4 ?_; refine yB V V V V ?_; refine H4 V ?_; refine yQ ?_; refine B1 ?_
 by_cases h16 : n = 16
 · have t16 : (n == 16) = true := by simp [h16]
   rw [t16]; refine G5 V ?_; refine A8 ?_; refine B4 ?_; refine H4 V ?_; refine H4 V ?_; refine yQ ?_; refine C4 ?_; refine B8 ?_; refine A4 ?_
   exact C9 _ (.tmp V (.tmp V .nil)) (by rw [h16]; kernel_rfl)
 have t16 : (n == 16) = false := F8 h16
 rw [t16]; refine F6 V ?_; refine A8 ?_; refine A8 ?_; refine B4 ?_; refine yB V V V V ?_; refine H4 V ?_; refine yQ ?_; refine B1 ?_
 by_cases h11 : n = 11
 · have t11 : (n == 11) = true := by simp [h11]
   rw [t11]; refine G5 V ?_; refine B2 ?_; refine G5 V ?_; refine A8 ?_; refine B4 ?_; refine H4 V ?_; refine H4 V ?_; refine yQ ?_; refine C4 ?_; refine B8 ?_; refine A4 ?_
   exact C9 _ (.tmp V (.tmp V .nil)) (by rw [h11]; kernel_rfl)
 have t11 : (n == 11) = false := F8 h11
 rw [t11]; refine F6 V ?_; refine A8 ?_; refine B4 ?_; refine yB V V V V ?_; refine H4 V ?_; refine yQ ?_; refine B1 ?_
 by_cases h12 : n = 12
 · have t12 : (n == 12) = true := by simp [h12]
   rw [t12]; refine G5 V ?_; refine B2 ?_; refine G5 V ?_; refine A8 ?_; refine B4 ?_; refine H4 V ?_; refine H4 V ?_; refine yQ ?_; refine C4 ?_; refine B8 ?_; refine A4 ?_
   exact C9 _ (.tmp V (.tmp V .nil)) (by rw [h12]; kernel_rfl)
 have t12 : (n == 12) = false := F8 h12
 rw [t12]; refine F6 V ?_; refine B4 ?_; refine yB V V V V ?_; refine H4 V ?_; refine yQ ?_; refine B1 ?_
 by_cases h13 : n = 13
 · have t13 : (n == 13) = true := by simp [h13]
   rw [t13]; refine G5 V ?_; refine A8 ?_; refine B4 ?_; refine H4 V ?_; refine H4 V ?_; refine yQ ?_; refine C4 ?_; refine B8 ?_; refine A4 ?_
   exact C9 _ (.tmp V (.tmp V .nil)) (by rw [h13]; kernel_rfl)
 have t13 : (n == 13) = false := F8 h13
 rw [t13]; refine F6 V ?_; refine B2 ?_; refine A8 ?_; refine B4 ?_; refine H4 V ?_; refine H4 V ?_; refine yQ ?_; refine C4 ?_
 exact C9 _ (.tmp V (.tmp V .nil)) (by rw [show JI n = true by simp [JI, h1, h2, h7, h8, h9, h15, h16], show JW n = false by simp [JW, h11, h12, h13]]; rfl)
theorem star_sg (h : (W0 n).isSome = true) : JI n = (Et n).contains 42 ∧ JW n = (Et n).contains 43 := by
 rw [IP] at h
 simp at h
 have : n = 1 ∨ n = 2 ∨ n = 3 ∨ n = 4 ∨ n = 5 ∨ n = 6 ∨ n = 7 ∨ n = 8 ∨ n = 9 ∨ n = 10 ∨ n = 11 ∨ n = 12 ∨ n = 13 ∨ n = 14 ∨ n = 15 ∨ n = 16 ∨ n = 17 ∨ n = 18 ∨ n = 19 := by omega
 rcases this with h | h | h | h | h | h | h | h | h | h | h | h | h | h | h | h | h | h | h <;> subst h <;> exact ⟨by kernel_rfl, by kernel_rfl⟩
theorem Fy (n : Int) : Cc (.agg [dS [], .sl 1 [], dS []]) n BH = .agg (OC (Ek n, V8 n, Et n)) ∧ IU n BH = (W0 n).isSome := by
 refine QH (P := fun n => Cc (.agg [dS [], .sl 1 [], dS []]) n BH = .agg (OC (Ek n, V8 n, Et n)) ∧ IU n BH = (W0 n).isSome) (fun k hk => ?_) (fun n hn => ?_) n
 · have : ∀ k, k < 19 → Cc (.agg [dS [], .sl 1 [], dS []]) ((k + 1 : Nat) : Int) BH = .agg (OC (Ek ((k + 1 : Nat) : Int), V8 ((k + 1 : Nat) : Int), Et ((k + 1 : Nat) : Int))) ∧ IU ((k + 1 : Nat) : Int) BH = (W0 ((k + 1 : Nat) : Int)).isSome := by
    intro k hk
    match k, hk with
    | 0, _ => exact ⟨by kernel_rfl, by kernel_rfl⟩
    | 1, _ => exact ⟨by kernel_rfl, by kernel_rfl⟩
    | 2, _ => exact ⟨by kernel_rfl, by kernel_rfl⟩
    | 3, _ => exact ⟨by kernel_rfl, by kernel_rfl⟩
    | 4, _ => exact ⟨by kernel_rfl, by kernel_rfl⟩
    | 5, _ => exact ⟨by kernel_rfl, by kernel_rfl⟩
    | 6, _ => exact ⟨by kernel_rfl, by kernel_rfl⟩
    | 7, _ => exact ⟨by kernel_rfl, by kernel_rfl⟩
    | 8, _ => exact ⟨by kernel_rfl, by kernel_rfl⟩
    | 9, _ => exact ⟨by kernel_rfl, by kernel_rfl⟩
    | 10, _ => exact ⟨by kernel_rfl, by kernel_rfl⟩
    | 11, _ => exact ⟨by kernel_rfl, by kernel_rfl⟩
    | 12, _ => exact ⟨by kernel_rfl, by kernel_rfl⟩
    | 13, _ => exact ⟨by kernel_rfl, by kernel_rfl⟩
    | 14, _ => exact ⟨by kernel_rfl, by kernel_rfl⟩
    | 15, _ => exact ⟨by kernel_rfl, by kernel_rfl⟩
    | 16, _ => exact ⟨by kernel_rfl, by kernel_rfl⟩
    | 17, _ => exact ⟨by kernel_rfl, by kernel_rfl⟩
    | 18, _ => exact ⟨by kernel_rfl, by kernel_rfl⟩
    | k + 19, h => omega
   exact this k hk
 · have h1 : W0 n = none := by
    refine MS ?_
    by_cases h : n < 1 ∨ 19 < n
    · exact h
    · exact G7 (by omega : n = (((n.toNat - 1) + 1 : Nat) : Int)) (hn (n.toNat - 1) (by omega))
   have h2 : ∀ (l : List (Int × DV)) z, (∀ p ∈ l, p.1 ≠ n) → Cc z n l = z ∧ IU n l = false := by
    intro l z hl
    induction l with
    | nil => exact ⟨rfl, V⟩
    | cons p l ih =>
     obtain ⟨q1, q2⟩ := ih fun q hq => hl q (by simp [hq])
     refine ⟨?_, ?_⟩
     · rw [Cc, B9 (hl p (by simp)), q1]
     · have := hl p (by simp)
       simp only [IU, List.any_cons] at q2 ⊢
       rw [q2, F8 this]; rfl
   obtain ⟨q1, q2⟩ := h2 BH (.agg [dS [], .sl 1 [], dS []]) fun p hp e => by
    obtain ⟨k, hk, rfl⟩ := H0.1 hp
    have := DG hk
    rw [show k.1 = n from e, h1] at this
    cases this
   rw [q1, q2, Ek, V8, Et, h1]
   exact ⟨rfl, V⟩
theorem MP {s : G0} (h : DB s = true) : s.length ≤ 16 := by
 unfold DB J5 at h
 simp only [D3, decide_eq_true_eq] at h
 exact h.1.1.2
theorem Mh {c : Cf} : cE c = 0 ↔ DB c.1 = true ∧ GO c.2 = true := by
 unfold cE
 cases DB c.1 <;> cases GO c.2 <;> simp
theorem S8 {e : List Cf} : BT e = 0 ↔ e.length ≤ 16 ∧ ∀ c ∈ e, DB c.1 = true ∧ GO c.2 = true := by
 unfold BT
 constructor
 · intro h
   split at h
   · cases h
   · exact ⟨by omega, fun c hc => Mh.1 (Qi h c hc)⟩
 · rintro ⟨h1, h2⟩
   rw [B9 (by omega)]
   exact La fun c hc => Mh.2 (h2 c hc)
def NP (e : List Cf) : List Cf := if BT e = 0 then nf e else []
theorem Ir (e : List Cf) (hl : e.length ≤ 1000000) (hf : ∀ c ∈ e, c.2.length ≤ 70000) : PCalls Tryz.prog 94 [.sl 2 (e.map dCf)] (.tup [.sl 2 ((NP e).map dCf), dI (BT e)]) := by
 have k1 := wCheckE e hl fun c hc => by have := hf c hc; omega
 by_cases h : BT e = 0
 · obtain ⟨h1, h2⟩ := S8.1 h
   have k2 := Iq e (by omega) (fun c hc => by have := MP (h2 c hc).1; omega) hf
   rw [NP, C5 h, h]
   rw [h] at k1
   obtain ⟨r, hr⟩ := H7 (nf e)
   rw [← hr] at k2 ⊢
   refine B3 Tryz.func94 V Tryz.ntmps94 Tryz.results94 (by simp) fun B w0 => ?_
   refine D8 (H4 V (B5 V (I0 V (yC (k1) V V (B5 V (H8 V (H3 V (F6 V (B2 (H8 V (yC (k2) V V (H4 V (B5 V (C4 ?_))))))))))))))
   exact C9 _ (.tmp V (.tmp V .nil)) V
 · have t : (BT e != 0) = true := by simpa using h
   rw [NP, B9 h]
   obtain ⟨x, hx⟩ := H7 (BT e)
   rw [← hx] at k1 t ⊢
   refine B3 Tryz.func94 V Tryz.ntmps94 Tryz.results94 (by simp) fun B w0 => ?_
   refine D8 (H4 V (B5 V (I0 V (yC (k1) V V (B5 V (H8 V (H3 V (B1 (J8 t V (H8 V (H4 V (B5 V (C4 (A4 ?_))))))))))))))
   exact C9 _ (.tnil 2 V (.tmp V .nil)) V
abbrev naT : Nat := 9 * 100000 + 6
end Go.Proofs.YtddfimjiihggmaaGreatDoor
namespace Go.Proofs.YtddfimjiihggmaaGreatDoor.Px
open Go.RowKit
variable {vs : List Value} {u : Value}
section
variable {P : Program} {sq : Bool} {ops : Array Oper} {K : PS → Prop} {rest : List Oper} {st : PS} {d : Option Nat} {ty : TypeId} {pos : String} {af : Array Edge} {gd : Option (Nat × Bool)}
theorem ls_ext (f : FuncId) (l : List Operand) (ts : Array TypeId) (hf : ∀ w, (callFunc f vs.toArray).run P w = .ok (.value u) w) (hx : Y7 st l = some vs) (hu : u.oneCell' = true) (hd : I2 ⟨d, .call { callee := .value (.func f), args := l.toArray, argTypes := ts }, ty, pos, af, gd⟩ st = true) :
 L4 P ⟨d, .call { callee := .value (.func f), args := l.toArray, argTypes := ts }, ty, pos, af, gd⟩ st (.d (.val u)) .no := fun st2 ha =>
 OpS.value (ha.dst hd) fun _ _ _ a w h => by
  have h1 : Y7 st2 l = some vs := by rw [DP fun x hx => ha.ev x (by simp [Op.operands, Call.operands, hx])]; exact hx
  have h2 := GF h1 h
  refine ⟨u, w, ?_, Below.refl _ _, DRep.val _ hu⟩
  have h3 : (execOp a.eval ⟨d, .call { callee := .value (.func f), args := l.toArray, argTypes := ts }, ty, pos, af, gd⟩).run P w = (callFunc f (l.map a.eval).toArray).run P w := by
   simp only [execOp, resolve, Act.eval, Deferred.ofValue, Sem.run_bind, Sem.run_pure, D6, invoke, List.map_toArray]
   simp
  rw [h3, h2, hf]
theorem yEx {f : Nat} {l : List Operand} {ts : Array TypeId} (hf : ∀ w, (callFunc f vs.toArray).run P w = .ok (.value u) w) (hx : Y7 st l = some vs) (hu : u.oneCell' = true) (h : YR P sq ops K rest (st.put d (.d (.val u)))) (zz : zk ops st ⟨d, .call { callee := .value (.func f), args := l.toArray, argTypes := ts }, ty, pos, af, gd⟩ .no = true := by kernel_rfl) :
 YR P sq ops K (⟨d, .call { callee := .value (.func f), args := l.toArray, argTypes := ts }, ty, pos, af, gd⟩ :: rest) st := L0 (ls_ext f l ts hf hx hu (zd zz)) (zo zz) (zw zz) h
end
end Go.Proofs.YtddfimjiihggmaaGreatDoor.Px
namespace Go.Proofs.YtddfimjiihggmaaGreatDoor
open Go.RowKit Px Go.Lib
theorem hIB (s : G0) (c : UInt8) (w : World) : (callFunc 245 #[vS s, .int .u8 c.toNat]).run Tryz.prog w = .ok (.value (.int .i64 (indexByte s c))) w := by
 rw [run_callFunc_indexByte Tryz.func245 (by kernel_rfl) (by kernel_rfl) (by kernel_rfl) (by kernel_rfl), run_indexByteString]
 simp [Result.andThen]
theorem wIdxB (s : G0) (c : UInt8) : PCalls Tryz.prog 219 [dS s, .val (.int .u8 c.toNat)] (.d (dI (indexByte s c))) := by
 refine B3 Tryz.func219 V Tryz.ntmps219 Tryz.results219 (by simp) fun B w0 => ?_
 refine D8 (B5 V (H8 V (C3 V ?_))); refine yEx (vs := [vS s, .int .u8 c.toNat]) (fun w => hIB s c w) V V ?_; refine B5 V (C4 ?_)
 exact C9 _ (.tmp V .nil) V
theorem Od (s : G0) (c : UInt8) : PCalls Tryz.prog 176 [dS s, dS [c]] (.d (dI (indexByte s c))) := by
 have k1 := wIdxB s c
 have hx : ([c] : G0)[(0 : Int).toNat]? = some c := rfl
 cases h : ([c] == s) with
 | true =>
  have e : s = [c] := by simpa using (beq_iff_eq.1 h).symm
  subst e
  have e0 : indexByte [c] c = 0 := by simp [indexByte]
  rw [e0]
  refine B3 Tryz.func176 V Tryz.ntmps176 Tryz.results176 (by simp) fun B w0 => ?_
  refine D8 (B5 V (H8 V (O4 V (B5 V (A8 (B6 (H8 V (G3 V (C3 V (C3 V (C3 V (O9 V V (K7 V V (B5 V (B1 (J8 h V (D8 (B5 V (C4 (B8 (A4 ?_)))))))))))))))))))))
  exact C9 _ (.tmp V .nil) V
 | false =>
  obtain ⟨r, hr⟩ := H7 (indexByte s c)
  rw [← hr] at k1 ⊢
  refine B3 Tryz.func176 V Tryz.ntmps176 Tryz.results176 (by simp) fun B w0 => ?_
  refine D8 (B5 V (H8 V (O4 V (B5 V (A8 (B6 (H8 V (G3 V (C3 V (C3 V (C3 V (O9 V V (K7 V V (B5 V (B1 (L9 h V (H8 V (G3 V (B5 V (G5 V (H8 V (C3 V (Ah hx (by omega) rfl rfl (yC (k1) rfl rfl (B5 rfl (C4 (B8 (A4 ?_))))))))))))))))))))))))))))
  exact C9 _ (.tmp V .nil) V
theorem wCutI (s : G0) (c : UInt8) (hl : s.length ≤ 1000000) : PCalls Tryz.prog 125 [dS s, dS [c]] (.tup [dS (V5 c s), dS (Q7 c s), dB (CE c s)]) := by
 have k1 := Od s c
 rw [BM] at k1
 unfold V5 Q7 CE
 cases h : X2 c s with
 | none =>
  rw [h] at k1
  refine B3 Tryz.func125 V Tryz.ntmps125 Tryz.results125 (by simp) fun B w0 => ?_
  refine D8 (H4 V (H4 V (B5 V (I0 V (C3 V (yC (k1) V V (B5 V (H8 V (H3 V (F6 V (B2 (H8 V (H4 V (H4 V (B5 V (C4 ?_))))))))))))))))
  exact C9 _ (.tmp V (.tmp V (.tmp V .nil))) V
 | some p =>
  rw [h] at k1
  obtain ⟨t, r⟩ := p
  have he := DS h
  simp only at k1 he ⊢
  have hle : t.length ≤ s.length := by rw [he]; simp
  have hw : IntKind.i64.wrap ((t.length : Int) + (([c] : G0).length : Int)) = (t.length : Int) + 1 := I5 ((t.length : Int) + 1) (by omega)
  have h1 : s.take ((t.length : Int)).toNat = t := by rw [H5, he]; simp
  have h2 : s.drop (((t.length : Int) + 1)).toNat = r := by
   rw [show ((t.length : Int) + 1).toNat = t.length + 1 by omega, he]
   simp
  have h3 : (t.length : Int) + 1 ≤ s.length := by rw [he]; simp; omega
  have t1 : decide ((t.length : Int) ≥ 0) = true := B0 (by omega)
  obtain ⟨n, hn⟩ : ∃ n : Int, n = (t.length : Int) := ⟨_, rfl⟩
  rw [← hn] at k1 hw h1 h2 h3 t1
  have hn0 : 0 ≤ n := by omega
  clear he hn h
  refine B3 Tryz.func125 V Tryz.ntmps125 Tryz.results125 (by simp) fun B w0 => ?_
  refine D8 (H4 V (H4 V (B5 V (I0 V (C3 V (yC (k1) V V (B5 V (H8 V (H3 V (B1 (J8 t1 V (A8 ?_)))))))))))); refine I7 Tryz.mixed (by kernel_rfl) ?_; refine C3 V (C3 V (KS hn0 (by omega) h1 rfl rfl (C3 rfl (C3 rfl (C3 rfl (O4 rfl (G3 rfl ?_)))))))
  rw [hw]; refine GP (by omega) h3 h2 rfl rfl ?_; refine H4 V ?_; refine H4 V ?_; refine H4 V ?_; refine yQ ?_; refine C4 ?_; refine A4 ?_
  exact C9 _ (.tmp V (.tmp V (.tmp V .nil))) V
theorem Iv (s : G0) (c : UInt8) (hl : s.length ≤ 1000000) : PCalls Tryz.prog 79 [dS s, dS [c]] (.tup [dS (V5 c s), dS (Q7 c s), dB (CE c s)]) := by
 have k1 := wCutI s c hl
 refine B3 Tryz.func79 V Tryz.ntmps79 Tryz.results79 (by simp) fun B w0 => ?_
 refine D8 (H4 V (H4 V (B5 V (H8 V (C3 V (yC (k1) V V (yX V V (yX V V (yX V V (H4 V (H4 V (B5 V (C4 ?_)))))))))))))
 exact C9 _ (.tmp V (.tmp V (.tmp V .nil))) V
def Mf (c : UInt8) : G0 → G0
 | [] => []
 | b :: l => if b = c then l else b :: l
def OP (c : UInt8) : G0 → Bool
 | [] => false
 | b :: _ => b == c
theorem wHasP1 (s : G0) (c : UInt8) (hl : s.length ≤ 1000000) : PCalls Tryz.prog 211 [dS s, dS [c]] (.d (dB (OP c s))) := by
 cases s with
 | nil =>
  refine B3 Tryz.func211 V Tryz.ntmps211 Tryz.results211 (by simp) fun B w0 => ?_
  refine D8 (B5 V (H8 V (O4 V (C3 V (O4 V (G3 V (C3 V (yO V (yO V (yO V (yO V (yO V (yO V (K7 V V (B5 V (C4 ?_))))))))))))))))
  exact C9 _ (.tmp V .nil) V
 | cons b l =>
  have t1 : decide ((((b :: l : G0).length : Nat) : Int) ≥ (([c] : G0).length : Int)) = true := B0 (by simp; omega)
  have h1 : (b :: l : G0).take ((([c] : G0).length : Int)).toNat = [b] := rfl
  have e : OP c (b :: l) = (([b] : G0) == [c]) := by simp [OP]
  rw [e]
  obtain ⟨s, hs⟩ := H7 ((b :: l : G0))
  rw [← hs] at t1 h1 ⊢
  have h2 : ((([c] : G0).length : Nat) : Int) ≤ s.length := of_decide_eq_true t1
  refine B3 Tryz.func211 V Tryz.ntmps211 Tryz.results211 (by simp) fun B w0 => ?_
  refine D8 (B5 V (H8 V (O4 V (C3 V (O4 V (G3 V (C3 V ?_))))))); rw [t1]; refine C3 V (C3 V (O4 V (KS (by omega) h2 h1 rfl rfl (C3 rfl (O9 rfl rfl (K8 rfl rfl (B5 rfl (C4 ?_))))))))
  exact C9 _ (.tmp V .nil) V
theorem wCutPI (s : G0) (c : UInt8) (hl : s.length ≤ 1000000) : PCalls Tryz.prog 164 [dS s, dS [c]] (.tup [dS (Mf c s), dB (OP c s)]) := by
 have k1 := wHasP1 s c hl
 cases h : OP c s with
 | false =>
  rw [h] at k1
  have e : Mf c s = s := by
   cases s with
   | nil => rfl
   | cons b l => have : ¬ b = c := by simpa [OP] using h
                 rw [Mf, B9 this]
  rw [e]
  refine B3 Tryz.func164 V Tryz.ntmps164 Tryz.results164 (by simp) fun B w0 => ?_
  refine D8 (H4 V (B5 V (I0 V (C3 V (yC (k1) V V (yU V V V (yQ (G5 V (H8 V (H4 V (B5 V (C4 (A4 ?_)))))))))))))
  exact C9 _ (.tmp V (.tmp V .nil)) V
 | true =>
  rw [h] at k1
  obtain ⟨l, rfl⟩ : ∃ l, s = c :: l := by
   cases s with
   | nil => cases h
   | cons b l => exact ⟨l, by rw [show b = c by simpa [OP] using h]⟩
  have e : Mf c (c :: l) = l := by rw [Mf, C5 rfl]
  have h1 : (c :: l : G0).drop ((([c] : G0).length : Int)).toNat = l := rfl
  have h2 : ((([c] : G0).length : Nat) : Int) ≤ ((c :: l : G0).length : Int) := by simp; omega
  rw [e]
  obtain ⟨s, hs⟩ := H7 ((c :: l : G0))
  rw [← hs] at k1 h1 h2 ⊢
  refine B3 Tryz.func164 V Tryz.ntmps164 Tryz.results164 (by simp) fun B w0 => ?_
  refine D8 (H4 V (B5 V (I0 V (C3 V (yC (k1) V V (yU V V V (yQ (F6 V (B2 (H8 V (C3 V (O4 V (GP (by omega) h2 h1 rfl rfl (H4 rfl (B5 rfl (C4 ?_))))))))))))))))
  exact C9 _ (.tmp V (.tmp V .nil)) V
theorem wCutP1 (s : G0) (c : UInt8) (hl : s.length ≤ 1000000) : PCalls Tryz.prog 121 [dS s, dS [c]] (.tup [dS (Mf c s), dB (OP c s)]) := by
 have k1 := wCutPI s c hl
 refine B3 Tryz.func121 V Tryz.ntmps121 Tryz.results121 (by simp) fun B w0 => ?_
 refine D8 (H4 V (B5 V (H8 V (C3 V (yC (k1) V V (yX V V (yX V V (H4 V (B5 V (C4 ?_))))))))))
 exact C9 _ (.tmp V (.tmp V .nil)) V
open Go.RowKit Go.Shelf Px
variable {F : Nat → Nat → Prop} {W : World} {b : Nat}
attribute [local go_sem] Oper.semAt_some
theorem Gm {P : Program} {f : FuncId} {vs us : List Value} (h : PCalls P f (vs.map .val) (.tup (us.map .val))) (h1 : ∀ v ∈ vs, v.oneCell' = true) (hg : GlobOk F W) : Calls P f vs.toArray W fun e W' => e = .returned (.tuple us.toArray) ∧ Below W.heap.size W W' := by
 refine (h F W vs (by simp) (fun i v x hv hx => ?_) hg).mono ?_
 · rw [C6, hv] at hx
   cases hx
   exact DRep.val v (h1 v (B7 hv))
 · rintro e W' ⟨v, rfl, ⟨ws, rfl, h3, h4⟩, h5⟩
   have : ws = us := by
    refine List.ext_getElem (by simpa using h3) fun i h6 h7 => ?_
    exact DRep.val_eq (h4 i _ _ (A5 h6) (by rw [C6, A5 h7]; rfl))
   rw [this]
   exact ⟨rfl, h5⟩
theorem GC {W' : World} (h : GlobOk F W) (hb : Below W.heap.size W W') : GlobOk F W' := fun q cs hq => by
 obtain ⟨h1, vs, h2, T, z, h3⟩ := h q cs hq
 exact ⟨h1.mono fun b o hf hs => ⟨hf, K6 (hb.block b (U6 hs)) o⟩, vs, h2, T, z, (hb.block q (D1.1 h3).1).trans h3⟩
theorem gs_ne {q : Nat} {cs : List DV} (h : G6 gs q = some cs) : cs ≠ [] := by
 have h1 : gs.all (fun p => !p.2.isEmpty) = true := by rfl
 have h2 := E5.1 h1 _ (L7 h)
 rintro rfl
 cases h2
theorem Gz {W' : World} (h : GlobOk F W) (hF : ∀ o, ¬ F b o) (hb : ∀ c, c < W.heap.size → c ≠ b → W'.heap[c]? = W.heap[c]?) : GlobOk F W' := fun q cs hq => by
 obtain ⟨h1, vs, h2, T, z, h3⟩ := h q cs hq
 have hqb : q ≠ b := fun e => by
  cases h1 with
  | ref f hc _ =>
   have := (hc 0 (List.length_pos_iff.2 (gs_ne hq))).2.1
   rw [e] at this
   exact hF _ this
 refine ⟨h1.mono fun c o hf hs => ⟨hf, K6 (hb c (U6 hs) fun e => hF o (e ▸ hf)) o⟩, vs, h2, T, z, (hb q (D1.1 h3).1 hqb).trans h3⟩
def CellS (W : World) (b : Nat) (s : G0) : Prop := ∃ (ys : List Value) (T : Nat), W.heap[b]? = some (.cells ys.toArray T (0, 0)) ∧ ys[0]? = some (vS s)
theorem CellS.cell {s : G0} (h : CellS W b s) : W.cell? ⟨b, 0, none⟩ = some (vS s) := by
 obtain ⟨ys, T, h1, h2⟩ := h
 simp [World.cell?, h1, h2]
theorem CellS.frz {s : G0} (h : CellS W b s) : W.frozen? ⟨b, 0, none⟩ = false := by
 obtain ⟨ys, T, h1, h2⟩ := h
 simp [World.frozen?, h1]
theorem CellS.lt {s : G0} (h : CellS W b s) : b < W.heap.size := by
 obtain ⟨ys, T, h1, h2⟩ := h
 exact (D1.1 h1).1
theorem CellS.same {W' : World} {s : G0} (h : CellS W b s) (e : W'.heap[b]? = W.heap[b]?) : CellS W' b s := by
 obtain ⟨ys, T, h1, h2⟩ := h
 exact ⟨ys, T, e.trans h1, h2⟩
theorem CellS.below {W' : World} {s : G0} (h : CellS W b s) (hb : Below W.heap.size W W') : GN b W W' := by
 have hlt := h.lt
 obtain ⟨ys, T, h1, h2⟩ := h
 exact ⟨hb.os, hb.tape, hb.output, hb.size, fun c hc _ => hb.block c hc, _, _, _, (hb.block b hlt).trans h1⟩
theorem CellS.set {s : G0} (h : CellS W b s) (t : G0) : CellS (W.setCell ⟨b, 0, none⟩ (vS t)) b t ∧ GN b W (W.setCell ⟨b, 0, none⟩ (vS t)) := by
 obtain ⟨ys, T, h1, h2⟩ := h
 have h3 : (W.setCell ⟨b, 0, none⟩ (vS t)).heap[b]? = some (.cells (ys.set 0 (vS t)).toArray T (0, 0)) := by
  simp [World.setCell, Array.getElem?_modify, h1]
 obtain ⟨hlt, -⟩ := A6.1 h2
 exact ⟨⟨_, T, h3, by simp [hlt]⟩, rfl, rfl, rfl, by simp [World.setCell], fun c _ hc => Below.heap_setCell W _ _ c (by simpa using hc), _, _, _, h3⟩
def FY (W : World) (b : Nat) : Nat := match W.cell? ⟨b, 0, none⟩ with
 | some (.string s) => s.size
 | _ => 0
theorem CellS.len {s : G0} (h : CellS W b s) : FY W b = s.length := by
 rw [FY, h.cell]
 simp [ByteArray.size]
theorem NG (s : G0) (hs : s.length ≤ 1000000) (F : Nat → Nat → Prop) (w : World) (b : Nat) (hF : ∀ o, ¬ F b o) (hw : CellS w b s) : CJ Tryz.prog 210 #[.pointer (some ⟨b, 0, none⟩)] ((Q5 46 s).map fun t => [vS t]) b F w := by
 intro l J Jx hJ hJx hY hgo h0
 refine callsIn_of_wp Tryz.func210 V trivial ?_ V
 simp only [Tryz.ntmps210, List.size_toArray, List.length_cons, List.length_nil, Nat.reduceAdd, Nat.reduceSub, Array.replicate_succ, Array.replicate_zero, List.push_toArray, List.append_toArray, List.nil_append, List.cons_append]
 have HJ := Lib.hid hJ
 have HJX := Lib.hid hJx
 have HY := Lib.hid hY
 have HG := Lib.hid hgo
 have HF := Lib.hid hF
 have C2 : Hid (∀ t, t.length ≤ 1000000 → ∀ W, GlobOk F W → Calls Tryz.prog 79 #[vS t, vS [46]] W fun e W' => e = .returned (.tuple #[vS (V5 46 t), vS (Q7 46 t), .bool (CE 46 t)]) ∧ Below W.heap.size W W') :=
  Lib.hid fun t ht W hg => Gm (vs := [vS t, vS [46]]) (us := [vS (V5 46 t), vS (Q7 46 t), .bool (CE 46 t)]) (Iv t 46 ht) (fun v hv => by simp at hv; rcases hv with rfl | rfl <;> rfl) hg
 clear hJ hJx hY hgo hF
 gi_wp2
 gi_loopw [3] (fun v3 wr => ∃ (i : Nat) (s' : G0), CellS wr b s' ∧ J i wr ∧ Hid (((Q5 46 s).map fun t => [vS t]).drop i = (Q5 46 s').map (fun t => [vS t]) ∧ s'.length ≤ 1000000 ∧ GlobOk F wr))
  (fun _ wr => FY wr b)
 case atStart => exact ⟨0, s, hw, h0, Lib.hid ⟨rfl, hs, HG.out⟩⟩
 case round =>
  obtain ⟨i, s', hc, hJi, HR⟩ := hrel
  have HC := Lib.hid hc
  have c1 := hc.cell
  have K2 := Lib.hid (C2.out s' HR.out.2.1 wr HR.out.2.2)
  have HX : Hid (((Q5 46 s).map fun t => [vS t])[i]? = some [vS (V5 46 s')] ∧ ((Q5 46 s).map fun t => [vS t]).drop (i + 1) = if CE 46 s' then (Q5 46 (Q7 46 s')).map (fun t => [vS t]) else []) := by
   have hcons := HR.out.1
   rw [Cq 46 s'] at hcons
   unfold V5 Q7 CE
   refine Lib.hid ?_
   cases e : X2 46 s' with
   | none =>
    rw [e] at hcons
    have h1 := C7 (fun l => l[0]?) hcons
    have h2 := C7 (List.drop 1) hcons
    exact ⟨by simpa using h1, by simpa using h2⟩
   | some p =>
    rw [e] at hcons
    have h1 := C7 (fun l => l[0]?) hcons
    have h2 := C7 (List.drop 1) hcons
    exact ⟨by simpa using h1, by simpa using h2⟩
  clear hc
  gi_wp2_with (refine ⟨D4, rfl, ?_⟩; gi_at_call 79; refine (callsIn_wide.2 K2.out).mono ?_; rintro e w' ⟨rfl, hb2⟩; obtain ⟨fn, tmps, assign, body, hy, hR⟩ := HY.out i _ w' HX.out.1 (HJ.out i _ _ hJi (HC.out.below hb2)); have HR2 := Lib.hid hR; have HC2 := Lib.hid (HC.out.same (hb2.block b HC.out.lt)); have HG2 := Lib.hid (GC HR.out.2.2 hb2); clear hR hb2)
  refine ⟨rfl, ?_⟩
  refine HR2.out.mono ?_
  rintro e W3 (⟨rfl, hJ3, -, hg3, hb3⟩ | ⟨rfl, hJx3, hb3⟩)
  · have HG3 := Lib.hid hg3
    have HC3 := Lib.hid (HC2.out.same hb3)
    clear hg3 hb3
    cases hb : CE 46 s' with
    | false =>
     have HL : Hid (i + 1 = ((Q5 46 s).map fun t => [vS t]).length) := Lib.hid (by
      have h1 := HX.out.2
      rw [hb, B9 (by simp), List.drop_eq_nil_iff] at h1
      have h2 := (A6.1 HX.out.1).1
      omega)
     gi_wp2
     refine bodyPost_ret (results_none V _ _ _) V ?_
     exact ⟨⟨_, V⟩, .inl (by rw [← HL.out]; exact hJ3)⟩
    | true =>
     have c3 := HC3.out.cell
     have f3 := HC3.out.frz
     gi_wp2
     obtain ⟨s1, s2⟩ := HC3.out.set (Q7 46 s')
     have HG4 := Lib.hid (Gz HG3.out HF.out s2.2.2.2.2.1)
     have J4 := HJ.out _ _ _ hJ3 s2
     go_roundw
     case rel => exact ⟨i + 1, Q7 46 s', s1, J4, Lib.hid ⟨by have := HX.out.2; rwa [hb, C5 rfl] at this, by have := (S3 46 s').2.1; have := HR.out.2.1; omega, HG4.out⟩⟩
     case measure => rw [s1.len, HC.out.len]; exact (S3 46 s').2.2 hb
  · clear hb3
    gi_wp2
    refine bodyPost_ret (results_none V _ _ _) V ?_
    exact ⟨⟨_, V⟩, .inr hJx3⟩
open Go.RowKit Px
theorem Ik {α : Type} (b : Nat) (x : α) (l : List (Nat × α)) : G6 ((b, x) :: l) b = some x := by rw [J7, C5 rfl]
theorem Oy {xs : List Value} {v : Value} (h : xs.take 1 = [v]) : xs[0]? = some v := by
 cases xs with
 | nil => cases h
 | cons x l => cases h; rfl
def MSeg (s : G0) (i : EI) (r : SV) (j : EI) : Prop := ∃ b xs T, xs[0]? = some (vS s) ∧ G6 i.bs b = none ∧ r = .d (dH 210 [.val (.pointer (some ⟨b, 0, none⟩))]) ∧ j = ⟨(b, (xs, T)) :: i.bs, i.fs, none⟩
theorem Gy (s : G0) (i : EI) : HCE Tryz.prog 163 [dS s] i (MSeg s i) := by
 refine X0 Tryz.func163 V Tryz.ntmps163 Tryz.results163 (by simp) fun p d0 => ?_
 refine L5 (yK (cs := [_]) V V (F9 (B5 V (D5 ?_)))); refine MC 1 1 (vs := [vS s]) V V fun b xs T h1 h2 => ?_; refine L5 (yMh V (F9 (B5 V (D5 (M5 ?_)))))
 exact L8 _ (.tmp V .nil) ⟨b, xs, T, Oy h1, h2, V, V⟩
theorem MSeg.ok {s : G0} {i : EI} (r : SV) (j : EI) (h : MSeg s i r j) : Ak r = true := by
 obtain ⟨b, xs, T, -, -, rfl, -⟩ := h
 rfl
def PZ (cn : G0 → Bool) (xs : List DV) (r : SV) : Prop := ∃ x : G0, xs = [dS x] ∧ r = .d (dB (cn x))
abbrev vsg (s : G0) : List (List Value) := (Q5 46 s).map fun t => [vS t]
theorem Ke {s : G0} {k : Nat} {x : List Value} (h : (vsg s)[k]? = some x) : ∃ t, (Q5 46 s)[k]? = some t ∧ x = [vS t] := by
 rw [C6, C8] at h
 obtain ⟨t, h1, rfl⟩ := h
 exact ⟨t, h1, V⟩
theorem JO (s : G0) (hs : s.length ≤ 1000000) {ys : List Value} {T b : Nat} (hy : ys[0]? = some (vS s)) : ∀ (F : Nat → Nat → Prop) (w : World), (∀ o, ¬ F b o) → w.heap[b]? = some (.cells ys.toArray T (0, 0)) → CJ Tryz.prog 210 #[.pointer (some ⟨b, 0, none⟩)] (vsg s) b F w :=
 fun F w hF hw => NG s hs F w b hF ⟨ys, T, hw, hy⟩
abbrev fmS (b : Nat) : List (Nat × SV) := [(3, .bx 3 0), (4, .bx 4 0), (5, .bx 5 0), (8, .d (.val (.func (.func 210) #[] #[.pointer (some ⟨b, 0, none⟩)])))]
abbrev fmB (cn : G0 → Bool) (k : Nat) : List (Nat × List SV) := [(3, [.d (dF Tryz.prog (PZ cn))]), (4, [.d (dB false)]), (5, [.d (dI k)])]
theorem Ls (cn : G0 → Bool) (s : G0) (hs : s.length ≤ 1000000) : PCalls Tryz.prog 119 [dS s, dF Tryz.prog (PZ cn)] (.d (dB (CM cn s))) := by
 obtain ⟨r, hr⟩ := H7 (CM cn s)
 rw [← hr]
 unfold CM at hr
 refine N6 Tryz.func119 V Tryz.ntmps119 Tryz.results119 (by simp) fun p d0 hex => ?_
 refine L5 (yK (cs := [_]) V V (F9 (yZ (cs := [_]) V V (yQ (D5 (L5 (yZ (cs := [_]) V V (F9 (Y4 (cs' := [_]) V V V V (yQ (D5 (G4 (L5 (C3 V (yQ ?_))))))))))))))); refine Gl (Gy s _) MSeg.ok V ?_
 rintro r0 j ⟨b, xs, T, hx, hn, rfl, rfl⟩
 refine P5 (IV 8 (vs := [.pointer (some ⟨b, 0, none⟩)]) V) ?_; refine M3 ?_; refine PQ (HE.stb _) (st' := ⟨20, fmS b, fmB cn 0, []⟩) ⟨rfl, ⟨E0, E0, E0, E0, D4⟩, ⟨⟨_, V, F7 _⟩, ⟨_, V, F7 _⟩, ⟨_, V, F7 _⟩, D4⟩, D4, V⟩ ?_; refine Kj (ys := xs) (T0 := T) (b := b) (vsg s) [(6, 9)] (fun k => k ≤ 6 ∧ ∀ t ∈ (Q5 46 s).take k, cn t = true) (fun k => fmB cn k) (fun _ => []) ⟨by omega, fun t ht => by simp at ht⟩ rfl (Ik b (xs, T) []) (JO s hs hx) (fun x hx => by obtain ⟨t, -, rfl⟩ := H0.1 hx; rfl) rfl rfl (by decide) ?_ ?_
 · rintro k x hx ⟨hk, hI⟩
   obtain ⟨t, ht, rfl⟩ := Ke hx
   refine ⟨[.any, .any, .any, .bx 3 0, .bx 4 0, .bx 5 0, .d (dS t)], of_decide_eq_true V, .any (.any (.any (.keep V (.refl _) (.keep V (.refl _) (.keep V (.refl _) (.new V V .nil)))))), V, V, by kernel_rfl, fun B w0 => ?_⟩
   have hw : IntKind.i64.wrap ((k : Int) + 1) = ((k + 1 : Nat) : Int) := I5 ((k : Int) + 1) (by omega)
   have hlt := (A6.1 ht).1
   have htk : (Q5 46 s).take (k + 1) = (Q5 46 s).take k ++ [t] := by rw [G8, ht]; rfl
   by_cases h6 : k = 6
   · have t1 : decide (((k + 1 : Nat) : Int) > 6) = true := B0 (by omega)
     have hr0 : r = false := by rw [hr, A9 (by omega)]; rfl
     subst hr0
     refine B6 (D8 (U3 V V V (G3 V (Y4 (cs' := [_]) V V V V (yQ (D8 (U3 V V V (G3 V (C3 V ?_))))))))); rw [hw]; rw [t1]; refine yO V (yO V (yO V (yO V (K8 V V (yQ (G5 V (D8 (Y4 (cs' := [_]) V V V V (yQ (C4 (B8 ?_)))))))))))
     exact ⟨[(3, [.d (dF Tryz.prog (PZ cn))]), (4, [.d (dB false)]), (5, [.d (dI ((k + 1 : Nat) : Int))])], [], ⟨rfl, V, V, D4⟩, D4, V, V, by kernel_rfl, L2 (I1 (L8 _ (.one E6 rfl rfl rfl .nil) rfl))⟩
   · have t1 : decide (((k + 1 : Nat) : Int) > 6) = false := A9 (by omega)
     have hph : PZ cn [dS t] (.d (dB (cn t))) := ⟨t, rfl, rfl⟩
     cases hc : cn t with
     | false =>
      have hr0 : r = false := by
       rw [hr]
       have : (Q5 46 s).all cn = false := List.all_eq_false.2 ⟨t, B7 ht, by simp [hc]⟩
       rw [this, Bool.and_false]
      subst hr0
      rw [hc] at hph
      refine B6 (D8 (U3 V V V (G3 V (Y4 (cs' := [_]) V V V V (yQ (D8 (U3 V V V (G3 V (C3 V ?_))))))))); rw [hw]; rw [t1]; refine U3 V V V (C3 V (yCv hph V V V (yU V V V (K7 V V (yQ (G5 V (D8 (Y4 (cs' := [_]) V V V V (yQ (C4 (B8 ?_)))))))))))
      exact ⟨[(3, [.d (dF Tryz.prog (PZ cn))]), (4, [.d (dB false)]), (5, [.d (dI ((k + 1 : Nat) : Int))])], [], ⟨rfl, V, V, D4⟩, D4, V, V, by kernel_rfl, L2 (I1 (L8 _ (.one E6 rfl rfl rfl .nil) rfl))⟩
     | true =>
      rw [hc] at hph
      have hI2 : ∀ u ∈ (Q5 46 s).take (k + 1), cn u = true := fun u hu => by
       rw [htk] at hu
       rcases List.mem_append.1 hu with h | h
       · exact hI u h
       · rw [List.mem_singleton.1 h]; exact hc
      have hk2 : k + 1 ≤ 6 := by omega
      refine B6 (D8 (U3 V V V (G3 V (Y4 (cs' := [_]) V V V V (yQ (D8 (U3 V V V (G3 V (C3 V ?_))))))))); rw [hw]; rw [t1]; refine U3 V V V (C3 V (yCv hph V V V (yU V V V (K7 V V (yQ (F6 V (B2 (CR ?_))))))))
      exact ⟨⟨hk2, hI2⟩, ⟨rfl, V, V, D4⟩, D4⟩
 · rintro ⟨hk, hI⟩
   rw [A7] at hk hI
   rw [I3] at hI
   have hr0 : r = true := by rw [hr, B0 hk, E5.2 hI]; rfl
   subst hr0
   show Ab 0 _ .normal ⟨20, _, [(3, _), (4, _), (5, _)], []⟩ _
   refine L5 (Y4 (cs' := [_]) V V V V (yQ (D5 (M5 ?_))))
   exact L8 _ (.one E6 V V V .nil) V
open Go.RowKit Px Go.Shelf
theorem FX : ∀ xs r, PZ J5 xs r → PCalls Tryz.prog 120 (xs ++ ([] : List (List DV)).map DV.ref) r := by
 rintro _ _ ⟨x, rfl, rfl⟩
 exact Is x
def KO (s : G0) : Int := if CM J5 s then 0 else 3
theorem Oo (s : G0) (hs : s.length ≤ 1000000) : PCalls Tryz.prog 70 [dS s] (.d (dI (KO s))) := by
 have c1 := Ls J5 s hs
 unfold KO
 cases h : CM J5 s with
 | true =>
  rw [h] at c1
  refine B3 Tryz.func70 V Tryz.ntmps70 Tryz.results70 (by simp) fun B w0 => ?_
  refine D8 (B5 V (I0 V ?_)); refine Gf c1 (.d V (.fn E6 V V FX .nil)) V ?_; refine yU V V V (yQ (F6 V (B2 (D8 (B5 V (C4 ?_))))))
  exact C9 _ (.tmp V .nil) V
 | false =>
  rw [h] at c1
  refine B3 Tryz.func70 V Tryz.ntmps70 Tryz.results70 (by simp) fun B w0 => ?_
  refine D8 (B5 V (I0 V ?_)); refine Gf c1 (.d V (.fn E6 V V FX .nil)) V ?_; refine yU V V V (yQ (G5 V (D8 (B5 V (C4 (A4 ?_))))))
  exact C9 _ (.tmp V .nil) V
def FF (n o x : G0) : G0 := if x = [42] then n else if x = [43] then o else x
abbrev Qg (n o : G0) : DV := dH 224 [.ref [dS n], .ref [dS o]]
theorem Lp (n o x : G0) : PCalls Tryz.prog 224 [dS x, .ref [dS n], .ref [dS o]] (.tup [dS (FF n o x), dB (Hr x)]) := by
 unfold FF Hr
 by_cases h1 : x = [42]
 · have t1 : (x == [42]) = true := by simp [h1]
   rw [C5 h1, t1]
   refine B3 Tryz.func224 V Tryz.ntmps224 Tryz.results224 (by simp) fun B w0 => ?_
   refine BC 1 V ?_; refine BC 2 V ?_; refine D8 (H4 V (B5 V (I0 V (yQ (B6 (D8 (O9 V V (B5 V (B1 (J8 t1 V (D8 (K5 V V (H4 V (B5 V (C4 (B8 (A4 ?_)))))))))))))))))
   exact C9 _ (.tmp V (.tmp V .nil)) V
 have t1 : (x == [42]) = false := by simp [h1]
 rw [B9 h1, t1]
 by_cases h2 : x = [43]
 · have t2 : (x == [43]) = true := by simp [h2]
   rw [C5 h2, t2]
   refine B3 Tryz.func224 V Tryz.ntmps224 Tryz.results224 (by simp) fun B w0 => ?_
   refine BC 1 V ?_; refine BC 2 V ?_; refine D8 (H4 V (B5 V (I0 V (yQ (B6 (D8 (O9 V V (B5 V (B1 (L9 t1 V (D8 (O9 V V (B5 V (B1 (J8 t2 V (D8 (K5 V V (H4 V (B5 V (C4 (B8 (A4 ?_))))))))))))))))))))))
   exact C9 _ (.tmp V (.tmp V .nil)) V
 have t2 : (x == [43]) = false := by simp [h2]
 rw [B9 h2, t2]
 refine B3 Tryz.func224 V Tryz.ntmps224 Tryz.results224 (by simp) fun B w0 => ?_
 refine BC 1 V ?_; refine BC 2 V ?_; refine D8 (H4 V (B5 V (I0 V (yQ (B6 (D8 (O9 V V (B5 V (B1 (L9 t1 V (D8 (O9 V V (B5 V (B1 (L9 t2 V (B2 (H8 V (H4 V (B5 V (C4 ?_))))))))))))))))))))
 exact C9 _ (.tmp V (.tmp V .nil)) V
theorem wNamesF (n o : G0) : PCalls Tryz.prog 181 [dS n, dS o] (.d (Qg n o)) := by
 refine B3 Tryz.func181 V Tryz.ntmps181 Tryz.results181 (by simp) fun B w0 => ?_
 refine D8 (yK (cs := [_]) V V (yK (cs := [_]) V V (B5 V ?_))); refine Cv (Ea 2 2 V V V) ?_; refine Cv (Ea 3 3 V V V) ?_; refine D8 (yMh V (B5 V (C4 ?_)))
 exact C9 _ (.tmp V .nil) V
def tsB (x : G0) : Bool := Hr x || J5 x
theorem wExp1 (n o : G0) : ∀ xs r, PZ tsB xs r → PCalls Tryz.prog 182 (xs ++ [[Qg n o]].map DV.ref) r := by
 rintro _ _ ⟨x, rfl, rfl⟩
 show PCalls Tryz.prog 182 [dS x, .ref [Qg n o]] _
 have c1 := Lp n o x
 have c2 := Is x
 unfold tsB
 obtain ⟨y, hy⟩ := H7 (FF n o x)
 rw [← hy] at c1
 cases h : Hr x with
 | true =>
  rw [h] at c1
  rw [Bool.true_or]
  refine B3 Tryz.func182 V Tryz.ntmps182 Tryz.results182 (by simp) fun B w0 => ?_
  refine BC 1 V ?_; refine D8 (B5 V (D8 (K5 V V (C3 V (yCh c1 V V V (O5 V (yX V V (yX V V (H4 V (B5 V (H8 V (C3 V (yO V (yO V (K8 V V (B5 V (C4 ?_)))))))))))))))))
  exact C9 _ (.tmp V .nil) V
 | false =>
  rw [h] at c1
  rw [Bool.false_or]
  obtain ⟨b, hb⟩ := H7 (J5 x)
  rw [← hb] at c2 ⊢
  refine B3 Tryz.func182 V Tryz.ntmps182 Tryz.results182 (by simp) fun B w0 => ?_
  refine BC 1 V ?_; refine D8 (B5 V (D8 (K5 V V (C3 V (yCh c1 V V V (O5 V (yX V V (yX V V (H4 V (B5 V (H8 V (C3 V (C3 V (yC (c2) V V (K7 V V (B5 V (C4 ?_)))))))))))))))))
  exact C9 _ (.tmp V .nil) V
open Go.RowKit Px Go.Shelf Go.Lib
variable {M : Nat}
theorem QU {F : Nat → Nat → Prop} {w : World} {l : List Value} {T : Nat} (h1 : ∀ v ∈ l, v.oneCell' = true) (hl : l.length ≤ 9223372036854775807) : DRep (Fx (gF fun b o => F b o ∨ w.heap.size ≤ b)) (w.alloc (.cells l.toArray T)) (.slice (some ⟨w.heap.size, 0, none⟩) l.length l.length) (.sl 1 (l.map fun v => [.val v])) := by
 have hget : ∀ i, i < l.length → ∃ v, l[i]? = some v ∧ v ∈ l := fun i hi => ⟨l[i], A5 hi, List.getElem_mem _⟩
 refine .sl (fun i j => (l[i]?).getD undef) (by simp) (E3 _) hl (fun e he => by obtain ⟨v, -, rfl⟩ := H0.1 he; rfl) (fun h0 => ⟨w.heap.size, 0, rfl, fun i j hi hj => ?_⟩) (fun i j hi hj => ?_) fun i j e x he hx => ?_
 · obtain ⟨v, hv, -⟩ := hget i hi
   refine ⟨?_, Fx.gF (.inr (E3 _))⟩
   have : 0 + i * 1 + j = i := by omega
   rw [this]
   have hh : (w.alloc (.cells l.toArray T)).heap[w.heap.size]? = some (.cells l.toArray T (0, 0)) := World.alloc_heap_new w _
   simp only [World.cell?, hh]
   rw [hv]
   simpa using hv
 · obtain ⟨v, hv, hm⟩ := hget i hi
   simp only [hv]
   exact h1 v hm
 · rw [C6, C8] at he
   obtain ⟨v, hv, rfl⟩ := he
   match j with
   | 0 =>
    cases hx
    simp only [hv]
    exact DRep.val v (h1 v (B7 hv))
   | j + 1 => simp at hx
theorem PB (b : ByteArray) : Value.string b = vS b.data.toList := by cases b; simp
theorem Fh (s : G0) (c : UInt8) : (Lib.splitB ⟨#[c]⟩ 0 (s.count c) ⟨s.toArray⟩).map Value.string = (Q5 c s).map vS := by
 have h1 := Lib.splitB_data ⟨#[c]⟩ 0 (s.count c) ⟨s.toArray⟩
 have h2 : Lib.splitK [c] 0 (s.count c) s = Q5 c s := Fi c _ s rfl
 have h3 : (Lib.splitB ⟨#[c]⟩ 0 (s.count c) ⟨s.toArray⟩).map (·.data.toList) = Q5 c s := h1.trans (by simpa using h2)
 rw [← h3, List.map_map]
 exact List.map_congr_left fun b _ => PB b
theorem Mu (s : G0) (c : UInt8) (hs : s.length ≤ 1000000) : PCalls Tryz.prog 124 [dS s, dS [c], dI 0, dI (-1)] (.d (.sl 1 ((Q5 c s).map fun t => [dS t]))) := fun F w vals hl hr hg => by
 obtain rfl : vals = [vS s, vS [c], .int .i64 0, .int .i64 (-1)] := FK (us := [vS s, vS [c], .int .i64 0, .int .i64 (-1)]) hl hr
 have hcnt : Lib.countB ⟨s.toArray⟩ ⟨#[c]⟩ = s.count c := by
  show Lib.count s.toArray.toList [c] = _
  rw [Lib.count_one]
 have h1 : 1 ≤ (⟨#[c]⟩ : ByteArray).size := E3 _
 have hall := Lib.splitB_all ⟨#[c]⟩ h1 0 _ ⟨s.toArray⟩ hcnt
 have hle := List.count_le_length (a := c) (l := s)
 have h := Any.strings_genSplit_core Tryz.gspl (by kernel_rfl) ⟨s.toArray⟩ ⟨#[c]⟩ 0 (-1) (s.count c + 1) w (by show s.toArray.size < _; rw [List.size_toArray]; omega) h1 (D9 _) (fun x cs hx => by
  refine (Any.strings_Index_one { Tryz.gspl with } x c _).mono fun e w' ⟨he, hw⟩ => ⟨?_, hw⟩
  rw [he, ← index_one]) (by
  refine (Any.strings_Count_one { Tryz.gspl with } ⟨s.toArray⟩ c w).mono fun e w' ⟨he, hw⟩ => ⟨?_, hw⟩
  rw [he]
  show _ = Ending.returned (Value.int .i64 ((Lib.count s.toArray.toList [c] : Nat) : Int))
  rw [Lib.count_one]
  rfl) (by decide) (by decide) (by rw [C5 (by decide), hcnt]; show ((s.count c + 1 : Nat) : Int) = min ((s.count c : Int) + 1) ((s.toArray.size : Int) + 1); rw [List.size_toArray]; omega)
 rw [Nat.add_sub_cancel, hall] at h
 have e2 : Lib.cellsOf (Lib.splitB ⟨#[c]⟩ 0 (s.count c) ⟨s.toArray⟩) (s.count c + 1) = ((Q5 c s).map vS).toArray := by
  rw [← Fh, ← hall]
  exact Lib.cellsOf_full _
 have e3 : s.count c + 1 = ((Q5 c s).map vS).length := by
  rw [← Fh, A7]; exact hall.symm
 rw [e2, e3] at h
 refine Calls.mono h ?_
 rintro e w' ⟨rfl, rfl⟩
 refine ⟨_, V, ?_, (Below.refl _ w).alloc (E3 _) _⟩
 have := QU (F := F) (w := w) (l := (Q5 c s).map vS) (T := Tryz.gspl_ren.t 9) (fun v hv => by obtain ⟨t, -, rfl⟩ := H0.1 hv; rfl) (by have := W7 c s; rw [A7]; omega)
 rw [List.map_map] at this
 exact this
theorem OV (s : G0) (c : UInt8) (hs : s.length ≤ 1000000) : PCalls Tryz.prog 76 [dS s, dS [c]] (.d (.sl 1 ((Q5 c s).map fun t => [dS t]))) := by
 have c1 := Mu s c hs
 obtain ⟨l, hl⟩ := H7 ((Q5 c s).map fun t => [dS t])
 rw [← hl] at c1 ⊢
 refine B3 Tryz.func76 V Tryz.ntmps76 Tryz.results76 (by simp) fun B w0 => ?_
 refine D8 (B5 V (H8 V (C3 V (yC (c1) V V (B5 V (C4 ?_))))))
 exact C9 _ (.tmp V .nil) V
theorem ixb_in (s : G0) (c : UInt8) : decide (indexByte s c ≥ 0) = s.contains c := by
 rw [BM, Bool.eq_iff_iff, decide_eq_true_iff, List.contains_iff_mem]
 cases h : X2 c s with
 | none =>
  have := EV.1 h
  simp [this]
 | some p =>
  have := DS h
  simp only
  constructor
  · intro _; rw [this]; simp
  · intro _; omega
theorem wIndex1 (s : G0) (c : UInt8) : PCalls Tryz.prog 155 [dS s, dS [c]] (.d (dI (indexByte s c))) := by
 have c1 := Od s c
 obtain ⟨n, hn⟩ := H7 (indexByte s c)
 rw [← hn] at c1 ⊢
 refine B3 Tryz.func155 V Tryz.ntmps155 Tryz.results155 (by simp) fun B w0 => ?_
 refine D8 (B5 V (H8 V (C3 V (yC (c1) V V (B5 V (C4 ?_))))))
 exact C9 _ (.tmp V .nil) V
theorem Gg (s : G0) (c : UInt8) : PCalls Tryz.prog 107 [dS s, dS [c]] (.d (dB (s.contains c))) := by
 have c1 := wIndex1 s c
 rw [← ixb_in]
 obtain ⟨n, hn⟩ := H7 (indexByte s c)
 rw [← hn] at c1 ⊢
 obtain ⟨b, hb⟩ := H7 (decide (n ≥ 0))
 rw [← hb]
 refine B3 Tryz.func107 V Tryz.ntmps107 Tryz.results107 (by simp) fun B w0 => ?_
 refine D8 (B5 V (H8 V (C3 V (yC (c1) V V (G3 V (B5 V (C4 ?_))))))); rw [← hb]
 exact C9 _ (.tmp V .nil) V
theorem wJoin (xs : List G0) (sep : G0) (hl : xs.length ≤ 1000000) (hj : (Lib.join xs sep).length ≤ 140737488355328) : PCalls Tryz.prog 183 [.sl 1 (xs.map fun t => [dS t]), dS sep] (.d (dS (Lib.join xs sep))) := by
 obtain ⟨r, hrr⟩ := H7 (Lib.join xs sep)
 rw [← hrr] at hj ⊢
 have e1 : Lib.join xs (⟨sep.toArray⟩ : ByteArray).data.toList = r := by rw [hrr]
 refine PCalls.of_any (us := [vS r]) V (DA _ V) fun F w vals hvl hr hg => ?_
 match vals, hvl with
 | [v, u], _ =>
  obtain rfl : u = vS sep := DRep.val_eq (hr 1 u (dS sep) rfl rfl)
  obtain ⟨A, cap, news, hv, hcap, -, -, hnl, hcell, hone, hrep⟩ := DRep.row (hr 0 v _ rfl rfl)
  subst hv
  rw [A7] at hcap hnl hcell ⊢
  have hX : Builder.Extra Tryz.prog Tryz.join_ren := { sizeBuilder := by kernel_rfl, liesBuilder := by kernel_rfl, t5 := by kernel_rfl, a5 := fun _ => by kernel_rfl, z5 := fun _ => by kernel_rfl, v5 := fun _ => by kernel_rfl, infoByte := by kernel_rfl, cellsByte := by kernel_rfl, sizeByte := by kernel_rfl, neB5 := by decide }
  have hmap : (xs.map fun t => (⟨t.toArray⟩ : ByteArray)).map (·.data.toList) = xs := by rw [List.map_map]; exact (List.map_congr_left fun t _ => by simp).trans (List.map_id xs)
  rcases G9 xs.length with h0 | h0
  · obtain rfl : xs = [] := List.eq_nil_of_length_eq_zero h0
    have := Any.strings_Join_none Tryz.join hX A cap ⟨sep.toArray⟩ w
    have hr0 : r = [] := by rw [hrr]; exact Lib.join_nil sep
    rw [hr0]
    refine Calls.mono this ?_
    rintro e w' ⟨rfl, rfl⟩
    exact ⟨rfl, Below.refl _ _⟩
  · obtain ⟨b, off, rfl, hc⟩ := hcell h0
    have hcells : ∀ (j : Nat) x, (xs.map fun t => (⟨t.toArray⟩ : ByteArray))[j]? = some x → w.cell? ⟨b, off + j, none⟩ = some (.string x) := fun j x hx => by
     rw [C6, C8] at hx
     obtain ⟨t, ht, rfl⟩ := hx
     obtain ⟨u, hu, hd⟩ := hrep j 0 [dS t] (dS t) (by rw [C6, ht]; rfl) rfl
     rw [Nat.mul_one, Nat.add_zero] at hu
     rw [(hc j u hu).1, DRep.val_eq hd]
    have hb : b < w.heap.size := by
     obtain ⟨t, ht⟩ := Bq h0
     exact World.block_lt_of_cell? _ _ (hcells 0 ⟨t.toArray⟩ (by rw [C6, ht]; rfl))
    have := Any.strings_Join Tryz.join hX b off cap (xs.map fun t => (⟨t.toArray⟩ : ByteArray)) ⟨sep.toArray⟩ w hcells hb (by rw [A7]; omega) (by rw [A7]; exact hcap) (by rw [hmap, e1]; exact hj)
    rw [hmap, A7, e1] at this
    refine Calls.mono this ?_
    rintro e w' ⟨rfl, h⟩
    exact ⟨rfl, h⟩
def LR (s n o : G0) : Int := if P1 J5 s = false then 3 else if (n ≠ [] ∧ J5 n = false) ∨ (o ≠ [] ∧ J5 o = false) then 23 else if ((Q5 46 s).map (FF n o)).any (fun x => x == []) then 9 else 0
def expR (s n o : G0) : G0 := if LR s n o = 0 then Go.Lib.join ((Q5 46 s).map (FF n o)) [46] else []
theorem QL {l : List G0} {sep : G0} (h : ∀ x ∈ l, x.length ≤ M) : (Go.Lib.join l sep).length ≤ l.length * (M + sep.length) := by
 cases l with
 | nil => simp [Go.Lib.join_nil]
 | cons x r =>
  rw [Go.Lib.join_cons]
  have h1 : (Go.Lib.joinTail sep r).length ≤ r.length * (M + sep.length) := by
   have h2 : ∀ y ∈ r, y.length ≤ M := fun y hy => h y (by simp [hy])
   clear h
   unfold Go.Lib.joinTail
   induction r with
   | nil => simp
   | cons y r ih =>
    have h3 := ih fun z hz => h2 z (by simp [hz])
    have h4 := h2 y (by simp)
    rw [List.map_cons, List.flatten_cons, D7, D7, List.length_cons, Nat.succ_mul]
    omega
  have h2 := h x (by simp)
  rw [D7, List.length_cons, Nat.succ_mul]
  omega
theorem PI {n o x : G0} (hn : n.length ≤ M) (ho : o.length ≤ M) (hx : x.length ≤ M) : (FF n o x).length ≤ M := by
 unfold FF
 split
 · exact hn
 · split
   · exact ho
   · exact hx
abbrev exT : Nat := 9 * 100000 + 9
abbrev exS (b : Nat) : List (Nat × SV) := [(6, .bx 6 0), (7, .bx 7 0), (8, .bx 8 0), (9, .bx 9 0), (37, .d (.val (.func (.func 210) #[] #[.pointer (some ⟨b, 0, none⟩)])))]
abbrev exB (n o : G0) (l : List G0) : List (Nat × List SV) := [(6, [.d (dS [])]), (7, [.d (dI 0)]), (8, [.d (Qg n o)]), (9, [.ts exT 1 (l.map fun t => [dS t])])]
abbrev exK (l : List G0) : List (Nat × Nat) := [(exT, (l.map fun t => ([dS t] : List DV)).length)]
theorem wExpand (s n o : G0) (hs : s.length ≤ 1000000) (hln : n.length ≤ 1000000) (hlo : o.length ≤ 1000000) : PCalls Tryz.prog 129 [dS s, dS n, dS o] (.tup [dS (expR s n o), dI (LR s n o)]) := by
 have c1 := Ls tsB s hs
 have c2 := wNamesF n o
 have h1 := wExp1 n o
 have e1 : P1 J5 s = CM tsB s := rfl
 obtain ⟨R, hR⟩ := H7 (expR s n o)
 obtain ⟨E, hE⟩ := H7 (LR s n o)
 rw [← hR, ← hE]
 rw [expR, ← hE] at hR
 rw [LR, e1] at hE
 cases hf : CM tsB s with
 | false =>
  rw [hf] at c1 hE
  rw [C5 rfl] at hE
  rw [hE, B9 (by omega)] at hR
  subst hR hE
  refine N6 Tryz.func129 V Tryz.ntmps129 Tryz.results129 (by simp) fun p d0 hex => ?_
  refine L5 (yZ (cs := [_]) V V (F9 (yZ (cs := [_]) V V (yQ (D5 (L5 (C3 V (F9 (C3 V (F9 (yC (c2) V V (F9 (yZ (cs := [_]) V V (F9 (yS (cs' := [_]) V V V V V (yQ (D5 (G4 (L5 (C3 V (F9 (Mp V (F9 ?_))))))))))))))))))))))); refine Gf c1 (.d V (.fn E6 V V h1 .nil)) V ?_; refine F9 (yU V V V (yQ (D5 (P3 V (L5 (Y4 (cs' := [_]) V V V V (F9 (Y4 (cs' := [_]) V V V V (yQ (D5 (M5 (I1 ?_))))))))))))
  exact L8 _ (.one E6 V V V (.one E6 V V V .nil)) V
 | true =>
 rw [hf] at c1 hE
 rw [B9 (by simp)] at hE
 have k1 := Is n
 have k2 := Is o
 by_cases hbn : n ≠ [] ∧ J5 n = false
 · have t1 : (!n == []) = true := by simp [hbn.1]
   rw [hbn.2] at k1
   rw [C5 (.inl hbn)] at hE
   rw [hE, B9 (by omega)] at hR
   subst hR hE
   refine N6 Tryz.func129 V Tryz.ntmps129 Tryz.results129 (by simp) fun p d0 hex => ?_
   refine L5 (yZ (cs := [_]) V V (F9 (yZ (cs := [_]) V V (yQ (D5 (L5 (C3 V (F9 (C3 V (F9 (yC (c2) V V (F9 (yZ (cs := [_]) V V (F9 (yS (cs' := [_]) V V V V V (yQ (D5 (G4 (L5 (C3 V (F9 (Mp V (F9 ?_))))))))))))))))))))))); refine Gf c1 (.d V (.fn E6 V V h1 .nil)) V ?_; refine F9 (yU V V V (yQ (D5 (Q0 V (J9 (G4 (L5 (C3 V (F9 (O6 V V (F9 (C3 V (F9 ?_))))))))))))); rw [t1]; refine C3 V (F9 (yC (k1) V V (F9 (yU V V V (F9 (K8 V V (F9 (C3 V (F9 (yO V (F9 (yO V (F9 (yO V (F9 (yO V (F9 (yO V (F9 (yO V (F9 (yO V (F9 (K8 V V (yQ (D5 (P3 V (L5 (Y4 (cs' := [_]) V V V V (F9 (Y4 (cs' := [_]) V V V V (yQ (D5 (M5 (I1 ?_)))))))))))))))))))))))))))))))))))
   exact L8 _ (.one E6 V V V (.one E6 V V V .nil)) V
 have hn' : n = [] ∨ ((!n == []) = true ∧ J5 n = true) := by
  by_cases h : n = []
  · exact .inl h
  · refine .inr ⟨by simp [h], ?_⟩
    cases e : J5 n with
    | true => rfl
    | false => exact G7 ⟨h, e⟩ hbn
 by_cases hbo : o ≠ [] ∧ J5 o = false
 · have t2 : (!o == []) = true := by simp [hbo.1]
   rw [hbo.2] at k2
   rw [C5 (.inr hbo)] at hE
   rw [hE, B9 (by omega)] at hR
   subst hR hE
   rcases hn' with hn0 | ⟨t1, hn1⟩
   · have t1 : (!n == []) = false := by simp [hn0]
     refine N6 Tryz.func129 V Tryz.ntmps129 Tryz.results129 (by simp) fun p d0 hex => ?_
     refine L5 (yZ (cs := [_]) V V (F9 (yZ (cs := [_]) V V (yQ (D5 (L5 (C3 V (F9 (C3 V (F9 (yC (c2) V V (F9 (yZ (cs := [_]) V V (F9 (yS (cs' := [_]) V V V V V (yQ (D5 (G4 (L5 (C3 V (F9 (Mp V (F9 ?_))))))))))))))))))))))); refine Gf c1 (.d V (.fn E6 V V h1 .nil)) V ?_; refine F9 (yU V V V (yQ (D5 (Q0 V (J9 (G4 (L5 (C3 V (F9 (O6 V V (F9 (C3 V (F9 ?_))))))))))))); rw [t1]; refine yO V (F9 (yO V (F9 (yO V (F9 (K7 V V (F9 (C3 V (F9 (C3 V (F9 (O6 V V (F9 (C3 V (F9 ?_))))))))))))))); rw [t2]; refine C3 V (F9 (yC (k2) V V (F9 (yU V V V (F9 (K8 V V (F9 (K7 V V (yQ (D5 (P3 V (L5 (Y4 (cs' := [_]) V V V V (F9 (Y4 (cs' := [_]) V V V V (yQ (D5 (M5 (I1 ?_)))))))))))))))))))
     exact L8 _ (.one E6 V V V (.one E6 V V V .nil)) V
   · rw [hn1] at k1
     refine N6 Tryz.func129 V Tryz.ntmps129 Tryz.results129 (by simp) fun p d0 hex => ?_
     refine L5 (yZ (cs := [_]) V V (F9 (yZ (cs := [_]) V V (yQ (D5 (L5 (C3 V (F9 (C3 V (F9 (yC (c2) V V (F9 (yZ (cs := [_]) V V (F9 (yS (cs' := [_]) V V V V V (yQ (D5 (G4 (L5 (C3 V (F9 (Mp V (F9 ?_))))))))))))))))))))))); refine Gf c1 (.d V (.fn E6 V V h1 .nil)) V ?_; refine F9 (yU V V V (yQ (D5 (Q0 V (J9 (G4 (L5 (C3 V (F9 (O6 V V (F9 (C3 V (F9 ?_))))))))))))); rw [t1]; refine C3 V (F9 (yC (k1) V V (F9 (yU V V V (F9 (K8 V V (F9 (C3 V (F9 (C3 V (F9 (O6 V V (F9 (C3 V (F9 ?_))))))))))))))); rw [t2]; refine C3 V (F9 (yC (k2) V V (F9 (yU V V V (F9 (K8 V V (F9 (K7 V V (yQ (D5 (P3 V (L5 (Y4 (cs' := [_]) V V V V (F9 (Y4 (cs' := [_]) V V V V (yQ (D5 (M5 (I1 ?_)))))))))))))))))))
     exact L8 _ (.one E6 V V V (.one E6 V V V .nil)) V
 have ho' : o = [] ∨ ((!o == []) = true ∧ J5 o = true) := by
  by_cases h : o = []
  · exact .inl h
  · refine .inr ⟨by simp [h], ?_⟩
    cases e : J5 o with
    | true => rfl
    | false => exact G7 ⟨h, e⟩ hbo
 rw [B9 (by rintro (h | h); exact hbn h; exact hbo h)] at hE
 have h6 : (Q5 46 s).length ≤ 6 := by
  rw [CM, D3] at hf
  exact of_decide_eq_true hf.1
 obtain ⟨X, hX⟩ := H7 ((Q5 46 s).map (FF n o))
 rw [← hX] at hE hR
 have hXl : X.length ≤ 6 := by rw [hX, A7]; exact h6
 have hXm : ∀ x ∈ X, x.length ≤ 1000000 := fun x hx => by
  rw [hX] at hx
  obtain ⟨t, ht, rfl⟩ := H0.1 hx
  exact PI hln hlo (E8 (FM 46 s t ht) hs)
 have hjl : (Go.Lib.join X [46]).length ≤ 140737488355328 := by
  have h1 := QL (sep := [46]) hXm
  have h2 : X.length * (1000000 + ([46] : G0).length) ≤ 6 * 1000001 := Nat.mul_le_mul hXl (E3 _)
  omega
 have k3 := wJoin X [46] (by omega) hjl
 refine N6 Tryz.func129 V Tryz.ntmps129 Tryz.results129 (by simp) fun p d0 hex => ?_
 rcases hn' with hn0 | ⟨t1, hn1⟩ <;> rcases ho' with ho0 | ⟨t2, ho1⟩
 all_goals
  first
   | (have t1 : (!n == []) = false := by simp [hn0]); skip
   | rw [hn1] at k1
  first
   | (have t2 : (!o == []) = false := by simp [ho0]); skip
   | rw [ho1] at k2
  first
   | (refine G4 ?_; refine N0 ?_; refine K9 ?_; refine yZ (cs := [_]) V V (yQ ?_); refine K9 ?_; refine yZ (cs := [_]) V V (yQ ?_); refine D5 ?_; refine G4 ?_; refine N0 ?_; refine K9 ?_; refine C3 V (yQ ?_); refine K9 ?_; refine C3 V (yQ ?_); refine K9 ?_; refine yC (c2) V V (yQ ?_); refine K9 ?_; refine yZ (cs := [_]) V V (yQ ?_); refine K9 ?_; refine yS (cs' := [_]) V V V V V (yQ ?_); refine D5 ?_; refine G4 ?_; refine G4 ?_; refine N0 ?_; refine K9 ?_; refine C3 V (yQ ?_); refine K9 ?_; refine Mp V (yQ ?_); refine K9 ?_; refine Gf c1 (.d V (.fn E6 V V h1 .nil)) V ?_; refine yQ ?_; refine K9 ?_; refine yU V V V (yQ ?_); refine D5 ?_; refine Q0 V ?_; refine J9 ?_; refine G4 ?_; refine G4 ?_; refine N0 ?_; refine K9 ?_; refine C3 V (yQ ?_); refine K9 ?_; refine O6 V V (yQ ?_); refine K9 ?_; refine C3 V (yQ ?_); refine K9 ?_; rw [t1]; refine yO V (yQ ?_); refine K9 ?_; refine yO V (yQ ?_); refine K9 ?_; refine yO V (yQ ?_); refine K9 ?_; refine K7 V V (yQ ?_); refine K9 ?_; refine C3 V (yQ ?_); refine K9 ?_; refine C3 V (yQ ?_); refine K9 ?_; refine O6 V V (yQ ?_); refine K9 ?_; refine C3 V (yQ ?_); refine K9 ?_; rw [t2]; refine yO V (yQ ?_); refine K9 ?_; refine yO V (yQ ?_); refine K9 ?_; refine yO V (yQ ?_); refine K9 ?_; refine K7 V V (yQ ?_); refine K9 ?_; refine K7 V V (yQ ?_); refine D5 ?_; refine Q0 V ?_; refine J9 ?_; refine G4 ?_; refine N0 ?_; refine K9 ?_; refine yZ (cs := [_]) V V (yQ ?_); refine D5 ?_; refine P5 (Br 9 0 exT 1 V V V V) ?_; refine G4 ?_; refine G4 ?_; refine N0 ?_; refine K9 ?_; refine C3 V (yQ ?_); refine Gl (Gy s _) MSeg.ok V ?_)
   | (refine G4 ?_; refine N0 ?_; refine K9 ?_; refine yZ (cs := [_]) V V (yQ ?_); refine K9 ?_; refine yZ (cs := [_]) V V (yQ ?_); refine D5 ?_; refine G4 ?_; refine N0 ?_; refine K9 ?_; refine C3 V (yQ ?_); refine K9 ?_; refine C3 V (yQ ?_); refine K9 ?_; refine yC (c2) V V (yQ ?_); refine K9 ?_; refine yZ (cs := [_]) V V (yQ ?_); refine K9 ?_; refine yS (cs' := [_]) V V V V V (yQ ?_); refine D5 ?_; refine G4 ?_; refine G4 ?_; refine N0 ?_; refine K9 ?_; refine C3 V (yQ ?_); refine K9 ?_; refine Mp V (yQ ?_); refine K9 ?_; refine Gf c1 (.d V (.fn E6 V V h1 .nil)) V ?_; refine yQ ?_; refine K9 ?_; refine yU V V V (yQ ?_); refine D5 ?_; refine Q0 V ?_; refine J9 ?_; refine G4 ?_; refine G4 ?_; refine N0 ?_; refine K9 ?_; refine C3 V (yQ ?_); refine K9 ?_; refine O6 V V (yQ ?_); refine K9 ?_; refine C3 V (yQ ?_); refine K9 ?_; rw [t1]; refine yO V (yQ ?_); refine K9 ?_; refine yO V (yQ ?_); refine K9 ?_; refine yO V (yQ ?_); refine K9 ?_; refine K7 V V (yQ ?_); refine K9 ?_; refine C3 V (yQ ?_); refine K9 ?_; refine C3 V (yQ ?_); refine K9 ?_; refine O6 V V (yQ ?_); refine K9 ?_; refine C3 V (yQ ?_); refine K9 ?_; rw [t2]; refine C3 V (yQ ?_); refine K9 ?_; refine yC (k2) V V (yQ ?_); refine K9 ?_; refine yU V V V (yQ ?_); refine K9 ?_; refine K8 V V (yQ ?_); refine K9 ?_; refine K7 V V (yQ ?_); refine D5 ?_; refine Q0 V ?_; refine J9 ?_; refine G4 ?_; refine N0 ?_; refine K9 ?_; refine yZ (cs := [_]) V V (yQ ?_); refine D5 ?_; refine P5 (Br 9 0 exT 1 V V V V) ?_; refine G4 ?_; refine G4 ?_; refine N0 ?_; refine K9 ?_; refine C3 V (yQ ?_); refine Gl (Gy s _) MSeg.ok V ?_)
   | (refine G4 ?_; refine N0 ?_; refine K9 ?_; refine yZ (cs := [_]) V V (yQ ?_); refine K9 ?_; refine yZ (cs := [_]) V V (yQ ?_); refine D5 ?_; refine G4 ?_; refine N0 ?_; refine K9 ?_; refine C3 V (yQ ?_); refine K9 ?_; refine C3 V (yQ ?_); refine K9 ?_; refine yC (c2) V V (yQ ?_); refine K9 ?_; refine yZ (cs := [_]) V V (yQ ?_); refine K9 ?_; refine yS (cs' := [_]) V V V V V (yQ ?_); refine D5 ?_; refine G4 ?_; refine G4 ?_; refine N0 ?_; refine K9 ?_; refine C3 V (yQ ?_); refine K9 ?_; refine Mp V (yQ ?_); refine K9 ?_; refine Gf c1 (.d V (.fn E6 V V h1 .nil)) V ?_; refine yQ ?_; refine K9 ?_; refine yU V V V (yQ ?_); refine D5 ?_; refine Q0 V ?_; refine J9 ?_; refine G4 ?_; refine G4 ?_; refine N0 ?_; refine K9 ?_; refine C3 V (yQ ?_); refine K9 ?_; refine O6 V V (yQ ?_); refine K9 ?_; refine C3 V (yQ ?_); refine K9 ?_; rw [t1]; refine C3 V (yQ ?_); refine K9 ?_; refine yC (k1) V V (yQ ?_); refine K9 ?_; refine yU V V V (yQ ?_); refine K9 ?_; refine K8 V V (yQ ?_); refine K9 ?_; refine C3 V (yQ ?_); refine K9 ?_; refine C3 V (yQ ?_); refine K9 ?_; refine O6 V V (yQ ?_); refine K9 ?_; refine C3 V (yQ ?_); refine K9 ?_; rw [t2]; refine yO V (yQ ?_); refine K9 ?_; refine yO V (yQ ?_); refine K9 ?_; refine yO V (yQ ?_); refine K9 ?_; refine K7 V V (yQ ?_); refine K9 ?_; refine K7 V V (yQ ?_); refine D5 ?_; refine Q0 V ?_; refine J9 ?_; refine G4 ?_; refine N0 ?_; refine K9 ?_; refine yZ (cs := [_]) V V (yQ ?_); refine D5 ?_; refine P5 (Br 9 0 exT 1 V V V V) ?_; refine G4 ?_; refine G4 ?_; refine N0 ?_; refine K9 ?_; refine C3 V (yQ ?_); refine Gl (Gy s _) MSeg.ok V ?_)
   | (refine G4 ?_; refine N0 ?_; refine K9 ?_; refine yZ (cs := [_]) V V (yQ ?_); refine K9 ?_; refine yZ (cs := [_]) V V (yQ ?_); refine D5 ?_; refine G4 ?_; refine N0 ?_; refine K9 ?_; refine C3 V (yQ ?_); refine K9 ?_; refine C3 V (yQ ?_); refine K9 ?_; refine yC (c2) V V (yQ ?_); refine K9 ?_; refine yZ (cs := [_]) V V (yQ ?_); refine K9 ?_; refine yS (cs' := [_]) V V V V V (yQ ?_); refine D5 ?_; refine G4 ?_; refine G4 ?_; refine N0 ?_; refine K9 ?_; refine C3 V (yQ ?_); refine K9 ?_; refine Mp V (yQ ?_); refine K9 ?_; refine Gf c1 (.d V (.fn E6 V V h1 .nil)) V ?_; refine yQ ?_; refine K9 ?_; refine yU V V V (yQ ?_); refine D5 ?_; refine Q0 V ?_; refine J9 ?_; refine G4 ?_; refine G4 ?_; refine N0 ?_; refine K9 ?_; refine C3 V (yQ ?_); refine K9 ?_; refine O6 V V (yQ ?_); refine K9 ?_; refine C3 V (yQ ?_); refine K9 ?_; rw [t1]; refine C3 V (yQ ?_); refine K9 ?_; refine yC (k1) V V (yQ ?_); refine K9 ?_; refine yU V V V (yQ ?_); refine K9 ?_; refine K8 V V (yQ ?_); refine K9 ?_; refine C3 V (yQ ?_); refine K9 ?_; refine C3 V (yQ ?_); refine K9 ?_; refine O6 V V (yQ ?_); refine K9 ?_; refine C3 V (yQ ?_); refine K9 ?_; rw [t2]; refine C3 V (yQ ?_); refine K9 ?_; refine yC (k2) V V (yQ ?_); refine K9 ?_; refine yU V V V (yQ ?_); refine K9 ?_; refine K8 V V (yQ ?_); refine K9 ?_; refine K7 V V (yQ ?_); refine D5 ?_; refine Q0 V ?_; refine J9 ?_; refine G4 ?_; refine N0 ?_; refine K9 ?_; refine yZ (cs := [_]) V V (yQ ?_); refine D5 ?_; refine P5 (Br 9 0 exT 1 V V V V) ?_; refine G4 ?_; refine G4 ?_; refine N0 ?_; refine K9 ?_; refine C3 V (yQ ?_); refine Gl (Gy s _) MSeg.ok V ?_)
  rintro r0 j ⟨b, xs, T, hx, hn, rfl, rfl⟩
  refine P5 (IV 37 (vs := [.pointer (some ⟨b, 0, none⟩)]) V) ?_; refine M3 ?_; refine PQ (HE.stb _) (st' := ⟨53, exS b, exB n o (X.take 0), exK (X.take 0)⟩) ⟨rfl, ⟨E0, E0, E0, E0, E0, D4⟩, ⟨⟨_, V, F7 _⟩, ⟨_, V, F7 _⟩, ⟨_, V, F7 _⟩, ⟨_, V, F7 _⟩, D4⟩, ⟨rfl, D4⟩, V⟩ ?_; refine Kj (ys := xs) (T0 := T) (b := b) (vsg s) [(10, 38)] (fun k => ∀ t ∈ X.take k, t ≠ []) (fun k => exB n o (X.take k)) (fun k => exK (X.take k)) (fun t ht => by simp at ht) rfl (Ik b (xs, T) []) (JO s hs hx) (fun x hx => by obtain ⟨t, -, rfl⟩ := H0.1 hx; rfl) rfl rfl (by decide) ?_ ?_
  · rintro k x hx2 hI
    obtain ⟨t, ht, rfl⟩ := Ke hx2
    refine ⟨[.any, .any, .any, .any, .any, .any, .bx 6 0, .bx 7 0, .bx 8 0, .bx 9 0, .d (dS t)], of_decide_eq_true V, .any (.any (.any (.any (.any (.any (.keep V (.refl _) (.keep V (.refl _) (.keep V (.refl _) (.keep V (.refl _) (.new V V .nil)))))))))), V, V, by kernel_rfl, fun B w0 => ?_⟩
    have q1 := Lp n o t
    have hXk : X[k]? = some (FF n o t) := by rw [hX, C6, ht]; rfl
    have htk : X.take (k + 1) = X.take k ++ [FF n o t] := by rw [G8, hXk]; rfl
    have hkl : (X.take k).length ≤ 6 := by rw [E4]; omega
    obtain ⟨y, hy⟩ := H7 (FF n o t)
    rw [← hy] at q1 hXk htk
    obtain ⟨Z, hZ⟩ := H7 (X.take k)
    rw [← hZ] at htk hI hkl ⊢
    by_cases hy0 : y = []
    · have u1 : (y == []) = true := by simp [hy0]
      have hE9 : E = 9 := by
       rw [hE, C5]
       exact List.any_eq_true.2 ⟨y, B7 hXk, u1⟩
      rw [hE9, B9 (by omega)] at hR
      subst hR hE9
      refine B6 (D8 (U3 V V V (C3 V (yCh q1 V V V (O5 V (yX V V (yX V V (H4 V (B5 V (I0 V (O9 V V (yQ (B1 (J8 u1 V (D8 (Y4 (cs' := [_]) V V V V (Y4 (cs' := [_]) V V V V (yQ (C4 (A4 (B8 ?_)))))))))))))))))))))
      exact ⟨[(6, [.d (dS [])]), (7, [.d (dI 9)]), (8, [.d (Qg n o)]), (9, [.ts exT 1 (Z.map fun t => [dS t])])], exK Z, ⟨rfl, V, V, V, D4⟩, ⟨rfl, D4⟩, V, V, by kernel_rfl, L2 (I1 (L8 _ (.one E6 rfl rfl rfl (.one E6 rfl rfl rfl .nil)) rfl))⟩
    · have u1 : (y == []) = false := by simp [hy0]
      have hI2 : ∀ t ∈ X.take (k + 1), t ≠ [] := fun u hu => by
       rw [htk] at hu
       rcases List.mem_append.1 hu with h | h
       · exact hI u h
       · rw [List.mem_singleton.1 h]; exact hy0
      refine B6 (D8 (U3 V V V (C3 V (yCh q1 V V V (O5 V (yX V V (yX V V (H4 V (B5 V (I0 V (O9 V V (yQ (B1 (L9 u1 V (B2 (B4 (Mo V V V (C3 V ?_)))))))))))))))))); refine yR (es := [[_]]) V V V V V ?_; refine yT (es' := (Z ++ [y]).map fun t => [dS t]) (m := ((Z ++ [y]).map fun t => ([dS t] : List DV)).length) (by simp; omega) (by simp; omega) rfl rfl rfl rfl rfl (by simp) (by simp) ?_; refine ySt (cs' := [_]) V V V V (yQ (CR ?_))
      exact ⟨hI2, ⟨rfl, V, V, (by rw [htk]; rfl), D4⟩, ⟨(by rw [htk]; rfl), D4⟩⟩
  · intro hI
    have hXs : (vsg s).length = X.length := by rw [hX, A7, A7]
    rw [hXs, I3] at hI
    rw [hXs, I3]
    have hE0 : E = 0 := by
     rw [hE, B9]
     rw [Bool.not_eq_true, List.any_eq_false]
     intro x hx h
     exact hI x hx (by simpa using h)
    rw [hE0, C5 rfl] at hR
    rw [hE0]
    rw [← hR] at k3
    show Ab 0 _ .normal ⟨53, _, [(6, _), (7, _), (8, _), (9, [.ts exT 1 (X.map fun t => [dS t])])], _⟩ _
    refine L5 (Mo V V V (F9 (yC (k3) V V (F9 (Y4 (cs' := [_]) V V V V (F9 (Y4 (cs' := [_]) V V V V (yQ (D5 (M5 ?_))))))))))
    exact L8 _ (.one E6 V V V (.one E6 V V V .nil)) V
theorem Oc (s : G0) (hs : s.length ≤ 1000000) : PCalls Tryz.prog 81 [dS s] (.d (dB (P1 J5 s))) := by
 have c1 := wExpand s [97] [98] hs (by simp) (by simp)
 have e : ((LR s [97] [98] : Int) == 0) = P1 J5 s := by
  unfold LR
  cases h : P1 J5 s with
  | false => rw [C5 rfl]; rfl
  | true =>
   have h1 : J5 [97] = true := by kernel_rfl
   have h2 : J5 [98] = true := by kernel_rfl
   rw [B9 (by simp), B9 (by simp [h1, h2]), B9]
   · rfl
   · rw [Bool.not_eq_true, List.any_eq_false]
     intro x hx h3
     obtain ⟨t, ht, rfl⟩ := H0.1 hx
     have h4 : tsB t = true := by
      rw [P1, CM, D3] at h
      exact E5.1 h.2 t ht
     unfold FF at h3
     unfold tsB Hr at h4
     split at h3
     · cases h3
     · split at h3
       · cases h3
       · have : t = [] := by simpa using h3
         rw [this] at h4
         exact G7 h4 (by decide)
 obtain ⟨x, hx⟩ := H7 (LR s [97] [98])
 obtain ⟨y, hy⟩ := H7 (expR s [97] [98])
 rw [← hx, ← hy] at c1
 rw [← hx] at e
 obtain ⟨b, hb⟩ := H7 (P1 J5 s)
 rw [← hb] at e ⊢
 refine B3 Tryz.func81 V Tryz.ntmps81 Tryz.results81 (by simp) fun B w0 => ?_
 refine D8 (B5 V (H8 V (yC (c1) V V (O5 V (yX V V (yX V V (H4 V (B5 V (H8 V (G3 V (B5 V (C4 ?_)))))))))))); rw [e]
 exact C9 _ (.tmp V .nil) V
def bdE (e : List Cf) : Prop := e.length ≤ 1000000 ∧ ∀ c ∈ e, c.1.length ≤ 1000000 ∧ c.2.length ≤ 70000
def bdN (l : Ln) : Prop := l.1.length ≤ 1000000 ∧ bdE l.2.2
def OH (r : Ru) : Prop := r.2.length ≤ 1000000 ∧ ∀ l ∈ r.2, bdN l
abbrev U2 (r : Ru) : Int := rE (P1 J5) BT r
theorem Gu {tp : G0 → Bool} {ce : List Cf → Int} {ls : List Ln} {k : Nat} {l : Ln} (h : ls[k]? = some l) : GU tp ce (ls.drop k) = if tp l.1 then (if ce l.2.2 = 0 then GU tp ce (ls.drop (k + 1)) else ce l.2.2) else 3 := by
 obtain ⟨h1, h2⟩ := A6.1 h
 rw [J0 h1, h2, GU]
theorem Fc (r : Ru) (hb : OH r) : PCalls Tryz.prog 56 [.agg (U4 r)] (.d (dI (U2 r))) := by
 have k0 := Hk
 obtain ⟨n, ls⟩ := r
 obtain ⟨hg, hh⟩ := Fy n
 obtain ⟨M, hM⟩ := H7 (BH)
 rw [← hM] at k0 hg hh
 clear hM
 obtain ⟨hb1, hb2⟩ := hb
 simp only at hb1 hb2
 obtain ⟨E, hE⟩ := H7 (U2 (n, ls))
 rw [← hE]
 rw [U2, rE] at hE
 obtain ⟨kw, hkw⟩ := H7 (Ek n)
 obtain ⟨kg, hkg⟩ := H7 (Et n)
 obtain ⟨kn, hkn⟩ := H7 (V8 n)
 rw [← hkw, ← hkg, ← hkn] at hg
 clear hkw hkg hkn
 cases h : W0 n with
 | none =>
  rw [h] at hh
  simp only [h] at hE
  subst hE
  refine B3 Tryz.func56 V Tryz.ntmps56 Tryz.results56 (by simp) fun B w0 => ?_
  refine D8 (yK (cs := [_, _]) V V (B5 V (A8 (A8 ?_)))); refine I7 Tryz.mixed (by kernel_rfl) ?_; refine yC (k0) V V (J6 V (yKdI (t := false) V V hg hh (O5 V (yX V V (yX V V (yZ (cs := [_, _, _]) V V (yS (cs' := [_, _, _]) V V V V V (B5 V (H8 V (yU V V V (yQ (G5 V (D8 (B5 V (C4 (A4 ?_))))))))))))))))
  exact C9 _ (.tmp V .nil) V
 | some k =>
 rw [h] at hh
 simp only [h] at hE
 clear h
 by_cases h1 : 64 < ls.length
 · have t1 : decide (((ls.map V4).length : Int) > 64) = true := B0 (by rw [A7]; omega)
   rw [C5 h1] at hE
   subst hE
   refine B3 Tryz.func56 V Tryz.ntmps56 Tryz.results56 (by simp) fun B w0 => ?_
   refine D8 (yK (cs := [_, _]) V V (B5 V (A8 (A8 ?_)))); refine I7 Tryz.mixed (by kernel_rfl) ?_; refine yC (k0) V V (J6 V (yKdI (t := true) V V hg hh (O5 V (yX V V (yX V V (yZ (cs := [_, _, _]) V V (yS (cs' := [_, _, _]) V V V V V (B5 V (H8 V (yU V V V (yQ (F6 V (B2 (A8 (D8 (J6 V (yN V (H3 V (B1 (J8 t1 V (D8 (B5 V (C4 (A4 ?_))))))))))))))))))))))))
   exact C9 _ (.tmp V .nil) V
 have t1 : decide (((ls.map V4).length : Int) > 64) = false := A9 (by rw [A7]; omega)
 rw [B9 h1] at hE
 refine B3 Tryz.func56 V Tryz.ntmps56 Tryz.results56 (by simp) fun B w0 => ?_
 refine D8 (yK (cs := [_, _]) V V (B5 V (A8 (A8 ?_)))); refine I7 Tryz.mixed (by kernel_rfl) ?_; refine yC (k0) V V (J6 V (yKdI (t := true) V V hg hh (O5 V (yX V V (yX V V (yZ (cs := [_, _, _]) V V (yS (cs' := [_, _, _]) V V V V V (B5 V (H8 V (yU V V V (yQ (F6 V (B2 (A8 (D8 (J6 V (yN V (H3 V (B1 (L9 t1 V (B2 (A8 (D8 (J6 V (yN V (C3 V (yQ (B6 ?_)))))))))))))))))))))))))))); refine H2 (fun i : Nat => ⟨43, [(23, .d (.sl 3 (ls.map V4))), (24, .d (dI ls.length)), (25, .d (dI i))], [], []⟩) (fun i => i ≤ ls.length ∧ GU (P1 J5) BT (ls.drop i) = E) (fun i => ls.length - i) 0 ⟨D9 _, hE.symm⟩
  ⟨rfl, ⟨E0, .of_eq (C7 (fun n : Nat => SV.d (dI n)) (by simp)), E0, D4⟩, D4, D4, rfl⟩ ?_
 rintro i ⟨hi, hI⟩
 rcases D2 i ls.length with h | h
 rotate_left
 · have u1 : decide ((i : Int) < (ls.length : Int)) = false := A9 (by omega)
   have : E = 0 := by rw [← hI, I8 h]; rfl
   subst this
   refine D8 (H3 V (A8 (L9 u1 V (G1 (D8 (B5 V (C4 ?_)))))))
   exact C9 _ (.tmp V .nil) V
 have u1 : decide ((i : Int) < (ls.length : Int)) = true := B0 (by omega)
 obtain ⟨⟨a, c, e⟩, hl⟩ : ∃ a, ls[i]? = some a := ⟨_, A5 h⟩
 have ex := ix V4 ls i i (a, c, e) rfl hl
 have hw := I5 ((i : Int) + 1) (by omega)
 obtain ⟨b1, b2, b3⟩ := hb2 _ (B7 hl)
 simp only at b1 b2 b3
 have k1 := Oc a b1
 have k2 := Ir e b2 fun c hc => (b3 c hc).2
 have arith : ls.length - (i + 1) < ls.length - i := by omega
 rw [Gu hl] at hI
 simp only at hI
 obtain ⟨N, hN⟩ := H7 ((NP e).map dCf)
 rw [← hN] at k2
 clear hN hE hg hh hl
 cases ht : P1 J5 a with
 | false =>
  rw [ht] at k1 hI
  rw [B9 (by simp)] at hI
  subst hI
  refine D8 (H3 V (A8 (J8 u1 V (B2 (A8 (B6 (D8 (yW ex (by omega) rfl rfl (R7 (ys := [_, _, _]) rfl rfl rfl (yZ (cs := [_, _, _]) rfl rfl (yS (cs' := [_, _, _]) rfl rfl rfl rfl rfl (yQ (A8 (D8 (J6 rfl (yC (k1) rfl rfl (yU rfl rfl rfl (yQ (G5 rfl (D8 (B5 rfl (C4 (A4 (B8 (A4 (A4 (B8 (A4 ?_))))))))))))))))))))))))))))
  exact C9 _ (.tmp V .nil) V
 | true =>
 rw [ht] at k1 hI
 rw [C5 rfl] at hI
 obtain ⟨x, hx⟩ := H7 (BT e)
 rw [← hx] at k2 hI
 by_cases h0 : x = 0
 · have t2 : (x != 0) = false := by simp [h0]
   rw [C5 h0] at hI
   refine D8 (H3 V (A8 (J8 u1 V (B2 (A8 (B6 (D8 (yW ex (by omega) rfl rfl (R7 (ys := [_, _, _]) rfl rfl rfl (yZ (cs := [_, _, _]) rfl rfl (yS (cs' := [_, _, _]) rfl rfl rfl rfl rfl (yQ (A8 (D8 (J6 rfl (yC (k1) rfl rfl (yU rfl rfl rfl (yQ (F6 rfl (B2 (D8 (J6 rfl (yC (k2) rfl rfl (O5 rfl (yX rfl rfl (yX rfl rfl (H4 rfl (B5 rfl (H8 rfl (H3 rfl (B1 (L9 t2 rfl (B2 (B4 (G3 rfl (C3 rfl (yQ (B1 ?_))))))))))))))))))))))))))))))))))))))
   exact ⟨i + 1, ⟨h, hI⟩, arith, V, ⟨E0, E0, .of_eq (C7 (fun n => SV.d (dI n)) hw), D4⟩, D4, D4, V⟩
 · have t2 : (x != 0) = true := by simp [h0]
   rw [B9 h0] at hI
   subst hI
   refine D8 (H3 V (A8 (J8 u1 V (B2 (A8 (B6 (D8 (yW ex (by omega) rfl rfl (R7 (ys := [_, _, _]) rfl rfl rfl (yZ (cs := [_, _, _]) rfl rfl (yS (cs' := [_, _, _]) rfl rfl rfl rfl rfl (yQ (A8 (D8 (J6 rfl (yC (k1) rfl rfl (yU rfl rfl rfl (yQ (F6 rfl (B2 (D8 (J6 rfl (yC (k2) rfl rfl (O5 rfl (yX rfl rfl (yX rfl rfl (H4 rfl (B5 rfl (H8 rfl (H3 rfl (B1 (J8 t2 rfl (H8 rfl (B5 rfl (C4 (B8 (A4 (A4 (B8 ?_))))))))))))))))))))))))))))))))))))))); refine A4 ?_
   exact C9 _ (.tmp V .nil) V
end Go.Proofs.YtddfimjiihggmaaGreatDoor
namespace Go.Proofs.YtddfimjiihggmaaGreatDoor.Px
open Go.RowKit
variable {st : PS}
theorem Hc (i off k : Nat) {cs : List SV} (hi : st.bget i = some cs) (hc : cs[off]? = some (.d (.val (.slice none 0 0)))) (hlt : Nat.blt i 500000 = true := by rfl) : ∀ B w0 g a w, Rep B w0 g st a w → ∃ g', Evo g w g' w ∧ Rep B w0 g' (st.bput i (cs.set off (.d (.sl k [])))) a w := fun B w0 g a w hr => by
 have hlt := C0 hlt
 refine ⟨g, Evo.refl _ _, { hr with lim := hr.lim, size := hr.size, slots := hr.slots, boxes := fun j cs' hj hj5 => ?_, maps := fun j ms hj hge => ?_, dom := fun j b hj => ?_, tdom := hr.tdom, tlen := hr.tlen, glob := hr.glob }⟩
 · have hj' : (st.bput i (cs.set off (.d (.sl k [])))).bget j = some cs' := hj
   rw [K1] at hj'
   by_cases e : j = i
   · rw [C5 e] at hj'
     cases hj'
     subst e
     obtain ⟨b, xs, T, h1, h2, h3, h4, h5⟩ := hr.boxes j cs hi hj5
     refine ⟨b, xs, T, h1, h2, by simpa using h3, fun q c hq => ?_, fun q u hq hu => h5 q u (by simpa using hq) hu⟩
     by_cases eq : q = off
     · subst eq
       rw [List.getElem?_set_self (A6.1 hc).1] at hq
       cases hq
       obtain ⟨x, h6, h7⟩ := h4 q _ hc
       have hx : x = .slice none 0 0 := DRep.val_eq h7
       exact ⟨x, h6, by rw [hx]; exact DRep.nil⟩
     · rw [List.getElem?_set_ne (Ne.symm eq)] at hq
       exact h4 q c hq
   · rw [B9 e] at hj'
     exact hr.boxes j cs' hj' hj5
 · have hj' : (st.bput i (cs.set off (.d (.sl k [])))).bget j = some [.mc ms] := hj
   rw [K1, B9 (by omega)] at hj'
   exact hr.maps j ms hj' hge
 · show (st.bput i (cs.set off (.d (.sl k [])))).bget j ≠ none
   rw [K1]
   by_cases e : j = i
   · simp [e]
   · rw [B9 e]; exact hr.dom j b hj
theorem AE (s : Nat) {cs : List DV} (hs : st.get s = .d (.ref cs)) : ∀ B w0 g a w, Rep B w0 g st a w → ∃ g', Evo g w g' w ∧ Rep B w0 g' (st.put (some s) (.rd cs)) a w := Fk s hs fun _ _ _ h => SRep.le h (.ref cs)
theorem MJ {P : Program} {rl : Option Nat} {d0 : Nat} {p : EP} {Q : Exit → PS → EI → Prop} {i : EI} {id : Nat} {l : Array Oper} (h : ∀ B w0, w0.rl = rl → PW P B w0 (.region id l true) (fun e s => Q e s i) st) : PX P rl d0 (HE p) (.region id l true) Q st i := pe_ord h
section
variable {P : Program} {sq : Bool} {ops : Array Oper} {K : PS → Prop} {rest : List Oper} {d : Option Nat} {ty : TypeId} {pos : String} {af : Array Edge} {gd : Option (Nat × Bool)}
theorem yWvq {T : Nat} {x y : Operand} {E k n c b off q : Nat} {m : Int} {kd : IntKind} [SliceOf P T E k] (ho : off + m.toNat * k = q) (h0 : 0 ≤ m) (hm : m < n) (hx : st.ev x = .d (.val (.slice (some ⟨b, off, none⟩) n c))) (hy : st.ev y = .d (.val (.int kd m))) (h : YR P sq ops K rest (st.put d (.d (.val (.pointer (some ⟨b, q, none⟩)))))) (zz : zk ops st ⟨d, .indexAddr T x y, ty, pos, af, gd⟩ .no = true := by kernel_rfl) :
 YR P sq ops K (⟨d, .indexAddr T x y, ty, pos, af, gd⟩ :: rest) st := yWv h0 hm hx hy (ho ▸ h) zz
end
end Go.Proofs.YtddfimjiihggmaaGreatDoor.Px
namespace Go.Proofs.YtddfimjiihggmaaGreatDoor
open Go.RowKit Px
abbrev orR (o : Option Ru) : Ru := o.getD (0, [])
theorem Oi (l : List Ru) (n : Int) (hl : l.length ≤ 1000000) : PCalls Tryz.prog 22 [O7 l, dI n] (.tup [.agg (U4 (orR (LP l n))), dB (LP l n).isSome]) := by
 obtain ⟨r, hr⟩ := H7 (LP l n)
 rw [← hr]
 refine B3 Tryz.func22 V Tryz.ntmps22 Tryz.results22 (by simp) fun B w0 => ?_
 refine D8 (yZ (cs := [_, _]) V V (B5 V ?_)); refine Cv (Hc 4 1 3 V V) ?_; refine I0 V (yN V (C3 V (yQ (B6 ?_)))); refine H2 (fun i : Nat => ⟨21, [(1, .d (dI n)), (4, .bx 4 0), (8, .d (O7 l)), (9, .d (dI l.length)), (10, .d (dI i))], [(4, [.d (dI 0), .d (.sl 3 [])])], []⟩) (fun i => i ≤ l.length ∧ (l.drop i).find? (fun r => r.1 == n) = r) (fun i => l.length - i) 0 ⟨D9 _, hr.symm⟩
  ⟨rfl, ⟨E0, E0, E0, .of_eq (C7 (fun n : Nat => SV.d (dI n)) (by simp)), E0, D4⟩, ⟨⟨_, rfl, F7 _⟩, D4⟩, D4, rfl⟩ ?_
 rintro i ⟨hi, hI⟩
 clear hr
 rcases D2 i l.length with h | h
 rotate_left
 · have u1 : decide ((i : Int) < (l.length : Int)) = false := A9 (by omega)
   rw [I8 h] at hI
   subst hI
   refine D8 (H3 V (A8 (L9 u1 V (G1 (D8 (yG (ys := [_, _]) V V (yS (cs' := [_, _]) V V V V V (B5 V ?_)))))))); refine Cv (Hc 4 1 3 V V) ?_; refine C4 ?_
   exact C9 _ (.agg E6 V V V V (.tmp V .nil)) V
 have u1 : decide ((i : Int) < (l.length : Int)) = true := B0 (by omega)
 obtain ⟨⟨m, ls⟩, hx⟩ : ∃ a, l[i]? = some a := ⟨_, A5 h⟩
 have ex := ix U4 l i i (m, ls) rfl hx
 have hw := I5 ((i : Int) + 1) (by omega)
 obtain ⟨q1, q2⟩ := A6.1 hx
 rw [J0 q1, q2, List.find?_cons] at hI
 simp only at hI
 cases he : (m == n) with
 | true =>
  rw [he] at hI
  simp only at hI
  subst hI
  rw [show orR (some (m, ls)) = (m, ls) from rfl]
  refine D8 (H3 V (A8 (J8 u1 V (B2 (A8 (B6 (D8 (yW ex (by omega) rfl rfl (R7 (ys := [_, _]) rfl rfl rfl (yZ (cs := [_, _]) rfl rfl (yS (cs' := [_, _]) rfl rfl rfl rfl rfl (yQ (D8 (J6 rfl (C3 rfl (H3 rfl (B1 (J8 he rfl (D8 (BU (ys := [_, _]) rfl rfl rfl rfl (yS (cs' := [_, _]) rfl rfl rfl rfl rfl (B5 rfl (C4 (B8 (A4 (A4 (B8 (A4 ?_))))))))))))))))))))))))))))
  exact C9 _ (.agg E6 V V V V (.tmp V .nil)) V
 | false =>
  rw [he] at hI
  simp only at hI
  refine D8 (H3 V (A8 (J8 u1 V (B2 (A8 (B6 (D8 (yW ex (by omega) rfl rfl (R7 (ys := [_, _]) rfl rfl rfl (yZ (cs := [_, _]) rfl rfl (yS (cs' := [_, _]) rfl rfl rfl rfl rfl (yQ (D8 (J6 rfl (C3 rfl (H3 rfl (B1 (L9 he rfl (B2 (B4 (G3 rfl (C3 rfl (yQ (B1 ?_))))))))))))))))))))))))
  exact ⟨i + 1, ⟨h, hI⟩, by omega, rfl, ⟨E0, E0, E0, E0, .of_eq (C7 (fun n => SV.d (dI n)) hw), D4⟩, ⟨⟨_, rfl, F7 _⟩, D4⟩, D4, rfl⟩
instance : MapTy Tryz.prog 155 := ⟨⟨9, 72, by kernel_rfl⟩⟩
theorem DF (a b : List Ln) : S1 (a ++ b) = S1 a ++ S1 b := by simp [S1]
theorem Ca (l : Ln) : (QB l).length = l.2.2.length := by unfold QB; split <;> simp
theorem lnsC_at {ls : List Ln} {k m : Nat} {l : Ln} {c : Cf} (hl : ls[k]? = some l) (hc : l.2.2[m]? = some c) : (S1 ls)[(S1 (ls.take k)).length + m]? = some (if l.2.1 then ngC c else c) := by
 obtain ⟨h1, h2⟩ := A6.1 hl
 have e : ls = ls.take k ++ l :: ls.drop (k + 1) := by
  rw [← h2, ← J0 h1, List.take_append_drop]
 have e2 : S1 ls = S1 (ls.take k) ++ (QB l ++ S1 (ls.drop (k + 1))) := by
  conv => lhs; rw [e]
  rw [DF, show l :: ls.drop (k + 1) = [l] ++ ls.drop (k + 1) from rfl, DF]
  simp [S1]
 have hlt := (A6.1 hc).1
 rw [e2, F4 (by omega), Nat.add_sub_cancel_left, F5 (by rw [Ca]; exact hlt)]
 unfold QB
 split
 · rw [C6, hc]; rfl
 · exact hc
theorem Ni {ls : List Ln} {k : Nat} {l : Ln} (hl : ls[k]? = some l) : (S1 (ls.take (k + 1))).length = (S1 (ls.take k)).length + l.2.2.length := by
 rw [G8, hl, DF, D7]
 simp [S1, Ca]
theorem Pz {ls : List Ln} {A B : Nat} (h1 : ls.length ≤ A) (h2 : ∀ l ∈ ls, l.2.2.length ≤ B) : (S1 ls).length ≤ A * B := by
 have : (S1 ls).length ≤ ls.length * B := by
  clear h1
  induction ls with
  | nil => simp [S1]
  | cons l ls ih =>
   have h3 := ih fun x hx => h2 x (by simp [hx])
   have h4 := h2 l (by simp)
   rw [show l :: ls = [l] ++ ls from rfl, DF, D7, D7, Nat.add_mul]
   simp [S1, Ca] at h3 ⊢
   omega
 exact E8 this (Nat.mul_le_mul_right _ h1)
theorem IH {c : Cf} {B : Nat} (h : c.2.length ≤ B) : (ngC c).2.length ≤ B + 1 := by
 show (I6 (- val c.2)).length ≤ B + 1
 exact DU (by rw [Int.natAbs_neg]; exact Ff h)
def SeenZ (l dn : List (Value × DV)) : Prop := (∃ rl, (dn ++ rl).Perm l) ∧ ∀ q ∈ dn, q.2 = dS []
theorem vS_inj0 {v : G0} (h : dS v = dS []) : v = [] := by
 have h1 : vS v = vS [] := by injection h
 have h2 : v.toArray = #[] := by injection h1 with h1; injection h1
 simpa using h2
theorem Dd (r : Ru) (hb1 : r.2.length ≤ 64) (hb2 : ∀ l ∈ r.2, l.2.2.length ≤ 16 ∧ ∀ c ∈ l.2.2, c.2.length ≤ 70000) : PCalls Tryz.prog 59 [.agg (U4 r)] (.d (dB (Ag r.2))) := by
 obtain ⟨n, ls⟩ := r
 simp only at hb1 hb2
 obtain ⟨R, hR⟩ := H7 (Ag ls)
 rw [← hR]
 rw [← Qp] at hR
 obtain ⟨e, he⟩ := H7 (S1 ls)
 rw [← he] at hR
 have hel : e.length ≤ 1024 := by rw [he]; exact Pz hb1 fun l hl => (hb2 l hl).1
 have hef : ∀ c ∈ e, c.2.length ≤ 70001 := fun c hc => by
  rw [he] at hc
  obtain ⟨l, hl, hc⟩ := List.mem_flatMap.1 hc
  unfold QB at hc
  split at hc
  · obtain ⟨d, hd, rfl⟩ := H0.1 hc
    exact IH ((hb2 l hl).2 d hd)
  · have := (hb2 l hl).2 c hc; omega
 have hml := fun i k => JF hef i k
 refine N6 Tryz.func59 V Tryz.ntmps59 Tryz.results59 (by simp) fun p d0 hex => ?_
 refine L5 (yK (cs := [_, _]) V V (F9 (B5 V (D5 (L5 (yKm V (F9 (yAm V (yQ (D5 (G4 (L5 (CO V (F9 (U3 V V V (F9 (yN V (F9 (C3 V (yQ (D5 (M3 ?_)))))))))))))))))))))); refine JX (fun k : Nat => ⟨51, [(3, .mb 500011), (13, .d (.sl 3 (ls.map V4))), (14, .d (dI ls.length)), (15, .d (dI k))], [(500011, [.mc (P0 (V9 (N9 e (S1 (ls.take k)).length)))])], []⟩) (fun _ => ⟨[], [], none⟩) (fun k => k ≤ ls.length) (fun k => ls.length - k) 0 (D9 _) V
  ⟨rfl, ⟨E0, E0, .of_eq (C7 (fun n : Nat => SV.d (dI n)) (by simp)), E0, D4⟩, ⟨⟨_, rfl, K4 rfl⟩, D4⟩, D4, rfl⟩ ?_
 intro k hk
 rcases D2 k ls.length with h | h
 · have u1 : decide ((k : Int) < (ls.length : Int)) = true := B0 (by omega)
   obtain ⟨⟨a, c, x⟩, hl⟩ : ∃ a, ls[k]? = some a := ⟨_, A5 h⟩
   have ex := ix V4 ls k k (a, c, x) rfl hl
   have hw := I5 ((k : Int) + 1) (by omega)
   have hnk := Ni hl
   have hat : ∀ m d, x[m]? = some d → e[(S1 (ls.take k)).length + m]? = some (if c then ngC d else d) := fun m d hd => by rw [he]; exact lnsC_at hl hd
   obtain ⟨x1, x2⟩ := hb2 _ (B7 hl)
   simp only at hnk x1 x2
   obtain ⟨K, hK⟩ := H7 ((S1 (ls.take k)).length)
   rw [← hK] at hnk hat ⊢
   have arith : ls.length - (k + 1) < ls.length - k := by omega
   clear hl hK hR he
   refine L5 (H3 V (D5 (G4 (OO u1 V (J9 (G4 (M3 (L5 (yW ex (by omega) rfl rfl (F9 (R7 (ys := [_, _, _]) rfl rfl rfl (F9 (yZ (cs := [_, _, _]) rfl rfl (F9 (yS (cs' := [_, _, _]) rfl rfl rfl rfl rfl (yQ (D5 (L5 (CO rfl (F9 (U3 rfl rfl rfl (F9 (yN rfl (F9 (C3 rfl (yQ (D5 (M3 ?_)))))))))))))))))))))))))))); refine JX (fun m : Nat => ⟨51, [(3, .mb 500011), (13, .d (.sl 3 (ls.map V4))), (14, .d (dI ls.length)), (15, .d (dI k)), (5, .bx 5 0), (20, .d (.sl 2 (x.map dCf))), (21, .d (dI x.length)), (22, .d (dI m))], [(500011, [.mc (P0 (V9 (N9 e (K + m))))]), (5, [.d (dS a), .d (dB c), .d (.sl 2 (x.map dCf))])], []⟩) (fun _ => ⟨[], [], none⟩) (fun m => m ≤ x.length) (fun m => x.length - m) 0 (D9 _) V
    ⟨rfl, ⟨E0, E0, E0, E0, E0, E0, .of_eq (C7 (fun n : Nat => SV.d (dI n)) (by simp)), E0, D4⟩, ⟨⟨_, rfl, K4 rfl⟩, ⟨_, rfl, F7 _⟩, D4⟩, D4, rfl⟩ ?_
   intro m hm
   rcases D2 m x.length with h2 | h2
   · have u2 : decide ((m : Int) < (x.length : Int)) = true := B0 (by omega)
     obtain ⟨⟨c0, f⟩, hc⟩ : ∃ a, x[m]? = some a := ⟨_, A5 h2⟩
     have em := ix dCf x m m (c0, f) rfl hc
     have hw2 := I5 ((m : Int) + 1) (by omega)
     have hq := x2 _ (B7 hc)
     simp only at hq
     have hd := hat m _ hc
     have hln := hml (K + m) c0
     have arith2 : x.length - (m + 1) < x.length - m := by omega
     have hKm : K + m < e.length := (A6.1 hd).1
     cases c with
     | false =>
      have hnx : N9 e (K + (m + 1)) = AB c0 (BO (O0 c0 (N9 e (K + m))) f) (N9 e (K + m)) := by
       rw [show K + (m + 1) = (K + m) + 1 by omega, N9, hd]; rfl
      obtain ⟨M, hM⟩ := H7 (N9 e (K + m))
      rw [← hM] at hnx hln ⊢
      have hg := II c0 M
      have k1 := On (O0 c0 M) f (by omega) (by omega)
      have hs : AM c0 (dS (I6 (val (O0 c0 M) + val f))) (V9 M) = V9 (AB c0 (BO (O0 c0 M) f) M) := LB c0 (BO (O0 c0 M) f) M
      obtain ⟨v, hv⟩ := H7 (O0 c0 M)
      rw [← hv] at hg k1 hs hnx
      obtain ⟨M2, hM2⟩ := H7 (AB c0 (BO v f) M)
      rw [← hM2] at hs hnx
      obtain ⟨z, hz⟩ := H7 (I6 (val v + val f))
      rw [← hz] at k1 hs
      clear hz hM2 hv hM hat hml hd
      refine L5 (H3 V (D5 (G4 (OO u2 V (J9 (G4 (M3 (L5 (yW em (by omega) rfl rfl (F9 (R7 (ys := [_, _]) rfl rfl rfl (F9 (yZ (cs := [_, _]) rfl rfl (F9 (yS (cs' := [_, _]) rfl rfl rfl rfl rfl (yQ (D5 (L5 (CO rfl (F9 (U3 rfl rfl rfl (F9 (B5 rfl (D5 (G4 (L5 (CO rfl (F9 (U3 rfl rfl rfl (yQ (D5 (Q0 rfl (J9 ?_))))))))))))))))))))))))))))))))); refine MJ fun B w0 hrl => ?_; refine I7 Tryz.mixed (by kernel_rfl) ?_; refine yMm V (J6 V (yMm V (J6 V (yKl (z := dS []) V V V hg (C3 V (yC (k1) V V (yKu (z := dS []) V V V V hs (yQ (N0 (K9 (G3 V (F9 (C3 V (yQ (D5 (M6 ?_))))))))))))))))
      exact ⟨m + 1, h2, arith2, ⟨rfl, ⟨E0, E0, E0, E0, E0, E0, E0, .of_eq (C7 (fun n => SV.d (dI n)) hw2), D4⟩, ⟨⟨_, V, K4 (by rw [hnx])⟩, ⟨_, rfl, F7 _⟩, D4⟩, D4, rfl⟩, rfl⟩
     | true =>
      have k2 := wNegT f (by omega)
      have hng := IH (c := (c0, f)) hq
      have hnx : N9 e (K + (m + 1)) = AB c0 (BO (O0 c0 (N9 e (K + m))) (I6 (- val f))) (N9 e (K + m)) := by
       rw [show K + (m + 1) = (K + m) + 1 by omega, N9, hd]; rfl
      change (I6 (- val f)).length ≤ _ at hng
      obtain ⟨f2, hf2⟩ := H7 (I6 (- val f))
      rw [← hf2] at hnx k2 hng
      obtain ⟨M, hM⟩ := H7 (N9 e (K + m))
      rw [← hM] at hnx hln ⊢
      have hg := II c0 M
      have k1 := On (O0 c0 M) f2 (by omega) (by omega)
      have hs : AM c0 (dS (I6 (val (O0 c0 M) + val f2))) (V9 M) = V9 (AB c0 (BO (O0 c0 M) f2) M) := LB c0 (BO (O0 c0 M) f2) M
      obtain ⟨v, hv⟩ := H7 (O0 c0 M)
      rw [← hv] at hg k1 hs hnx
      obtain ⟨M2, hM2⟩ := H7 (AB c0 (BO v f2) M)
      rw [← hM2] at hs hnx
      obtain ⟨z, hz⟩ := H7 (I6 (val v + val f2))
      rw [← hz] at k1 hs
      clear hz hM2 hv hM hat hml hd hf2
      refine L5 (H3 V (D5 (G4 (OO u2 V (J9 (G4 (M3 (L5 (yW em (by omega) rfl rfl (F9 (R7 (ys := [_, _]) rfl rfl rfl (F9 (yZ (cs := [_, _]) rfl rfl (F9 (yS (cs' := [_, _]) rfl rfl rfl rfl rfl (yQ (D5 (L5 (CO rfl (F9 (U3 rfl rfl rfl (F9 (B5 rfl (D5 (G4 (L5 (CO rfl (F9 (U3 rfl rfl rfl (yQ (D5 (P3 rfl (N0 (K9 (C3 rfl (F9 (yC (k2) rfl rfl (F9 (B5 rfl ?_))))))))))))))))))))))))))))))))))))))); refine D5 ?_; refine MJ fun B w0 hrl => ?_; refine I7 Tryz.mixed (by kernel_rfl) ?_; refine yMm V (J6 V (yMm V (J6 V (yKl (z := dS []) V V V hg (C3 V (yC (k1) V V (yKu (z := dS []) V V V V hs (yQ (N0 (K9 (G3 V (F9 (C3 V (yQ (D5 (M6 ?_))))))))))))))))
      exact ⟨m + 1, h2, arith2, ⟨rfl, ⟨E0, E0, E0, E0, E0, E0, E0, .of_eq (C7 (fun n => SV.d (dI n)) hw2), D4⟩, ⟨⟨_, V, K4 (by rw [hnx])⟩, ⟨_, rfl, F7 _⟩, D4⟩, D4, rfl⟩, rfl⟩
   · have u2 : decide ((m : Int) < (x.length : Int)) = false := A9 (by omega)
     obtain rfl : m = x.length := by omega
     refine L5 (H3 V (D5 (G4 (ecf u2 V (X6 (N0 (K9 (G3 V (F9 (C3 V (yQ (D5 (M6 ?_)))))))))))))
     exact ⟨k + 1, h, arith, ⟨rfl, ⟨E0, E0, E0, .of_eq (C7 (fun n => SV.d (dI n)) hw), D4⟩, ⟨⟨_, V, K4 (by rw [hnk])⟩, D4⟩, D4, rfl⟩, rfl⟩
 · have u1 : decide ((k : Int) < (ls.length : Int)) = false := A9 (by omega)
   obtain rfl : k = ls.length := by omega
   rw [I3, ← he]
   obtain ⟨M, hM⟩ := H7 (N9 e e.length)
   rw [← hM] at hR ⊢
   clear hml hef hel
   have hone : ∀ q ∈ P0 (V9 M), q.1.oneCell' = true := fun q hq => by obtain ⟨p, -, rfl⟩ := H0.1 hq; rfl
   have hmem : ∀ (kk : Value) (v : DV), (kk, v) ∈ P0 (V9 M) → ∃ p ∈ M, kk = vS p.1 ∧ v = dS p.2 := fun kk v hq => by
    obtain ⟨p, hp, e⟩ := H0.1 hq
    obtain ⟨q, hq2, rfl⟩ := H0.1 hp
    cases e
    exact ⟨q, hq2, V, V⟩
   refine P5 (EU 3 500011 V V) ?_; refine L5 (H3 V (D5 (G4 (ecf u1 V (X6 (G4 (L5 (C3 V (yQ ?_))))))))); refine PV V fun r => ?_; refine M3 ?_; refine JX (fun dn : List (Value × DV) => ⟨51, [(44, .d (.val (.pointer (some ⟨r, 0, none⟩))))], [], []⟩) (fun dn => ⟨[], [], some (r, P0 (V9 M), dn)⟩) (fun dn => SeenZ (P0 (V9 M)) dn) (fun dn => (P0 (V9 M)).length - dn.length) [] ⟨⟨_, List.Perm.refl _⟩, fun q hq => by simp at hq⟩ rfl
    ⟨rfl, ⟨E0, D4⟩, D4, D4, rfl⟩ ?_
   rintro dn ⟨⟨rl0, hdn⟩, hz⟩
   refine G4 (N0 ?_); refine P4 (PY V V (fun hp => ?_) (fun kk v rl hq hp hk1 => ?_) hone); refine K9 (yX V V (yQ (D5 (G4 (Q0 V (X6 (L5 (B5 V (D5 (M5 ?_))))))))))
   · have hRt : R = true := by
      rw [hR, E5]
      intro p hp2
      have : (vS p.1, dS p.2) ∈ dn := hp.mem_iff.2 (H0.2 ⟨(p.1, dS p.2), H0.2 ⟨p, hp2, rfl⟩, rfl⟩)
      rw [vS_inj0 (hz _ this)]; rfl
     subst hRt
     skip
     exact L8 _ (.tmp V .nil) V
   · obtain ⟨p, hpM, rfl, rfl⟩ := hmem kk v hq
     have hlen := hp.length_eq
     rw [D7, List.length_cons] at hlen
     by_cases h0 : p.2 = []
     · have t1 : (!p.2 == []) = false := by simp [h0]
       have hz2 : SeenZ (P0 (V9 M)) (dn ++ [(vS p.1, dS p.2)]) := ⟨⟨rl, by rw [H1]; exact hp⟩, fun q hq => by
        rcases List.mem_append.1 hq with hq | hq
        · exact hz q hq
        · rw [List.mem_singleton.1 hq, h0]⟩
       refine K9 (yX V V (yQ (D5 (G4 (P3 V (J9 (M3 (G4 (N0 ?_))))))))); refine P4 (IC V (List.getLast?_concat ..) V V ?_); refine K9 (yX V V (F9 (B5 V (D5 (L5 (C3 V (F9 (O6 V V (yQ (D5 (M6 (ecf t1 V (J9 (PP (M6 ?_)))))))))))))))
       exact ⟨dn ++ [(vS p.1, dS p.2)], hz2, by rw [D7]; simp only [List.length_cons, List.length_nil]; omega, ⟨rfl, ⟨E0, D4⟩, D4, D4, rfl⟩, rfl⟩
     · have t1 : (!p.2 == []) = true := by simp [h0]
       have hRf : R = false := by
        rw [hR, List.all_eq_false]
        exact ⟨p, hpM, by simp [h0]⟩
       subst hRf
       refine K9 (yX V V (yQ (D5 (G4 (P3 V (J9 (M3 (G4 (N0 ?_))))))))); refine P4 (IC V (List.getLast?_concat ..) V V ?_); refine K9 (yX V V (F9 (B5 V (D5 (L5 (C3 V (F9 (O6 V V (yQ (D5 (M6 (OO t1 V (L5 (B5 V (D5 (M5 (L2 (I1 (L2 (I1 ?_))))))))))))))))))))
       exact L8 _ (.tmp V .nil) V
theorem De (r : Ru) (hb : OH r) : PCalls Tryz.prog 16 [.agg (U4 r)] (.tup [dB (decide (U2 r = 0) && Ag r.2), dI (U2 r)]) := by
 have c1 := Fc r hb
 by_cases h : U2 r = 0
 · obtain ⟨h1, h2, h3⟩ := (Ct (tp := P1 J5) (ce := BT)).1 h
   have c2 := Dd r h2 fun l hl => ⟨(S8.1 (h3 l hl).2).1, fun c hc => ((hb.2 l hl).2.2 c hc).2⟩
   rw [h] at c1 ⊢
   rw [B0 rfl, Bool.true_and]
   obtain ⟨b, hbb⟩ := H7 (Ag r.2)
   rw [← hbb] at c2 ⊢
   obtain ⟨n, ls⟩ := r
   obtain ⟨L, hL⟩ : ∃ L : DV, L = .sl 3 (ls.map V4) := ⟨_, rfl⟩
   simp only [U4] at c1 c2
   rw [← hL] at c1 c2
   show PCalls Tryz.prog 16 [.agg [dI n, .sl 3 (ls.map V4)]] _
   rw [← hL]
   clear hL hbb h h1 h2 h3 hb
   refine B3 Tryz.func16 V Tryz.ntmps16 Tryz.results16 (by simp) fun B w0 => ?_
   refine D8 (yK (cs := [_, _]) V V (H4 V (B5 V (A8 (D8 (BU (ys := [_, _]) V V V V (yC (c1) V V (B5 V (H8 V (H3 V (F6 V (B2 (D8 (BU (ys := [_, _]) V V V V (yC (c2) V V (H4 V (B5 V (C4 ?_))))))))))))))))))
   exact C9 _ (.tmp V (.tmp V .nil)) V
 · rw [A9 h, Bool.false_and]
   have t1 : (U2 r != 0) = true := by simp [h]
   obtain ⟨x, hx⟩ := H7 (U2 r)
   rw [← hx] at c1 t1 ⊢
   obtain ⟨n, ls⟩ := r
   obtain ⟨L, hL⟩ : ∃ L : DV, L = .sl 3 (ls.map V4) := ⟨_, rfl⟩
   simp only [U4] at c1
   rw [← hL] at c1
   show PCalls Tryz.prog 16 [.agg [dI n, .sl 3 (ls.map V4)]] _
   rw [← hL]
   clear hL hx h hb
   refine B3 Tryz.func16 V Tryz.ntmps16 Tryz.results16 (by simp) fun B w0 => ?_
   refine D8 (yK (cs := [_, _]) V V (H4 V (B5 V (A8 (D8 (BU (ys := [_, _]) V V V V (yC (c1) V V (B5 V (H8 V (H3 V (B1 (J8 t1 V (H8 V (H4 V (B5 V (C4 (A4 ?_)))))))))))))))))
   exact C9 _ (.tmp V (.tmp V .nil)) V
end Go.Proofs.YtddfimjiihggmaaGreatDoor