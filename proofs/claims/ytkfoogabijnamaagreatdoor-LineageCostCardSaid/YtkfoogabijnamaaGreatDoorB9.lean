/- Walks: the laws of heirs and origins. -/
import Derived.Test.YtkfoogabijnamaaGreatDoorB8
namespace Go.Proofs.YtkfoogabijnamaaGreatDoor
open Go.RowKit Px

end Go.Proofs.YtkfoogabijnamaaGreatDoor
namespace Go.Proofs.YtkfoogabijnamaaGreatDoor
open Go.RowKit Px

theorem cmp0 : sgnT [] = 0 := by kernel_rfl
set_option maxRecDepth 20000 in
set_option maxHeartbeats 8000000 in
theorem lawCost (l : List Stp) : PCalls Tryz.prog 6 [dSl l] (.d (dB true)) := by
  have k0 := wAwake
  have k1 := wBigL l
  cases hg : bigL l with
  | true =>
    rw [hg] at k1
    refine pcalls_of_pw Tryz.func6 rfl Tryz.ntmps6 Tryz.results6 (by simp) fun B w0 => ?_
    refine pw_seq ?_; refine pw_region ?_; refine yAd rfl ?_; refine yQ ?_; refine pw_seq ?_; refine pw_seq ?_; refine pw_region ?_; refine yMd rfl ?_; refine yC (k1) rfl rfl ?_; refine yMd rfl ?_; refine yO rfl ?_; refine yO rfl ?_
    refine yO rfl ?_; refine yPd rfl rfl ?_; refine yMd rfl ?_; refine yO rfl ?_; refine yO rfl ?_; refine yO rfl ?_; refine yPd rfl rfl ?_; refine yQ ?_; refine pw_ct rfl ?_; refine pw_seq ?_; refine pw_region ?_
    refine yC (k0) rfl rfl ?_; refine yAd rfl ?_; refine yQ ?_; refine pw_ret ?_; refine q_then_ret ?_
    exact q_ret _ (.tmp rfl .nil) rfl
  | false =>
  rw [hg] at k1
  have hb := bigL_bd hg
  have hb60 := (bigL_small hg).2.2
  have hll := hb.1
  by_cases hn : 16 < l.length
  · have t0 : decide (((l.map dSp).length : Int) > 16) = true := decide_eq_true (by rw [List.length_map]; omega)
    refine pcalls_of_pw Tryz.func6 rfl Tryz.ntmps6 Tryz.results6 (by simp) fun B w0 => ?_
    refine pw_seq ?_; refine pw_region ?_; refine yAd rfl ?_; refine yQ ?_; refine pw_seq ?_; refine pw_seq ?_; refine pw_region ?_; refine yMd rfl ?_; refine yC (k1) rfl rfl ?_; refine yMd rfl ?_; refine yMd rfl ?_; refine yN rfl ?_
    refine yB rfl rfl rfl rfl ?_; refine yVd rfl rfl ?_; refine yMd rfl ?_; rw [t0]; refine yO rfl ?_; refine yO rfl ?_; refine yO rfl ?_; refine yPd rfl rfl ?_; refine yQ ?_; refine pw_ct rfl ?_; refine pw_seq ?_; refine pw_region ?_
    refine yC (k0) rfl rfl ?_; refine yAd rfl ?_; refine yQ ?_; refine pw_ret ?_; refine q_then_ret ?_
    exact q_ret _ (.tmp rfl .nil) rfl
  have t0 : decide (((l.map dSp).length : Int) > 16) = false := decide_eq_false (by rw [List.length_map]; omega)
  have k2 := wChk l hb
  by_cases hc : chkE l = 0
  rotate_left
  · have t1 : (chkE l != 0) = true := by simpa using hc
    refine pcalls_of_pw Tryz.func6 rfl Tryz.ntmps6 Tryz.results6 (by simp) fun B w0 => ?_
    refine pw_seq ?_; refine pw_region ?_; refine yAd rfl ?_; refine yQ ?_; refine pw_seq ?_; refine pw_seq ?_; refine pw_region ?_; refine yMd rfl ?_; refine yC (k1) rfl rfl ?_; refine yMd rfl ?_; refine yMd rfl ?_; refine yN rfl ?_
    refine yB rfl rfl rfl rfl ?_; refine yVd rfl rfl ?_; refine yMd rfl ?_; rw [t0]; refine yMd rfl ?_; refine yC (k2) rfl rfl ?_; refine yB rfl rfl rfl rfl ?_; refine yVd rfl rfl ?_; refine yQ ?_; refine q_then ?_; rw [t1]
    refine pw_ct rfl ?_; refine pw_seq ?_; refine pw_region ?_; refine yC (k0) rfl rfl ?_; refine yAd rfl ?_; refine yQ ?_; refine pw_ret ?_; refine q_then_ret ?_
    exact q_ret _ (.tmp rfl .nil) rfl
  rw [hc] at k2
  have hok := chk_ok hc
  have k3 := wLots l (by omega)
  have k4 : ∀ x, x ≠ [] → PCalls Tryz.prog 24 [dSl l, dS x] (.tup [dS (canon (sumF (inF x) l)), dS (canon (sumF (ouF x) l)), dI 0]) := fun x hx => by
    have := wThrough l x hb
    rwa [thI, thO, okE, if_pos ⟨hc, hx⟩, if_pos ⟨hc, hx⟩, if_pos hc] at this
  have y1 : ∀ x ∈ lotN l, x ≠ [] := fun x hx => lotN_ne hx
  have y2 := cos_zero l
  have y3 : ∀ x, (canon (sumF (inF x) l)).length ≤ 1000 ∧ (canon (sumF (ouF x) l)).length ≤ 1000 := fun x => by
    have h1 := canon_le (sumF_full (inF_le (id := x) hb60))
    have h2 := canon_le (sumF_full (ouF_le (id := x) hb60))
    exact ⟨by omega, by omega⟩
  have y4 : ∀ x, (canon (cosF l x)).length ≤ 1000 := fun x => by
    have h1 := cosF_le hb60 (by omega) x
    have h2 : (cosF l x).natAbs < 10 ^ 94 := by
      have : (10 : Nat) ^ 92 + 10 ^ 92 < 10 ^ 94 := by decide
      omega
    have := canon_le h2
    omega
  have hAl := lotN_len l
  obtain ⟨A, hA⟩ : ∃ A, A = lotN l := ⟨_, rfl⟩
  rw [← hA] at k3 hAl y2 y1
  have y5 : ∀ n, n ≤ A.length → (canon (cosA l (A.take n))).length ≤ 1000 := fun n hn => by
    have := canon_le (cosA_lt hb60 (by omega) A n)
    omega
  have hA0 : cosA l (A.take A.length) = cosA l A := by rw [List.take_length]
  refine pcalls_of_pw Tryz.func6 rfl Tryz.ntmps6 Tryz.results6 (by simp) fun B w0 => ?_
  refine pw_seq ?_; refine pw_region ?_; refine yAd rfl ?_; refine yQ ?_; refine pw_seq ?_; refine pw_seq ?_; refine pw_region ?_; refine yMd rfl ?_; refine yC (k1) rfl rfl ?_; refine yMd rfl ?_; refine yMd rfl ?_; refine yN rfl ?_
  refine yB rfl rfl rfl rfl ?_; refine yVd rfl rfl ?_; refine yMd rfl ?_; rw [t0]; refine yMd rfl ?_; refine yC (k2) rfl rfl ?_; refine yB rfl rfl rfl rfl ?_; refine yVd rfl rfl ?_; refine yQ ?_; refine pw_cf rfl ?_; refine pw_skip ?_
  refine pw_seq ?_; refine pw_region ?_; refine yAd rfl ?_; refine yQ ?_; refine pw_seq ?_; refine pw_seq ?_; refine pw_region ?_; refine yMd rfl ?_; refine yC (k3) rfl rfl ?_; refine yN rfl ?_; refine yMd rfl ?_; refine yQ ?_
  refine pw_block ?_
  refine pw_loop (fun i : Nat => ⟨73, [(0, .d (dSl l)), (3, .d (dS (canon (cosA l (A.take i))))), (25, .d (dStrs A)), (26, .d (dI A.length)), (27, .d (dI i))], [], []⟩) (fun i => i ≤ A.length) (fun i => A.length - i) 0 (Nat.zero_le _) ⟨rfl, ⟨.refl _, .of_eq (congrArg (fun n => SV.d (dS n)) canon_zero.symm), .refl _, .of_eq (congrArg (fun n : Nat => SV.d (dI n)) (by simp)), .refl _, trivial⟩, trivial, trivial, rfl⟩ ?_
  intro i hi
  rcases Nat.lt_or_ge i A.length with h | h
  · have u1 : decide ((i : Int) < (A.length : Int)) = true := decide_eq_true (by omega)
    obtain ⟨x, hx⟩ : ∃ a, A[i]? = some a := ⟨_, List.getElem?_eq_getElem h⟩
    have ex := ix (fun s => [dS s]) A i i x rfl hx
    have hw := wrapI ((i : Int) + 1) (by omega)
    have m4 := k4 x (y1 x (List.mem_of_getElem? hx))
    obtain ⟨l1, l2⟩ := y3 x
    have c1 := wSubT (canon (sumF (inF x) l)) (canon (sumF (ouF x) l)) (by omega) (by omega)
    rw [val_canon, val_canon] at c1
    have e1 : sumF (inF x) l - sumF (ouF x) l = cosF l x := rfl
    rw [e1] at c1
    have l3 := y5 i hi
    have l4 := y4 x
    have c2 := wAddT (canon (cosA l (A.take i))) (canon (cosF l x)) (by omega) (by omega)
    rw [val_canon, val_canon, ← cosA_next hx] at c2
    obtain ⟨a, ha⟩ : ∃ a, a = canon (sumF (inF x) l) := ⟨_, rfl⟩
    obtain ⟨b, hb'⟩ : ∃ a, a = canon (sumF (ouF x) l) := ⟨_, rfl⟩
    obtain ⟨c, hc'⟩ : ∃ a, a = canon (cosF l x) := ⟨_, rfl⟩
    obtain ⟨d, hd⟩ : ∃ a, a = canon (cosA l (A.take i)) := ⟨_, rfl⟩
    rw [← ha, ← hb'] at m4 c1
    rw [← hc'] at c1 c2
    rw [← hd] at c2 ⊢
    refine pw_seq ?_; refine pw_region ?_; refine yB rfl rfl rfl rfl ?_; refine yQ ?_; refine pw_seq ?_; rw [u1]; refine pw_ct rfl ?_; refine pw_skip ?_; refine pw_seq ?_; refine pw_block ?_; refine pw_seq ?_; refine pw_region ?_
    refine yW ex (by omega) rfl rfl ?_; refine yLr rfl rfl ?_; refine yAd rfl ?_; refine yQ ?_; refine pw_seq ?_; refine pw_region ?_; refine yMd rfl ?_; refine yMd rfl ?_; refine yC (m4) rfl rfl ?_; refine yMp rfl ?_
    refine yX rfl rfl ?_; refine yX rfl rfl ?_; refine yX rfl rfl ?_; refine yAd rfl ?_; refine yAd rfl ?_; refine yAd rfl ?_; refine yQ ?_; refine pw_seq ?_; refine pw_seq ?_; refine pw_region ?_; refine yMd rfl ?_
    refine yB rfl rfl rfl rfl ?_; refine yQ ?_; refine pw_cf rfl ?_; refine pw_skip ?_; refine pw_region ?_; refine yMd rfl ?_; refine yMd rfl ?_; refine yMd rfl ?_; refine yC (c1) rfl rfl ?_; refine yC (c2) rfl rfl ?_
    refine yAd rfl ?_; refine yQ ?_; refine pw_region ?_; refine yB rfl rfl rfl rfl ?_; refine yMd rfl ?_; refine yQ ?_; refine q_then ?_
    exact ⟨i + 1, by omega, by omega, rfl, ⟨.refl _, .refl _, .refl _, .refl _, .of_eq (congrArg (fun n => SV.d (dI n)) hw), trivial⟩, trivial, trivial, rfl⟩
  have u1 : decide ((i : Int) < (A.length : Int)) = false := decide_eq_false (by omega)
  obtain rfl : i = A.length := by omega
  rw [hA0]
  have l5 := y5 A.length (Nat.le_refl _)
  rw [hA0] at l5
  obtain ⟨Z, hZ⟩ : ∃ Z, Z = cosA l A := ⟨_, rfl⟩
  have hZl : Z.natAbs < 10 ^ 156 := by
    have h1 := cosA_lt hb60 (by omega) A A.length
    rw [hA0, ← hZ] at h1
    have h2 : (10 : Nat) ^ (92 + 2 * A.length) ≤ 10 ^ 156 := Nat.pow_le_pow_right (by omega) (by omega)
    omega
  have y6 : ∀ n, (canon (Z + sumF cosB (l.take n))).length ≤ 1000 := fun n => by
    have h1 := sumF_lt (cosB_le hb60) (min n l.length)
    have h2 : (10 : Nat) ^ (60 + 2 * min n l.length) ≤ 10 ^ 156 := Nat.pow_le_pow_right (by omega) (by omega)
    have h3 : l.take (min n l.length) = l.take n := by
      rcases Nat.le_total n l.length with h | h
      · rw [Nat.min_eq_left h]
      · rw [Nat.min_eq_right h, List.take_of_length_le (Nat.le_refl _), List.take_of_length_le h]
    rw [h3] at h1
    have h4 : (Z + sumF cosB (l.take n)).natAbs < 10 ^ 158 := by
      have : (10 : Nat) ^ 156 + 10 ^ 156 < 10 ^ 158 := by decide
      omega
    have := canon_le h4
    omega
  rw [← hZ] at y2 l5 ⊢
  clear hZl l5 y5 y4 y3 k4
  refine pw_seq ?_; refine pw_region ?_; refine yB rfl rfl rfl rfl ?_; refine yQ ?_; refine pw_seq ?_; rw [u1]; refine pw_cf rfl ?_; refine pw_exit ?_; refine pw_seq ?_; refine pw_seq ?_; refine pw_region ?_; refine yMd rfl ?_
  refine yN rfl ?_; refine yMd rfl ?_; refine yQ ?_; refine pw_block ?_
  refine pw_loop (fun i : Nat => ⟨73, [(3, .d (dS (canon (Z + sumF cosB (l.take i))))), (46, .d (dSl l)), (47, .d (dI l.length)), (48, .d (dI i))], [], []⟩) (fun i => i ≤ l.length) (fun i => l.length - i) 0 (Nat.zero_le _) ⟨rfl, ⟨.of_eq (congrArg (fun n => SV.d (dS (canon n))) (by simp [sumF])), .refl _, .of_eq (congrArg (fun n : Nat => SV.d (dI n)) (by simp)), .refl _, trivial⟩, trivial, trivial, rfl⟩ ?_
  intro i hi
  rcases Nat.lt_or_ge i l.length with h | h
  · have u2 : decide ((i : Int) < (l.length : Int)) = true := decide_eq_true (by omega)
    obtain ⟨s, hx⟩ : ∃ a, l[i]? = some a := ⟨_, List.getElem?_eq_getElem h⟩
    have hs := List.mem_of_getElem? hx
    have ex := ix dSp l i i s rfl hx
    have hw := wrapI ((i : Int) + 1) (by omega)
    have n1 := sumF_next (g := cosB) hx
    have l6 := y6 i
    have hbk := (hb.2 s hs).2.2.2.2.2
    have hft := (hok s hs).ft
    obtain ⟨X, hX⟩ : ∃ X, X = Z + sumF cosB (l.take i) := ⟨_, rfl⟩
    have n2 : Z + sumF cosB (l.take (i + 1)) = X + cosB s := by rw [n1, hX]; omega
    rw [← hX] at l6 ⊢
    have c1 := wAddT (canon X) s.k (by omega) (by omega)
    have c2 := wSubT (canon X) s.k (by omega) (by omega)
    rw [val_canon] at c1 c2
    rw [cosB] at n2
    clear n1 hX y6
    by_cases e1 : s.f = []
    · have a1 : (s.f == []) = true := by simp [e1]
      have e2 : ¬ s.t = [] := fun e => hft (e1.trans e.symm)
      have a2 : (s.t == []) = false := by simpa using e2
      rw [if_neg e2, if_pos e1, show X + (0 - val s.k) = X - val s.k by omega] at n2
      refine pw_seq ?_; refine pw_region ?_; refine yB rfl rfl rfl rfl ?_; refine yQ ?_; refine pw_seq ?_; rw [u2]; refine pw_ct rfl ?_; refine pw_skip ?_; refine pw_seq ?_; refine pw_block ?_; refine pw_seq ?_; refine pw_region ?_
      refine yW ex (by omega) rfl rfl ?_; refine yLs (ys := [_, _, _, _, _, _]) rfl rfl rfl ?_; refine yZ (cs := [_, _, _, _, _, _]) rfl rfl ?_; refine yS (cs' := [_, _, _, _, _, _]) rfl rfl rfl rfl rfl ?_; refine yQ ?_; refine pw_seq ?_
      refine pw_seq ?_; refine pw_region ?_; refine yFb rfl ?_; refine yLd rfl rfl rfl ?_; refine yBse rfl rfl ?_; refine yQ ?_; refine q_then ?_; rw [a1]; refine pw_ct rfl ?_; refine pw_region ?_; refine yMd rfl ?_; refine yFb rfl ?_
      refine yLd rfl rfl rfl ?_; refine yC (c2) rfl rfl ?_; refine yAd rfl ?_; refine yQ ?_; refine pw_seq ?_; refine pw_region ?_; refine yFb rfl ?_; refine yLd rfl rfl rfl ?_; refine yBse rfl rfl ?_; refine yQ ?_; refine q_then ?_
      rw [a2]; refine pw_cf rfl ?_; refine pw_skip ?_; refine pw_region ?_; refine yB rfl rfl rfl rfl ?_; refine yMd rfl ?_; refine yQ ?_; refine q_then ?_
      exact ⟨i + 1, h, by omega, rfl, ⟨.of_eq (by rw [n2] <;> rfl), .refl _, .refl _, .of_eq (congrArg (fun n => SV.d (dI n)) hw), trivial⟩, trivial, trivial, rfl⟩
    · have a1 : (s.f == []) = false := by simpa using e1
      by_cases e2 : s.t = []
      · have a2 : (s.t == []) = true := by simp [e2]
        rw [if_pos e2, if_neg e1, Int.sub_zero] at n2
        refine pw_seq ?_; refine pw_region ?_; refine yB rfl rfl rfl rfl ?_; refine yQ ?_; refine pw_seq ?_; rw [u2]; refine pw_ct rfl ?_; refine pw_skip ?_; refine pw_seq ?_; refine pw_block ?_; refine pw_seq ?_; refine pw_region ?_
        refine yW ex (by omega) rfl rfl ?_; refine yLs (ys := [_, _, _, _, _, _]) rfl rfl rfl ?_; refine yZ (cs := [_, _, _, _, _, _]) rfl rfl ?_; refine yS (cs' := [_, _, _, _, _, _]) rfl rfl rfl rfl rfl ?_; refine yQ ?_; refine pw_seq ?_
        refine pw_seq ?_; refine pw_region ?_; refine yFb rfl ?_; refine yLd rfl rfl rfl ?_; refine yBse rfl rfl ?_; refine yQ ?_; refine q_then ?_; rw [a1]; refine pw_cf rfl ?_; refine pw_skip ?_; refine pw_seq ?_; refine pw_region ?_
        refine yFb rfl ?_; refine yLd rfl rfl rfl ?_; refine yBse rfl rfl ?_; refine yQ ?_; refine q_then ?_; rw [a2]; refine pw_ct rfl ?_; refine pw_region ?_; refine yMd rfl ?_; refine yFb rfl ?_; refine yLd rfl rfl rfl ?_
        refine yC (c1) rfl rfl ?_; refine yAd rfl ?_; refine yQ ?_; refine pw_region ?_; refine yB rfl rfl rfl rfl ?_; refine yMd rfl ?_; refine yQ ?_; refine q_then ?_
        exact ⟨i + 1, h, by omega, rfl, ⟨.of_eq (by rw [n2] <;> rfl), .refl _, .refl _, .of_eq (congrArg (fun n => SV.d (dI n)) hw), trivial⟩, trivial, trivial, rfl⟩
      · have a2 : (s.t == []) = false := by simpa using e2
        rw [if_neg e2, if_neg e1, Int.sub_zero, Int.add_zero] at n2
        refine pw_seq ?_; refine pw_region ?_; refine yB rfl rfl rfl rfl ?_; refine yQ ?_; refine pw_seq ?_; rw [u2]; refine pw_ct rfl ?_; refine pw_skip ?_; refine pw_seq ?_; refine pw_block ?_; refine pw_seq ?_; refine pw_region ?_
        refine yW ex (by omega) rfl rfl ?_; refine yLs (ys := [_, _, _, _, _, _]) rfl rfl rfl ?_; refine yZ (cs := [_, _, _, _, _, _]) rfl rfl ?_; refine yS (cs' := [_, _, _, _, _, _]) rfl rfl rfl rfl rfl ?_; refine yQ ?_; refine pw_seq ?_
        refine pw_seq ?_; refine pw_region ?_; refine yFb rfl ?_; refine yLd rfl rfl rfl ?_; refine yBse rfl rfl ?_; refine yQ ?_; refine q_then ?_; rw [a1]; refine pw_cf rfl ?_; refine pw_skip ?_; refine pw_seq ?_; refine pw_region ?_
        refine yFb rfl ?_; refine yLd rfl rfl rfl ?_; refine yBse rfl rfl ?_; refine yQ ?_; refine q_then ?_; rw [a2]; refine pw_cf rfl ?_; refine pw_skip ?_; refine pw_region ?_; refine yB rfl rfl rfl rfl ?_; refine yMd rfl ?_
        refine yQ ?_; refine q_then ?_
        exact ⟨i + 1, h, by omega, rfl, ⟨.of_eq (by rw [n2] <;> rfl), .refl _, .refl _, .of_eq (congrArg (fun n => SV.d (dI n)) hw), trivial⟩, trivial, trivial, rfl⟩
  have u2 : decide ((i : Int) < (l.length : Int)) = false := decide_eq_false (by omega)
  rw [List.take_of_length_le h, y2, canon_zero]
  have c3 := wCmp0 [] (by simp)
  rw [cmp0] at c3
  refine pw_seq ?_; refine pw_region ?_; refine yB rfl rfl rfl rfl ?_; refine yQ ?_; refine pw_seq ?_; rw [u2]; refine pw_cf rfl ?_; refine pw_exit ?_; refine pw_seq ?_; refine pw_region ?_; refine yMd rfl ?_
  refine yC (c3) rfl rfl ?_; refine yB rfl rfl rfl rfl ?_; refine yMd rfl ?_; refine yC (k0) rfl rfl ?_; refine yPd rfl rfl ?_; refine yAd rfl ?_; refine yQ ?_; refine pw_ret ?_
  exact q_ret _ (.tmp rfl .nil) rfl
end Go.Proofs.YtkfoogabijnamaaGreatDoor
