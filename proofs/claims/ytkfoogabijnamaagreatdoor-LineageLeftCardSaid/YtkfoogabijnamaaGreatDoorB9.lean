/- Walks: the laws of heirs and origins. -/
import Derived.Test.YtkfoogabijnamaaGreatDoorB8
namespace Go.Proofs.YtkfoogabijnamaaGreatDoor
open Go.RowKit Px

set_option maxRecDepth 20000 in
theorem wLef1 (s : Stp) (p : Str × Str) : PCalls Tryz.prog 32 [.agg (dSp s), .ref (dPk p)] (.d (dB (frB p.1 s))) := by
  obtain ⟨c, f, t, q, m, k⟩ := s
  obtain ⟨x, y⟩ := p
  have e : frB x ⟨c, f, t, q, m, k⟩ = (f == x) := rfl
  show PCalls Tryz.prog 32 _ (.d (dB (frB x _)))
  rw [e]
  obtain ⟨b, hb⟩ : ∃ b, b = (f == x) := ⟨_, rfl⟩
  rw [← hb]
  refine pcalls_of_pw Tryz.func32 rfl Tryz.ntmps32 Tryz.results32 (by simp) fun B w0 => ?_
  refine pw_ref 1 rfl ?_
  refine pw_seq ?_; refine pw_region ?_; refine yK (cs := [_, _, _, _, _, _]) rfl rfl ?_; refine yAd rfl ?_; refine yQ ?_; refine pw_seq ?_; refine pw_region ?_; refine yFb rfl ?_; refine yLd rfl rfl rfl ?_; refine yFr rfl rfl ?_
  refine yLr rfl rfl ?_; refine yBse rfl rfl ?_; refine yAd rfl ?_; refine yQ ?_; refine pw_ret ?_; rw [← hb]
  exact q_ret _ (.tmp rfl .nil) rfl
theorem hPhLef1 (p : Str × Str) : ∀ xs r, phP (frB p.1) xs r → PCalls Tryz.prog 32 (xs ++ [.ref (dPk p)]) r := by
  rintro _ _ ⟨c, rfl, rfl⟩
  exact wLef1 c p

end Go.Proofs.YtkfoogabijnamaaGreatDoor
namespace Go.Proofs.YtkfoogabijnamaaGreatDoor
open Go.RowKit Px

theorem cmp0 : sgnT [] = 0 := by kernel_rfl
end Go.Proofs.YtkfoogabijnamaaGreatDoor
namespace Go.Proofs.YtkfoogabijnamaaGreatDoor
open Go.RowKit Px

set_option maxRecDepth 20000 in
set_option maxHeartbeats 8000000 in
theorem lawLeft (l : List Stp) : PCalls Tryz.prog 5 [dSl l] (.d (dB true)) := by
  have k0 := wAwake
  have k1 := wBigL l
  cases hg : bigL l with
  | true =>
    rw [hg] at k1
    refine pcalls_of_pw Tryz.func5 rfl Tryz.ntmps5 Tryz.results5 (by simp) fun B w0 => ?_
    refine pw_seq ?_; refine pw_region ?_; refine yAd rfl ?_; refine yQ ?_; refine pw_seq ?_; refine pw_seq ?_; refine pw_region ?_; refine yMd rfl ?_; refine yC (k1) rfl rfl ?_; refine yMd rfl ?_; refine yO rfl ?_; refine yO rfl ?_
    refine yO rfl ?_; refine yPd rfl rfl ?_; refine yMd rfl ?_; refine yO rfl ?_; refine yO rfl ?_; refine yO rfl ?_; refine yPd rfl rfl ?_; refine yQ ?_; refine pw_ct rfl ?_; refine pw_seq ?_; refine pw_region ?_
    refine yC (k0) rfl rfl ?_; refine yAd rfl ?_; refine yQ ?_; refine pw_ret ?_; refine q_then_ret ?_
    exact q_ret _ (.tmp rfl .nil) rfl
  | false =>
  rw [hg] at k1
  have hb := bigL_bd hg
  have hb60 := (bigL_small hg).2.2
  have hll := hb.1
  by_cases hn : 16 < l.length
  · have t0 : decide (((l.map dSp).length : Int) > 16) = true := decide_eq_true (by rw [List.length_map]; omega)
    refine pcalls_of_pw Tryz.func5 rfl Tryz.ntmps5 Tryz.results5 (by simp) fun B w0 => ?_
    refine pw_seq ?_; refine pw_region ?_; refine yAd rfl ?_; refine yQ ?_; refine pw_seq ?_; refine pw_seq ?_; refine pw_region ?_; refine yMd rfl ?_; refine yC (k1) rfl rfl ?_; refine yMd rfl ?_; refine yMd rfl ?_; refine yN rfl ?_
    refine yB rfl rfl rfl rfl ?_; refine yVd rfl rfl ?_; refine yMd rfl ?_; rw [t0]; refine yO rfl ?_; refine yO rfl ?_; refine yO rfl ?_; refine yPd rfl rfl ?_; refine yQ ?_; refine pw_ct rfl ?_; refine pw_seq ?_; refine pw_region ?_
    refine yC (k0) rfl rfl ?_; refine yAd rfl ?_; refine yQ ?_; refine pw_ret ?_; refine q_then_ret ?_
    exact q_ret _ (.tmp rfl .nil) rfl
  have t0 : decide (((l.map dSp).length : Int) > 16) = false := decide_eq_false (by rw [List.length_map]; omega)
  have k2 := wChk l hb
  by_cases hc : chkE l = 0
  rotate_left
  · have t1 : (chkE l != 0) = true := by simpa using hc
    refine pcalls_of_pw Tryz.func5 rfl Tryz.ntmps5 Tryz.results5 (by simp) fun B w0 => ?_
    refine pw_seq ?_; refine pw_region ?_; refine yAd rfl ?_; refine yQ ?_; refine pw_seq ?_; refine pw_seq ?_; refine pw_region ?_; refine yMd rfl ?_; refine yC (k1) rfl rfl ?_; refine yMd rfl ?_; refine yMd rfl ?_; refine yN rfl ?_
    refine yB rfl rfl rfl rfl ?_; refine yVd rfl rfl ?_; refine yMd rfl ?_; rw [t0]; refine yMd rfl ?_; refine yC (k2) rfl rfl ?_; refine yB rfl rfl rfl rfl ?_; refine yVd rfl rfl ?_; refine yQ ?_; refine q_then ?_; rw [t1]
    refine pw_ct rfl ?_; refine pw_seq ?_; refine pw_region ?_; refine yC (k0) rfl rfl ?_; refine yAd rfl ?_; refine yQ ?_; refine pw_ret ?_; refine q_then_ret ?_
    exact q_ret _ (.tmp rfl .nil) rfl
  rw [hc] at k2
  have k3 := wLeft l hb
  have hE : lefE l = if shoB l then 15 else 0 := by rw [lefE, if_pos hc]
  cases hsh : shoB l with
  | true =>
    rw [hsh, if_pos rfl] at hE
    rw [lefR, hE, if_neg (by omega)] at k3
    refine pcalls_of_pw Tryz.func5 rfl Tryz.ntmps5 Tryz.results5 (by simp) fun B w0 => ?_
    refine pw_seq ?_; refine pw_region ?_; refine yAd rfl ?_; refine yQ ?_; refine pw_seq ?_; refine pw_seq ?_; refine pw_region ?_; refine yMd rfl ?_; refine yC (k1) rfl rfl ?_; refine yMd rfl ?_; refine yMd rfl ?_; refine yN rfl ?_
    refine yB rfl rfl rfl rfl ?_; refine yVd rfl rfl ?_; refine yMd rfl ?_; rw [t0]; refine yMd rfl ?_; refine yC (k2) rfl rfl ?_; refine yB rfl rfl rfl rfl ?_; refine yVd rfl rfl ?_; refine yQ ?_; refine pw_cf rfl ?_; refine pw_skip ?_
    refine pw_seq ?_; refine pw_region ?_; refine yMd rfl ?_; refine yC (k3) rfl rfl ?_; refine yMp rfl ?_; refine yX rfl rfl ?_; refine yX rfl rfl ?_; refine yAd rfl ?_; refine yAd rfl ?_; refine yQ ?_; refine pw_seq ?_
    refine pw_seq ?_; refine pw_region ?_; refine yMd rfl ?_; refine yB rfl rfl rfl rfl ?_; refine yQ ?_; refine pw_ct rfl ?_; refine pw_seq ?_; refine pw_region ?_; refine yMd rfl ?_; refine yB rfl rfl rfl rfl ?_; refine yMd rfl ?_
    refine yMd rfl ?_; refine yN rfl ?_; refine yB rfl rfl rfl rfl ?_; refine yPd rfl rfl ?_; refine yMd rfl ?_; refine yC (k0) rfl rfl ?_; refine yPd rfl rfl ?_; refine yAd rfl ?_; refine yQ ?_; refine pw_ret ?_; refine q_then_ret ?_
    exact q_ret _ (.tmp rfl .nil) rfl
  | false =>
  rw [hsh, if_neg (by simp)] at hE
  rw [lefR, hE, if_pos rfl] at k3
  have y1 := lef_zero hc
  have y2 : ∀ p ∈ lefP l, p.2 = canon (net l p.1) ∧ 0 < net l p.1 ∧ p.1 ∈ lotL l := fun p hp => lefP_at hsh hp
  have y3 : ∀ (i : Nat) p q, (lefP l)[i]? = some p → (lefP l)[i + 1]? = some q → ltS p.1 q.1 = true := fun i p q hp hq => lefP_asc hp hq
  have y4 := lefP_len l
  have y5 : ∀ n, n ≤ (lefP l).length → (lefQ ((lefP l).take n)).natAbs < 10 ^ 156 := fun n hn => by
    have h1 := lefQ_lt hb60 (by omega) n
    have h2 : (10 : Nat) ^ (92 + 2 * n) ≤ 10 ^ 156 := Nat.pow_le_pow_right (by omega) (by omega)
    omega
  obtain ⟨L, hL⟩ : ∃ L, L = lefP l := ⟨_, rfl⟩
  rw [← hL] at k3 y1 y4
  simp only [← hL] at y2 y3 y5
  have y6 : ∀ n, n ≤ L.length → (canon (lefQ (L.take n))).length ≤ 1000 := fun n hn => by
    have := canon_le (y5 n hn)
    omega
  have hL0 : lefQ (L.take L.length) = lefQ L := by rw [List.take_length]
  clear hL
  refine pcalls_of_pw Tryz.func5 rfl Tryz.ntmps5 Tryz.results5 (by simp) fun B w0 => ?_
  refine pw_seq ?_; refine pw_region ?_; refine yAd rfl ?_; refine yQ ?_; refine pw_seq ?_; refine pw_seq ?_; refine pw_region ?_; refine yMd rfl ?_; refine yC (k1) rfl rfl ?_; refine yMd rfl ?_; refine yMd rfl ?_; refine yN rfl ?_
  refine yB rfl rfl rfl rfl ?_; refine yVd rfl rfl ?_; refine yMd rfl ?_; rw [t0]; refine yMd rfl ?_; refine yC (k2) rfl rfl ?_; refine yB rfl rfl rfl rfl ?_; refine yVd rfl rfl ?_; refine yQ ?_; refine pw_cf rfl ?_; refine pw_skip ?_
  refine pw_seq ?_; refine pw_region ?_; refine yMd rfl ?_; refine yC (k3) rfl rfl ?_; refine yMp rfl ?_; refine yX rfl rfl ?_; refine yX rfl rfl ?_; refine yAd rfl ?_; refine yAd rfl ?_; refine yQ ?_; refine pw_seq ?_
  refine pw_seq ?_; refine pw_region ?_; refine yMd rfl ?_; refine yB rfl rfl rfl rfl ?_; refine yQ ?_; refine pw_cf rfl ?_; refine pw_skip ?_; refine pw_seq ?_; refine pw_region ?_; refine yAd rfl ?_; refine yQ ?_; refine pw_seq ?_
  refine pw_seq ?_; refine pw_region ?_; refine yMd rfl ?_; refine yN rfl ?_; refine yMd rfl ?_; refine yQ ?_; refine pw_block ?_
  refine pw_loop (fun i : Nat => ⟨118, [(0, .d (dSl l)), (3, .d (dPks L)), (5, .d (dS (canon (lefQ (L.take i))))), (43, .d (dPks L)), (44, .d (dI L.length)), (45, .d (dI i))], [], []⟩) (fun i => i ≤ L.length) (fun i => L.length - i) 0 (Nat.zero_le _) ⟨rfl, ⟨.refl _, .refl _, .of_eq (congrArg (fun n => SV.d (dS n)) canon_zero.symm), .refl _, .of_eq (congrArg (fun n : Nat => SV.d (dI n)) (by simp)), .refl _, trivial⟩, trivial, trivial, rfl⟩ ?_
  intro i hi
  rcases Nat.lt_or_ge i L.length with h | h
  · have u1 : decide ((i : Int) < (L.length : Int)) = true := decide_eq_true (by omega)
    obtain ⟨p, hx⟩ : ∃ a, L[i]? = some a := ⟨_, List.getElem?_eq_getElem h⟩
    have hw := wrapI ((i : Int) + 1) (by omega)
    obtain ⟨v1, v2, v3⟩ := y2 p (List.mem_of_getElem? hx)
    have n1 := lefQ_next hx
    have l1 := y6 i hi
    obtain ⟨S, hS⟩ : ∃ S, S = lefQ (L.take i) := ⟨_, rfl⟩
    rw [← hS] at n1 l1 ⊢
    have hnl : p.2.length ≤ 1000 := by
      rw [v1]
      have h1 := canon_le (sumF_full (neF_le (id := p.1) hb60))
      have e : net l p.1 = sumF (neF p.1) l := rfl
      rw [e]; omega
    have c1 := wCmp0 p.2 (by omega)
    have s1 : sgnT p.2 = 1 := by rw [v1, sgn_canon, if_neg (by omega), if_pos v2]
    rw [s1] at c1
    have c2 := wAddT (canon S) p.2 (by omega) (by omega)
    rw [val_canon, ← n1] at c2
    have c3 := wHasFP (frB p.1) l (by omega)
    have hph := hPhLef1 p
    have hnm : l.any (frB p.1) = false → p.2 = canon (sumF (maF p.1) l) := fun h => by rw [v1, net_made h]
    have l7 : ∀ n, (canon (sumF (maF p.1) (l.take n))).length ≤ 1000 := fun n => by
      have h1 := sumF_lt (maF_le (id := p.1) hb60) (min n l.length)
      have h3 : l.take (min n l.length) = l.take n := by
        rcases Nat.le_total n l.length with h | h
        · rw [Nat.min_eq_left h]
        · rw [Nat.min_eq_right h, List.take_of_length_le (Nat.le_refl _), List.take_of_length_le h]
      rw [h3] at h1
      have := canon_le h1
      omega
    obtain ⟨S', hS'⟩ : ∃ S, S = lefQ (L.take (i + 1)) := ⟨_, rfl⟩
    have n2 : canon (lefQ (L.take (i + 1))) = canon S' := by rw [hS']
    rw [← hS'] at c2
    have ex := ix dPk L i i p rfl hx
    obtain ⟨g, hg1⟩ : ∃ g, g = l.any (frB p.1) := ⟨_, rfl⟩
    rw [← hg1] at c3 hnm
    have tail : ∀ (s : PS), True := fun _ => trivial
    clear v1 v2 v3 s1 hS hS' n1 hg1 tail y2 y5 y6 y1
    rcases Nat.eq_zero_or_pos i with hi0 | hi0
    · have u2 : decide ((i : Int) > 0) = false := decide_eq_false (by omega)
      cases g with
      | true =>
        refine pw_seq ?_; refine pw_region ?_; refine yB rfl rfl rfl rfl ?_; refine yQ ?_; refine pw_seq ?_; rw [u1]; refine pw_ct rfl ?_; refine pw_skip ?_; refine pw_seq ?_; refine pw_block ?_; refine pw_seq ?_; refine pw_region ?_
        refine yMd rfl ?_; refine yW ex (by omega) rfl rfl ?_; refine yLs (ys := [_, _]) rfl rfl rfl ?_; refine yZ (cs := [_, _]) rfl rfl ?_; refine yAd rfl ?_; refine yS (cs' := [_, _]) rfl rfl rfl rfl rfl ?_; refine yQ ?_
        refine pw_seq ?_; refine pw_seq ?_; refine pw_draw Tryz.mixed (by kernel_rfl) ?_; refine yFb rfl ?_; refine yLd rfl rfl rfl ?_; refine yC (c1) rfl rfl ?_; refine yB rfl rfl rfl rfl ?_; refine yMd rfl ?_; refine yMd rfl ?_
        refine yB rfl rfl rfl rfl ?_; refine yMd rfl ?_; rw [u2]; refine yO rfl ?_; refine yO rfl ?_; refine yO rfl ?_; refine yO rfl ?_; refine yO rfl ?_; refine yO rfl ?_; refine yO rfl ?_; refine yO rfl ?_; refine yO rfl ?_
        refine yVd rfl rfl ?_; refine yVd rfl rfl ?_; refine yQ ?_; refine pw_cf rfl ?_; refine pw_skip ?_; refine pw_seq ?_; refine pw_region ?_; refine yMd rfl ?_; refine yFb rfl ?_; refine yLd rfl rfl rfl ?_; refine yC (c2) rfl rfl ?_
        refine yAd rfl ?_; refine yQ ?_; refine pw_seq ?_; refine pw_region ?_; refine yMd rfl ?_; refine yCm rfl ?_; refine yCf c3 (.d rfl (.fn inferInstance rfl rfl hph .nil)) rfl ?_; refine yU rfl rfl rfl ?_; refine yQ ?_
        refine pw_cf rfl ?_; refine pw_skip ?_; refine pw_region ?_; refine yB rfl rfl rfl rfl ?_; refine yMd rfl ?_; refine yQ ?_; refine q_then ?_
        exact ⟨i + 1, by omega, by omega, rfl, ⟨.refl _, .refl _, .of_eq (by rw [n2] <;> rfl), .refl _, .refl _, .of_eq (congrArg (fun n => SV.d (dI n)) hw), trivial⟩, trivial, trivial, rfl⟩
      | false =>
        have hnm := hnm rfl
        refine pw_seq ?_; refine pw_region ?_; refine yB rfl rfl rfl rfl ?_; refine yQ ?_; refine pw_seq ?_; rw [u1]; refine pw_ct rfl ?_; refine pw_skip ?_; refine pw_seq ?_; refine pw_block ?_; refine pw_seq ?_; refine pw_region ?_
        refine yMd rfl ?_; refine yW ex (by omega) rfl rfl ?_; refine yLs (ys := [_, _]) rfl rfl rfl ?_; refine yZ (cs := [_, _]) rfl rfl ?_; refine yAd rfl ?_; refine yS (cs' := [_, _]) rfl rfl rfl rfl rfl ?_; refine yQ ?_
        refine pw_seq ?_; refine pw_seq ?_; refine pw_draw Tryz.mixed (by kernel_rfl) ?_; refine yFb rfl ?_; refine yLd rfl rfl rfl ?_; refine yC (c1) rfl rfl ?_; refine yB rfl rfl rfl rfl ?_; refine yMd rfl ?_; refine yMd rfl ?_
        refine yB rfl rfl rfl rfl ?_; refine yMd rfl ?_; rw [u2]; refine yO rfl ?_; refine yO rfl ?_; refine yO rfl ?_; refine yO rfl ?_; refine yO rfl ?_; refine yO rfl ?_; refine yO rfl ?_; refine yO rfl ?_; refine yO rfl ?_
        refine yVd rfl rfl ?_; refine yVd rfl rfl ?_; refine yQ ?_; refine pw_cf rfl ?_; refine pw_skip ?_; refine pw_seq ?_; refine pw_region ?_; refine yMd rfl ?_; refine yFb rfl ?_; refine yLd rfl rfl rfl ?_; refine yC (c2) rfl rfl ?_
        refine yAd rfl ?_; refine yQ ?_; refine pw_seq ?_; refine pw_region ?_; refine yMd rfl ?_; refine yCm rfl ?_; refine yCf c3 (.d rfl (.fn inferInstance rfl rfl hph .nil)) rfl ?_; refine yU rfl rfl rfl ?_; refine yQ ?_
        refine pw_ct rfl ?_; refine pw_seq ?_; refine pw_region ?_; refine yAd rfl ?_; refine yQ ?_; refine pw_seq ?_; refine pw_seq ?_; refine pw_region ?_; refine yMd rfl ?_; refine yN rfl ?_; refine yMd rfl ?_; refine yQ ?_
        refine pw_block ?_
        refine pw_loop (fun j : Nat => ⟨118, [(0, .d (dSl l)), (3, .d (dPks L)), (5, .d (dS (canon S'))), (7, .bx 7 0), (8, .d (dS (canon (sumF (maF p.1) (l.take j))))), (43, .d (dPks L)), (44, .d (dI L.length)), (45, .d (dI i)), (77, .d (dSl l)), (78, .d (dI l.length)), (79, .d (dI j))], [(7, [.d (dS p.1), .d (dS p.2)])], []⟩) (fun j => j ≤ l.length) (fun j => l.length - j) 0 (Nat.zero_le _) ⟨rfl, ⟨.refl _, .refl _, .refl _, .refl _, .of_eq (congrArg (fun n => SV.d (dS n)) canon_zero.symm), .refl _, .refl _, .refl _, .refl _, .of_eq (congrArg (fun n : Nat => SV.d (dI n)) (by simp)), .refl _, trivial⟩, ⟨⟨_, rfl, .refl _, .refl _, trivial⟩, trivial⟩, trivial, rfl⟩ ?_
        intro j hj
        rcases Nat.lt_or_ge j l.length with h2 | h2
        · have u3 : decide ((j : Int) < (l.length : Int)) = true := decide_eq_true (by omega)
          obtain ⟨s, hy⟩ : ∃ a, l[j]? = some a := ⟨_, List.getElem?_eq_getElem h2⟩
          have ey := ix dSp l j j s rfl hy
          have hw2 := wrapI ((j : Int) + 1) (by omega)
          have n3 := sumF_next (g := maF p.1) hy
          have l8 := l7 j
          have hbm := (hb.2 s (List.mem_of_getElem? hy)).2.2.2.2.1
          obtain ⟨X, hX⟩ : ∃ X, X = sumF (maF p.1) (l.take j) := ⟨_, rfl⟩
          rw [← hX] at n3 l8 ⊢
          have c4 := wAddT (canon X) s.m (by omega) (by omega)
          rw [val_canon] at c4
          rw [maF] at n3
          by_cases e1 : s.t = p.1
          · have a1 : (s.t == p.1) = true := by simp [e1]
            rw [if_pos e1] at n3
            refine pw_seq ?_; refine pw_region ?_; refine yB rfl rfl rfl rfl ?_; refine yQ ?_; refine pw_seq ?_; rw [u3]; refine pw_ct rfl ?_; refine pw_skip ?_; refine pw_seq ?_; refine pw_block ?_; refine pw_seq ?_; refine pw_region ?_
            refine yW ey (by omega) rfl rfl ?_; refine yLs (ys := [_, _, _, _, _, _]) rfl rfl rfl ?_; refine yZ (cs := [_, _, _, _, _, _]) rfl rfl ?_; refine yS (cs' := [_, _, _, _, _, _]) rfl rfl rfl rfl rfl ?_; refine yQ ?_; refine pw_seq ?_
            refine pw_region ?_; refine yFb rfl ?_; refine yLd rfl rfl rfl ?_; refine yFb rfl ?_; refine yLd rfl rfl rfl ?_; refine yBse rfl rfl ?_; refine yQ ?_; refine q_then ?_; rw [a1]; refine pw_ct rfl ?_; refine pw_region ?_
            refine yMd rfl ?_; refine yFb rfl ?_; refine yLd rfl rfl rfl ?_; refine yC (c4) rfl rfl ?_; refine yAd rfl ?_; refine yQ ?_; refine pw_region ?_; refine yB rfl rfl rfl rfl ?_; refine yMd rfl ?_; refine yQ ?_; refine q_then ?_
            exact ⟨j + 1, by omega, by omega, rfl, ⟨.refl _, .refl _, .refl _, .refl _, .of_eq (by rw [n3] <;> rfl), .refl _, .refl _, .refl _, .refl _, .refl _, .of_eq (congrArg (fun n => SV.d (dI n)) hw2), trivial⟩, ⟨⟨_, rfl, .refl _, .refl _, trivial⟩, trivial⟩, trivial, rfl⟩
          · have a1 : (s.t == p.1) = false := by simpa using e1
            rw [if_neg e1, Int.add_zero] at n3
            refine pw_seq ?_; refine pw_region ?_; refine yB rfl rfl rfl rfl ?_; refine yQ ?_; refine pw_seq ?_; rw [u3]; refine pw_ct rfl ?_; refine pw_skip ?_; refine pw_seq ?_; refine pw_block ?_; refine pw_seq ?_; refine pw_region ?_
            refine yW ey (by omega) rfl rfl ?_; refine yLs (ys := [_, _, _, _, _, _]) rfl rfl rfl ?_; refine yZ (cs := [_, _, _, _, _, _]) rfl rfl ?_; refine yS (cs' := [_, _, _, _, _, _]) rfl rfl rfl rfl rfl ?_; refine yQ ?_; refine pw_seq ?_
            refine pw_region ?_; refine yFb rfl ?_; refine yLd rfl rfl rfl ?_; refine yFb rfl ?_; refine yLd rfl rfl rfl ?_; refine yBse rfl rfl ?_; refine yQ ?_; refine q_then ?_; rw [a1]; refine pw_cf rfl ?_; refine pw_skip ?_
            refine pw_region ?_; refine yB rfl rfl rfl rfl ?_; refine yMd rfl ?_; refine yQ ?_; refine q_then ?_
            exact ⟨j + 1, by omega, by omega, rfl, ⟨.refl _, .refl _, .refl _, .refl _, .of_eq (by rw [n3] <;> rfl), .refl _, .refl _, .refl _, .refl _, .refl _, .of_eq (congrArg (fun n => SV.d (dI n)) hw2), trivial⟩, ⟨⟨_, rfl, .refl _, .refl _, trivial⟩, trivial⟩, trivial, rfl⟩
        have u3 : decide ((j : Int) < (l.length : Int)) = false := decide_eq_false (by omega)
        rw [List.take_of_length_le h2, ← hnm]
        have a2 : (!(p.2 == p.2)) = false := by simp
        refine pw_seq ?_; refine pw_region ?_; refine yB rfl rfl rfl rfl ?_; refine yQ ?_; refine pw_seq ?_; rw [u3]; refine pw_cf rfl ?_; refine pw_exit ?_; refine pw_seq ?_; refine pw_region ?_; refine yMd rfl ?_; refine yFb rfl ?_
        refine yLd rfl rfl rfl ?_; refine yBsn rfl rfl ?_; refine yQ ?_; refine q_then ?_; rw [a2]; refine pw_cf rfl ?_; refine pw_skip ?_; refine pw_region ?_; refine yB rfl rfl rfl rfl ?_; refine yMd rfl ?_; refine yQ ?_; refine q_then ?_
        exact ⟨i + 1, by omega, by omega, rfl, ⟨.refl _, .refl _, .of_eq (by rw [n2] <;> rfl), .refl _, .refl _, .of_eq (congrArg (fun n => SV.d (dI n)) hw), trivial⟩, trivial, trivial, rfl⟩
    · obtain ⟨z, hz⟩ : ∃ q, L[i - 1]? = some q := ⟨_, List.getElem?_eq_getElem (by omega)⟩
      have u2 : decide ((i : Int) > 0) = true := decide_eq_true (by omega)
      have hwm : IntKind.i64.wrap ((i : Int) - 1) = ((i - 1 : Nat) : Int) := by rw [wrapI _ (by omega)]; omega
      have ez := ix dPk L ((i - 1 : Nat) : Int) (i - 1) z rfl hz
      have a0 : (!lt8 z.1 p.1) = false := by
        have : lt8 z.1 p.1 = true := y3 (i - 1) z p hz (by rw [Nat.sub_add_cancel hi0]; exact hx)
        rw [this]; rfl
      cases g with
      | true =>
        refine pw_seq ?_; refine pw_region ?_; refine yB rfl rfl rfl rfl ?_; refine yQ ?_; refine pw_seq ?_; rw [u1]; refine pw_ct rfl ?_; refine pw_skip ?_; refine pw_seq ?_; refine pw_block ?_; refine pw_seq ?_; refine pw_region ?_
        refine yMd rfl ?_; refine yW ex (by omega) rfl rfl ?_; refine yLs (ys := [_, _]) rfl rfl rfl ?_; refine yZ (cs := [_, _]) rfl rfl ?_; refine yAd rfl ?_; refine yS (cs' := [_, _]) rfl rfl rfl rfl rfl ?_; refine yQ ?_
        refine pw_seq ?_; refine pw_seq ?_; refine pw_draw Tryz.mixed (by kernel_rfl) ?_; refine yFb rfl ?_; refine yLd rfl rfl rfl ?_; refine yC (c1) rfl rfl ?_; refine yB rfl rfl rfl rfl ?_; refine yMd rfl ?_; refine yMd rfl ?_
        refine yB rfl rfl rfl rfl ?_; refine yMd rfl ?_; rw [u2]; refine yMd rfl ?_; refine yMd rfl ?_; refine yB rfl rfl rfl rfl ?_; rw [hwm]; refine yW ez (by omega) rfl rfl ?_; refine yFr rfl rfl ?_; refine yLr rfl rfl ?_
        refine yFb rfl ?_; refine yLd rfl rfl rfl ?_; refine yBsh rfl rfl ?_; refine yPd rfl rfl ?_; refine yVd rfl rfl ?_; refine yQ ?_; refine q_then ?_; rw [a0]; refine pw_cf rfl ?_; refine pw_skip ?_; refine pw_seq ?_
        refine pw_region ?_; refine yMd rfl ?_; refine yFb rfl ?_; refine yLd rfl rfl rfl ?_; refine yC (c2) rfl rfl ?_; refine yAd rfl ?_; refine yQ ?_; refine pw_seq ?_; refine pw_region ?_; refine yMd rfl ?_; refine yCm rfl ?_
        refine yCf c3 (.d rfl (.fn inferInstance rfl rfl hph .nil)) rfl ?_; refine yU rfl rfl rfl ?_; refine yQ ?_; refine pw_cf rfl ?_; refine pw_skip ?_; refine pw_region ?_; refine yB rfl rfl rfl rfl ?_; refine yMd rfl ?_; refine yQ ?_
        refine q_then ?_
        exact ⟨i + 1, by omega, by omega, rfl, ⟨.refl _, .refl _, .of_eq (by rw [n2] <;> rfl), .refl _, .refl _, .of_eq (congrArg (fun n => SV.d (dI n)) hw), trivial⟩, trivial, trivial, rfl⟩
      | false =>
        have hnm := hnm rfl
        refine pw_seq ?_; refine pw_region ?_; refine yB rfl rfl rfl rfl ?_; refine yQ ?_; refine pw_seq ?_; rw [u1]; refine pw_ct rfl ?_; refine pw_skip ?_; refine pw_seq ?_; refine pw_block ?_; refine pw_seq ?_; refine pw_region ?_
        refine yMd rfl ?_; refine yW ex (by omega) rfl rfl ?_; refine yLs (ys := [_, _]) rfl rfl rfl ?_; refine yZ (cs := [_, _]) rfl rfl ?_; refine yAd rfl ?_; refine yS (cs' := [_, _]) rfl rfl rfl rfl rfl ?_; refine yQ ?_
        refine pw_seq ?_; refine pw_seq ?_; refine pw_draw Tryz.mixed (by kernel_rfl) ?_; refine yFb rfl ?_; refine yLd rfl rfl rfl ?_; refine yC (c1) rfl rfl ?_; refine yB rfl rfl rfl rfl ?_; refine yMd rfl ?_; refine yMd rfl ?_
        refine yB rfl rfl rfl rfl ?_; refine yMd rfl ?_; rw [u2]; refine yMd rfl ?_; refine yMd rfl ?_; refine yB rfl rfl rfl rfl ?_; rw [hwm]; refine yW ez (by omega) rfl rfl ?_; refine yFr rfl rfl ?_; refine yLr rfl rfl ?_
        refine yFb rfl ?_; refine yLd rfl rfl rfl ?_; refine yBsh rfl rfl ?_; refine yPd rfl rfl ?_; refine yVd rfl rfl ?_; refine yQ ?_; refine q_then ?_; rw [a0]; refine pw_cf rfl ?_; refine pw_skip ?_; refine pw_seq ?_
        refine pw_region ?_; refine yMd rfl ?_; refine yFb rfl ?_; refine yLd rfl rfl rfl ?_; refine yC (c2) rfl rfl ?_; refine yAd rfl ?_; refine yQ ?_; refine pw_seq ?_; refine pw_region ?_; refine yMd rfl ?_; refine yCm rfl ?_
        refine yCf c3 (.d rfl (.fn inferInstance rfl rfl hph .nil)) rfl ?_; refine yU rfl rfl rfl ?_; refine yQ ?_; refine pw_ct rfl ?_; refine pw_seq ?_; refine pw_region ?_; refine yAd rfl ?_; refine yQ ?_; refine pw_seq ?_
        refine pw_seq ?_; refine pw_region ?_; refine yMd rfl ?_; refine yN rfl ?_; refine yMd rfl ?_; refine yQ ?_; refine pw_block ?_
        refine pw_loop (fun j : Nat => ⟨118, [(0, .d (dSl l)), (3, .d (dPks L)), (5, .d (dS (canon S'))), (7, .bx 7 0), (8, .d (dS (canon (sumF (maF p.1) (l.take j))))), (43, .d (dPks L)), (44, .d (dI L.length)), (45, .d (dI i)), (77, .d (dSl l)), (78, .d (dI l.length)), (79, .d (dI j))], [(7, [.d (dS p.1), .d (dS p.2)])], []⟩) (fun j => j ≤ l.length) (fun j => l.length - j) 0 (Nat.zero_le _) ⟨rfl, ⟨.refl _, .refl _, .refl _, .refl _, .of_eq (congrArg (fun n => SV.d (dS n)) canon_zero.symm), .refl _, .refl _, .refl _, .refl _, .of_eq (congrArg (fun n : Nat => SV.d (dI n)) (by simp)), .refl _, trivial⟩, ⟨⟨_, rfl, .refl _, .refl _, trivial⟩, trivial⟩, trivial, rfl⟩ ?_
        intro j hj
        rcases Nat.lt_or_ge j l.length with h2 | h2
        · have u3 : decide ((j : Int) < (l.length : Int)) = true := decide_eq_true (by omega)
          obtain ⟨s, hy⟩ : ∃ a, l[j]? = some a := ⟨_, List.getElem?_eq_getElem h2⟩
          have ey := ix dSp l j j s rfl hy
          have hw2 := wrapI ((j : Int) + 1) (by omega)
          have n3 := sumF_next (g := maF p.1) hy
          have l8 := l7 j
          have hbm := (hb.2 s (List.mem_of_getElem? hy)).2.2.2.2.1
          obtain ⟨X, hX⟩ : ∃ X, X = sumF (maF p.1) (l.take j) := ⟨_, rfl⟩
          rw [← hX] at n3 l8 ⊢
          have c4 := wAddT (canon X) s.m (by omega) (by omega)
          rw [val_canon] at c4
          rw [maF] at n3
          by_cases e1 : s.t = p.1
          · have a1 : (s.t == p.1) = true := by simp [e1]
            rw [if_pos e1] at n3
            refine pw_seq ?_; refine pw_region ?_; refine yB rfl rfl rfl rfl ?_; refine yQ ?_; refine pw_seq ?_; rw [u3]; refine pw_ct rfl ?_; refine pw_skip ?_; refine pw_seq ?_; refine pw_block ?_; refine pw_seq ?_; refine pw_region ?_
            refine yW ey (by omega) rfl rfl ?_; refine yLs (ys := [_, _, _, _, _, _]) rfl rfl rfl ?_; refine yZ (cs := [_, _, _, _, _, _]) rfl rfl ?_; refine yS (cs' := [_, _, _, _, _, _]) rfl rfl rfl rfl rfl ?_; refine yQ ?_; refine pw_seq ?_
            refine pw_region ?_; refine yFb rfl ?_; refine yLd rfl rfl rfl ?_; refine yFb rfl ?_; refine yLd rfl rfl rfl ?_; refine yBse rfl rfl ?_; refine yQ ?_; refine q_then ?_; rw [a1]; refine pw_ct rfl ?_; refine pw_region ?_
            refine yMd rfl ?_; refine yFb rfl ?_; refine yLd rfl rfl rfl ?_; refine yC (c4) rfl rfl ?_; refine yAd rfl ?_; refine yQ ?_; refine pw_region ?_; refine yB rfl rfl rfl rfl ?_; refine yMd rfl ?_; refine yQ ?_; refine q_then ?_
            exact ⟨j + 1, by omega, by omega, rfl, ⟨.refl _, .refl _, .refl _, .refl _, .of_eq (by rw [n3] <;> rfl), .refl _, .refl _, .refl _, .refl _, .refl _, .of_eq (congrArg (fun n => SV.d (dI n)) hw2), trivial⟩, ⟨⟨_, rfl, .refl _, .refl _, trivial⟩, trivial⟩, trivial, rfl⟩
          · have a1 : (s.t == p.1) = false := by simpa using e1
            rw [if_neg e1, Int.add_zero] at n3
            refine pw_seq ?_; refine pw_region ?_; refine yB rfl rfl rfl rfl ?_; refine yQ ?_; refine pw_seq ?_; rw [u3]; refine pw_ct rfl ?_; refine pw_skip ?_; refine pw_seq ?_; refine pw_block ?_; refine pw_seq ?_; refine pw_region ?_
            refine yW ey (by omega) rfl rfl ?_; refine yLs (ys := [_, _, _, _, _, _]) rfl rfl rfl ?_; refine yZ (cs := [_, _, _, _, _, _]) rfl rfl ?_; refine yS (cs' := [_, _, _, _, _, _]) rfl rfl rfl rfl rfl ?_; refine yQ ?_; refine pw_seq ?_
            refine pw_region ?_; refine yFb rfl ?_; refine yLd rfl rfl rfl ?_; refine yFb rfl ?_; refine yLd rfl rfl rfl ?_; refine yBse rfl rfl ?_; refine yQ ?_; refine q_then ?_; rw [a1]; refine pw_cf rfl ?_; refine pw_skip ?_
            refine pw_region ?_; refine yB rfl rfl rfl rfl ?_; refine yMd rfl ?_; refine yQ ?_; refine q_then ?_
            exact ⟨j + 1, by omega, by omega, rfl, ⟨.refl _, .refl _, .refl _, .refl _, .of_eq (by rw [n3] <;> rfl), .refl _, .refl _, .refl _, .refl _, .refl _, .of_eq (congrArg (fun n => SV.d (dI n)) hw2), trivial⟩, ⟨⟨_, rfl, .refl _, .refl _, trivial⟩, trivial⟩, trivial, rfl⟩
        have u3 : decide ((j : Int) < (l.length : Int)) = false := decide_eq_false (by omega)
        rw [List.take_of_length_le h2, ← hnm]
        have a2 : (!(p.2 == p.2)) = false := by simp
        refine pw_seq ?_; refine pw_region ?_; refine yB rfl rfl rfl rfl ?_; refine yQ ?_; refine pw_seq ?_; rw [u3]; refine pw_cf rfl ?_; refine pw_exit ?_; refine pw_seq ?_; refine pw_region ?_; refine yMd rfl ?_; refine yFb rfl ?_
        refine yLd rfl rfl rfl ?_; refine yBsn rfl rfl ?_; refine yQ ?_; refine q_then ?_; rw [a2]; refine pw_cf rfl ?_; refine pw_skip ?_; refine pw_region ?_; refine yB rfl rfl rfl rfl ?_; refine yMd rfl ?_; refine yQ ?_; refine q_then ?_
        exact ⟨i + 1, by omega, by omega, rfl, ⟨.refl _, .refl _, .of_eq (by rw [n2] <;> rfl), .refl _, .refl _, .of_eq (congrArg (fun n => SV.d (dI n)) hw), trivial⟩, trivial, trivial, rfl⟩
  have u1 : decide ((i : Int) < (L.length : Int)) = false := decide_eq_false (by omega)
  obtain rfl : i = L.length := by omega
  have hZl := y5 L.length (Nat.le_refl _)
  rw [hL0] at hZl ⊢
  obtain ⟨Z, hZ⟩ : ∃ Z, Z = lefQ L := ⟨_, rfl⟩
  rw [← hZ] at hZl y1 ⊢
  have y7 : ∀ n, (canon (Z + sumF qmF (l.take n))).length ≤ 1000 := fun n => by
    have h1 := sumF_lt (qmF_le hb60) (min n l.length)
    have h2 : (10 : Nat) ^ (60 + 2 * min n l.length) ≤ 10 ^ 156 := Nat.pow_le_pow_right (by omega) (by omega)
    have h3 : l.take (min n l.length) = l.take n := by
      rcases Nat.le_total n l.length with h | h
      · rw [Nat.min_eq_left h]
      · rw [Nat.min_eq_right h, List.take_of_length_le (Nat.le_refl _), List.take_of_length_le h]
    rw [h3] at h1
    have h4 : (Z + sumF qmF (l.take n)).natAbs < 10 ^ 158 := by
      have : (10 : Nat) ^ 156 + 10 ^ 156 < 10 ^ 158 := by decide
      omega
    have := canon_le h4
    omega
  clear hZl y5 y6 y2 y3
  refine pw_seq ?_; refine pw_region ?_; refine yB rfl rfl rfl rfl ?_; refine yQ ?_; refine pw_seq ?_; rw [u1]; refine pw_cf rfl ?_; refine pw_exit ?_; refine pw_seq ?_; refine pw_seq ?_; refine pw_region ?_; refine yMd rfl ?_
  refine yN rfl ?_; refine yMd rfl ?_; refine yQ ?_; refine pw_block ?_
  refine pw_loop (fun i : Nat => ⟨118, [(5, .d (dS (canon (Z + sumF qmF (l.take i))))), (98, .d (dSl l)), (99, .d (dI l.length)), (100, .d (dI i))], [], []⟩) (fun i => i ≤ l.length) (fun i => l.length - i) 0 (Nat.zero_le _) ⟨rfl, ⟨.of_eq (congrArg (fun n => SV.d (dS (canon n))) (by simp [sumF])), .refl _, .of_eq (congrArg (fun n : Nat => SV.d (dI n)) (by simp)), .refl _, trivial⟩, trivial, trivial, rfl⟩ ?_
  intro i hi
  rcases Nat.lt_or_ge i l.length with h | h
  · have u2 : decide ((i : Int) < (l.length : Int)) = true := decide_eq_true (by omega)
    obtain ⟨s, hx⟩ : ∃ a, l[i]? = some a := ⟨_, List.getElem?_eq_getElem h⟩
    have hs := List.mem_of_getElem? hx
    have ex := ix dSp l i i s rfl hx
    have hw := wrapI ((i : Int) + 1) (by omega)
    have n1 := sumF_next (g := qmF) hx
    have l6 := y7 i
    have hbq := (hb.2 s hs).2.2.2.1
    have hbm := (hb.2 s hs).2.2.2.2.1
    obtain ⟨X, hX⟩ : ∃ X, X = Z + sumF qmF (l.take i) := ⟨_, rfl⟩
    have n2 : X + val s.q - val s.m = Z + sumF qmF (l.take (i + 1)) := by rw [n1, hX, qmF]; omega
    rw [← hX] at l6 ⊢
    have c1 := wAddT (canon X) s.q (by omega) (by omega)
    have hl9 := addI_len (k := 1000) l6 (by omega : s.q.length ≤ 1000)
    rw [addI, val_canon] at hl9
    rw [val_canon] at c1
    have c2 := wSubT (canon (X + val s.q)) s.m (by omega) (by omega)
    rw [val_canon, n2] at c2
    refine pw_seq ?_; refine pw_region ?_; refine yB rfl rfl rfl rfl ?_; refine yQ ?_; refine pw_seq ?_; rw [u2]; refine pw_ct rfl ?_; refine pw_skip ?_; refine pw_seq ?_; refine pw_block ?_; refine pw_seq ?_; refine pw_region ?_
    refine yW ex (by omega) rfl rfl ?_; refine yLs (ys := [_, _, _, _, _, _]) rfl rfl rfl ?_; refine yZ (cs := [_, _, _, _, _, _]) rfl rfl ?_; refine yS (cs' := [_, _, _, _, _, _]) rfl rfl rfl rfl rfl ?_; refine yQ ?_
    refine pw_draw Tryz.mixed (by kernel_rfl) ?_; refine yMd rfl ?_; refine yFb rfl ?_; refine yLd rfl rfl rfl ?_; refine yC (c1) rfl rfl ?_; refine yFb rfl ?_; refine yLd rfl rfl rfl ?_; refine yC (c2) rfl rfl ?_; refine yAd rfl ?_
    refine yQ ?_; refine pw_region ?_; refine yB rfl rfl rfl rfl ?_; refine yMd rfl ?_; refine yQ ?_; refine q_then ?_
    exact ⟨i + 1, h, by omega, rfl, ⟨.refl _, .refl _, .refl _, .of_eq (congrArg (fun n => SV.d (dI n)) hw), trivial⟩, trivial, trivial, rfl⟩
  have u2 : decide ((i : Int) < (l.length : Int)) = false := decide_eq_false (by omega)
  rw [List.take_of_length_le h, y1, canon_zero]
  have c3 := wCmp0 [] (by simp)
  rw [cmp0] at c3
  refine pw_seq ?_; refine pw_region ?_; refine yB rfl rfl rfl rfl ?_; refine yQ ?_; refine pw_seq ?_; rw [u2]; refine pw_cf rfl ?_; refine pw_exit ?_; refine pw_seq ?_; refine pw_region ?_; refine yMd rfl ?_
  refine yC (c3) rfl rfl ?_; refine yB rfl rfl rfl rfl ?_; refine yMd rfl ?_; refine yC (k0) rfl rfl ?_; refine yPd rfl rfl ?_; refine yAd rfl ?_; refine yQ ?_; refine pw_ret ?_
  exact q_ret _ (.tmp rfl .nil) rfl
end Go.Proofs.YtkfoogabijnamaaGreatDoor
