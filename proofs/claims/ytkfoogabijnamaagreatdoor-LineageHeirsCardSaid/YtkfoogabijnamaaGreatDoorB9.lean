/- Walks: the laws of heirs and origins. -/
import Derived.Test.YtkfoogabijnamaaGreatDoorB8
namespace Go.Proofs.YtkfoogabijnamaaGreatDoor
open Go.RowKit Px

set_option maxRecDepth 20000 in
theorem wHei1 (H : List Str) (x : Str) (hl : H.length ≤ 1000000) : PCalls Tryz.prog 40 [dS x, .ref [dStrs H]] (.d (dB (H.contains x))) := by
  have c1 := wContS H x hl
  obtain ⟨b, hb⟩ : ∃ b, b = H.contains x := ⟨_, rfl⟩
  rw [← hb] at c1 ⊢
  refine pcalls_of_pw Tryz.func40 rfl Tryz.ntmps40 Tryz.results40 (by simp) fun B w0 => ?_
  refine pw_ref 1 rfl ?_
  refine pw_seq ?_; refine pw_region ?_; refine yAd rfl ?_; refine yQ ?_; refine pw_seq ?_; refine pw_region ?_; refine yLr rfl rfl ?_; refine yMd rfl ?_; refine yC (c1) rfl rfl ?_; refine yAd rfl ?_; refine yQ ?_; refine pw_ret ?_
  exact q_ret _ (.tmp rfl .nil) rfl
theorem hPhHei (H : List Str) (hl : H.length ≤ 1000000) : ∀ xs r, phS (fun x => H.contains x) xs r → PCalls Tryz.prog 40 (xs ++ [.ref [dStrs H]]) r := by
  rintro _ _ ⟨c, rfl, rfl⟩
  exact wHei1 H c hl
set_option maxRecDepth 20000 in
set_option maxHeartbeats 8000000 in
theorem lawHeirs (l : List Stp) : PCalls Tryz.prog 8 [dSl l] (.d (dB true)) := by
  have k0 := wAwake
  have k1 := wBigL l
  cases hg : bigL l with
  | true =>
    rw [hg] at k1
    refine pcalls_of_pw Tryz.func8 rfl Tryz.ntmps8 Tryz.results8 (by simp) fun B w0 => ?_
    refine pw_seq ?_; refine pw_region ?_; refine yAd rfl ?_; refine yQ ?_; refine pw_seq ?_; refine pw_seq ?_; refine pw_region ?_; refine yMd rfl ?_; refine yC (k1) rfl rfl ?_; refine yMd rfl ?_; refine yO rfl ?_; refine yO rfl ?_
    refine yO rfl ?_; refine yPd rfl rfl ?_; refine yMd rfl ?_; refine yO rfl ?_; refine yO rfl ?_; refine yO rfl ?_; refine yPd rfl rfl ?_; refine yQ ?_; refine pw_ct rfl ?_; refine pw_seq ?_; refine pw_region ?_
    refine yC (k0) rfl rfl ?_; refine yAd rfl ?_; refine yQ ?_; refine pw_ret ?_; refine q_then_ret ?_
    exact q_ret _ (.tmp rfl .nil) rfl
  | false =>
  rw [hg] at k1
  have hb := bigL_bd hg
  have hll := hb.1
  by_cases hn : 16 < l.length
  · have t0 : decide (((l.map dSp).length : Int) > 16) = true := decide_eq_true (by rw [List.length_map]; omega)
    refine pcalls_of_pw Tryz.func8 rfl Tryz.ntmps8 Tryz.results8 (by simp) fun B w0 => ?_
    refine pw_seq ?_; refine pw_region ?_; refine yAd rfl ?_; refine yQ ?_; refine pw_seq ?_; refine pw_seq ?_; refine pw_region ?_; refine yMd rfl ?_; refine yC (k1) rfl rfl ?_; refine yMd rfl ?_; refine yMd rfl ?_; refine yN rfl ?_
    refine yB rfl rfl rfl rfl ?_; refine yVd rfl rfl ?_; refine yMd rfl ?_; rw [t0]; refine yO rfl ?_; refine yO rfl ?_; refine yO rfl ?_; refine yPd rfl rfl ?_; refine yQ ?_; refine pw_ct rfl ?_; refine pw_seq ?_; refine pw_region ?_
    refine yC (k0) rfl rfl ?_; refine yAd rfl ?_; refine yQ ?_; refine pw_ret ?_; refine q_then_ret ?_
    exact q_ret _ (.tmp rfl .nil) rfl
  have t0 : decide (((l.map dSp).length : Int) > 16) = false := decide_eq_false (by rw [List.length_map]; omega)
  have k2 := wChk l hb
  by_cases hc : chkE l = 0
  rotate_left
  · have t1 : (chkE l != 0) = true := by simpa using hc
    refine pcalls_of_pw Tryz.func8 rfl Tryz.ntmps8 Tryz.results8 (by simp) fun B w0 => ?_
    refine pw_seq ?_; refine pw_region ?_; refine yAd rfl ?_; refine yQ ?_; refine pw_seq ?_; refine pw_seq ?_; refine pw_region ?_; refine yMd rfl ?_; refine yC (k1) rfl rfl ?_; refine yMd rfl ?_; refine yMd rfl ?_; refine yN rfl ?_
    refine yB rfl rfl rfl rfl ?_; refine yVd rfl rfl ?_; refine yMd rfl ?_; rw [t0]; refine yMd rfl ?_; refine yC (k2) rfl rfl ?_; refine yB rfl rfl rfl rfl ?_; refine yVd rfl rfl ?_; refine yQ ?_; refine q_then ?_; rw [t1]
    refine pw_ct rfl ?_; refine pw_seq ?_; refine pw_region ?_; refine yC (k0) rfl rfl ?_; refine yAd rfl ?_; refine yQ ?_; refine pw_ret ?_; refine q_then_ret ?_
    exact q_ret _ (.tmp rfl .nil) rfl
  rw [hc] at k2
  have k3 := wLots l (by omega)
  have k4 : ∀ x, PCalls Tryz.prog 17 [dSl l, dS x] (.tup [dStrs (heiR l x), dI 0]) := fun x => by
    have := wHeirs l x hb
    rwa [okR, okE, if_pos hc, if_pos hc] at this
  have k5 : ∀ x, PCalls Tryz.prog 13 [dSl l, dS x] (.tup [dStrs (parR l x), dI 0]) := fun x => by
    have := wParents l x hb
    rwa [okR, okE, if_pos hc, if_pos hc] at this
  have z4 := heiR_len l
  have z5 := parR_len l
  have y1 := hei_self hc
  have y2 := par_self hc
  have y3 := hei_par l
  have y4 := heiR_asc l
  have y5 := parR_asc l
  obtain ⟨A, hA⟩ : ∃ A, A = lotN l := ⟨_, rfl⟩
  have hAl := lotN_len l
  rw [← hA] at k3 hAl
  refine pcalls_of_pw Tryz.func8 rfl Tryz.ntmps8 Tryz.results8 (by simp) fun B w0 => ?_
  refine pw_seq ?_; refine pw_region ?_; refine yAd rfl ?_; refine yQ ?_; refine pw_seq ?_; refine pw_seq ?_; refine pw_region ?_; refine yMd rfl ?_; refine yC (k1) rfl rfl ?_; refine yMd rfl ?_; refine yMd rfl ?_; refine yN rfl ?_
  refine yB rfl rfl rfl rfl ?_; refine yVd rfl rfl ?_; refine yMd rfl ?_; rw [t0]; refine yMd rfl ?_; refine yC (k2) rfl rfl ?_; refine yB rfl rfl rfl rfl ?_; refine yVd rfl rfl ?_; refine yQ ?_; refine pw_cf rfl ?_; refine pw_skip ?_
  refine pw_seq ?_; refine pw_seq ?_; refine pw_region ?_; refine yMd rfl ?_; refine yC (k3) rfl rfl ?_; refine yN rfl ?_; refine yMd rfl ?_; refine yQ ?_; refine pw_block ?_
  refine pw_loop (fun i : Nat => ⟨91, [(0, .d (dSl l)), (26, .d (dStrs A)), (27, .d (dI A.length)), (28, .d (dI i))], [], []⟩) (fun i => i ≤ A.length) (fun i => A.length - i) 0 (Nat.zero_le _) ⟨rfl, ⟨.refl _, .refl _, .of_eq (congrArg (fun n : Nat => SV.d (dI n)) (by simp)), .refl _, trivial⟩, trivial, trivial, rfl⟩ ?_
  intro i hi
  rcases Nat.lt_or_ge i A.length with h | h
  rotate_left
  · have u1 : decide ((i : Int) < (A.length : Int)) = false := decide_eq_false (by omega)
    refine pw_seq ?_; refine pw_region ?_; refine yB rfl rfl rfl rfl ?_; refine yQ ?_; refine pw_seq ?_; rw [u1]; refine pw_cf rfl ?_; refine pw_exit ?_; refine pw_seq ?_; refine pw_region ?_; refine yC (k0) rfl rfl ?_
    refine yAd rfl ?_; refine yQ ?_; refine pw_ret ?_
    exact q_ret _ (.tmp rfl .nil) rfl
  have u1 : decide ((i : Int) < (A.length : Int)) = true := decide_eq_true (by omega)
  obtain ⟨a, hx⟩ : ∃ a, A[i]? = some a := ⟨_, List.getElem?_eq_getElem h⟩
  have ex := ix (fun s => [dS s]) A i i a rfl hx
  have hw := wrapI ((i : Int) + 1) (by omega)
  have m4 := k4 a
  have z4a := z4 a
  have y1a := y1 a
  have y3a := y3 a
  have y4a := y4 a
  obtain ⟨H, hH⟩ : ∃ H, H = heiR l a := ⟨_, rfl⟩
  rw [← hH] at m4 z4a y1a y4a
  have y3a : ∀ b, H.contains b = ((parR l b).contains a || (parR l b).any fun x => H.contains x) := fun b => by rw [hH]; exact y3a b
  have c1 := wContS H a (by omega)
  rw [y1a] at c1
  have c2 := wIsSorted H y4a (by omega)
  clear hH y1 y3 y4 k4
  refine pw_seq ?_; refine pw_region ?_; refine yB rfl rfl rfl rfl ?_; refine yQ ?_; refine pw_seq ?_; rw [u1]; refine pw_ct rfl ?_; refine pw_skip ?_; refine pw_seq ?_; refine pw_block ?_; refine pw_seq ?_; refine pw_region ?_
  refine yW ex (by omega) rfl rfl ?_; refine yLr rfl rfl ?_; refine yAd rfl ?_; refine yQ ?_; refine pw_seq ?_; refine pw_region ?_; refine yMd rfl ?_; refine yMd rfl ?_; refine yC (m4) rfl rfl ?_; refine yMp rfl ?_
  refine yX rfl rfl ?_; refine yX rfl rfl ?_; refine yZ (cs := [_]) rfl rfl ?_; refine ySl (cs' := [_]) rfl rfl rfl rfl ?_; refine yAd rfl ?_; refine yQ ?_; refine pw_seq ?_; refine pw_seq ?_; refine pw_region ?_; refine yMd rfl ?_
  refine yB rfl rfl rfl rfl ?_; refine yMd rfl ?_; refine yLd rfl rfl rfl ?_; refine yMd rfl ?_; refine yC (c1) rfl rfl ?_; refine yVd rfl rfl ?_; refine yMd rfl ?_; refine yLd rfl rfl rfl ?_; refine yC (c2) rfl rfl ?_
  refine yU rfl rfl rfl ?_; refine yVd rfl rfl ?_; refine yQ ?_; refine pw_cf rfl ?_; refine pw_skip ?_; refine pw_seq ?_; refine pw_region ?_; refine yMd rfl ?_; refine yC (k3) rfl rfl ?_; refine yN rfl ?_; refine yMd rfl ?_
  refine yQ ?_; refine pw_block ?_
  refine pw_loop (fun j : Nat => ⟨91, [(0, .d (dSl l)), (4, .d (dS a)), (5, .bx 5 0), (26, .d (dStrs A)), (27, .d (dI A.length)), (28, .d (dI i)), (51, .d (dStrs A)), (52, .d (dI A.length)), (53, .d (dI j))], [(5, [.d (dStrs H)])], []⟩) (fun j => j ≤ A.length) (fun j => A.length - j) 0 (Nat.zero_le _) ⟨rfl, ⟨.refl _, .refl _, .refl _, .refl _, .refl _, .refl _, .refl _, .of_eq (congrArg (fun n : Nat => SV.d (dI n)) (by simp)), .refl _, trivial⟩, ⟨⟨_, rfl, .refl _, trivial⟩, trivial⟩, trivial, rfl⟩ ?_
  intro j hj
  rcases Nat.lt_or_ge j A.length with h2 | h2
  rotate_left
  · have u2 : decide ((j : Int) < (A.length : Int)) = false := decide_eq_false (by omega)
    refine pw_seq ?_; refine pw_region ?_; refine yB rfl rfl rfl rfl ?_; refine yQ ?_; refine pw_seq ?_; rw [u2]; refine pw_cf rfl ?_; refine pw_exit ?_; refine pw_region ?_; refine yB rfl rfl rfl rfl ?_; refine yMd rfl ?_; refine yQ ?_
    refine q_then ?_
    exact ⟨i + 1, by omega, by omega, rfl, ⟨.refl _, .refl _, .refl _, .of_eq (congrArg (fun n => SV.d (dI n)) hw), trivial⟩, trivial, trivial, rfl⟩
  have u2 : decide ((j : Int) < (A.length : Int)) = true := decide_eq_true (by omega)
  obtain ⟨b, hy⟩ : ∃ a, A[j]? = some a := ⟨_, List.getElem?_eq_getElem h2⟩
  have ey := ix (fun s => [dS s]) A j j b rfl hy
  have hw2 := wrapI ((j : Int) + 1) (by omega)
  have m5 := k5 b
  have z5b := z5 b
  have y2b := y2 b
  have y3b := y3a b
  have y5b := y5 b
  obtain ⟨p, hp⟩ : ∃ p, p = parR l b := ⟨_, rfl⟩
  rw [← hp] at m5 z5b y2b y3b y5b
  have c3 := wContS p b (by omega)
  rw [y2b] at c3
  have c4 := wIsSorted p y5b (by omega)
  have c5 := wContS p a (by omega)
  have c6 := wHasFS (fun x => H.contains x) p (by omega)
  have c7 := wContS H b (by omega)
  rw [y3b] at c7
  have hph := hPhHei H (by omega)
  obtain ⟨g1, hg1⟩ : ∃ g, g = p.contains a := ⟨_, rfl⟩
  obtain ⟨g2, hg2⟩ : ∃ g, g = p.any fun x => H.contains x := ⟨_, rfl⟩
  rw [← hg1] at c5 c7
  rw [← hg2] at c6 c7
  clear hp hg1 hg2 y2 y5 k5 y3a y3b y2b y1a
  cases g1 with
  | true =>
    rw [Bool.true_or] at c7
    refine pw_seq ?_; refine pw_region ?_; refine yB rfl rfl rfl rfl ?_; refine yQ ?_; refine pw_seq ?_; rw [u2]; refine pw_ct rfl ?_; refine pw_skip ?_; refine pw_seq ?_; refine pw_block ?_; refine pw_seq ?_; refine pw_region ?_
    refine yW ey (by omega) rfl rfl ?_; refine yLr rfl rfl ?_; refine yAd rfl ?_; refine yQ ?_; refine pw_seq ?_; refine pw_region ?_; refine yMd rfl ?_; refine yMd rfl ?_; refine yC (m5) rfl rfl ?_; refine yMp rfl ?_
    refine yX rfl rfl ?_; refine yX rfl rfl ?_; refine yAd rfl ?_; refine yAd rfl ?_; refine yQ ?_; refine pw_seq ?_; refine pw_seq ?_; refine pw_region ?_; refine yMd rfl ?_; refine yB rfl rfl rfl rfl ?_; refine yMd rfl ?_
    refine yMd rfl ?_; refine yMd rfl ?_; refine yC (c3) rfl rfl ?_; refine yVd rfl rfl ?_; refine yMd rfl ?_; refine yMd rfl ?_; refine yC (c4) rfl rfl ?_; refine yU rfl rfl rfl ?_; refine yVd rfl rfl ?_; refine yQ ?_
    refine pw_cf rfl ?_; refine pw_skip ?_; refine pw_seq ?_; refine pw_region ?_; refine yMd rfl ?_; refine yMd rfl ?_; refine yC (c5) rfl rfl ?_; refine yMd rfl ?_; refine yO rfl ?_; refine yO rfl ?_; refine yO rfl ?_
    refine yPd rfl rfl ?_; refine yAd rfl ?_; refine yQ ?_; refine pw_seq ?_; refine pw_region ?_; refine yLd rfl rfl rfl ?_; refine yMd rfl ?_; refine yC (c7) rfl rfl ?_; refine yMd rfl ?_
    refine yBbn (c := false) Tryz.underlying4 rfl rfl rfl ?_; refine yQ ?_; refine pw_cf rfl ?_; refine pw_skip ?_; refine pw_region ?_; refine yB rfl rfl rfl rfl ?_; refine yMd rfl ?_; refine yQ ?_; refine q_then ?_
    exact ⟨j + 1, by omega, by omega, rfl, ⟨.refl _, .refl _, .refl _, .refl _, .refl _, .refl _, .refl _, .refl _, .of_eq (congrArg (fun n => SV.d (dI n)) hw2), trivial⟩, ⟨⟨_, rfl, .refl _, trivial⟩, trivial⟩, trivial, rfl⟩
  | false =>
    rw [Bool.false_or] at c7
    have t2 : (g2 != g2) = false := by simp
    refine pw_seq ?_; refine pw_region ?_; refine yB rfl rfl rfl rfl ?_; refine yQ ?_; refine pw_seq ?_; rw [u2]; refine pw_ct rfl ?_; refine pw_skip ?_; refine pw_seq ?_; refine pw_block ?_; refine pw_seq ?_; refine pw_region ?_
    refine yW ey (by omega) rfl rfl ?_; refine yLr rfl rfl ?_; refine yAd rfl ?_; refine yQ ?_; refine pw_seq ?_; refine pw_region ?_; refine yMd rfl ?_; refine yMd rfl ?_; refine yC (m5) rfl rfl ?_; refine yMp rfl ?_
    refine yX rfl rfl ?_; refine yX rfl rfl ?_; refine yAd rfl ?_; refine yAd rfl ?_; refine yQ ?_; refine pw_seq ?_; refine pw_seq ?_; refine pw_region ?_; refine yMd rfl ?_; refine yB rfl rfl rfl rfl ?_; refine yMd rfl ?_
    refine yMd rfl ?_; refine yMd rfl ?_; refine yC (c3) rfl rfl ?_; refine yVd rfl rfl ?_; refine yMd rfl ?_; refine yMd rfl ?_; refine yC (c4) rfl rfl ?_; refine yU rfl rfl rfl ?_; refine yVd rfl rfl ?_; refine yQ ?_
    refine pw_cf rfl ?_; refine pw_skip ?_; refine pw_seq ?_; refine pw_region ?_; refine yMd rfl ?_; refine yMd rfl ?_; refine yC (c5) rfl rfl ?_; refine yMd rfl ?_; refine yMd rfl ?_; refine yCm rfl ?_
    refine yCf c6 (.d rfl (.fn inferInstance rfl rfl hph .nil)) rfl ?_; refine yVd rfl rfl ?_; refine yAd rfl ?_; refine yQ ?_; refine pw_seq ?_; refine pw_region ?_; refine yLd rfl rfl rfl ?_; refine yMd rfl ?_
    refine yC (c7) rfl rfl ?_; refine yMd rfl ?_; refine yBbn (c := false) Tryz.underlying4 t2 rfl rfl ?_; refine yQ ?_; refine pw_cf rfl ?_; refine pw_skip ?_; refine pw_region ?_; refine yB rfl rfl rfl rfl ?_; refine yMd rfl ?_
    refine yQ ?_; refine q_then ?_
    exact ⟨j + 1, by omega, by omega, rfl, ⟨.refl _, .refl _, .refl _, .refl _, .refl _, .refl _, .refl _, .refl _, .of_eq (congrArg (fun n => SV.d (dI n)) hw2), trivial⟩, ⟨⟨_, rfl, .refl _, trivial⟩, trivial⟩, trivial, rfl⟩
end Go.Proofs.YtkfoogabijnamaaGreatDoor
