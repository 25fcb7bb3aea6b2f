/- Walks: the laws of heirs and origins. -/
import Derived.Test.YtkfoogabijnamaaGreatDoorB8
namespace Go.Proofs.YtkfoogabijnamaaGreatDoor
open Go.RowKit Px

set_option maxRecDepth 20000 in
theorem wOrg1 (s : Stp) (x : Str) : PCalls Tryz.prog 41 [.agg (dSp s), .ref [dS x]] (.d (dB (buyB x s))) := by
  obtain ⟨c, f, t, q, m, k⟩ := s
  have e : buyB x ⟨c, f, t, q, m, k⟩ = (f == [] && t == x) := rfl
  rw [e]
  cases h1 : (f == []) with
  | false =>
    refine pcalls_of_pw Tryz.func41 rfl Tryz.ntmps41 Tryz.results41 (by simp) fun B w0 => ?_
    refine pw_ref 1 rfl ?_
    refine pw_seq ?_; refine pw_region ?_; refine yK (cs := [_, _, _, _, _, _]) rfl rfl ?_; refine yAd rfl ?_; refine yQ ?_; refine pw_seq ?_; refine pw_region ?_; refine yFb rfl ?_; refine yLd rfl rfl rfl ?_; refine yBse rfl rfl ?_
    refine yMd rfl ?_; rw [h1]; refine yO rfl ?_; refine yO rfl ?_; refine yO rfl ?_; refine yO rfl ?_; refine yVd rfl rfl ?_; refine yAd rfl ?_; refine yQ ?_; refine pw_ret ?_
    exact q_ret _ (.tmp rfl .nil) rfl
  | true =>
    obtain ⟨b, hb⟩ : ∃ b, b = (t == x) := ⟨_, rfl⟩
    rw [← hb]
    refine pcalls_of_pw Tryz.func41 rfl Tryz.ntmps41 Tryz.results41 (by simp) fun B w0 => ?_
    refine pw_ref 1 rfl ?_
    refine pw_seq ?_; refine pw_region ?_; refine yK (cs := [_, _, _, _, _, _]) rfl rfl ?_; refine yAd rfl ?_; refine yQ ?_; refine pw_seq ?_; refine pw_region ?_; refine yFb rfl ?_; refine yLd rfl rfl rfl ?_; refine yBse rfl rfl ?_
    refine yMd rfl ?_; rw [h1]; refine yFb rfl ?_; refine yLd rfl rfl rfl ?_; refine yLr rfl rfl ?_; refine yBse rfl rfl ?_; refine yPd rfl rfl ?_; refine yAd rfl ?_; refine yQ ?_; refine pw_ret ?_; rw [← hb]
    exact q_ret _ (.tmp rfl .nil) rfl
set_option maxRecDepth 20000 in
theorem wOrg2 (s : Stp) (x : Str) : PCalls Tryz.prog 42 [.agg (dSp s), .ref [dS x]] (.d (dB (buyB x s))) := by
  obtain ⟨c, f, t, q, m, k⟩ := s
  have e : buyB x ⟨c, f, t, q, m, k⟩ = (f == [] && t == x) := rfl
  rw [e]
  cases h1 : (f == []) with
  | false =>
    refine pcalls_of_pw Tryz.func42 rfl Tryz.ntmps42 Tryz.results42 (by simp) fun B w0 => ?_
    refine pw_ref 1 rfl ?_
    refine pw_seq ?_; refine pw_region ?_; refine yK (cs := [_, _, _, _, _, _]) rfl rfl ?_; refine yAd rfl ?_; refine yQ ?_; refine pw_seq ?_; refine pw_region ?_; refine yFb rfl ?_; refine yLd rfl rfl rfl ?_; refine yBse rfl rfl ?_
    refine yMd rfl ?_; rw [h1]; refine yO rfl ?_; refine yO rfl ?_; refine yO rfl ?_; refine yO rfl ?_; refine yVd rfl rfl ?_; refine yAd rfl ?_; refine yQ ?_; refine pw_ret ?_
    exact q_ret _ (.tmp rfl .nil) rfl
  | true =>
    obtain ⟨b, hb⟩ : ∃ b, b = (t == x) := ⟨_, rfl⟩
    rw [← hb]
    refine pcalls_of_pw Tryz.func42 rfl Tryz.ntmps42 Tryz.results42 (by simp) fun B w0 => ?_
    refine pw_ref 1 rfl ?_
    refine pw_seq ?_; refine pw_region ?_; refine yK (cs := [_, _, _, _, _, _]) rfl rfl ?_; refine yAd rfl ?_; refine yQ ?_; refine pw_seq ?_; refine pw_region ?_; refine yFb rfl ?_; refine yLd rfl rfl rfl ?_; refine yBse rfl rfl ?_
    refine yMd rfl ?_; rw [h1]; refine yFb rfl ?_; refine yLd rfl rfl rfl ?_; refine yLr rfl rfl ?_; refine yBse rfl rfl ?_; refine yPd rfl rfl ?_; refine yAd rfl ?_; refine yQ ?_; refine pw_ret ?_; rw [← hb]
    exact q_ret _ (.tmp rfl .nil) rfl
theorem hPhOrg1 (x : Str) : ∀ xs r, phP (buyB x) xs r → PCalls Tryz.prog 41 (xs ++ [.ref [dS x]]) r := by
  rintro _ _ ⟨c, rfl, rfl⟩
  exact wOrg1 c x
theorem hPhOrg2 (x : Str) : ∀ xs r, phP (buyB x) xs r → PCalls Tryz.prog 42 (xs ++ [.ref [dS x]]) r := by
  rintro _ _ ⟨c, rfl, rfl⟩
  exact wOrg2 c x
set_option maxRecDepth 20000 in
theorem wOrg3 (H : List Str) (x : Str) (hl : H.length ≤ 1000000) : PCalls Tryz.prog 43 [dS x, .ref [dStrs H]] (.d (dB (noB H x))) := by
  have c1 := wContS H x hl
  rw [noB]
  obtain ⟨b, hb⟩ : ∃ b, b = H.contains x := ⟨_, rfl⟩
  rw [← hb] at c1 ⊢
  refine pcalls_of_pw Tryz.func43 rfl Tryz.ntmps43 Tryz.results43 (by simp) fun B w0 => ?_
  refine pw_ref 1 rfl ?_
  refine pw_seq ?_; refine pw_region ?_; refine yAd rfl ?_; refine yQ ?_; refine pw_seq ?_; refine pw_region ?_; refine yLr rfl rfl ?_; refine yMd rfl ?_; refine yC (c1) rfl rfl ?_; refine yU rfl rfl rfl ?_; refine yAd rfl ?_
  refine yQ ?_; refine pw_ret ?_
  exact q_ret _ (.tmp rfl .nil) rfl
theorem hPhOrg3 (H : List Str) (hl : H.length ≤ 1000000) : ∀ xs r, phS (noB H) xs r → PCalls Tryz.prog 43 (xs ++ [.ref [dStrs H]]) r := by
  rintro _ _ ⟨c, rfl, rfl⟩
  exact wOrg3 H c hl
end Go.Proofs.YtkfoogabijnamaaGreatDoor
namespace Go.Proofs.YtkfoogabijnamaaGreatDoor
open Go.RowKit Px

theorem orgR_len (l : List Stp) (id : Str) : (orgR l id).length ≤ l.length := filt_len (orgF l id) (·.t) l
set_option maxRecDepth 20000 in
set_option maxHeartbeats 8000000 in
theorem lawOrigins (l : List Stp) : PCalls Tryz.prog 9 [dSl l] (.d (dB true)) := by
  have k0 := wAwake
  have k1 := wBigL l
  cases hg : bigL l with
  | true =>
    rw [hg] at k1
    refine pcalls_of_pw Tryz.func9 rfl Tryz.ntmps9 Tryz.results9 (by simp) fun B w0 => ?_
    refine pw_seq ?_; refine pw_region ?_; refine yAd rfl ?_; refine yQ ?_; refine pw_seq ?_; refine pw_seq ?_; refine pw_region ?_; refine yMd rfl ?_; refine yC (k1) rfl rfl ?_; refine yMd rfl ?_; refine yO rfl ?_; refine yO rfl ?_
    refine yO rfl ?_; refine yPd rfl rfl ?_; refine yMd rfl ?_; refine yO rfl ?_; refine yO rfl ?_; refine yO rfl ?_; refine yPd rfl rfl ?_; refine yQ ?_; refine pw_ct rfl ?_; refine pw_seq ?_; refine pw_region ?_
    refine yC (k0) rfl rfl ?_; refine yAd rfl ?_; refine yQ ?_; refine pw_ret ?_; refine q_then_ret ?_
    exact q_ret _ (.tmp rfl .nil) rfl
  | false =>
  rw [hg] at k1
  have hb := bigL_bd hg
  have hll := hb.1
  by_cases hn : 16 < l.length
  · have t0 : decide (((l.map dSp).length : Int) > 16) = true := decide_eq_true (by rw [List.length_map]; omega)
    refine pcalls_of_pw Tryz.func9 rfl Tryz.ntmps9 Tryz.results9 (by simp) fun B w0 => ?_
    refine pw_seq ?_; refine pw_region ?_; refine yAd rfl ?_; refine yQ ?_; refine pw_seq ?_; refine pw_seq ?_; refine pw_region ?_; refine yMd rfl ?_; refine yC (k1) rfl rfl ?_; refine yMd rfl ?_; refine yMd rfl ?_; refine yN rfl ?_
    refine yB rfl rfl rfl rfl ?_; refine yVd rfl rfl ?_; refine yMd rfl ?_; rw [t0]; refine yO rfl ?_; refine yO rfl ?_; refine yO rfl ?_; refine yPd rfl rfl ?_; refine yQ ?_; refine pw_ct rfl ?_; refine pw_seq ?_; refine pw_region ?_
    refine yC (k0) rfl rfl ?_; refine yAd rfl ?_; refine yQ ?_; refine pw_ret ?_; refine q_then_ret ?_
    exact q_ret _ (.tmp rfl .nil) rfl
  have t0 : decide (((l.map dSp).length : Int) > 16) = false := decide_eq_false (by rw [List.length_map]; omega)
  have k2 := wChk l hb
  by_cases hc : chkE l = 0
  rotate_left
  · have t1 : (chkE l != 0) = true := by simpa using hc
    refine pcalls_of_pw Tryz.func9 rfl Tryz.ntmps9 Tryz.results9 (by simp) fun B w0 => ?_
    refine pw_seq ?_; refine pw_region ?_; refine yAd rfl ?_; refine yQ ?_; refine pw_seq ?_; refine pw_seq ?_; refine pw_region ?_; refine yMd rfl ?_; refine yC (k1) rfl rfl ?_; refine yMd rfl ?_; refine yMd rfl ?_; refine yN rfl ?_
    refine yB rfl rfl rfl rfl ?_; refine yVd rfl rfl ?_; refine yMd rfl ?_; rw [t0]; refine yMd rfl ?_; refine yC (k2) rfl rfl ?_; refine yB rfl rfl rfl rfl ?_; refine yVd rfl rfl ?_; refine yQ ?_; refine q_then ?_; rw [t1]
    refine pw_ct rfl ?_; refine pw_seq ?_; refine pw_region ?_; refine yC (k0) rfl rfl ?_; refine yAd rfl ?_; refine yQ ?_; refine pw_ret ?_; refine q_then_ret ?_
    exact q_ret _ (.tmp rfl .nil) rfl
  rw [hc] at k2
  have k3 := wLots l (by omega)
  have k4 : ∀ x, PCalls Tryz.prog 17 [dSl l, dS x] (.tup [dStrs (heiR l x), dI 0]) := fun x => by
    have := wHeirs l x hb
    rwa [okR, okE, if_pos hc, if_pos hc] at this
  have k5 : ∀ x, PCalls Tryz.prog 13 [dSl l, dS x] (.tup [dStrs (parR l x), dI 0]) := fun x => by
    have := wParents l x hb
    rwa [okR, okE, if_pos hc, if_pos hc] at this
  have k6 : ∀ x, PCalls Tryz.prog 15 [dSl l, dS x] (.tup [dStrs (orgR l x), dI 0]) := fun x => by
    have := wOrigins l x hb
    rwa [okR, okE, if_pos hc, if_pos hc] at this
  have z4 := heiR_len l
  obtain ⟨A, hA⟩ : ∃ A, A = lotN l := ⟨_, rfl⟩
  have hAl := lotN_len l
  rw [← hA] at k3 hAl
  refine pcalls_of_pw Tryz.func9 rfl Tryz.ntmps9 Tryz.results9 (by simp) fun B w0 => ?_
  refine pw_seq ?_; refine pw_region ?_; refine yAd rfl ?_; refine yQ ?_; refine pw_seq ?_; refine pw_seq ?_; refine pw_region ?_; refine yMd rfl ?_; refine yC (k1) rfl rfl ?_; refine yMd rfl ?_; refine yMd rfl ?_; refine yN rfl ?_
  refine yB rfl rfl rfl rfl ?_; refine yVd rfl rfl ?_; refine yMd rfl ?_; rw [t0]; refine yMd rfl ?_; refine yC (k2) rfl rfl ?_; refine yB rfl rfl rfl rfl ?_; refine yVd rfl rfl ?_; refine yQ ?_; refine pw_cf rfl ?_; refine pw_skip ?_
  refine pw_seq ?_; refine pw_seq ?_; refine pw_region ?_; refine yMd rfl ?_; refine yC (k3) rfl rfl ?_; refine yN rfl ?_; refine yMd rfl ?_; refine yQ ?_; refine pw_block ?_
  refine pw_loop (fun i : Nat => ⟨123, [(0, .d (dSl l)), (32, .d (dStrs A)), (33, .d (dI A.length)), (34, .d (dI i))], [], []⟩) (fun i => i ≤ A.length) (fun i => A.length - i) 0 (Nat.zero_le _) ⟨rfl, ⟨.refl _, .refl _, .of_eq (congrArg (fun n : Nat => SV.d (dI n)) (by simp)), .refl _, trivial⟩, trivial, trivial, rfl⟩ ?_
  intro i hi
  rcases Nat.lt_or_ge i A.length with h | h
  rotate_left
  · have u1 : decide ((i : Int) < (A.length : Int)) = false := decide_eq_false (by omega)
    refine pw_seq ?_; refine pw_region ?_; refine yB rfl rfl rfl rfl ?_; refine yQ ?_; refine pw_seq ?_; rw [u1]; refine pw_cf rfl ?_; refine pw_exit ?_; refine pw_seq ?_; refine pw_region ?_; refine yC (k0) rfl rfl ?_
    refine yAd rfl ?_; refine yQ ?_; refine pw_ret ?_
    exact q_ret _ (.tmp rfl .nil) rfl
  have u1 : decide ((i : Int) < (A.length : Int)) = true := decide_eq_true (by omega)
  obtain ⟨id, hx⟩ : ∃ a, A[i]? = some a := ⟨_, List.getElem?_eq_getElem h⟩
  have ex := ix (fun s => [dS s]) A i i id rfl hx
  have hw := wrapI ((i : Int) + 1) (by omega)
  have m5 := k5 id
  have m6 := k6 id
  have z5 := parR_len l id
  have z6 := orgR_len l id
  have y6 := orgR_asc l id
  have y7 := org_self l id
  have y8 : ∀ o ∈ orgR l id, (o = id ∨ (heiR l o).contains id = true) ∧ l.any (buyB o) = true := fun o ho => org_at ho
  have y9 : ∀ p ∈ parR l id, (orgR l p).any (noB (orgR l id)) = false := fun p hp => noB_none fun x hx => org_par hp hx
  have c3 := wHasFP (buyB id) l (by omega)
  obtain ⟨O, hO⟩ : ∃ O, O = orgR l id := ⟨_, rfl⟩
  rw [← hO] at m6 z6 y6 y7 y8
  simp only [← hO] at y9
  obtain ⟨p, hp⟩ : ∃ p, p = parR l id := ⟨_, rfl⟩
  rw [← hp] at m5 z5 y9
  have c1 := wIsSorted O y6 (by omega)
  have c2 := wContS O id (by omega)
  rw [y7] at c2
  obtain ⟨g, hg1⟩ : ∃ g, g = l.any (buyB id) := ⟨_, rfl⟩
  rw [← hg1] at c2 c3
  have hph1 := hPhOrg1 id
  have t2 : (g != g) = false := by simp
  clear hO hp hg1 y7 y6
  refine pw_seq ?_; refine pw_region ?_; refine yB rfl rfl rfl rfl ?_; refine yQ ?_; refine pw_seq ?_; rw [u1]; refine pw_ct rfl ?_; refine pw_skip ?_; refine pw_seq ?_; refine pw_block ?_; refine pw_seq ?_; refine pw_region ?_
  refine yW ex (by omega) rfl rfl ?_; refine yLr rfl rfl ?_; refine yZ (cs := [_]) rfl rfl ?_; refine ySd (cs' := [_]) rfl rfl rfl rfl ?_; refine yQ ?_; refine pw_seq ?_; refine pw_region ?_; refine yMd rfl ?_
  refine yLd rfl rfl rfl ?_; refine yC (m6) rfl rfl ?_; refine yMp rfl ?_; refine yX rfl rfl ?_; refine yX rfl rfl ?_; refine yZ (cs := [_]) rfl rfl ?_; refine ySl (cs' := [_]) rfl rfl rfl rfl ?_; refine yAd rfl ?_; refine yQ ?_
  refine pw_seq ?_; refine pw_region ?_; refine yMd rfl ?_; refine yLd rfl rfl rfl ?_; refine yC (m5) rfl rfl ?_; refine yMp rfl ?_; refine yX rfl rfl ?_; refine yX rfl rfl ?_; refine yAd rfl ?_; refine yAd rfl ?_; refine yQ ?_
  refine pw_seq ?_; refine pw_seq ?_; refine pw_region ?_; refine yMd rfl ?_; refine yB rfl rfl rfl rfl ?_; refine yMd rfl ?_; refine yMd rfl ?_; refine yB rfl rfl rfl rfl ?_; refine yVd rfl rfl ?_; refine yMd rfl ?_
  refine yLd rfl rfl rfl ?_; refine yC (c1) rfl rfl ?_; refine yU rfl rfl rfl ?_; refine yVd rfl rfl ?_; refine yQ ?_; refine pw_cf rfl ?_; refine pw_skip ?_; refine pw_seq ?_; refine pw_region ?_; refine yMd rfl ?_; refine yCm rfl ?_
  refine yCf c3 (.d rfl (.fn inferInstance rfl rfl hph1 .nil)) rfl ?_; refine yAd rfl ?_; refine yQ ?_; refine pw_seq ?_; refine pw_seq ?_; refine pw_region ?_; refine yLd rfl rfl rfl ?_; refine yLd rfl rfl rfl ?_
  refine yC (c2) rfl rfl ?_; refine yMd rfl ?_; refine yBbn (c := false) Tryz.underlying4 t2 rfl rfl ?_; refine yQ ?_; refine pw_cf rfl ?_; refine pw_skip ?_; refine pw_seq ?_; refine pw_seq ?_; refine pw_region ?_
  refine yLd rfl rfl rfl ?_; refine yN rfl ?_; refine yMd rfl ?_; refine yQ ?_; refine pw_block ?_
  refine pw_loop (fun j : Nat => ⟨123, [(0, .d (dSl l)), (4, .bx 4 0), (5, .bx 5 0), (7, .d (dStrs p)), (32, .d (dStrs A)), (33, .d (dI A.length)), (34, .d (dI i)), (69, .d (dStrs O)), (70, .d (dI O.length)), (71, .d (dI j))], [(4, [.d (dS id)]), (5, [.d (dStrs O)])], []⟩) (fun j => j ≤ O.length) (fun j => O.length - j) 0 (Nat.zero_le _) ⟨rfl, ⟨.refl _, .refl _, .refl _, .refl _, .refl _, .refl _, .refl _, .refl _, .of_eq (congrArg (fun n : Nat => SV.d (dI n)) (by simp)), .refl _, trivial⟩, ⟨⟨_, rfl, .refl _, trivial⟩, ⟨_, rfl, .refl _, trivial⟩, trivial⟩, trivial, rfl⟩ ?_
  intro j hj
  rcases Nat.lt_or_ge j O.length with h2 | h2
  · have u2 : decide ((j : Int) < (O.length : Int)) = true := decide_eq_true (by omega)
    obtain ⟨o, hy⟩ : ∃ a, O[j]? = some a := ⟨_, List.getElem?_eq_getElem h2⟩
    have ey := ix (fun s => [dS s]) O j j o rfl hy
    have hw2 := wrapI ((j : Int) + 1) (by omega)
    obtain ⟨v1, v2⟩ := y8 o (List.mem_of_getElem? hy)
    have m4 := k4 o
    have c4 := wContS (heiR l o) id (by have := z4 o; omega)
    have c5 := wHasFP (buyB o) l (by omega)
    rw [v2] at c5
    have hph2 := hPhOrg2 o
    by_cases e1 : o = id
    · have t3 : (!(o == id)) = false := by simp [e1]
      obtain ⟨H, hH⟩ : ∃ H, H = heiR l o := ⟨_, rfl⟩
      rw [← hH] at m4
      refine pw_seq ?_; refine pw_region ?_; refine yB rfl rfl rfl rfl ?_; refine yQ ?_; refine pw_seq ?_; rw [u2]; refine pw_ct rfl ?_; refine pw_skip ?_; refine pw_seq ?_; refine pw_block ?_; refine pw_seq ?_; refine pw_region ?_
      refine yW ey (by omega) rfl rfl ?_; refine yLr rfl rfl ?_; refine yZ (cs := [_]) rfl rfl ?_; refine ySd (cs' := [_]) rfl rfl rfl rfl ?_; refine yQ ?_; refine pw_seq ?_; refine pw_region ?_; refine yMd rfl ?_
      refine yLd rfl rfl rfl ?_; refine yC (m4) rfl rfl ?_; refine yMp rfl ?_; refine yX rfl rfl ?_; refine yX rfl rfl ?_; refine yAd rfl ?_; refine yAd rfl ?_; refine yQ ?_; refine pw_seq ?_; refine pw_region ?_; refine yMd rfl ?_
      refine yB rfl rfl rfl rfl ?_; refine yMd rfl ?_; refine yLd rfl rfl rfl ?_; refine yLd rfl rfl rfl ?_; refine yBsn rfl rfl ?_; refine yMd rfl ?_; rw [t3]; refine yO rfl ?_; refine yO rfl ?_; refine yO rfl ?_; refine yO rfl ?_
      refine yVd rfl rfl ?_; refine yVd rfl rfl ?_; refine yMd rfl ?_; refine yMd rfl ?_; refine yCm rfl ?_; refine yCf c5 (.d rfl (.fn inferInstance rfl rfl hph2 .nil)) rfl ?_; refine yU rfl rfl rfl ?_; refine yVd rfl rfl ?_
      refine yQ ?_; refine pw_cf rfl ?_; refine pw_skip ?_; refine pw_region ?_; refine yB rfl rfl rfl rfl ?_; refine yMd rfl ?_; refine yQ ?_; refine q_then ?_
      exact ⟨j + 1, by omega, by omega, rfl, ⟨.refl _, .refl _, .refl _, .refl _, .refl _, .refl _, .refl _, .refl _, .refl _, .of_eq (congrArg (fun n => SV.d (dI n)) hw2), trivial⟩, ⟨⟨_, rfl, .refl _, trivial⟩, ⟨_, rfl, .refl _, trivial⟩, trivial⟩, trivial, rfl⟩
    · have t3 : (!(o == id)) = true := by simpa using e1
      rw [v1.resolve_left e1] at c4
      obtain ⟨H, hH⟩ : ∃ H, H = heiR l o := ⟨_, rfl⟩
      rw [← hH] at m4 c4
      refine pw_seq ?_; refine pw_region ?_; refine yB rfl rfl rfl rfl ?_; refine yQ ?_; refine pw_seq ?_; rw [u2]; refine pw_ct rfl ?_; refine pw_skip ?_; refine pw_seq ?_; refine pw_block ?_; refine pw_seq ?_; refine pw_region ?_
      refine yW ey (by omega) rfl rfl ?_; refine yLr rfl rfl ?_; refine yZ (cs := [_]) rfl rfl ?_; refine ySd (cs' := [_]) rfl rfl rfl rfl ?_; refine yQ ?_; refine pw_seq ?_; refine pw_region ?_; refine yMd rfl ?_
      refine yLd rfl rfl rfl ?_; refine yC (m4) rfl rfl ?_; refine yMp rfl ?_; refine yX rfl rfl ?_; refine yX rfl rfl ?_; refine yAd rfl ?_; refine yAd rfl ?_; refine yQ ?_; refine pw_seq ?_; refine pw_region ?_; refine yMd rfl ?_
      refine yB rfl rfl rfl rfl ?_; refine yMd rfl ?_; refine yLd rfl rfl rfl ?_; refine yLd rfl rfl rfl ?_; refine yBsn rfl rfl ?_; refine yMd rfl ?_; rw [t3]; refine yMd rfl ?_; refine yLd rfl rfl rfl ?_; refine yC (c4) rfl rfl ?_
      refine yU rfl rfl rfl ?_; refine yPd rfl rfl ?_; refine yVd rfl rfl ?_; refine yMd rfl ?_; refine yMd rfl ?_; refine yCm rfl ?_; refine yCf c5 (.d rfl (.fn inferInstance rfl rfl hph2 .nil)) rfl ?_; refine yU rfl rfl rfl ?_
      refine yVd rfl rfl ?_; refine yQ ?_; refine pw_cf rfl ?_; refine pw_skip ?_; refine pw_region ?_; refine yB rfl rfl rfl rfl ?_; refine yMd rfl ?_; refine yQ ?_; refine q_then ?_
      exact ⟨j + 1, by omega, by omega, rfl, ⟨.refl _, .refl _, .refl _, .refl _, .refl _, .refl _, .refl _, .refl _, .refl _, .of_eq (congrArg (fun n => SV.d (dI n)) hw2), trivial⟩, ⟨⟨_, rfl, .refl _, trivial⟩, ⟨_, rfl, .refl _, trivial⟩, trivial⟩, trivial, rfl⟩
  have u2 : decide ((j : Int) < (O.length : Int)) = false := decide_eq_false (by omega)
  have hph3 := hPhOrg3 O (by omega)
  refine pw_seq ?_; refine pw_region ?_; refine yB rfl rfl rfl rfl ?_; refine yQ ?_; refine pw_seq ?_; rw [u2]; refine pw_cf rfl ?_; refine pw_exit ?_; refine pw_seq ?_; refine pw_region ?_; refine yMd rfl ?_; refine yN rfl ?_
  refine yMd rfl ?_; refine yQ ?_; refine pw_block ?_
  refine pw_loop (fun j : Nat => ⟨123, [(0, .d (dSl l)), (5, .bx 5 0), (32, .d (dStrs A)), (33, .d (dI A.length)), (34, .d (dI i)), (101, .d (dStrs p)), (102, .d (dI p.length)), (103, .d (dI j))], [(5, [.d (dStrs O)])], []⟩) (fun j => j ≤ p.length) (fun j => p.length - j) 0 (Nat.zero_le _) ⟨rfl, ⟨.refl _, .refl _, .refl _, .refl _, .refl _, .refl _, .of_eq (congrArg (fun n : Nat => SV.d (dI n)) (by simp)), .refl _, trivial⟩, ⟨⟨_, rfl, .refl _, trivial⟩, trivial⟩, trivial, rfl⟩ ?_
  intro j hj
  rcases Nat.lt_or_ge j p.length with h3 | h3
  · have u3 : decide ((j : Int) < (p.length : Int)) = true := decide_eq_true (by omega)
    obtain ⟨o, hy⟩ : ∃ a, p[j]? = some a := ⟨_, List.getElem?_eq_getElem h3⟩
    have ey := ix (fun s => [dS s]) p j j o rfl hy
    have hw2 := wrapI ((j : Int) + 1) (by omega)
    have v1 := y9 o (List.mem_of_getElem? hy)
    have m7 := k6 o
    have z7 := orgR_len l o
    obtain ⟨R, hR⟩ : ∃ R, R = orgR l o := ⟨_, rfl⟩
    rw [← hR] at m7 z7 v1
    have c6 := wHasFS (noB O) R (by omega)
    rw [v1] at c6
    refine pw_seq ?_; refine pw_region ?_; refine yB rfl rfl rfl rfl ?_; refine yQ ?_; refine pw_seq ?_; rw [u3]; refine pw_ct rfl ?_; refine pw_skip ?_; refine pw_seq ?_; refine pw_block ?_; refine pw_seq ?_; refine pw_region ?_
    refine yW ey (by omega) rfl rfl ?_; refine yLr rfl rfl ?_; refine yAd rfl ?_; refine yQ ?_; refine pw_seq ?_; refine pw_region ?_; refine yMd rfl ?_; refine yMd rfl ?_; refine yC (m7) rfl rfl ?_; refine yMp rfl ?_
    refine yX rfl rfl ?_; refine yX rfl rfl ?_; refine yAd rfl ?_; refine yAd rfl ?_; refine yQ ?_; refine pw_seq ?_; refine pw_region ?_; refine yMd rfl ?_; refine yB rfl rfl rfl rfl ?_; refine yMd rfl ?_; refine yMd rfl ?_
    refine yCm rfl ?_; refine yCf c6 (.d rfl (.fn inferInstance rfl rfl hph3 .nil)) rfl ?_; refine yVd rfl rfl ?_; refine yQ ?_; refine pw_cf rfl ?_; refine pw_skip ?_; refine pw_region ?_; refine yB rfl rfl rfl rfl ?_
    refine yMd rfl ?_; refine yQ ?_; refine q_then ?_
    exact ⟨j + 1, by omega, by omega, rfl, ⟨.refl _, .refl _, .refl _, .refl _, .refl _, .refl _, .refl _, .of_eq (congrArg (fun n => SV.d (dI n)) hw2), trivial⟩, ⟨⟨_, rfl, .refl _, trivial⟩, trivial⟩, trivial, rfl⟩
  have u3 : decide ((j : Int) < (p.length : Int)) = false := decide_eq_false (by omega)
  refine pw_seq ?_; refine pw_region ?_; refine yB rfl rfl rfl rfl ?_; refine yQ ?_; refine pw_seq ?_; rw [u3]; refine pw_cf rfl ?_; refine pw_exit ?_; refine pw_region ?_; refine yB rfl rfl rfl rfl ?_; refine yMd rfl ?_; refine yQ ?_
  refine q_then ?_
  exact ⟨i + 1, by omega, by omega, rfl, ⟨.refl _, .refl _, .refl _, .of_eq (congrArg (fun n => SV.d (dI n)) hw), trivial⟩, trivial, trivial, rfl⟩
end Go.Proofs.YtkfoogabijnamaaGreatDoor
