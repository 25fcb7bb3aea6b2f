/- Walk: the law on a statement and itself. -/
import Derived.Test.YtdkpmnefoobipaaGreatDoorB10
import Derived.Test.YtdkpmnefoobipaaGreatDoorB8
namespace Go.Proofs.YtdkpmnefoobipaaGreatDoor
open Go.RowKit Px

set_option maxRecDepth 20000 in
set_option maxHeartbeats 8000000 in
theorem law7 (s : Stm) (n : Int) (hn0 : 0 ≤ n) (hn1 : n ≤ 255) : PCalls Tryz.prog 7 [.agg (dSt s), .val (.int .u8 n)] (.d (dB true)) := by
  have c1 := wFine s s
  have c0 := wAwake
  have hwn := wrapI n (by omega)
  cases hg : fineB s s with
  | false =>
    rw [hg] at c1
    obtain ⟨d1, h1, ms⟩ := s
    refine pcalls_of_pw Tryz.func7 rfl Tryz.ntmps7 Tryz.results7 (by simp) fun B w0 => ?_
    refine pw_seq ?_; refine pw_region ?_; refine yK (cs := [_, _, _]) rfl rfl ?_; refine yAd rfl ?_; refine yQ ?_; refine pw_seq ?_; refine pw_seq ?_; refine pw_region ?_; refine yLa (ys := [_, _, _]) rfl rfl rfl rfl ?_
    refine yLa (ys := [_, _, _]) rfl rfl rfl rfl ?_; refine yC (c1) rfl rfl ?_; refine yU rfl rfl rfl ?_; refine yQ ?_; refine pw_ct rfl ?_; refine pw_seq ?_; refine pw_region ?_; refine yC (c0) rfl rfl ?_; refine yAd rfl ?_
    refine yQ ?_; refine pw_ret ?_; refine q_then_ret ?_
    exact q_ret _ (.tmp rfl .nil) rfl
  | true =>
  rw [hg] at c1
  obtain ⟨f1, -, -, a2, -, -, k1, -, -⟩ := fine_of hg
  have hck := ckE_fine k1 k1 rfl hn0 (by omega : n ≤ 366)
  have hh := hdB_self s.hs
  have c2 := wAll s s n f1 f1
  rw [allR', if_pos hck, hck, hh, mvB_self, List.append_nil] at c2
  have c3 := wPairs s s n f1 f1
  rw [pairsR, if_pos hck, hck] at c3
  have hq : ∀ m ∈ s.ms, m.2.2.2.1.length ≤ 1000 := fun m hm => by
    unfold fineB grtS at hg
    simp only [Bool.and_eq_true, Bool.not_eq_true', Bool.or_eq_false_iff, Bool.or_self] at hg
    have h1 := hg.1.2.2.2
    rw [List.any_eq_false] at h1
    have := h1 m hm
    simp [lngM] at this
    omega
  have c4 := wExplained s s n f1 f1 hq hq (by rw [hh]; intro b hb; simp at hb)
  have hx : explR s s n = [] := by
    rw [explR, if_pos hck, hh]
    rfl
  rw [hx, hck] at c4
  have hp2 := pt1_self s.ms
  rw [pt2_self, prsN_self hp2.1] at c3
  have hpl : ((List.range s.ms.length).map fun i : Nat => ((i : Int), (i : Int))).length = s.ms.length := by simp
  have hpi : ∀ i : Nat, i < s.ms.length → ((List.range s.ms.length).map fun i : Nat => ((i : Int), (i : Int)))[i]? = some ((i : Int), (i : Int)) := fun i hi => by
    rw [List.getElem?_map, List.getElem?_range hi]; rfl
  obtain ⟨p, hp⟩ : ∃ p, p = (List.range s.ms.length).map fun i : Nat => ((i : Int), (i : Int)) := ⟨_, rfl⟩
  rw [← hp] at c3 hpl hpi
  clear hp hp2 hx hh hck k1 hg f1 hq
  obtain ⟨d1, h1, ms⟩ := s
  simp only at c1 c2 c3 c4 a2 hpl hpi
  have u0 : (((p.map dP2).length : Int) != ((ms.map dM).length : Int)) = false := by simp [hpl]
  have u1 : (IntKind.i64.wrap (0 + 0) != 0) = false := by decide
  refine pcalls_of_pw Tryz.func7 rfl Tryz.ntmps7 Tryz.results7 (by simp) fun B w0 => ?_
  refine pw_seq ?_; refine pw_region ?_; refine yK (cs := [_, _, _]) rfl rfl ?_; refine yAd rfl ?_; refine yQ ?_; refine pw_seq ?_; refine pw_seq ?_; refine pw_region ?_; refine yLa (ys := [_, _, _]) rfl rfl rfl rfl ?_
  refine yLa (ys := [_, _, _]) rfl rfl rfl rfl ?_; refine yC (c1) rfl rfl ?_; refine yU rfl rfl rfl ?_; refine yQ ?_; refine pw_cf rfl ?_; refine pw_skip ?_; refine pw_seq ?_; refine pw_region ?_; refine yMd rfl ?_; refine yJ rfl ?_
  refine yAd rfl ?_; refine yQ ?_; refine pw_seq ?_; refine pw_region ?_; refine yLa (ys := [_, _, _]) rfl rfl rfl rfl ?_; refine yLa (ys := [_, _, _]) rfl rfl rfl rfl ?_; refine yMd rfl ?_; rw [hwn]; refine yC (c2) rfl rfl ?_
  refine yMp rfl ?_; refine yX rfl rfl ?_; refine yX rfl rfl ?_; refine yAd rfl ?_; refine yAd rfl ?_; refine yQ ?_; refine pw_seq ?_; refine pw_region ?_; refine yLa (ys := [_, _, _]) rfl rfl rfl rfl ?_
  refine yLa (ys := [_, _, _]) rfl rfl rfl rfl ?_; refine yMd rfl ?_; refine yC (c3) rfl rfl ?_; refine yMp rfl ?_; refine yX rfl rfl ?_; refine yX rfl rfl ?_; refine yAd rfl ?_; refine yAd rfl ?_; refine yQ ?_; refine pw_seq ?_
  refine pw_region ?_; refine yLa (ys := [_, _, _]) rfl rfl rfl rfl ?_; refine yLa (ys := [_, _, _]) rfl rfl rfl rfl ?_; refine yMd rfl ?_; refine yC (c4) rfl rfl ?_; refine yMp rfl ?_; refine yX rfl rfl ?_; refine yX rfl rfl ?_
  refine yAd rfl ?_; refine yAd rfl ?_; refine yQ ?_; refine pw_seq ?_; refine pw_seq ?_; refine pw_region ?_; refine yMd rfl ?_; refine yB rfl rfl rfl rfl ?_; refine yMd rfl ?_; refine yMd rfl ?_; refine yB rfl rfl rfl rfl ?_
  refine yVd rfl rfl ?_; refine yMd rfl ?_; refine yMd rfl ?_; refine yB rfl rfl rfl rfl ?_; refine yVd rfl rfl ?_; refine yMd rfl ?_; refine yMd rfl ?_; refine yN rfl ?_; refine yMd rfl ?_; refine yN rfl ?_
  refine yB rfl rfl rfl rfl ?_; refine yB rfl rfl rfl rfl ?_; refine yVd rfl rfl ?_; refine yMd rfl ?_; refine yMd rfl ?_; refine yN rfl ?_; refine yFb rfl ?_; refine yLd rfl rfl rfl ?_; refine yN rfl ?_; refine yB rfl rfl rfl rfl ?_
  refine yVd rfl rfl ?_; refine yQ ?_; refine q_then ?_; rw [u0]; refine pw_cf rfl ?_; refine pw_skip ?_; refine pw_seq ?_; refine pw_seq ?_; refine pw_region ?_; refine yMd rfl ?_; refine yN rfl ?_; refine yMd rfl ?_; refine yQ ?_
  refine pw_block ?_
  refine pw_loop (fun i : Nat => ⟨82, [(2, .bx 2 0), (68, .d (.sl 2 (p.map dP2))), (69, .d (dI p.length)), (70, .d (dI i))], [(2, [.d (dI d1), .d (.sl 2 (h1.map dH)), .d (.sl 5 (ms.map dM))])], []⟩) (fun i => i ≤ p.length) (fun i => p.length - i) 0 (Nat.zero_le _)
    ⟨rfl, ⟨.refl _, .refl _, .of_eq (congrArg (fun n : Nat => SV.d (dI n)) (by simp)), .refl _, trivial⟩, ⟨⟨_, rfl, .refl _, .refl _, .refl _, trivial⟩, trivial⟩, trivial, rfl⟩ ?_
  intro i hi
  rcases Nat.lt_or_ge i p.length with h | h
  · have t1 : decide ((i : Int) < (p.length : Int)) = true := decide_eq_true (by omega)
    have ei := ix dP2 p i i ((i : Int), (i : Int)) rfl (hpi i (by omega))
    have hw := wrapI ((i : Int) + 1) (by omega)
    have t2 : veqs [.int .i64 (i : Int), .int .i64 (i : Int)] [.int .i64 (i : Int), .int .i64 (i : Int)] = true := by rw [veqs, veqs, veq_int]; simp [veqs]
    refine pw_seq ?_; refine pw_region ?_; refine yB rfl rfl rfl rfl ?_; refine yQ ?_; refine pw_seq ?_; rw [t1]; refine pw_ct rfl ?_; refine pw_skip ?_; refine pw_seq ?_; refine pw_block ?_; refine pw_seq ?_; refine pw_region ?_
    refine yMd rfl ?_; refine yW ei (by omega) rfl rfl ?_; refine yLs (ys := [_, _]) rfl rfl rfl ?_; refine yZ (cs := [_, _]) rfl rfl ?_; refine yAd rfl ?_; refine yS (cs' := [_, _]) rfl rfl rfl rfl rfl ?_; refine yQ ?_
    refine pw_seq ?_; refine pw_region ?_; refine yLa (ys := [_, _]) rfl rfl rfl rfl ?_; refine yMd rfl ?_; refine yMd rfl ?_; refine yG (ys := [_, _]) rfl rfl ?_
    refine yBx (vs := [.int .i64 (i : Int), .int .i64 (i : Int)]) (us := [.int .i64 (i : Int), .int .i64 (i : Int)]) rfl rfl rfl rfl rfl rfl ?_; refine yQ ?_; refine q_then ?_; rw [t2]; refine pw_cf rfl ?_; refine pw_skip ?_
    refine pw_region ?_; refine yB rfl rfl rfl rfl ?_; refine yMd rfl ?_; refine yQ ?_; refine q_then ?_
    exact ⟨i + 1, by omega, by omega, rfl, ⟨.refl _, .refl _, .refl _, .of_eq (congrArg (fun n => SV.d (dI n)) hw), trivial⟩, ⟨⟨_, rfl, .refl _, .refl _, .refl _, trivial⟩, trivial⟩, trivial, rfl⟩
  · have t1 : decide ((i : Int) < (p.length : Int)) = false := decide_eq_false (by omega)
    refine pw_seq ?_; refine pw_region ?_; refine yB rfl rfl rfl rfl ?_; refine yQ ?_; refine pw_seq ?_; rw [t1]; refine pw_cf rfl ?_; refine pw_exit ?_; refine pw_seq ?_; refine pw_region ?_; refine yC (c0) rfl rfl ?_
    refine yAd rfl ?_; refine yQ ?_; refine pw_ret ?_
    exact q_ret _ (.tmp rfl .nil) rfl
end Go.Proofs.YtdkpmnefoobipaaGreatDoor
