/- Walks of Regular and Irregular of schedule and its reference, for this seat. -/
import Derived.Test.YtilbolgncpfmmaaW2
namespace Go.Proofs.Ytilbolgncpfmmaa
open Go.RowKit Px

/-- what Irregular returns -/
def irE (ps : List (Int × Int)) (m : Int) : Int := sck (sChk ps == 0) m 1
def irG (ps : List (Int × Int)) (m : Int) (k : Nat) : List Int := ((List.range k).filter fun i => !sReg (getP ps i).1 (getP ps i).2 m).map fun (i : Nat) => (i : Int)
def irL (ps : List (Int × Int)) (m : Int) : List Int := if irE ps m = 0 then irG ps m ps.length else []
theorem irG_succ (ps : List (Int × Int)) (m : Int) (k : Nat) : irG ps m (k + 1) = irG ps m k ++ (if sReg (getP ps k).1 (getP ps k).2 m then [] else [(k : Int)]) := by
  unfold irG
  rw [List.range_succ, List.filter_append, List.map_append]
  cases h : sReg (getP ps k).1 (getP ps k).2 m <;> simp [h]
theorem irG_len (ps : List (Int × Int)) (m : Int) (k : Nat) : (irG ps m k).length ≤ k := by
  unfold irG
  rw [List.length_map]
  exact Nat.le_trans (List.length_filter_le _ _) (by simp)
theorem sChk_len {ps : List (Int × Int)} (h : sChk ps = 0) : 0 < ps.length ∧ ps.length ≤ 400 := by
  unfold sChk at h
  split at h
  · omega
  · split at h
    · omega
    · omega
theorem irE_zero {ps : List (Int × Int)} {m : Int} (h : irE ps m = 0) : sChk ps = 0 ∧ 1 ≤ m ∧ m ≤ 4800 := by
  unfold irE at h
  cases hc : sChk ps == 0 with
  | false => rw [hc] at h; simp [sck] at h
  | true => rw [hc] at h; obtain ⟨h1, h2, -⟩ := sck_zero h; exact ⟨by simpa using hc, h1, h2⟩

set_option maxRecDepth 20000 in
set_option maxHeartbeats 1000000 in
theorem p45 (ps : List (Int × Int)) (m : Int) : PCalls Try.prog 45 [dPs ps, dI m] (.tup [dIs (irL ps m), dI (irE ps m)]) := by
  obtain ⟨c, hc⟩ : ∃ c, c = sChk ps := ⟨_, rfl⟩
  obtain ⟨e, he⟩ : ∃ e, e = irE ps m := ⟨_, rfl⟩
  have c1 : PCalls Try.prog 44 [dPs ps] (.d (dI c)) := hc ▸ p44 ps
  have c2 : PCalls Try.prog 82 [dB (c == 0), dI m, dI 1] (.d (dI e)) := by rw [he, irE, ← hc]; exact p82 _ _ _
  rw [← he]
  refine pcalls_of_pw Try.func45 rfl Try.ntmps45 Try.results45 (by simp) fun B w0 => ?_
  refine pw_seq ?_; refine pw_region ?_; refine yAd rfl ?_; refine yAd rfl ?_; refine yQ ?_; refine pw_seq ?_; refine pw_seq ?_; refine pw_region ?_; refine yMd rfl ?_; refine yC (c1) rfl rfl ?_; refine yB rfl rfl rfl rfl ?_
  refine yMd rfl ?_; refine yC (c2) rfl rfl ?_; refine yAd rfl ?_; refine yQ ?_; refine pw_seq ?_; refine pw_region ?_; refine yMd rfl ?_; refine yB rfl rfl rfl rfl ?_; refine yQ ?_; refine q_then ?_
  refine pw_cond rfl (fun h => ?_) (fun h => ?_)
  · refine pw_seq ?_; refine pw_region ?_; refine yMd rfl ?_; refine yAd rfl ?_; refine yAd rfl ?_; refine yQ ?_; refine pw_ret ?_; refine q_then_ret ?_
    have hl : irL ps m = [] := by rw [irL, if_neg (by simpa [← he] using h)]
    rw [hl]
    exact q_ret _ (.tnil 1 rfl (.tmp rfl .nil)) rfl
  simp at h
  subst h
  obtain ⟨hc0, hm1, hm2⟩ := irE_zero he.symm
  have hlen := sChk_len hc0
  refine pw_skip ?_; refine pw_seq ?_; refine pw_region ?_; refine yAd rfl ?_; refine yQ ?_; refine pw_seq ?_; refine pw_seq ?_; refine pw_region ?_; refine yMd rfl ?_; refine yN rfl ?_; refine yMd rfl ?_; refine yQ ?_
  refine pw_block ?_
  refine pw_tok 7 300007 1 rfl rfl rfl ?_
  refine pw_loop (fun k : Nat => ⟨35, [(0, .d (dPs ps)), (1, .d (dI m)), (18, .d (dPs ps)), (19, .d (dI ps.length)), (20, .d (dI k)), (7, .ts 300007 1 ((irG ps m k).map dZ))], [], [(300007, ((irG ps m k).map dZ).length)]⟩) (fun k => k ≤ ps.length) (fun k => ps.length - k) 0 (Nat.zero_le _) ⟨rfl, ⟨.refl _, .refl _, .refl _, .of_eq ?_, .refl _, .refl _, trivial⟩, trivial, ⟨rfl, trivial⟩, rfl⟩ ?_
  · exact congrArg (fun n : Nat => SV.d (dI n)) (by simp)
  intro k hk
  obtain ⟨⟨x, y⟩, hp⟩ : ∃ p, p = getP ps k := ⟨_, rfl⟩
  obtain ⟨r, hr⟩ : ∃ r, r = sReg x y m := ⟨_, rfl⟩
  have c3 : PCalls Try.prog 90 [.agg [dI x, dI y], dI m] (.d (dB r)) := hr ▸ p90 x y m (by omega) (by omega)
  have hgl := irG_len ps m k
  have hw1 := wrapI ((k : Int) + 1) (by omega)
  have hg1 := irG_succ ps m k
  rw [← hp] at hg1
  simp only [← hr] at hg1
  obtain ⟨zs, hz⟩ : ∃ zs, zs = irG ps m k := ⟨_, rfl⟩
  rw [← hz] at hgl hg1 ⊢
  refine pw_seq ?_; refine pw_region ?_; refine yB rfl rfl rfl rfl ?_; refine yQ ?_; refine pw_seq ?_
  refine pw_cond rfl (fun h3 => ?_) (fun h3 => ?_)
  · simp at h3
    have e0 := ix dP ps k k (x, y) rfl (hp ▸ getP_at h3)
    refine pw_skip ?_; refine pw_seq ?_; refine pw_block ?_; refine pw_seq ?_; refine pw_region ?_; refine yMd rfl ?_; refine yW e0 (by omega) rfl rfl ?_; refine yLs (ys := [_, _]) rfl rfl rfl ?_; refine yZ (cs := [_, _]) rfl rfl ?_
    refine yAd rfl ?_; refine yS (cs' := [_, _]) rfl rfl rfl rfl rfl ?_; refine yQ ?_; refine pw_seq ?_; refine pw_region ?_; refine yLa (ys := [_, _]) rfl rfl rfl rfl ?_; refine yMd rfl ?_; refine yC (c3) rfl rfl ?_
    refine yU rfl rfl rfl ?_; refine yQ ?_; refine q_then ?_
    cases r
    · refine pw_ct rfl ?_; refine pw_region ?_; refine yMt rfl ?_; refine yMd rfl ?_; refine yR (es := [[_]]) rfl rfl rfl rfl rfl ?_
      refine yT (es' := (zs ++ [(k : Int)]).map dZ) (m := ((zs ++ [(k : Int)]).map dZ).length) (by simp; omega) (by simp; omega) rfl rfl rfl rfl rfl (by simp) (by simp) ?_; refine yAt rfl ?_; refine yQ ?_; refine pw_region ?_
      refine yB rfl rfl rfl rfl ?_; refine yMd rfl ?_; refine yQ ?_; refine q_then ?_
      refine ⟨k + 1, by omega, by omega, rfl, ⟨.refl _, .refl _, .refl _, .refl _, .of_eq (congrArg (fun n => SV.d (dI n)) hw1), .of_eq ?_, trivial⟩, trivial, ⟨?_, trivial⟩, rfl⟩
      · rw [hg1]; rfl
      · rw [hg1]; rfl
    · refine pw_cf rfl ?_; refine pw_skip ?_; refine pw_region ?_; refine yB rfl rfl rfl rfl ?_; refine yMd rfl ?_; refine yQ ?_; refine q_then ?_
      refine ⟨k + 1, by omega, by omega, rfl, ⟨.refl _, .refl _, .refl _, .refl _, .of_eq (congrArg (fun n => SV.d (dI n)) hw1), .of_eq ?_, trivial⟩, trivial, ⟨?_, trivial⟩, rfl⟩
      · rw [hg1, if_pos rfl, List.append_nil]; rfl
      · rw [hg1, if_pos rfl, List.append_nil]; rfl
  · simp at h3
    obtain rfl : k = ps.length := by omega
    have hl : irL ps m = zs := by rw [irL, if_pos he.symm, hz]
    rw [hl]
    refine pw_exit ?_; refine pw_seq ?_; refine pw_region ?_; refine yMt rfl ?_; refine yAt rfl ?_; refine yAd rfl ?_; refine yQ ?_; refine pw_ret ?_
    exact q_ret _ (.tmp rfl (.tmp rfl .nil)) rfl
end Go.Proofs.Ytilbolgncpfmmaa
