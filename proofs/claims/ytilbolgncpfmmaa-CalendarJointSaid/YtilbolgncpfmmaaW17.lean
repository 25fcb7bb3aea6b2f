/- The walk of the reference's Regular, for this seat. -/
import Derived.Test.YtilbolgncpfmmaaW16
namespace Go.Proofs.Ytilbolgncpfmmaa
open Go.RowKit Px

set_option maxRecDepth 20000 in
set_option maxHeartbeats 1000000 in
theorem p57 (ps : List (Int × Int)) (i m s : Int) : PCalls Try.prog 57 [dPs ps, dI i, dI m, dI s] (dR (rgR ps i m s)) := by
  obtain ⟨c, hc⟩ : ∃ c, c = sChk ps := ⟨_, rfl⟩
  obtain ⟨e, he⟩ : ∃ e, e = sck (c == 0) m s := ⟨_, rfl⟩
  have c1 : PCalls Try.prog 58 [dPs ps] (.d (dI c)) := hc ▸ p58 ps
  have hr : rgR ps i m s = if e = 0 then (if i < 0 ∨ (ps.length : Int) ≤ i then ((0, 0), 2) else rgP (getP ps i.toNat).1 (getP ps i.toNat).2 m s) else ((0, 0), e) := by rw [rgR, ← hc, ← he]
  refine pcalls_of_pw Try.func57 rfl Try.ntmps57 Try.results57 (by simp) fun B w0 => ?_
  refine pw_seq ?_; refine pw_region ?_; refine yZ (cs := [_, _]) rfl rfl ?_; refine yAd rfl ?_; refine yQ ?_; refine pw_seq ?_; refine pw_seq ?_; refine pw_region ?_; refine yMd rfl ?_; refine yC (c1) rfl rfl ?_
  refine yB rfl rfl rfl rfl ?_; refine yQ ?_; refine q_then ?_
  refine pw_cond rfl (fun h => ?_) (fun h => ?_)
  · simp at h
    have he1 : e = 1 := by rw [he, show (c == 0) = false by simpa using h, sck_bad]
    rw [hr, he1, if_neg (by decide)]
    refine pw_seq ?_; refine pw_region ?_; refine yG (ys := [_, _]) rfl rfl ?_; refine yS (cs' := [_, _]) rfl rfl rfl rfl rfl ?_; refine yAd rfl ?_; refine yQ ?_; refine pw_ret ?_; refine q_then_ret ?_
    exact q_ret _ (.agg inferInstance rfl rfl rfl rfl (.tmp rfl .nil)) rfl
  simp at h
  subst h
  have c2 : PCalls Try.prog 87 [dI m, dI s] (.d (dI e)) := he ▸ p87 m s
  refine pw_skip ?_; refine pw_seq ?_; refine pw_seq ?_; refine pw_region ?_; refine yMd rfl ?_; refine yMd rfl ?_; refine yC (c2) rfl rfl ?_; refine yAd rfl ?_; refine yQ ?_; refine pw_seq ?_; refine pw_region ?_; refine yMd rfl ?_
  refine yB rfl rfl rfl rfl ?_; refine yQ ?_; refine q_then ?_
  refine pw_cond rfl (fun h => ?_) (fun h => ?_)
  · simp at h
    rw [hr, if_neg h]
    refine pw_seq ?_; refine pw_region ?_; refine yG (ys := [_, _]) rfl rfl ?_; refine yMd rfl ?_; refine yS (cs' := [_, _]) rfl rfl rfl rfl rfl ?_; refine yAd rfl ?_; refine yQ ?_; refine pw_ret ?_; refine q_then_ret ?_
    exact q_ret _ (.agg inferInstance rfl rfl rfl rfl (.tmp rfl .nil)) rfl
  simp at h
  subst h
  rw [if_pos rfl] at hr
  have hcm : sChk ps = 0 ∧ 1 ≤ m ∧ m ≤ 4800 ∧ (s = 1 ∨ s = 2) := ⟨hc.symm, sck_zero he.symm⟩
  obtain ⟨hc0, hm1, hm2, hs⟩ := hcm
  have hlen := sChk_len hc0
  refine pw_skip ?_; refine pw_seq ?_; refine pw_seq ?_; refine pw_region ?_; refine yMd rfl ?_; refine yB rfl rfl rfl rfl ?_; refine yMd rfl ?_
  cases h1 : decide (i < 0)
  rotate_left
  · rw [hr, if_pos (.inl (by simpa using h1))]
    refine yO rfl ?_; refine yO rfl ?_; refine yO rfl ?_; refine yO rfl ?_; refine yPd rfl rfl ?_; refine yQ ?_; refine pw_ct rfl ?_; refine pw_seq ?_; refine pw_region ?_; refine yG (ys := [_, _]) rfl rfl ?_
    refine yS (cs' := [_, _]) rfl rfl rfl rfl rfl ?_; refine yAd rfl ?_; refine yQ ?_; refine pw_ret ?_; refine q_then_ret ?_
    exact q_ret _ (.agg inferInstance rfl rfl rfl rfl (.tmp rfl .nil)) rfl
  refine yMd rfl ?_; refine yMd rfl ?_; refine yN rfl ?_; refine yB rfl rfl rfl rfl ?_; refine yVd rfl rfl ?_; refine yQ ?_; refine q_then ?_
  refine pw_cond rfl (fun h2 => ?_) (fun h2 => ?_)
  · simp at h1 h2
    rw [hr, if_pos (.inr (by omega))]
    refine pw_seq ?_; refine pw_region ?_; refine yG (ys := [_, _]) rfl rfl ?_; refine yS (cs' := [_, _]) rfl rfl rfl rfl rfl ?_; refine yAd rfl ?_; refine yQ ?_; refine pw_ret ?_; refine q_then_ret ?_
    exact q_ret _ (.agg inferInstance rfl rfl rfl rfl (.tmp rfl .nil)) rfl
  simp at h1 h2
  obtain ⟨k, rfl⟩ : ∃ k : Nat, i = k := ⟨i.toNat, by omega⟩
  rw [if_neg (by omega), Int.toNat_natCast] at hr
  obtain ⟨⟨x, y⟩, hp⟩ : ∃ p, p = getP ps k := ⟨_, rfl⟩
  rw [← hp] at hr
  simp only at hr
  rw [hr, rgP]
  have e0 := ix dP ps k k (x, y) rfl (hp ▸ getP_at (by omega))
  obtain ⟨r, hr2⟩ : ∃ r, r = sReg x y m := ⟨_, rfl⟩
  have c3 : PCalls Try.prog 96 [.agg [dI x, dI y], dI m] (.d (dB r)) := hr2 ▸ p96 x y m (by omega) (by omega)
  rw [← hr2]
  refine pw_skip ?_; refine pw_seq ?_; refine pw_region ?_; refine yMd rfl ?_; refine yMd rfl ?_; refine yW e0 (by omega) rfl rfl ?_; refine yLs (ys := [_, _]) rfl rfl rfl ?_; refine yZ (cs := [_, _]) rfl rfl ?_
  refine yS (cs' := [_, _]) rfl rfl rfl rfl rfl ?_; refine yQ ?_; refine pw_seq ?_; refine pw_seq ?_; refine pw_region ?_; refine yLa (ys := [_, _]) rfl rfl rfl rfl ?_; refine yMd rfl ?_; refine yC (c3) rfl rfl ?_; refine yQ ?_
  refine q_then ?_
  cases r
  rotate_left
  · rw [if_pos rfl]
    refine pw_ct rfl ?_; refine pw_seq ?_; refine pw_region ?_; refine yLa (ys := [_, _]) rfl rfl rfl rfl ?_; refine yS (cs' := [_, _]) rfl rfl rfl rfl rfl ?_; refine yAd rfl ?_; refine yQ ?_; refine pw_ret ?_; refine q_then_ret ?_
    exact q_ret _ (.agg inferInstance rfl rfl rfl rfl (.tmp rfl .nil)) rfl
  rw [if_neg (by simp)]
  rcases hs with rfl | rfl
  · rw [if_pos rfl]
    obtain ⟨v, hv⟩ : ∃ v, v = amV y (-m) := ⟨_, rfl⟩
    obtain ⟨f, hf⟩ : ∃ f, f = amE y (-m) := ⟨_, rfl⟩
    have c4 : PCalls Try.prog 88 [dI y, dI (IntKind.i64.wrap (0 - m))] (.tup [dI v, dI f]) := by rw [wneg (by omega) hm2, hv, hf]; exact p88 y (-m) (by omega) (by omega)
    rw [← hv, ← hf]
    refine pw_cf rfl ?_; refine pw_skip ?_; refine pw_seq ?_; refine pw_seq ?_; refine pw_region ?_; refine yMd rfl ?_; refine yB rfl rfl rfl rfl ?_; refine yQ ?_; refine pw_ct rfl ?_; refine pw_seq ?_; refine pw_region ?_
    refine yFb rfl ?_; refine yLd rfl rfl rfl ?_; refine yMd rfl ?_; refine yU rfl rfl rfl ?_; refine yC (c4) rfl rfl ?_; refine yMp rfl ?_; refine yX rfl rfl ?_; refine yX rfl rfl ?_; refine yAd rfl ?_; refine yAd rfl ?_; refine yQ ?_
    refine pw_seq ?_; refine pw_seq ?_; refine pw_region ?_; refine yMd rfl ?_; refine yB rfl rfl rfl rfl ?_; refine yQ ?_; refine q_then ?_
    refine pw_cond rfl (fun h3 => ?_) (fun h3 => ?_)
    · simp at h3
      rw [if_neg h3]
      refine pw_seq ?_; refine pw_region ?_; refine yG (ys := [_, _]) rfl rfl ?_; refine yS (cs' := [_, _]) rfl rfl rfl rfl rfl ?_; refine yAd rfl ?_; refine yQ ?_; refine pw_ret ?_; refine q_then_ret ?_; refine q_then_ret ?_
      exact q_ret _ (.agg inferInstance rfl rfl rfl rfl (.tmp rfl .nil)) rfl
    · simp at h3
      rw [if_pos h3]
      refine pw_skip ?_; refine pw_seq ?_; refine pw_region ?_; refine yMd rfl ?_; refine yFb rfl ?_; refine ySd (cs' := [_, _]) rfl rfl rfl rfl ?_; refine yQ ?_; refine pw_seq ?_; refine pw_region ?_
      refine yLa (ys := [_, _]) rfl rfl rfl rfl ?_; refine yS (cs' := [_, _]) rfl rfl rfl rfl rfl ?_; refine yAd rfl ?_; refine yQ ?_; refine pw_ret ?_; refine q_then_ret ?_
      exact q_ret _ (.agg inferInstance rfl rfl rfl rfl (.tmp rfl .nil)) rfl
  · rw [if_neg (by decide)]
    obtain ⟨v, hv⟩ : ∃ v, v = amV x m := ⟨_, rfl⟩
    obtain ⟨f, hf⟩ : ∃ f, f = amE x m := ⟨_, rfl⟩
    have c4 : PCalls Try.prog 88 [dI x, dI m] (.tup [dI v, dI f]) := by rw [hv, hf]; exact p88 x m (by omega) (by omega)
    rw [← hv, ← hf]
    refine pw_cf rfl ?_; refine pw_skip ?_; refine pw_seq ?_; refine pw_seq ?_; refine pw_region ?_; refine yMd rfl ?_; refine yB rfl rfl rfl rfl ?_; refine yQ ?_; refine pw_cf rfl ?_; refine pw_skip ?_; refine pw_seq ?_
    refine pw_region ?_; refine yFb rfl ?_; refine yLd rfl rfl rfl ?_; refine yMd rfl ?_; refine yC (c4) rfl rfl ?_; refine yMp rfl ?_; refine yX rfl rfl ?_; refine yX rfl rfl ?_; refine yAd rfl ?_; refine yAd rfl ?_; refine yQ ?_
    refine pw_seq ?_; refine pw_seq ?_; refine pw_region ?_; refine yMd rfl ?_; refine yB rfl rfl rfl rfl ?_; refine yQ ?_; refine q_then ?_
    refine pw_cond rfl (fun h3 => ?_) (fun h3 => ?_)
    · simp at h3
      rw [if_neg h3]
      refine pw_seq ?_; refine pw_region ?_; refine yG (ys := [_, _]) rfl rfl ?_; refine yS (cs' := [_, _]) rfl rfl rfl rfl rfl ?_; refine yAd rfl ?_; refine yQ ?_; refine pw_ret ?_; refine q_then_ret ?_
      exact q_ret _ (.agg inferInstance rfl rfl rfl rfl (.tmp rfl .nil)) rfl
    · simp at h3
      rw [if_pos h3]
      refine pw_skip ?_; refine pw_seq ?_; refine pw_region ?_; refine yMd rfl ?_; refine yFb rfl ?_; refine ySd (cs' := [_, _]) rfl rfl rfl rfl ?_; refine yQ ?_; refine pw_seq ?_; refine pw_region ?_
      refine yLa (ys := [_, _]) rfl rfl rfl rfl ?_; refine yS (cs' := [_, _]) rfl rfl rfl rfl rfl ?_; refine yAd rfl ?_; refine yQ ?_; refine pw_ret ?_
      exact q_ret _ (.agg inferInstance rfl rfl rfl rfl (.tmp rfl .nil)) rfl
end Go.Proofs.Ytilbolgncpfmmaa
