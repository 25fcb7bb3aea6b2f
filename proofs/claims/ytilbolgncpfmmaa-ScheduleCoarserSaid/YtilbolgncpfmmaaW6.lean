/- The walk of the reference's Build, for this seat. -/
import Derived.Test.YtilbolgncpfmmaaW5
import Derived.Test.YtilbolgncpfmmaaPlainT
namespace Go.Proofs.Ytilbolgncpfmmaa
open Go.RowKit Px

theorem cpE_right (a b : Int) : cpE a b = 0 ↔ sRight a b = true := by
  unfold cpE sRight
  split
  · rename_i h; simp [h]
  · rename_i h
    have h' : (vB a && vB b) = true := by simpa using h
    rw [h']
    split <;> simp <;> omega
theorem prs_snoc (l : List Int) (x y : Int) : prs (l ++ [x] ++ [y]) = prs (l ++ [x]) ++ [(x, y)] := by
  induction l with
  | nil => rfl
  | cons z l ih =>
    cases l with
    | nil => rfl
    | cons z' l => simp only [List.cons_append, prs] at ih ⊢; rw [ih]
theorem bE_of {a b m s : Int} (h : sRight a b = true) (h' : sck true m s = 0) : bE a b m s = if 399 < (inR a b m s m).length then 4 else 0 := by rw [bE, h, if_pos h']
theorem bL_of {a b m s : Int} (h : sRight a b = true) (h' : sck true m s = 0) (hl : ¬ 399 < (inR a b m s m).length) : bL a b m s = prs (eL a b m s) := by
  obtain ⟨-, -, hs⟩ := sck_zero h'
  have hab : a < b := by simp [sRight] at h; exact h.2
  rw [bL, if_pos (by rw [bE_of h h', if_neg hl]), ends_eq hs hab]
theorem bL_no {a b m s : Int} (h : bE a b m s ≠ 0) : bL a b m s = [] := by rw [bL, if_neg h]

theorem prs_last (a d : Int) (pre : List Int) : prs (a :: (pre ++ [d])) = prs (a :: pre) ++ [(pre.getLastD a, d)] := by
  induction pre generalizing a with
  | nil => rfl
  | cons z l ih =>
    have := ih z
    simp only [List.cons_append, prs] at this ⊢
    rw [this, List.getLastD_cons]
theorem rev_head (b : Int) (pre : List Int) : ∃ t, pre.reverse ++ [b] = pre.getLastD b :: t := by
  rcases List.eq_nil_or_concat pre with rfl | ⟨l, x, rfl⟩
  · exact ⟨[], rfl⟩
  · exact ⟨l.reverse ++ [b], by simp⟩
theorem prs_head (b d : Int) (pre : List Int) : prs (d :: (pre.reverse ++ [b])) = (d, pre.getLastD b) :: prs (pre.reverse ++ [b]) := by
  obtain ⟨t, ht⟩ := rev_head b pre
  rw [ht]; rfl
theorem prs_len1 (a : Int) (pre : List Int) : (prs (a :: pre)).length = pre.length := by rw [prs_length]; simp
theorem prs_len2 (b : Int) (pre : List Int) : (prs (pre.reverse ++ [b])).length = pre.length := by rw [prs_length]; simp

set_option maxRecDepth 20000 in
set_option maxHeartbeats 2000000 in
theorem p41 (a b m s : Int) : PCalls Try.prog 41 [.agg (dP (a, b)), dI m, dI s] (.tup [dPs (bL a b m s), dI (bE a b m s)]) := by
  obtain ⟨c, hc⟩ : ∃ c, c = cpE a b := ⟨_, rfl⟩
  obtain ⟨e, he⟩ : ∃ e, e = sck true m s := ⟨_, rfl⟩
  have c1 : PCalls Try.prog 86 [.agg [dI a, dI b]] (.d (dI c)) := hc ▸ p86 a b
  have c2 : PCalls Try.prog 87 [dI m, dI s] (.d (dI e)) := he ▸ p87 m s
  refine pcalls_of_pw Try.func41 rfl Try.ntmps41 Try.results41 (by simp) fun B w0 => ?_
  refine pw_seq ?_; refine pw_region ?_; refine yK (cs := [_, _]) rfl rfl ?_; refine yAd rfl ?_; refine yAd rfl ?_; refine yQ ?_; refine pw_seq ?_; refine pw_seq ?_; refine pw_region ?_; refine yLa (ys := [_, _]) rfl rfl rfl rfl ?_
  refine yC (c1) rfl rfl ?_; refine yB rfl rfl rfl rfl ?_; refine yQ ?_; refine q_then ?_
  refine pw_cond rfl (fun h => ?_) (fun h => ?_)
  · simp at h
    have hn : sRight a b = false := by rw [← Bool.not_eq_true, ← cpE_right, ← hc]; exact h
    have hE : bE a b m s = 1 := by rw [bE, hn, sck_bad, if_neg (by decide)]
    rw [hE, bL_no (by rw [hE]; decide)]
    refine pw_seq ?_; refine pw_region ?_; refine yAd rfl ?_; refine yAd rfl ?_; refine yQ ?_; refine pw_ret ?_; refine q_then_ret ?_
    exact q_ret _ (.tnil 2 rfl (.tmp rfl .nil)) rfl
  simp at h
  have hr : sRight a b = true := (cpE_right a b).1 (hc ▸ h)
  refine pw_skip ?_; refine pw_seq ?_; refine pw_seq ?_; refine pw_region ?_; refine yMd rfl ?_; refine yMd rfl ?_; refine yC (c2) rfl rfl ?_; refine yAd rfl ?_; refine yQ ?_; refine pw_seq ?_; refine pw_region ?_; refine yMd rfl ?_
  refine yB rfl rfl rfl rfl ?_; refine yQ ?_; refine q_then ?_
  refine pw_cond rfl (fun h2 => ?_) (fun h2 => ?_)
  · simp at h2
    have hE : bE a b m s = e := by rw [bE, hr, ← he, if_neg h2]
    rw [hE, bL_no (by rw [hE]; exact h2)]
    refine pw_seq ?_; refine pw_region ?_; refine yMd rfl ?_; refine yAd rfl ?_; refine yAd rfl ?_; refine yQ ?_; refine pw_ret ?_; refine q_then_ret ?_
    exact q_ret _ (.tnil 2 rfl (.tmp rfl .nil)) rfl
  simp at h2
  have hk0 : sck true m s = 0 := he ▸ h2
  obtain ⟨hm1, hm2, hs⟩ := sck_zero hk0
  have hab : a < b := by simp [sRight] at hr; exact hr.2
  have hbE := bE_of hr hk0
  rcases hs with rfl | rfl
  · refine pw_skip ?_; refine pw_seq ?_; refine pw_region ?_; refine yR (es := []) rfl rfl rfl rfl rfl ?_; refine yAd rfl ?_; refine yQ ?_; refine pw_seq ?_; refine pw_region ?_; refine yLa (ys := [_, _]) rfl rfl rfl rfl ?_
    refine yZ (cs := [_, _]) rfl rfl ?_; refine yS (cs' := [_, _]) rfl rfl rfl rfl rfl ?_; refine yQ ?_; refine pw_seq ?_; refine pw_seq ?_; refine pw_region ?_; refine yAd rfl ?_; refine yQ ?_; refine pw_block ?_
    refine pw_loop (fun pre : List Int => ⟨101, [(1, .d (dI m)), (2, .d (dI 1)), (3, .bx 3 0), (10, .bx 10 0), (11, .d (dI ((pre.length : Int) + 1))), (9, .d (.sl 2 ((prs (pre.reverse ++ [b])).map dP)))], [(3, [.d (dI a), .d (dI b)]), (10, [.any, .d (dI (pre.getLastD b))])], []⟩) (fun pre => inR a b m 1 m = pre ++ inR a b m 1 (((pre.length : Int) + 1) * m) ∧ pre.length ≤ 400) (fun pre => 400 - pre.length) [] ⟨by simp, by simp⟩ ⟨rfl, ⟨.refl _, .refl _, .refl _, .refl _, .refl _, .refl _, trivial⟩, ⟨⟨_, rfl, .refl _, .refl _, trivial⟩, ⟨_, rfl, .any _, .refl _, trivial⟩, trivial⟩, trivial, rfl⟩ ?_
    rintro pre ⟨hpre, hlen⟩
    obtain ⟨x, hx⟩ : ∃ x, x = pre.getLastD b := ⟨_, rfl⟩
    obtain ⟨k, hk⟩ : ∃ k, k = (pre.length : Int) + 1 := ⟨_, rfl⟩
    have hkm : 1 ≤ k * m ∧ k * m ≤ 401 * 4800 := ⟨Int.le_trans (by omega) (Int.mul_le_mul (show 1 ≤ k by omega) hm1 (by omega) (by omega)), Int.mul_le_mul (by omega) hm2 (by omega) (by omega)⟩
    obtain ⟨d, hd⟩ : ∃ d, d = amV b (-(k * m)) := ⟨_, rfl⟩
    obtain ⟨f, hf⟩ : ∃ f, f = amE b (-(k * m)) := ⟨_, rfl⟩
    have c3 : PCalls Try.prog 88 [dI b, dI (IntKind.i64.wrap (IntKind.i64.wrap (0 - k) * m))] (.tup [dI d, dI f]) := by
      rw [wrapI (0 - k) (by omega), show (0 - k) * m = -(k * m) by rw [Int.zero_sub, Int.neg_mul], wrapI _ (by omega), hd, hf]; exact p88 b (-(k * m)) (by omega) (by omega)
    have hw1 := wrapI (k + 1) (by omega)
    have hpl := prs_len2 b pre
    have hp1 := fun y => prs_head b y pre
    rw [← hx] at hp1
    obtain ⟨qs, hq⟩ : ∃ qs, qs = prs (pre.reverse ++ [b]) := ⟨_, rfl⟩
    rw [← hq] at hpl hp1
    rw [← hk] at hpre
    have hsg : sSg 1 * (k * m) = -(k * m) := by rw [sSg_one]; omega
    have hin : inR a b m 1 (k * m) = if f = 0 ∧ a < d then d :: inR a b m 1 (k * m + m) else [] := by
      have e2 : amV (sSt a b 1) (sSg 1 * (k * m)) = d := by rw [show sSt a b 1 = b from rfl, hsg, hd]
      have e1 : amE (sSt a b 1) (sSg 1 * (k * m)) = f := by rw [show sSt a b 1 = b from rfl, hsg, hf]
      by_cases hfd : f = 0 ∧ a < d
      · rw [if_pos hfd]
        have e3 : amE b (-(k * m)) = 0 := by rw [← hf]; exact hfd.1
        have e4 := amV_ls e3 (by omega)
        have e5 := (amE_zero e3).2.1
        rw [inR_yes hm1 (by omega) (e1.trans hfd.1) (by rw [e2]; exact hfd.2) (by rw [e2, hd]; exact e4), e2]
      · rw [if_neg hfd]
        by_cases hf0 : f = 0
        · exact inR_lo (by rw [e2]; omega)
        · exact inR_err (by rw [e1]; exact hf0)
    rw [← hx, ← hk, ← hq]
    refine pw_seq ?_; refine pw_block ?_; refine pw_seq ?_; refine pw_seq ?_; refine pw_region ?_; refine yMd rfl ?_; refine yB rfl rfl rfl rfl ?_; refine yQ ?_; refine pw_ct rfl ?_; refine pw_seq ?_; refine pw_region ?_
    refine yFb rfl ?_; refine yLd rfl rfl rfl ?_; refine yMd rfl ?_; refine yU rfl rfl rfl ?_; refine yMd rfl ?_; refine yB rfl rfl rfl rfl ?_; refine yC (c3) rfl rfl ?_; refine yMp rfl ?_; refine yX rfl rfl ?_; refine yX rfl rfl ?_
    refine yAd rfl ?_; refine yAd rfl ?_; refine yQ ?_; refine pw_seq ?_; refine pw_seq ?_; refine pw_region ?_; refine yMd rfl ?_; refine yB rfl rfl rfl rfl ?_; refine yMd rfl ?_
    cases h3 : (f != 0)
    rotate_left
    · have hpre' : inR a b m 1 m = pre ++ [] := by rw [hpre, hin, if_neg (by simp at h3; simp [h3])]
      refine yO rfl ?_; refine yO rfl ?_; refine yO rfl ?_; refine yO rfl ?_; refine yPd rfl rfl ?_; refine yQ ?_; refine pw_ct rfl ?_; refine pw_region ?_; refine yFb rfl ?_; refine yLd rfl rfl rfl ?_; refine yAd rfl ?_; refine yQ ?_
      refine pw_seq ?_; refine pw_region ?_; refine yMd rfl ?_; refine yFb rfl ?_; refine ySd (cs' := [_, _]) rfl rfl rfl rfl ?_; refine yQ ?_; refine pw_seq ?_; refine pw_region ?_; refine yLa (ys := [_, _]) rfl rfl rfl rfl ?_
      refine yRt (t := 2800054) (es := [[_, _]]) rfl rfl rfl rfl rfl rfl rfl rfl ?_; refine yMd rfl ?_
      refine yT (es' := ((a, x) :: qs).map dP) (m := (((a, x) :: qs).map dP).length) (by simp; omega) (by simp; omega) rfl rfl rfl rfl rfl rfl (by simp; omega) ?_; refine yAt rfl ?_; refine yQ ?_; refine pw_seq ?_; refine pw_seq ?_
      refine pw_region ?_; refine yMd rfl ?_; refine yFb rfl ?_; refine yLd rfl rfl rfl ?_; refine yB rfl rfl rfl rfl ?_; refine yQ ?_; refine q_then ?_
      refine pw_cond rfl (fun h4 => ?_) (fun h4 => absurd h4 (by simp))
      refine pw_exit ?_; refine pw_seq ?_; refine pw_seq ?_; refine pw_region ?_; refine yMt rfl ?_; refine yN rfl ?_; refine yB rfl rfl rfl rfl ?_; refine yQ ?_; refine q_then ?_
      refine pw_cond rfl (fun h5 => ?_) (fun h5 => ?_)
      · simp at h5
        have hE : bE a b m 1 = 4 := by rw [hbE, if_pos (by rw [hpre', List.append_nil]; omega)]
        rw [hE, bL_no (by rw [hE]; decide)]
        refine pw_seq ?_; refine pw_region ?_; refine yAd rfl ?_; refine yAd rfl ?_; refine yQ ?_; refine pw_ret ?_; refine q_then_ret ?_
        exact q_ret _ (.tnil 2 rfl (.tmp rfl .nil)) rfl
      · simp at h5
        have hnl : ¬ 399 < (inR a b m 1 m).length := by rw [hpre', List.append_nil]; omega
        have hE : bE a b m 1 = 0 := by rw [hbE, if_neg hnl]
        rw [hE, bL_of hr hk0 hnl, show prs (eL a b m 1) = (a, x) :: qs by rw [eL, if_neg (by decide), hpre', List.append_nil, hp1]]
        refine pw_skip ?_; refine pw_seq ?_; refine pw_region ?_; refine yMt rfl ?_; refine yAt rfl ?_; refine yAd rfl ?_; refine yQ ?_; refine pw_ret ?_
        exact q_ret _ (.tmp rfl (.tmp rfl .nil)) rfl
    refine yMd rfl ?_; refine yFb rfl ?_; refine yLd rfl rfl rfl ?_; refine yB rfl rfl rfl rfl ?_; refine yVd rfl rfl ?_; refine yQ ?_; refine q_then ?_
    simp at h3
    refine pw_cond rfl (fun h6 => ?_) (fun h6 => ?_)
    · simp at h6
      have hpre' : inR a b m 1 m = pre ++ [] := by rw [hpre, hin, if_neg (by omega)]
      refine pw_region ?_; refine yFb rfl ?_; refine yLd rfl rfl rfl ?_; refine yAd rfl ?_; refine yQ ?_; refine pw_seq ?_; refine pw_region ?_; refine yMd rfl ?_; refine yFb rfl ?_; refine ySd (cs' := [_, _]) rfl rfl rfl rfl ?_
      refine yQ ?_; refine pw_seq ?_; refine pw_region ?_; refine yLa (ys := [_, _]) rfl rfl rfl rfl ?_; refine yRt (t := 2800054) (es := [[_, _]]) rfl rfl rfl rfl rfl rfl rfl rfl ?_; refine yMd rfl ?_
      refine yT (es' := ((a, x) :: qs).map dP) (m := (((a, x) :: qs).map dP).length) (by simp; omega) (by simp; omega) rfl rfl rfl rfl rfl rfl (by simp; omega) ?_; refine yAt rfl ?_; refine yQ ?_; refine pw_seq ?_; refine pw_seq ?_
      refine pw_region ?_; refine yMd rfl ?_; refine yFb rfl ?_; refine yLd rfl rfl rfl ?_; refine yB rfl rfl rfl rfl ?_; refine yQ ?_; refine q_then ?_
      refine pw_cond rfl (fun h4 => ?_) (fun h4 => absurd h4 (by simp))
      refine pw_exit ?_; refine pw_seq ?_; refine pw_seq ?_; refine pw_region ?_; refine yMt rfl ?_; refine yN rfl ?_; refine yB rfl rfl rfl rfl ?_; refine yQ ?_; refine q_then ?_
      refine pw_cond rfl (fun h5 => ?_) (fun h5 => ?_)
      · simp at h5
        have hE : bE a b m 1 = 4 := by rw [hbE, if_pos (by rw [hpre', List.append_nil]; omega)]
        rw [hE, bL_no (by rw [hE]; decide)]
        refine pw_seq ?_; refine pw_region ?_; refine yAd rfl ?_; refine yAd rfl ?_; refine yQ ?_; refine pw_ret ?_; refine q_then_ret ?_
        exact q_ret _ (.tnil 2 rfl (.tmp rfl .nil)) rfl
      · simp at h5
        have hnl : ¬ 399 < (inR a b m 1 m).length := by rw [hpre', List.append_nil]; omega
        have hE : bE a b m 1 = 0 := by rw [hbE, if_neg hnl]
        rw [hE, bL_of hr hk0 hnl, show prs (eL a b m 1) = (a, x) :: qs by rw [eL, if_neg (by decide), hpre', List.append_nil, hp1]]
        refine pw_skip ?_; refine pw_seq ?_; refine pw_region ?_; refine yMt rfl ?_; refine yAt rfl ?_; refine yAd rfl ?_; refine yQ ?_; refine pw_ret ?_
        exact q_ret _ (.tmp rfl (.tmp rfl .nil)) rfl
    simp at h6
    have hpre' : inR a b m 1 m = pre ++ (d :: inR a b m 1 (k * m + m)) := by rw [hpre, hin, if_pos ⟨h3, h6⟩]
    refine pw_skip ?_; refine pw_seq ?_; refine pw_region ?_; refine yMd rfl ?_; refine yFb rfl ?_; refine ySd (cs' := [_, _]) rfl rfl rfl rfl ?_; refine yQ ?_; refine pw_seq ?_; refine pw_region ?_
    refine yLa (ys := [_, _]) rfl rfl rfl rfl ?_; refine yRt (t := 2800054) (es := [[_, _]]) rfl rfl rfl rfl rfl rfl rfl rfl ?_; refine yMd rfl ?_
    refine yT (es' := ((d, x) :: qs).map dP) (m := (((d, x) :: qs).map dP).length) (by simp; omega) (by simp; omega) rfl rfl rfl rfl rfl rfl (by simp; omega) ?_; refine yAt rfl ?_; refine yQ ?_; refine pw_seq ?_; refine pw_seq ?_
    refine pw_region ?_; refine yMd rfl ?_; refine yFb rfl ?_; refine yLd rfl rfl rfl ?_; refine yB rfl rfl rfl rfl ?_; refine yQ ?_; refine q_then ?_
    refine pw_cond rfl (fun h7 => absurd h7 (by simp; omega)) (fun h7 => ?_)
    refine pw_skip ?_; refine pw_region ?_; refine yMd rfl ?_; refine yFb rfl ?_; refine ySd (cs' := [_, _]) rfl rfl rfl rfl ?_; refine yQ ?_; refine pw_seq ?_; refine pw_region ?_; refine yMt rfl ?_; refine yN rfl ?_
    refine yB rfl rfl rfl rfl ?_; refine yQ ?_; refine q_then ?_
    refine pw_cond rfl (fun h8 => ?_) (fun h8 => ?_)
    · simp at h8
      have hE : bE a b m 1 = 4 := by rw [hbE, if_pos (by rw [hpre']; simp; omega)]
      rw [hE, bL_no (by rw [hE]; decide)]
      refine pw_seq ?_; refine pw_region ?_; refine yAd rfl ?_; refine yAd rfl ?_; refine yQ ?_; refine pw_ret ?_; refine q_blk_ret ?_; refine q_then_ret ?_; refine q_then_ret ?_; refine q_blk_ret ?_; refine q_then_ret ?_
      exact q_ret _ (.tnil 2 rfl (.tmp rfl .nil)) rfl
    · simp at h8
      refine pw_skip ?_; refine pw_region ?_; refine yMd rfl ?_; refine yB rfl rfl rfl rfl ?_; refine yAd rfl ?_; refine yQ ?_; refine q_then ?_
      refine ⟨pre ++ [d], ⟨?_, by simp; omega⟩, by simp; omega, rfl, ⟨.refl _, .refl _, .refl _, .refl _, .of_eq ?_, ?_, trivial⟩, ⟨⟨_, rfl, .refl _, .refl _, trivial⟩, ⟨_, rfl, .any _, .of_eq ?_, trivial⟩, trivial⟩, trivial, rfl⟩
      · rw [hpre', List.append_assoc, List.singleton_append, show (((pre ++ [d]).length : Int) + 1) * m = k * m + m by rw [List.length_append, hk]; simp [Int.add_mul]]
      · exact congrArg (fun n => SV.d (dI n)) (hw1.trans (by simp [hk]))
      · rw [List.reverse_append, List.reverse_singleton, List.singleton_append, List.cons_append, hp1]; exact .tok _ _ _
      · simp
  · refine pw_skip ?_; refine pw_seq ?_; refine pw_region ?_; refine yRt (t := 2800009) (es := []) rfl rfl rfl rfl rfl rfl rfl rfl ?_; refine yAt rfl ?_; refine yQ ?_; refine pw_seq ?_; refine pw_region ?_
    refine yLa (ys := [_, _]) rfl rfl rfl rfl ?_; refine yZ (cs := [_, _]) rfl rfl ?_; refine yS (cs' := [_, _]) rfl rfl rfl rfl rfl ?_; refine yQ ?_; refine pw_seq ?_; refine pw_seq ?_; refine pw_region ?_; refine yAd rfl ?_
    refine yQ ?_; refine pw_block ?_
    refine pw_loop (fun pre : List Int => ⟨101, [(1, .d (dI m)), (2, .d (dI 2)), (3, .bx 3 0), (10, .bx 10 0), (11, .d (dI ((pre.length : Int) + 1))), (9, .ts 2800009 2 ((prs (a :: pre)).map dP))], [(3, [.d (dI a), .d (dI b)]), (10, [.d (dI (pre.getLastD a)), .any])], [(2800009, ((prs (a :: pre)).map dP).length)]⟩) (fun pre => inR a b m 2 m = pre ++ inR a b m 2 (((pre.length : Int) + 1) * m) ∧ pre.length ≤ 400) (fun pre => 400 - pre.length) [] ⟨by simp, by simp⟩ ⟨rfl, ⟨.refl _, .refl _, .refl _, .refl _, .refl _, .refl _, trivial⟩, ⟨⟨_, rfl, .refl _, .refl _, trivial⟩, ⟨_, rfl, .refl _, .any _, trivial⟩, trivial⟩, ⟨rfl, trivial⟩, rfl⟩ ?_
    rintro pre ⟨hpre, hlen⟩
    obtain ⟨x, hx⟩ : ∃ x, x = pre.getLastD a := ⟨_, rfl⟩
    obtain ⟨k, hk⟩ : ∃ k, k = (pre.length : Int) + 1 := ⟨_, rfl⟩
    have hkm : 1 ≤ k * m ∧ k * m ≤ 401 * 4800 := ⟨Int.le_trans (by omega) (Int.mul_le_mul (show 1 ≤ k by omega) hm1 (by omega) (by omega)), Int.mul_le_mul (by omega) hm2 (by omega) (by omega)⟩
    obtain ⟨d, hd⟩ : ∃ d, d = amV a (k * m) := ⟨_, rfl⟩
    obtain ⟨f, hf⟩ : ∃ f, f = amE a (k * m) := ⟨_, rfl⟩
    have c3 : PCalls Try.prog 88 [dI a, dI (IntKind.i64.wrap (k * m))] (.tup [dI d, dI f]) := by rw [wrapI _ (by omega), hd, hf]; exact p88 a (k * m) (by omega) (by omega)
    have hw1 := wrapI (k + 1) (by omega)
    have hpl := prs_len1 a pre
    have hp1 := fun y => prs_last a y pre
    rw [← hx] at hp1
    obtain ⟨qs, hq⟩ : ∃ qs, qs = prs (a :: pre) := ⟨_, rfl⟩
    rw [← hq] at hpl hp1
    rw [← hk] at hpre
    have hin : inR a b m 2 (k * m) = if f = 0 ∧ d < b then d :: inR a b m 2 (k * m + m) else [] := by
      by_cases hfd : f = 0 ∧ d < b
      · rw [if_pos hfd]
        have e1 : amE (sSt a b 2) (sSg 2 * (k * m)) = 0 := by rw [show sSt a b 2 = a from rfl, sSg_two, Int.one_mul, ← hf]; exact hfd.1
        have e2 : amV (sSt a b 2) (sSg 2 * (k * m)) = d := by rw [show sSt a b 2 = a from rfl, sSg_two, Int.one_mul, hd]
        have e3 : amE a (k * m) = 0 := by rw [← hf]; exact hfd.1
        have e4 := amV_gt e3 (by omega)
        have e5 := (amE_zero e3).2.2.1
        rw [inR_yes hm1 e5 e1 (by rw [e2, hd]; exact e4) (by rw [e2]; exact hfd.2), e2]
      · rw [if_neg hfd]
        have e2 : amV (sSt a b 2) (sSg 2 * (k * m)) = d := by rw [show sSt a b 2 = a from rfl, sSg_two, Int.one_mul, hd]
        have e1 : amE (sSt a b 2) (sSg 2 * (k * m)) = f := by rw [show sSt a b 2 = a from rfl, sSg_two, Int.one_mul, hf]
        by_cases hf0 : f = 0
        · exact inR_hi (by rw [e2]; omega)
        · exact inR_err (by rw [e1]; exact hf0)
    rw [← hx, ← hk, ← hq]
    refine pw_seq ?_; refine pw_block ?_; refine pw_seq ?_; refine pw_seq ?_; refine pw_region ?_; refine yMd rfl ?_; refine yB rfl rfl rfl rfl ?_; refine yQ ?_; refine pw_cf rfl ?_; refine pw_seq ?_; refine pw_region ?_
    refine yFb rfl ?_; refine yLd rfl rfl rfl ?_; refine yMd rfl ?_; refine yMd rfl ?_; refine yB rfl rfl rfl rfl ?_; refine yC (c3) rfl rfl ?_; refine yMp rfl ?_; refine yX rfl rfl ?_; refine yX rfl rfl ?_; refine yAd rfl ?_
    refine yAd rfl ?_; refine yQ ?_; refine pw_seq ?_; refine pw_seq ?_; refine pw_region ?_; refine yMd rfl ?_; refine yB rfl rfl rfl rfl ?_; refine yMd rfl ?_
    cases h3 : (f != 0)
    rotate_left
    · have hpre' : inR a b m 2 m = pre ++ [] := by rw [hpre, hin, if_neg (by simp at h3; simp [h3])]
      refine yO rfl ?_; refine yO rfl ?_; refine yO rfl ?_; refine yO rfl ?_; refine yPd rfl rfl ?_; refine yQ ?_; refine pw_ct rfl ?_; refine pw_region ?_; refine yFb rfl ?_; refine yLd rfl rfl rfl ?_; refine yAd rfl ?_; refine yQ ?_
      refine pw_seq ?_; refine pw_region ?_; refine yMd rfl ?_; refine yFb rfl ?_; refine ySd (cs' := [_, _]) rfl rfl rfl rfl ?_; refine yQ ?_; refine pw_seq ?_; refine pw_region ?_; refine yMt rfl ?_
      refine yLa (ys := [_, _]) rfl rfl rfl rfl ?_; refine yR (es := [[_, _]]) rfl rfl rfl rfl rfl ?_
      refine yT (es' := (qs ++ [(x, b)]).map dP) (m := ((qs ++ [(x, b)]).map dP).length) (by simp; omega) (by simp; omega) rfl rfl rfl rfl rfl (by simp) (by simp) ?_; refine yAt rfl ?_; refine yQ ?_; refine pw_seq ?_; refine pw_seq ?_
      refine pw_region ?_; refine yMd rfl ?_; refine yFb rfl ?_; refine yLd rfl rfl rfl ?_; refine yB rfl rfl rfl rfl ?_; refine yQ ?_; refine q_then ?_
      refine pw_cond rfl (fun h4 => ?_) (fun h4 => absurd h4 (by simp))
      refine pw_exit ?_; refine pw_seq ?_; refine pw_seq ?_; refine pw_region ?_; refine yMt rfl ?_; refine yN rfl ?_; refine yB rfl rfl rfl rfl ?_; refine yQ ?_; refine q_then ?_
      refine pw_cond rfl (fun h5 => ?_) (fun h5 => ?_)
      · simp at h5
        have hE : bE a b m 2 = 4 := by rw [hbE, if_pos (by rw [hpre', List.append_nil]; omega)]
        rw [hE, bL_no (by rw [hE]; decide)]
        refine pw_seq ?_; refine pw_region ?_; refine yAd rfl ?_; refine yAd rfl ?_; refine yQ ?_; refine pw_ret ?_; refine q_then_ret ?_
        exact q_ret _ (.tnil 2 rfl (.tmp rfl .nil)) rfl
      · simp at h5
        have hnl : ¬ 399 < (inR a b m 2 m).length := by rw [hpre', List.append_nil]; omega
        have hE : bE a b m 2 = 0 := by rw [hbE, if_neg hnl]
        rw [hE, bL_of hr hk0 hnl, show prs (eL a b m 2) = qs ++ [(x, b)] by rw [eL, if_pos rfl, hpre', List.append_nil, hp1]]
        refine pw_skip ?_; refine pw_seq ?_; refine pw_region ?_; refine yMt rfl ?_; refine yAt rfl ?_; refine yAd rfl ?_; refine yQ ?_; refine pw_ret ?_
        exact q_ret _ (.tmp rfl (.tmp rfl .nil)) rfl
    refine yMd rfl ?_; refine yFb rfl ?_; refine yLd rfl rfl rfl ?_; refine yB rfl rfl rfl rfl ?_; refine yVd rfl rfl ?_; refine yQ ?_; refine q_then ?_
    simp at h3
    refine pw_cond rfl (fun h6 => ?_) (fun h6 => ?_)
    · simp at h6
      have hpre' : inR a b m 2 m = pre ++ [] := by rw [hpre, hin, if_neg (by omega)]
      refine pw_region ?_; refine yFb rfl ?_; refine yLd rfl rfl rfl ?_; refine yAd rfl ?_; refine yQ ?_; refine pw_seq ?_; refine pw_region ?_; refine yMd rfl ?_; refine yFb rfl ?_; refine ySd (cs' := [_, _]) rfl rfl rfl rfl ?_
      refine yQ ?_; refine pw_seq ?_; refine pw_region ?_; refine yMt rfl ?_; refine yLa (ys := [_, _]) rfl rfl rfl rfl ?_; refine yR (es := [[_, _]]) rfl rfl rfl rfl rfl ?_
      refine yT (es' := (qs ++ [(x, b)]).map dP) (m := ((qs ++ [(x, b)]).map dP).length) (by simp; omega) (by simp; omega) rfl rfl rfl rfl rfl (by simp) (by simp) ?_; refine yAt rfl ?_; refine yQ ?_; refine pw_seq ?_; refine pw_seq ?_
      refine pw_region ?_; refine yMd rfl ?_; refine yFb rfl ?_; refine yLd rfl rfl rfl ?_; refine yB rfl rfl rfl rfl ?_; refine yQ ?_; refine q_then ?_
      refine pw_cond rfl (fun h4 => ?_) (fun h4 => absurd h4 (by simp))
      refine pw_exit ?_; refine pw_seq ?_; refine pw_seq ?_; refine pw_region ?_; refine yMt rfl ?_; refine yN rfl ?_; refine yB rfl rfl rfl rfl ?_; refine yQ ?_; refine q_then ?_
      refine pw_cond rfl (fun h5 => ?_) (fun h5 => ?_)
      · simp at h5
        have hE : bE a b m 2 = 4 := by rw [hbE, if_pos (by rw [hpre', List.append_nil]; omega)]
        rw [hE, bL_no (by rw [hE]; decide)]
        refine pw_seq ?_; refine pw_region ?_; refine yAd rfl ?_; refine yAd rfl ?_; refine yQ ?_; refine pw_ret ?_; refine q_then_ret ?_
        exact q_ret _ (.tnil 2 rfl (.tmp rfl .nil)) rfl
      · simp at h5
        have hnl : ¬ 399 < (inR a b m 2 m).length := by rw [hpre', List.append_nil]; omega
        have hE : bE a b m 2 = 0 := by rw [hbE, if_neg hnl]
        rw [hE, bL_of hr hk0 hnl, show prs (eL a b m 2) = qs ++ [(x, b)] by rw [eL, if_pos rfl, hpre', List.append_nil, hp1]]
        refine pw_skip ?_; refine pw_seq ?_; refine pw_region ?_; refine yMt rfl ?_; refine yAt rfl ?_; refine yAd rfl ?_; refine yQ ?_; refine pw_ret ?_
        exact q_ret _ (.tmp rfl (.tmp rfl .nil)) rfl
    simp at h6
    have hpre' : inR a b m 2 m = pre ++ (d :: inR a b m 2 (k * m + m)) := by rw [hpre, hin, if_pos ⟨h3, h6⟩]
    refine pw_skip ?_; refine pw_seq ?_; refine pw_region ?_; refine yMd rfl ?_; refine yFb rfl ?_; refine ySd (cs' := [_, _]) rfl rfl rfl rfl ?_; refine yQ ?_; refine pw_seq ?_; refine pw_region ?_; refine yMt rfl ?_
    refine yLa (ys := [_, _]) rfl rfl rfl rfl ?_; refine yR (es := [[_, _]]) rfl rfl rfl rfl rfl ?_
    refine yT (es' := (qs ++ [(x, d)]).map dP) (m := ((qs ++ [(x, d)]).map dP).length) (by simp; omega) (by simp; omega) rfl rfl rfl rfl rfl (by simp) (by simp) ?_; refine yAt rfl ?_; refine yQ ?_; refine pw_seq ?_; refine pw_seq ?_
    refine pw_region ?_; refine yMd rfl ?_; refine yFb rfl ?_; refine yLd rfl rfl rfl ?_; refine yB rfl rfl rfl rfl ?_; refine yQ ?_; refine q_then ?_
    refine pw_cond rfl (fun h7 => absurd h7 (by simp; omega)) (fun h7 => ?_)
    refine pw_skip ?_; refine pw_region ?_; refine yMd rfl ?_; refine yFb rfl ?_; refine ySd (cs' := [_, _]) rfl rfl rfl rfl ?_; refine yQ ?_; refine pw_seq ?_; refine pw_region ?_; refine yMt rfl ?_; refine yN rfl ?_
    refine yB rfl rfl rfl rfl ?_; refine yQ ?_; refine q_then ?_
    refine pw_cond rfl (fun h8 => ?_) (fun h8 => ?_)
    · simp at h8
      have hE : bE a b m 2 = 4 := by rw [hbE, if_pos (by rw [hpre']; simp; omega)]
      rw [hE, bL_no (by rw [hE]; decide)]
      refine pw_seq ?_; refine pw_region ?_; refine yAd rfl ?_; refine yAd rfl ?_; refine yQ ?_; refine pw_ret ?_; refine q_blk_ret ?_; refine q_then_ret ?_; refine q_then_ret ?_; refine q_blk_ret ?_; refine q_then_ret ?_
      exact q_ret _ (.tnil 2 rfl (.tmp rfl .nil)) rfl
    · simp at h8
      refine pw_skip ?_; refine pw_region ?_; refine yMd rfl ?_; refine yB rfl rfl rfl rfl ?_; refine yAd rfl ?_; refine yQ ?_; refine q_then ?_
      refine ⟨pre ++ [d], ⟨?_, by simp; omega⟩, by simp; omega, rfl, ⟨.refl _, .refl _, .refl _, .refl _, .of_eq ?_, .of_eq ?_, trivial⟩, ⟨⟨_, rfl, .refl _, .refl _, trivial⟩, ⟨_, rfl, .of_eq ?_, .any _, trivial⟩, trivial⟩, ⟨?_, trivial⟩, rfl⟩
      · rw [hpre', List.append_assoc, List.singleton_append, show (((pre ++ [d]).length : Int) + 1) * m = k * m + m by rw [List.length_append, hk]; simp [Int.add_mul]]
      · exact congrArg (fun n => SV.d (dI n)) (hw1.trans (by simp [hk]))
      · rw [hp1]; rfl
      · simp
      · rw [hp1]; rfl
end Go.Proofs.Ytilbolgncpfmmaa
