/- The walk of the law ScheduleExtends, for this seat. -/
import Derived.Test.YtilbolgncpfmmaaW11
import Derived.Test.YtilbolgncpfmmaaPxS
import Derived.Test.YtilbolgncpfmmaaPlainE
namespace Go.Proofs.Ytilbolgncpfmmaa
open Go.RowKit Px

theorem sck_parts {a b m s : Int} (h : sck (sRight a b) m s = 0) : vB a = true ∧ vB b = true ∧ a < b ∧ 1 ≤ m ∧ m ≤ 4800 ∧ (s = 1 ∨ s = 2) := by
  unfold sck at h
  split at h
  · rename_i hr
    simp only [sRight, Bool.and_eq_true, decide_eq_true_eq] at hr
    obtain ⟨⟨h1, h2⟩, h3⟩ := hr
    split at h
    · omega
    · split at h
      · omega
      · exact ⟨h1, h2, h3, by omega, by omega, by omega⟩
  · omega
theorem sck_of {a b m s : Int} (h : vB a = true ∧ vB b = true ∧ a < b ∧ 1 ≤ m ∧ m ≤ 4800 ∧ (s = 1 ∨ s = 2)) : sck (sRight a b) m s = 0 := by
  obtain ⟨h1, h2, h3, h4, h5, h6⟩ := h
  have hr : sRight a b = true := by simp [sRight, h1, h2, h3]
  rw [sck, if_pos hr, if_neg (by omega), if_neg (by omega)]
theorem ext2_all {a b b' y m s : Int} (hy : 0 ≤ y ∧ y ≤ 65535) (hs : s ≠ 1) (hb : b' = IntKind.i64.wrap (b + if IntKind.i64.wrap (84005 - b) < IntKind.i64.wrap y then IntKind.i64.wrap (84005 - b) else IntKind.i64.wrap y)) :
    (bE a b m s = 4 → bE a b' m s = 4) ∧ (bE a b m s = 0 → bE a b' m s = 0 ∨ bE a b' m s = 4) ∧
    (bE a b m s = 0 → bE a b' m s = 0 → ∃ n : Nat, n < 400 ∧ (bL a b m s).length = n + 1 ∧ n < (bL a b' m s).length ∧ (bL a b' m s).length ≤ 400 ∧ (bL a b m s).take n = (bL a b' m s).take n) := by
  have key : vB b = true → b ≤ b' ∧ vB b' = true := fun h => by
    have hv := h
    simp only [vB, decide_eq_true_eq] at hv ⊢
    rw [wrapI y (by omega), wrapI (84005 - b) (by omega), wrapI _ (by split <;> omega)] at hb
    split at hb <;> omega
  have hE := ext_err (a := a) (b := b) (a' := a) (b' := b') (m := m) (s := s) fun h => by
    obtain ⟨h1, h2, h3, h4, h5, h6⟩ := sck_parts h
    obtain ⟨k1, k2⟩ := key h2
    obtain rfl : s = 2 := by omega
    exact ⟨sck_of ⟨h1, k2, by omega, h4, h5, h6⟩, (ext_two (a := a) (m := m) k1).1⟩
  refine ⟨hE.1, hE.2, fun h0 h0' => ?_⟩
  obtain ⟨B1, L1⟩ := blt_of h0
  obtain ⟨B2, L2⟩ := blt_of h0'
  have hst := B1.st
  obtain rfl : s = 2 := by omega
  obtain ⟨h1, h2⟩ := ext_two (a := a) (m := m) (key B1.vb).1
  have e1 := (blt_chk B1).2
  have e2 := (blt_chk B2).2
  have f1 := B1.few
  have f2 := B2.few
  rw [L1, L2]
  exact ⟨_, by omega, e1, by omega, by omega, h2⟩
theorem ext1_all {a b a' y m s : Int} (hy : 0 ≤ y ∧ y ≤ 65535) (hs : s = 1) (hb : a' = IntKind.i64.wrap (a - if IntKind.i64.wrap (a - -25567) < IntKind.i64.wrap y then IntKind.i64.wrap (a - -25567) else IntKind.i64.wrap y)) :
    (bE a b m s = 4 → bE a' b m s = 4) ∧ (bE a b m s = 0 → bE a' b m s = 0 ∨ bE a' b m s = 4) ∧
    (bE a b m s = 0 → bE a' b m s = 0 → ∃ n : Nat, n < 400 ∧ (bL a b m s).length = n + 1 ∧ n < (bL a' b m s).length ∧ (bL a' b m s).length ≤ 400 ∧ (bL a b m s).drop 1 = (bL a' b m s).drop ((bL a' b m s).length - n)) := by
  subst hs
  have key : vB a = true → a' ≤ a ∧ vB a' = true := fun h => by
    have hv := h
    simp only [vB, decide_eq_true_eq] at hv ⊢
    rw [wrapI y (by omega), wrapI (a - -25567) (by omega), wrapI _ (by split <;> omega)] at hb
    split at hb <;> omega
  have hE := ext_err (a := a) (b := b) (a' := a') (b' := b) (m := m) (s := 1) fun h => by
    obtain ⟨h1, h2, h3, h4, h5, h6⟩ := sck_parts h
    obtain ⟨k1, k2⟩ := key h1
    exact ⟨sck_of ⟨k2, h2, by omega, h4, h5, h6⟩, (ext_one (b := b) (m := m) k1).1⟩
  refine ⟨hE.1, hE.2, fun h0 h0' => ?_⟩
  obtain ⟨B1, L1⟩ := blt_of h0
  obtain ⟨B2, L2⟩ := blt_of h0'
  obtain ⟨h1, h2⟩ := ext_one (b := b) (m := m) (key B1.va).1
  have e1 := (blt_chk B1).2
  have e2 := (blt_chk B2).2
  have f1 := B1.few
  have f2 := B2.few
  rw [L1, L2]
  exact ⟨_, by omega, e1, by omega, by omega, by rw [e2]; exact h2⟩

set_option maxRecDepth 20000 in
set_option maxHeartbeats 4000000 in
theorem p12 (a b y m s : Int) (hy : 0 ≤ y ∧ y ≤ 65535) : PCalls Try.prog 12 [.agg [dI a, dI b], .val (.int .u16 y), dI m, dI s] (.d (dB true)) := by
  refine pcalls_of_pw Try.func12 rfl Try.ntmps12 Try.results12 (by simp) fun B w0 => ?_
  have c1 := p40 a b m s
  cases hs : (s == 1)
  · obtain ⟨b', hb'⟩ : ∃ x, x = IntKind.i64.wrap (b + if IntKind.i64.wrap (84005 - b) < IntKind.i64.wrap y then IntKind.i64.wrap (84005 - b) else IntKind.i64.wrap y) := ⟨_, rfl⟩
    obtain ⟨hE1, hE2, hL⟩ := ext2_all (a := a) (m := m) hy (by simpa using hs) hb'
    have c2 := p40 a b' m s
    obtain ⟨e, he⟩ : ∃ e, e = bE a b m s := ⟨_, rfl⟩
    obtain ⟨f, hf⟩ : ∃ e, e = bE a b' m s := ⟨_, rfl⟩
    obtain ⟨l, hl⟩ : ∃ e, e = bL a b m s := ⟨_, rfl⟩
    obtain ⟨l', hl'⟩ : ∃ e, e = bL a b' m s := ⟨_, rfl⟩
    rw [← he, ← hl] at c1
    rw [← hf, ← hl'] at c2
    rw [← he, ← hf] at hE1 hE2 hL
    rw [← hl, ← hl'] at hL
    clear he hf hl hl'
    refine pw_seq ?_; refine pw_region ?_; refine yK (cs := [_, _]) rfl rfl ?_; refine yAd rfl ?_; refine yQ ?_; refine pw_seq ?_; refine pw_region ?_; refine yLa (ys := [_, _]) rfl rfl rfl rfl ?_; refine yZ (cs := [_, _]) rfl rfl ?_
    refine yS (cs' := [_, _]) rfl rfl rfl rfl rfl ?_; refine yQ ?_; refine pw_seq ?_; refine pw_seq ?_; refine pw_region ?_; refine yMd rfl ?_; refine yB rfl rfl rfl rfl ?_; refine yQ ?_; refine q_then ?_
    rw [hs]
    refine pw_cf rfl ?_; refine pw_region ?_; refine yFb rfl ?_; refine yLd rfl rfl rfl ?_; refine yMd rfl ?_; refine yJ rfl ?_; refine yFb rfl ?_; refine yLd rfl rfl rfl ?_; refine yB rfl rfl rfl rfl ?_; refine yI rfl rfl rfl ?_
    refine yB rfl rfl rfl rfl ?_; refine yFb rfl ?_; refine ySd (cs' := [_, _]) rfl rfl rfl rfl ?_; refine yQ ?_; refine pw_seq ?_; refine pw_region ?_; refine yLa (ys := [_, _]) rfl rfl rfl rfl ?_; refine yMd rfl ?_; refine yMd rfl ?_
    refine yC (c1) rfl rfl ?_; refine yMp rfl ?_; refine yX rfl rfl ?_; refine yX rfl rfl ?_; refine yAd rfl ?_; refine yAd rfl ?_; refine yQ ?_; refine pw_seq ?_; refine pw_region ?_; refine yLa (ys := [_, _]) rfl rfl rfl rfl ?_
    refine yMd rfl ?_; refine yMd rfl ?_
    rw [← hb']
    refine yC (c2) rfl rfl ?_; refine yMp rfl ?_; refine yX rfl rfl ?_; refine yX rfl rfl ?_; refine yAd rfl ?_; refine yAd rfl ?_; refine yQ ?_; refine pw_seq ?_; refine pw_seq ?_; refine pw_region ?_; refine yMd rfl ?_
    refine yB rfl rfl rfl rfl ?_; refine yQ ?_; refine q_then ?_
    by_cases h0 : e = 0
    rotate_left
    · have h0' : (e != 0) = true := by simpa using h0
      rw [h0']
      refine pw_ct rfl ?_; refine pw_seq ?_; refine pw_region ?_; refine yMd rfl ?_; refine yB rfl rfl rfl rfl ?_; refine yMd rfl ?_
      by_cases h4 : e = 4
      · have h4' : (e != 4) = false := by simpa using h4
        have h5 : (f == e) = true := by rw [hE1 h4, h4]; rfl
        rw [h4']
        refine yMd rfl ?_; refine yMd rfl ?_; refine yB rfl rfl rfl rfl ?_; refine yVd rfl rfl ?_; refine yMd rfl ?_
        rw [h5]
        refine yC (p43) rfl rfl ?_; refine yPd rfl rfl ?_; refine yAd rfl ?_; refine yQ ?_; refine pw_ret ?_; refine q_then_ret ?_
        exact q_ret _ (.tmp rfl .nil) rfl
      · have h4' : (e != 4) = true := by simpa using h4
        rw [h4']
        refine yO rfl ?_; refine yO rfl ?_; refine yO rfl ?_; refine yPd rfl rfl ?_; refine yMd rfl ?_; refine yC (p43) rfl rfl ?_; refine yPd rfl rfl ?_; refine yAd rfl ?_; refine yQ ?_; refine pw_ret ?_; refine q_then_ret ?_
        exact q_ret _ (.tmp rfl .nil) rfl
    · subst h0
      rcases hE2 rfl with rfl | rfl
      rotate_left
      · refine pw_cf rfl ?_; refine pw_skip ?_; refine pw_seq ?_; refine pw_seq ?_; refine pw_region ?_; refine yMd rfl ?_; refine yB rfl rfl rfl rfl ?_; refine yQ ?_; refine pw_ct rfl ?_; refine pw_seq ?_; refine pw_region ?_
        refine yMd rfl ?_; refine yB rfl rfl rfl rfl ?_; refine yMd rfl ?_; refine yC (p43) rfl rfl ?_; refine yPd rfl rfl ?_; refine yAd rfl ?_; refine yQ ?_; refine pw_ret ?_; refine q_then_ret ?_
        exact q_ret _ (.tmp rfl .nil) rfl
      obtain ⟨n, hn, k1, k2, k3, k4⟩ := hL rfl rfl
      have hwn : IntKind.i64.wrap (((l.map dP).length : Int) - 1) = n := by rw [wrapI _ (by simp; omega)]; simp; omega
      have t1 : decide (IntKind.i64.wrap (((l.map dP).length : Int) - 1) < 0) = false := by rw [hwn]; simp
      have t2 : decide (((l'.map dP).length : Int) ≤ IntKind.i64.wrap (((l.map dP).length : Int) - 1)) = false := by rw [hwn]; simp; omega
      have c3 : PCalls Try.prog 42 [.sl 2 ((l.map dP).take (IntKind.i64.wrap (((l.map dP).length : Int) - 1)).toNat), .sl 2 ((l'.map dP).take (IntKind.i64.wrap (((l.map dP).length : Int) - 1)).toNat)] (.d (dB true)) := by
        rw [hwn, Int.toNat_natCast, ← List.map_take, ← List.map_take, k4]
        have := p42 (l'.take n) (l'.take n)
        rwa [beq_self_eq_true] at this
      refine pw_cf rfl ?_; refine pw_skip ?_; refine pw_seq ?_; refine pw_seq ?_; refine pw_region ?_; refine yMd rfl ?_; refine yB rfl rfl rfl rfl ?_; refine yQ ?_; refine pw_cf rfl ?_; refine pw_skip ?_; refine pw_seq ?_
      refine pw_region ?_; refine yMd rfl ?_; refine yN rfl ?_; refine yB rfl rfl rfl rfl ?_; refine yAd rfl ?_; refine yQ ?_; refine pw_seq ?_; refine pw_seq ?_; refine pw_region ?_; refine yMd rfl ?_; refine yB rfl rfl rfl rfl ?_
      refine yMd rfl ?_
      rw [t1]
      refine yMd rfl ?_; refine yN rfl ?_; refine yMd rfl ?_; refine yB rfl rfl rfl rfl ?_; refine yVd rfl rfl ?_; refine yQ ?_; refine q_then ?_
      rw [t2]
      refine pw_cf rfl ?_; refine pw_skip ?_; refine pw_seq ?_; refine pw_seq ?_; refine pw_region ?_; refine yMd rfl ?_; refine yB rfl rfl rfl rfl ?_; refine yQ ?_; refine q_then ?_
      rw [hs]
      refine pw_cf rfl ?_; refine pw_skip ?_; refine pw_seq ?_; refine pw_draw Try.mixed (by kernel_rfl) ?_; refine yMd rfl ?_; refine yMd rfl ?_; refine yDh (by rw [hwn]; omega) (by rw [hwn]; simp; omega) rfl rfl ?_; refine yMd rfl ?_
      refine yMd rfl ?_; refine yDh (by rw [hwn]; omega) (by rw [hwn]; simp; omega) rfl rfl ?_; refine yC (c3) rfl rfl ?_; refine yMd rfl ?_; refine yC (p43) rfl rfl ?_; refine yPd rfl rfl ?_; refine yAd rfl ?_; refine yQ ?_
      refine pw_ret ?_
      exact q_ret _ (.tmp rfl .nil) rfl
  · obtain ⟨a', hb'⟩ : ∃ x, x = IntKind.i64.wrap (a - if IntKind.i64.wrap (a - -25567) < IntKind.i64.wrap y then IntKind.i64.wrap (a - -25567) else IntKind.i64.wrap y) := ⟨_, rfl⟩
    obtain ⟨hE1, hE2, hL⟩ := ext1_all (b := b) (m := m) hy (by simpa using hs) hb'
    have c2 := p40 a' b m s
    obtain ⟨e, he⟩ : ∃ e, e = bE a b m s := ⟨_, rfl⟩
    obtain ⟨f, hf⟩ : ∃ e, e = bE a' b m s := ⟨_, rfl⟩
    obtain ⟨l, hl⟩ : ∃ e, e = bL a b m s := ⟨_, rfl⟩
    obtain ⟨l', hl'⟩ : ∃ e, e = bL a' b m s := ⟨_, rfl⟩
    rw [← he, ← hl] at c1
    rw [← hf, ← hl'] at c2
    rw [← he, ← hf] at hE1 hE2 hL
    rw [← hl, ← hl'] at hL
    clear he hf hl hl'
    refine pw_seq ?_; refine pw_region ?_; refine yK (cs := [_, _]) rfl rfl ?_; refine yAd rfl ?_; refine yQ ?_; refine pw_seq ?_; refine pw_region ?_; refine yLa (ys := [_, _]) rfl rfl rfl rfl ?_; refine yZ (cs := [_, _]) rfl rfl ?_
    refine yS (cs' := [_, _]) rfl rfl rfl rfl rfl ?_; refine yQ ?_; refine pw_seq ?_; refine pw_seq ?_; refine pw_region ?_; refine yMd rfl ?_; refine yB rfl rfl rfl rfl ?_; refine yQ ?_; refine q_then ?_
    rw [hs]
    refine pw_ct rfl ?_; refine pw_region ?_; refine yFb rfl ?_; refine yLd rfl rfl rfl ?_; refine yMd rfl ?_; refine yJ rfl ?_; refine yFb rfl ?_; refine yLd rfl rfl rfl ?_; refine yB rfl rfl rfl rfl ?_; refine yI rfl rfl rfl ?_
    refine yB rfl rfl rfl rfl ?_; refine yFb rfl ?_; refine ySd (cs' := [_, _]) rfl rfl rfl rfl ?_; refine yQ ?_; refine pw_seq ?_; refine pw_region ?_; refine yLa (ys := [_, _]) rfl rfl rfl rfl ?_; refine yMd rfl ?_; refine yMd rfl ?_
    refine yC (c1) rfl rfl ?_; refine yMp rfl ?_; refine yX rfl rfl ?_; refine yX rfl rfl ?_; refine yAd rfl ?_; refine yAd rfl ?_; refine yQ ?_; refine pw_seq ?_; refine pw_region ?_; refine yLa (ys := [_, _]) rfl rfl rfl rfl ?_
    refine yMd rfl ?_; refine yMd rfl ?_
    rw [← hb']
    refine yC (c2) rfl rfl ?_; refine yMp rfl ?_; refine yX rfl rfl ?_; refine yX rfl rfl ?_; refine yAd rfl ?_; refine yAd rfl ?_; refine yQ ?_; refine pw_seq ?_; refine pw_seq ?_; refine pw_region ?_; refine yMd rfl ?_
    refine yB rfl rfl rfl rfl ?_; refine yQ ?_; refine q_then ?_
    by_cases h0 : e = 0
    rotate_left
    · have h0' : (e != 0) = true := by simpa using h0
      rw [h0']
      refine pw_ct rfl ?_; refine pw_seq ?_; refine pw_region ?_; refine yMd rfl ?_; refine yB rfl rfl rfl rfl ?_; refine yMd rfl ?_
      by_cases h4 : e = 4
      · have h4' : (e != 4) = false := by simpa using h4
        have h5 : (f == e) = true := by rw [hE1 h4, h4]; rfl
        rw [h4']
        refine yMd rfl ?_; refine yMd rfl ?_; refine yB rfl rfl rfl rfl ?_; refine yVd rfl rfl ?_; refine yMd rfl ?_
        rw [h5]
        refine yC (p43) rfl rfl ?_; refine yPd rfl rfl ?_; refine yAd rfl ?_; refine yQ ?_; refine pw_ret ?_; refine q_then_ret ?_
        exact q_ret _ (.tmp rfl .nil) rfl
      · have h4' : (e != 4) = true := by simpa using h4
        rw [h4']
        refine yO rfl ?_; refine yO rfl ?_; refine yO rfl ?_; refine yPd rfl rfl ?_; refine yMd rfl ?_; refine yC (p43) rfl rfl ?_; refine yPd rfl rfl ?_; refine yAd rfl ?_; refine yQ ?_; refine pw_ret ?_; refine q_then_ret ?_
        exact q_ret _ (.tmp rfl .nil) rfl
    · subst h0
      rcases hE2 rfl with rfl | rfl
      rotate_left
      · refine pw_cf rfl ?_; refine pw_skip ?_; refine pw_seq ?_; refine pw_seq ?_; refine pw_region ?_; refine yMd rfl ?_; refine yB rfl rfl rfl rfl ?_; refine yQ ?_; refine pw_ct rfl ?_; refine pw_seq ?_; refine pw_region ?_
        refine yMd rfl ?_; refine yB rfl rfl rfl rfl ?_; refine yMd rfl ?_; refine yC (p43) rfl rfl ?_; refine yPd rfl rfl ?_; refine yAd rfl ?_; refine yQ ?_; refine pw_ret ?_; refine q_then_ret ?_
        exact q_ret _ (.tmp rfl .nil) rfl
      obtain ⟨n, hn, k1, k2, k3, k4⟩ := hL rfl rfl
      have hwn : IntKind.i64.wrap (((l.map dP).length : Int) - 1) = n := by rw [wrapI _ (by simp; omega)]; simp; omega
      have hwk : IntKind.i64.wrap (((l'.map dP).length : Int) - IntKind.i64.wrap (((l.map dP).length : Int) - 1)) = (l'.length - n : Nat) := by rw [hwn, wrapI _ (by simp; omega)]; simp; omega
      have t1 : decide (IntKind.i64.wrap (((l.map dP).length : Int) - 1) < 0) = false := by rw [hwn]; simp
      have t2 : decide (((l'.map dP).length : Int) ≤ IntKind.i64.wrap (((l.map dP).length : Int) - 1)) = false := by rw [hwn]; simp; omega
      have c3 : PCalls Try.prog 42 [.sl 2 ((l.map dP).drop (1 : Int).toNat), .sl 2 ((l'.map dP).drop (IntKind.i64.wrap (((l'.map dP).length : Int) - IntKind.i64.wrap (((l.map dP).length : Int) - 1))).toNat)] (.d (dB true)) := by
        rw [hwk, Int.toNat_natCast, ← List.map_drop, ← List.map_drop, ← k4]
        have := p42 (l.drop 1) (l.drop 1)
        rwa [beq_self_eq_true] at this
      refine pw_cf rfl ?_; refine pw_skip ?_; refine pw_seq ?_; refine pw_seq ?_; refine pw_region ?_; refine yMd rfl ?_; refine yB rfl rfl rfl rfl ?_; refine yQ ?_; refine pw_cf rfl ?_; refine pw_skip ?_; refine pw_seq ?_
      refine pw_region ?_; refine yMd rfl ?_; refine yN rfl ?_; refine yB rfl rfl rfl rfl ?_; refine yAd rfl ?_; refine yQ ?_; refine pw_seq ?_; refine pw_seq ?_; refine pw_region ?_; refine yMd rfl ?_; refine yB rfl rfl rfl rfl ?_
      refine yMd rfl ?_
      rw [t1]
      refine yMd rfl ?_; refine yN rfl ?_; refine yMd rfl ?_; refine yB rfl rfl rfl rfl ?_; refine yVd rfl rfl ?_; refine yQ ?_; refine q_then ?_
      rw [t2]
      refine pw_cf rfl ?_; refine pw_skip ?_; refine pw_seq ?_; refine pw_seq ?_; refine pw_region ?_; refine yMd rfl ?_; refine yB rfl rfl rfl rfl ?_; refine yQ ?_; refine q_then ?_
      rw [hs]
      refine pw_ct rfl ?_; refine pw_seq ?_; refine pw_draw Try.mixed (by kernel_rfl) ?_; refine yMd rfl ?_; refine yDl (n := 1) (by omega) (by simp; omega) rfl rfl ?_; refine yMd rfl ?_; refine yMd rfl ?_; refine yN rfl ?_
      refine yMd rfl ?_; refine yB rfl rfl rfl rfl ?_; refine yDl (by rw [hwk]; omega) (by rw [hwk]; simp) rfl rfl ?_; refine yC (c3) rfl rfl ?_; refine yMd rfl ?_; refine yC (p43) rfl rfl ?_; refine yPd rfl rfl ?_; refine yAd rfl ?_
      refine yQ ?_; refine pw_ret ?_; refine q_then_ret ?_
      exact q_ret _ (.tmp rfl .nil) rfl
theorem extends_law (a b y m s : Int) (hy : 0 ≤ y ∧ y ≤ 65535) (w : World) : Calls Try.prog 12 #[.agg #[.int .i64 a, .int .i64 b], .int .u16 y, .int .i64 m, .int .i64 s] w fun e w' => e = .returned (.bool true) ∧ Below w.heap.size w w' :=
  calls_of_true (p12 a b y m s hy) w [.agg #[.int .i64 a, .int .i64 b], .int .u16 y, .int .i64 m, .int .i64 s] rfl fun i v x hv hx => by
    match i, hv, hx with
    | 0, hv, hx => cases hv; cases hx; exact drep_per a b
    | 1, hv, hx => cases hv; cases hx; exact .val _ rfl
    | 2, hv, hx => cases hv; cases hx; exact .val _ rfl
    | 3, hv, hx => cases hv; cases hx; exact .val _ rfl
    | i + 4, hv, hx => simp at hv
end Go.Proofs.Ytilbolgncpfmmaa
