import Derived.Test.YtilbolgncpfmmaaPlainV
/- Plain: schedules that are extended. -/
namespace Go.Proofs.Ytilbolgncpfmmaa
theorem prs_drop (zs : List Int) (k : Nat) : (prs zs).drop k = prs (zs.drop k) := by
  induction k generalizing zs with
  | zero => rfl
  | succ k ih =>
    match zs with
    | [] => rfl
    | [x] => simp [prs]
    | x :: y :: t => rw [prs, List.drop_succ_cons, List.drop_succ_cons, ih]
theorem prs_takeN (zs : List Int) (k : Nat) : (prs zs).take k = prs (zs.take (k + 1)) := by
  induction k generalizing zs with
  | zero =>
    match zs with
    | [] => rfl
    | x :: t => rfl
  | succ k ih =>
    match zs with
    | [] => rfl
    | [x] => rfl
    | x :: y :: t => rw [prs, List.take_succ_cons, ih, List.take_succ_cons, List.take_succ_cons, List.take_succ_cons, prs]
theorem inR_ext2 {a b b' m n : Int} (hb : b ≤ b') : ∃ r, inR a b' m 2 n = inR a b m 2 n ++ r := by
  fun_induction inR a b m 2 n with
  | case1 n hc ih =>
    obtain ⟨r, hr⟩ := ih
    refine ⟨r, ?_⟩
    obtain ⟨h1, h2, h3, h4, h5⟩ := hc
    rw [inR_yes (a := a) (b := b') (s := 2) h1 h2 h3 h4 (by have : sSt a b' 2 = sSt a b 2 := rfl
                                                            rw [this]; omega), hr]
    rfl
  | case2 n hc => exact ⟨_, rfl⟩
theorem inR_ext1 {a a' b m n : Int} (hb : a' ≤ a) : ∃ r, inR a' b m 1 n = inR a b m 1 n ++ r := by
  fun_induction inR a b m 1 n with
  | case1 n hc ih =>
    obtain ⟨r, hr⟩ := ih
    refine ⟨r, ?_⟩
    obtain ⟨h1, h2, h3, h4, h5⟩ := hc
    rw [inR_yes (a := a') (b := b) (s := 1) h1 h2 h3 (by have : sSt a' b 1 = sSt a b 1 := rfl
                                                         rw [this]; omega) h5, hr]
    rfl
  | case2 n hc => exact ⟨_, rfl⟩
/-- the errors -/
theorem ext_err {a b a' b' m s : Int} (h : sck (sRight a b) m s = 0 → sck (sRight a' b') m s = 0 ∧ (inR a b m s m).length ≤ (inR a' b' m s m).length) :
    (bE a b m s = 4 → bE a' b' m s = 4) ∧ (bE a b m s = 0 → bE a' b' m s = 0 ∨ bE a' b' m s = 4) := by
  by_cases h0 : sck (sRight a b) m s = 0
  · obtain ⟨h1, h2⟩ := h h0
    simp only [bE, h0, h1, if_true]
    constructor
    · intro h3
      split at h3
      · rw [if_pos (by omega)]
      · cases h3
    · intro _
      split
      · exact .inr rfl
      · exact .inl rfl
  · simp only [bE, h0, if_false]
    refine ⟨fun h3 => ?_, fun h3 => h3.elim⟩
    unfold sck at h3
    repeat' split at h3
    all_goals omega
theorem ext_one {a a' b m : Int} (hb : a' ≤ a) : (inR a b m 1 m).length ≤ (inR a' b m 1 m).length ∧
    (prs (eL a b m 1)).drop 1 = (prs (eL a' b m 1)).drop ((inR a' b m 1 m).length + 1 - (inR a b m 1 m).length) := by
  obtain ⟨r, hr⟩ := inR_ext1 (a := a) (a' := a') (b := b) (m := m) (n := m) hb
  refine ⟨by rw [hr]; simp, ?_⟩
  rw [prs_drop, prs_drop, hr]
  congr 1
  rw [eL, eL, if_neg (by decide), if_neg (by decide), hr]
  rw [show (inR a b m 1 m ++ r).length + 1 - (inR a b m 1 m).length = r.reverse.length + 1 by simp; omega]
  rw [List.drop_succ_cons, List.drop_succ_cons, List.reverse_append, List.append_assoc, List.drop_left]
  rfl
theorem ext_two {a b b' m : Int} (hb : b ≤ b') : (inR a b m 2 m).length ≤ (inR a b' m 2 m).length ∧
    (prs (eL a b m 2)).take (inR a b m 2 m).length = (prs (eL a b' m 2)).take (inR a b m 2 m).length := by
  obtain ⟨r, hr⟩ := inR_ext2 (a := a) (b := b) (b' := b') (m := m) (n := m) hb
  refine ⟨by rw [hr]; simp, ?_⟩
  rw [prs_takeN, prs_takeN]
  congr 1
  rw [eL, eL, if_pos rfl, if_pos rfl, hr]
  rw [List.take_succ_cons, List.take_succ_cons, List.append_assoc, List.take_left, List.take_left]
end Go.Proofs.Ytilbolgncpfmmaa
