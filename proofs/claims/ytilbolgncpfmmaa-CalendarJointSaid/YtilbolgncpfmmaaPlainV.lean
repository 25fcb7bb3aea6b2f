/- Plain mathematics of what built schedules are, continued: no program in sight. -/
import Derived.Test.YtilbolgncpfmmaaPlainU
namespace Go.Proofs.Ytilbolgncpfmmaa

theorem inR_get {a b m s n : Int} (k : Nat) (x : Int) (h : (inR a b m s n)[k]? = some x) : amE (sSt a b s) (sSg s * (n + k * m)) = 0 ∧ x = amV (sSt a b s) (sSg s * (n + k * m)) := by
  fun_induction inR a b m s n generalizing k with
  | case1 n hc ih =>
    cases k with
    | zero => simp at h; subst h; simp; exact hc.2.2.1
    | succ k =>
      have := ih k (by simpa using h)
      rw [show n + m + (k : Int) * m = n + ((k + 1 : Nat) : Int) * m by push_cast; rw [Int.add_mul]; omega] at this
      exact this
  | case2 n hc => simp at h
theorem inR_stop {a b m s n : Int} (hm : 1 ≤ m) : ¬ (n + ((inR a b m s n).length : Int) * m ≤ 4800 ∧ amE (sSt a b s) (sSg s * (n + ((inR a b m s n).length : Int) * m)) = 0 ∧ a < amV (sSt a b s) (sSg s * (n + ((inR a b m s n).length : Int) * m)) ∧ amV (sSt a b s) (sSg s * (n + ((inR a b m s n).length : Int) * m)) < b) := by
  fun_induction inR a b m s n with
  | case1 n hc ih =>
    rw [List.length_cons]
    rw [show n + (((inR a b m s (n + m)).length + 1 : Nat) : Int) * m = n + m + ((inR a b m s (n + m)).length : Int) * m by push_cast; rw [Int.add_mul]; omega]
    exact ih
  | case2 n hc =>
    simp
    intro h1 h2 h3
    have : ¬ (1 ≤ m ∧ n ≤ 4800 ∧ amE (sSt a b s) (sSg s * n) = 0 ∧ a < amV (sSt a b s) (sSg s * n) ∧ amV (sSt a b s) (sSg s * n) < b) := hc
    omega

section
variable {a b m s : Int}
/-- what is given of a schedule that was built -/
structure Blt (a b m s : Int) : Prop where
  va : vB a = true
  vb : vB b = true
  ab : a < b
  m1 : 1 ≤ m
  m2 : m ≤ 4800
  st : s = 1 ∨ s = 2
  few : (inR a b m s m).length ≤ 399
theorem blt_of (h : bE a b m s = 0) : Blt a b m s ∧ bL a b m s = prs (eL a b m s) := by
  have h1 : sck (sRight a b) m s = 0 := by
    rw [bE] at h
    split at h
    · assumption
    · exact h
  have hr : sRight a b = true := by
    cases hr : sRight a b with
    | true => rfl
    | false => rw [hr] at h1; simp [sck] at h1
  rw [hr] at h1
  obtain ⟨m1, m2, hs⟩ := sck_zero h1
  have hr' := hr
  simp [sRight] at hr'
  have hl : ¬ 399 < (inR a b m s m).length := by
    intro hl
    rw [bE, hr, if_pos h1, if_pos hl] at h
    cases h
  refine ⟨⟨hr'.1.1, hr'.1.2, hr'.2, m1, m2, hs, by omega⟩, ?_⟩
  rw [bL, if_pos h, ends_eq hs hr'.2]
theorem eL_length (hs : s = 1 ∨ s = 2) : (eL a b m s).length = (inR a b m s m).length + 2 := by
  rcases hs with rfl | rfl <;> simp [eL]
theorem prs_getP (zs : List Int) (i : Nat) (hi : i + 1 < zs.length) : getP (prs zs) i = (zs[i]?.getD 0, zs[i + 1]?.getD 0) := by
  unfold getP; rw [prs_get zs i hi]; rfl
theorem eL_zero (hs : s = 1 ∨ s = 2) : (eL a b m s)[0]?.getD 0 = a := by rcases hs with rfl | rfl <;> simp [eL]
theorem eL_last (hs : s = 1 ∨ s = 2) : (eL a b m s)[(inR a b m s m).length + 1]?.getD 0 = b := by
  rcases hs with rfl | rfl
  · rw [eL, if_neg (by decide), List.getElem?_cons_succ, List.getElem?_append_right (by simp)]; simp
  · rw [eL, if_pos rfl, List.getElem?_cons_succ, List.getElem?_append_right (by simp)]; simp
/-- the ends by their shifts: StubLast -/
theorem eL_two (h : Blt a b m 2) (k : Nat) (hk : k ≤ (inR a b m 2 m).length) : amE a (k * m) = 0 ∧ (eL a b m 2)[k]?.getD 0 = amV a (k * m) := by
  cases k with
  | zero =>
    obtain ⟨h1, h2⟩ := am_zero h.va
    simp [eL, h1, h2]
  | succ k =>
    obtain ⟨x, hx⟩ : ∃ x, (inR a b m 2 m)[k]? = some x := ⟨_, List.getElem?_eq_getElem (by omega)⟩
    obtain ⟨h1, h2⟩ := inR_get k x hx
    rw [show sSt a b 2 = a from rfl, sSg_two, Int.one_mul, show m + (k : Int) * m = ((k + 1 : Nat) : Int) * m by push_cast; rw [Int.add_mul]; omega] at h1 h2
    refine ⟨h1, ?_⟩
    rw [eL, if_pos rfl, List.getElem?_cons_succ, List.getElem?_append_left (by omega), hx, ← h2]; rfl
/-- the ends by their shifts: StubFirst -/
theorem eL_one (h : Blt a b m 1) (k : Nat) (hk : k ≤ (inR a b m 1 m).length) : amE b (-(k * m)) = 0 ∧ (eL a b m 1)[(inR a b m 1 m).length + 1 - k]?.getD 0 = amV b (-(k * m)) := by
  cases k with
  | zero =>
    obtain ⟨h1, h2⟩ := am_zero h.vb
    simp only [Int.natCast_zero, Int.zero_mul, Int.neg_zero, Nat.sub_zero]
    exact ⟨h1, by rw [h2]; exact eL_last (.inl rfl)⟩
  | succ k =>
    obtain ⟨x, hx⟩ : ∃ x, (inR a b m 1 m)[k]? = some x := ⟨_, List.getElem?_eq_getElem (by omega)⟩
    obtain ⟨h1, h2⟩ := inR_get k x hx
    rw [show sSt a b 1 = b from rfl, sSg_one, show -1 * (m + (k : Int) * m) = -(((k + 1 : Nat) : Int) * m) by push_cast; rw [Int.add_mul]; omega] at h1 h2
    refine ⟨h1, ?_⟩
    rw [eL, if_neg (by decide), show (inR a b m 1 m).length + 1 - (k + 1) = ((inR a b m 1 m).length - 1 - k) + 1 by omega, List.getElem?_cons_succ, List.getElem?_append_left (by simp; omega), List.getElem?_reverse (by omega), show (inR a b m 1 m).length - 1 - ((inR a b m 1 m).length - 1 - k) = k by omega, hx, ← h2]; rfl

/-- every period but the stub is regular -/
theorem blt_reg (h : Blt a b m s) (i : Nat) (hi : i ≤ (inR a b m s m).length) (hne : (s = 1 → i ≠ 0) ∧ (s = 2 → i ≠ (inR a b m s m).length)) : sReg ((eL a b m s)[i]?.getD 0) ((eL a b m s)[i + 1]?.getD 0) m = true := by
  rcases h.st with rfl | rfl
  · have hi0 := hne.1 rfl
    obtain ⟨h1, h2⟩ := eL_one h ((inR a b m 1 m).length + 1 - i) (by omega)
    obtain ⟨h3, h4⟩ := eL_one h ((inR a b m 1 m).length - i) (by omega)
    rw [show (inR a b m 1 m).length + 1 - ((inR a b m 1 m).length + 1 - i) = i by omega] at h2
    rw [show (inR a b m 1 m).length + 1 - ((inR a b m 1 m).length - i) = i + 1 by omega] at h4
    rw [h2, h4]
    have e : -((((inR a b m 1 m).length + 1 - i : Nat) : Int) * m) = -((((inR a b m 1 m).length - i : Nat) : Int) * m) - m := by
      rw [show (inR a b m 1 m).length + 1 - i = ((inR a b m 1 m).length - i) + 1 by omega]; push_cast; rw [Int.add_mul]; omega
    rw [e] at h1 ⊢
    exact reg_prev h3 h1
  · have hin := hne.2 rfl
    obtain ⟨h1, h2⟩ := eL_two h i (by omega)
    obtain ⟨h3, h4⟩ := eL_two h (i + 1) (by omega)
    rw [h2, h4]
    have e : (((i + 1 : Nat) : Int)) * m = (i : Int) * m + m := by push_cast; rw [Int.add_mul]; omega
    rw [e] at h3 ⊢
    exact reg_next h1 h3
/-- the stub is shorter than the months -/
theorem stub_one (h : Blt a b m 1) (hn : sReg a ((eL a b m 1)[1]?.getD 0) m = false) (he : amE ((eL a b m 1)[1]?.getD 0) (-m) = 0) : amV ((eL a b m 1)[1]?.getD 0) (-m) < a := by
  obtain ⟨h1, h2⟩ := eL_one h (inR a b m 1 m).length (Nat.le_refl _)
  rw [show (inR a b m 1 m).length + 1 - (inR a b m 1 m).length = 1 by omega] at h2
  rw [h2] at he hn ⊢
  obtain ⟨h3, h4⟩ := am_le h1 he
  have hst := inR_stop (a := a) (b := b) (s := 1) (n := m) h.m1
  rw [show sSt a b 1 = b from rfl, sSg_one, show -1 * (m + ((inR a b m 1 m).length : Int) * m) = -(((inR a b m 1 m).length : Int) * m) + -m by omega] at hst
  have h5 := amE_zero h3
  have h6 : 0 < ((inR a b m 1 m).length : Int) * m + m := by
    have := Int.mul_nonneg (show 0 ≤ ((inR a b m 1 m).length : Int) by omega) (show 0 ≤ m by have := h.m1; omega)
    have := h.m1
    omega
  have h7 := amV_ls h3 (by omega)
  have h8 : amV b (-(((inR a b m 1 m).length : Int) * m) + -m) ≤ a := by
    rcases Int.lt_or_le a (amV b (-(((inR a b m 1 m).length : Int) * m) + -m)) with h9 | h9
    · exact absurd ⟨by omega, h3, h9, h7⟩ hst
    · exact h9
  rcases Int.lt_or_eq_of_le (Int.le_trans h4 h8) with h9 | h9
  · exact h9
  · unfold sReg at hn
    rw [he, h9] at hn
    simp at hn
theorem stub_two (h : Blt a b m 2) (hn : sReg ((eL a b m 2)[(inR a b m 2 m).length]?.getD 0) b m = false) (he : amE ((eL a b m 2)[(inR a b m 2 m).length]?.getD 0) m = 0) : b < amV ((eL a b m 2)[(inR a b m 2 m).length]?.getD 0) m := by
  obtain ⟨h1, h2⟩ := eL_two h (inR a b m 2 m).length (Nat.le_refl _)
  rw [h2] at he hn ⊢
  obtain ⟨h3, h4⟩ := am_le h1 he
  have hst := inR_stop (a := a) (b := b) (s := 2) (n := m) h.m1
  rw [show sSt a b 2 = a from rfl, sSg_two, Int.one_mul, show m + ((inR a b m 2 m).length : Int) * m = ((inR a b m 2 m).length : Int) * m + m by omega] at hst
  have h5 := amE_zero h3
  have h6 : 0 < ((inR a b m 2 m).length : Int) * m + m := by
    have := Int.mul_nonneg (show 0 ≤ ((inR a b m 2 m).length : Int) by omega) (show 0 ≤ m by have := h.m1; omega)
    have := h.m1
    omega
  have h7 := amV_gt h3 h6
  have h8 : b ≤ amV a (((inR a b m 2 m).length : Int) * m + m) := by
    rcases Int.lt_or_le (amV a (((inR a b m 2 m).length : Int) * m + m)) b with h9 | h9
    · exact absurd ⟨by omega, h3, h7, h9⟩ hst
    · exact h9
  rcases Int.lt_or_le b (amV (amV a (((inR a b m 2 m).length : Int) * m)) m) with h9 | h9
  · exact h9
  · rw [reg_between h1 he h9 h8] at hn; cases hn

/-- a built schedule is one -/
theorem eL_valid (h : Blt a b m s) : ∀ x ∈ eL a b m s, vB x = true := by
  have hin : ∀ s x, x ∈ inR a b m s m → vB x = true := fun s x hx => by
    obtain ⟨k, -, -, h3, h4, -⟩ := inR_mem hx
    rw [h4]; exact amV_vB h3
  intro x hx
  rcases h.st with rfl | rfl
  · rw [eL, if_neg (by decide)] at hx
    rcases List.mem_cons.1 hx with e | e
    · rw [e]; exact h.va
    · rcases List.mem_append.1 e with e | e
      · exact hin 1 x (List.mem_reverse.1 e)
      · simp at e; rw [e]; exact h.vb
  · rw [eL, if_pos rfl] at hx
    rcases List.mem_cons.1 hx with e | e
    · rw [e]; exact h.va
    · rcases List.mem_append.1 e with e | e
      · exact hin 2 x e
      · simp at e; rw [e]; exact h.vb
theorem getZ_mem {zs : List Int} {i : Nat} (h : i < zs.length) : zs[i]?.getD 0 ∈ zs := by rw [List.getElem?_eq_getElem h]; exact List.getElem_mem h
theorem pw_lt {zs : List Int} (h : zs.Pairwise (· < ·)) {i j : Nat} (hij : i < j) (hj : j < zs.length) : zs[i]?.getD 0 < zs[j]?.getD 0 := by
  rw [List.getElem?_eq_getElem (by omega), List.getElem?_eq_getElem hj]
  exact List.pairwise_iff_getElem.1 h i j (by omega) hj hij
theorem sChk_prs {zs : List Int} (h1 : zs.Pairwise (· < ·)) (h2 : ∀ x ∈ zs, vB x = true) (h3 : 2 ≤ zs.length) (h4 : zs.length ≤ 401) : sChk (prs zs) = 0 := by
  have hl := prs_length zs
  refine sChk_ok (by omega) (by omega) fun j hj => ?_
  have e := prs_getP zs j (by omega)
  unfold errP
  rw [e]
  rw [if_neg (by rw [h2 _ (getZ_mem (by omega)), h2 _ (getZ_mem (by omega))]; simp), if_neg (by have := pw_lt h1 (show j < j + 1 by omega) (by omega); simp only; omega), if_neg]
  rintro ⟨h5, h6⟩
  rw [prs_getP zs (j - 1) (by omega), show j - 1 + 1 = j by omega] at h6
  exact h6 rfl
theorem blt_chk (h : Blt a b m s) : sChk (prs (eL a b m s)) = 0 ∧ (prs (eL a b m s)).length = (inR a b m s m).length + 1 := by
  have hl := eL_length (a := a) (b := b) (m := m) h.st
  have hf := h.few
  exact ⟨sChk_prs (eL_sorted h.st h.ab) (eL_valid h) (by omega) (by omega), by rw [prs_length]; omega⟩
end
end Go.Proofs.Ytilbolgncpfmmaa
