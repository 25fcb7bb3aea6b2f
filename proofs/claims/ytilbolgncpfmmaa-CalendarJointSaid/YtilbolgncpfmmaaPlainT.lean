/- Plain mathematics of built schedules: no program in sight. -/
import Derived.Test.YtilbolgncpfmmaaPlainS
import Derived.Test.YtilbolgncpfmmaaBuild
namespace Go.Proofs.Ytilbolgncpfmmaa

theorem num_lt {y m d y' m' d' : Int} (h : okDate y m d = true) (h' : okDate y' m' d' = true) (hlt : 12 * y + m < 12 * y' + m') : num y m d < num y' m' d' := by
  obtain ⟨a1, a2, a3, a4, a5, a6⟩ := okDate_iff.1 h
  obtain ⟨b1, b2, b3, b4, b5, b6⟩ := okDate_iff.1 h'
  by_cases e : y = y'
  · subst e
    have hm : m < m' := by omega
    have hc := cumN_mono y (show (m - 1).toNat + 1 ≤ (m' - 1).toNat by omega)
    rw [cumN, show (((m - 1).toNat : Nat) : Int) + 1 = m by omega] at hc
    unfold num
    omega
  · obtain ⟨-, c1⟩ := num_bounds h
    obtain ⟨c2, -⟩ := num_bounds h'
    have := bgn_mono (show y + 1 ≤ y' by omega)
    omega
theorem num_lt_day {y m d d' : Int} (hlt : d < d') : num y m d < num y m d' := by unfold num; omega

theorem amN_ok {d n : Int} (h : amE d n = 0) : okDate (amK d n / 12) (amK d n % 12 + 1) (amD d n) = true := by
  obtain ⟨h1, -, -, h4, h5⟩ := amE_zero h
  exact am_ok h1 h4 h5
theorem amV_eq {d n : Int} (h : amE d n = 0) : amV d n = amN d n := by rw [amV, if_pos h]
theorem amV_vB {d n : Int} (h : amE d n = 0) : vB (amV d n) = true := by rw [amV_eq h]; exact num_valid (amN_ok h)
/-- shifts grow with their months -/
theorem amV_lt {d n n' : Int} (h : amE d n = 0) (h' : amE d n' = 0) (hlt : n < n') : amV d n < amV d n' := by
  rw [amV_eq h, amV_eq h']
  refine num_lt (amN_ok h) (amN_ok h') ?_
  unfold amK
  omega
theorem amK_zero (d : Int) : amK d 0 = 12 * pY d + pM d - 1 := by unfold amK; omega
theorem am_zero {d : Int} (h : vB d = true) : amE d 0 = 0 ∧ amV d 0 = d := by
  obtain ⟨ho, hn⟩ := parts_ok h
  obtain ⟨a1, a2, a3, a4, a5, a6⟩ := okDate_iff.1 ho
  have e1 : amK d 0 / 12 = pY d := by rw [amK_zero]; omega
  have e2 : amK d 0 % 12 + 1 = pM d := by rw [amK_zero]; omega
  have he : amE d 0 = 0 := by rw [amE, if_pos h, if_neg (by omega), if_neg (by rw [e1]; omega)]
  refine ⟨he, ?_⟩
  rw [amV_eq he, amN, amD, e1, e2, show min (pD d) (mlen (pY d) (pM d)) = pD d by omega]
  exact hn
theorem amV_gt {d n : Int} (h : amE d n = 0) (hn : 0 < n) : d < amV d n := by
  obtain ⟨h1, h2⟩ := am_zero (amE_zero h).1
  have := amV_lt h1 h hn
  omega
theorem amV_ls {d n : Int} (h : amE d n = 0) (hn : n < 0) : amV d n < d := by
  obtain ⟨h1, h2⟩ := am_zero (amE_zero h).1
  have := amV_lt h h1 hn
  omega

/-- what the inner ends are -/
theorem inR_mem {a b m s n x : Int} (h : x ∈ inR a b m s n) : ∃ k : Int, n ≤ k ∧ k ≤ 4800 ∧ amE (sSt a b s) (sSg s * k) = 0 ∧ x = amV (sSt a b s) (sSg s * k) ∧ a < x ∧ x < b := by
  fun_induction inR a b m s n with
  | case1 n hc ih =>
    rcases List.mem_cons.1 h with e | e
    · exact ⟨n, Int.le_refl _, hc.2.1, hc.2.2.1, e, by rw [e]; exact hc.2.2.2.1, by rw [e]; exact hc.2.2.2.2⟩
    · obtain ⟨k, h1, h2⟩ := ih e
      exact ⟨k, by omega, h2⟩
  | case2 n hc => simp at h
theorem sSg_two : sSg 2 = 1 := rfl
theorem sSg_one : sSg 1 = -1 := rfl
theorem inR_up {a b m n : Int} : (inR a b m 2 n).Pairwise (· < ·) := by
  fun_induction inR a b m 2 n with
  | case1 n hc ih =>
    refine List.pairwise_cons.2 ⟨fun x hx => ?_, ih⟩
    obtain ⟨k, h1, -, h3, h4, -⟩ := inR_mem hx
    rw [h4]
    refine amV_lt hc.2.2.1 h3 ?_
    rw [sSg_two]
    omega
  | case2 n hc => exact List.Pairwise.nil
theorem inR_down {a b m n : Int} : (inR a b m 1 n).Pairwise (fun x y => y < x) := by
  fun_induction inR a b m 1 n with
  | case1 n hc ih =>
    refine List.pairwise_cons.2 ⟨fun x hx => ?_, ih⟩
    obtain ⟨k, h1, -, h3, h4, -⟩ := inR_mem hx
    rw [h4]
    refine amV_lt h3 hc.2.2.1 ?_
    rw [sSg_one]
    omega
  | case2 n hc => exact List.Pairwise.nil

/-- the ends in order -/
def eL (a b m s : Int) : List Int := if s = 2 then a :: (inR a b m 2 m ++ [b]) else a :: ((inR a b m 1 m).reverse ++ [b])
theorem sorted_unique {l l' : List Int} (h1 : l.Pairwise (· < ·)) (hp : l'.Perm l) : l'.mergeSort (fun x y => decide (x ≤ y)) = l := by
  have h2 : (l'.mergeSort (fun x y => decide (x ≤ y))).Pairwise (fun x y => decide (x ≤ y) = true) := List.pairwise_mergeSort (by simp; omega) (by simp; omega) l'
  refine ((List.mergeSort_perm l' _).trans hp).eq_of_pairwise (le := fun x y => x ≤ y) (fun x y _ _ h1 h2 => by omega) (h2.imp (by simp)) (h1.imp (by intro x y h; omega))
theorem eL_sorted {a b m s : Int} (hs : s = 1 ∨ s = 2) (hab : a < b) : (eL a b m s).Pairwise (· < ·) := by
  have hm : ∀ s n x, x ∈ inR a b m s n → a < x ∧ x < b := fun s n x hx => by obtain ⟨k, -, -, -, -, h⟩ := inR_mem hx; exact h
  rcases hs with rfl | rfl
  · rw [eL, if_neg (by decide)]
    refine List.pairwise_cons.2 ⟨fun x hx => ?_, List.pairwise_append.2 ⟨List.pairwise_reverse.2 inR_down, List.pairwise_singleton _ _, fun x hx y hy => ?_⟩⟩
    · rcases List.mem_append.1 hx with h | h
      · exact (hm _ _ x (List.mem_reverse.1 h)).1
      · simp at h; omega
    · simp at hy; rw [hy]; exact (hm _ _ x (List.mem_reverse.1 hx)).2
  · rw [eL, if_pos rfl]
    refine List.pairwise_cons.2 ⟨fun x hx => ?_, List.pairwise_append.2 ⟨inR_up, List.pairwise_singleton _ _, fun x hx y hy => ?_⟩⟩
    · rcases List.mem_append.1 hx with h | h
      · exact (hm _ _ x h).1
      · simp at h; omega
    · simp at hy; rw [hy]; exact (hm _ _ x hx).2
theorem ends_eq {a b m s : Int} (hs : s = 1 ∨ s = 2) (hab : a < b) : ends a b m s = eL a b m s := by
  refine sorted_unique (eL_sorted hs hab) ?_
  rcases hs with rfl | rfl
  · rw [eL, if_neg (by decide)]
    refine List.Perm.cons _ ?_
    exact ((List.reverse_perm _).symm.cons b).trans (List.perm_append_singleton b _).symm
  · rw [eL, if_pos rfl]
    exact List.Perm.cons _ (List.perm_append_singleton b _).symm
end Go.Proofs.Ytilbolgncpfmmaa
