/- Plain mathematics of what built schedules are: no program in sight. -/
import Derived.Test.YtilbolgncpfmmaaPlainT
import Derived.Test.YtilbolgncpfmmaaReg
namespace Go.Proofs.Ytilbolgncpfmmaa

theorem am_parts {d n : Int} (h : amE d n = 0) : 12 * pY (amV d n) + pM (amV d n) - 1 = amK d n ∧ pD (amV d n) = amD d n := by
  rw [amV_eq h, amN]
  obtain ⟨h1, h2, h3⟩ := parts_num (amN_ok h)
  rw [h1, h2, h3]
  omega
theorem amK_am {d n k : Int} (h : amE d n = 0) : amK (amV d n) k = amK d (n + k) := by
  have := (am_parts h).1
  unfold amK at this ⊢
  omega
theorem amD_am {d n k : Int} (h : amE d n = 0) : amD (amV d n) k = min (amD d n) (mlen (amK d (n + k) / 12) (amK d (n + k) % 12 + 1)) := by
  rw [amD, (am_parts h).2, amK_am h]
theorem amE_far {d n : Int} (hv : vB d = true) (h : amE d n ≠ 0) : amK d n / 12 < 1900 ∨ 2199 < amK d n / 12 ∨ n < -4800 ∨ 4800 < n := by
  rw [amE, if_pos hv] at h
  split at h
  · omega
  · split at h
    · omega
    · omega
theorem amK_range {d n : Int} (hv : vB d = true) (h : n < -4800 ∨ 4800 < n) : amK d n / 12 < 1900 ∨ 2199 < amK d n / 12 := by
  obtain ⟨ho, -⟩ := parts_ok hv
  obtain ⟨a, b, c, e, -, -⟩ := okDate_iff.1 ho
  unfold amK; omega
/-- an error of a shift, by its month alone -/
theorem amE_iff {d n : Int} (hv : vB d = true) : amE d n = 0 ↔ 1900 ≤ amK d n / 12 ∧ amK d n / 12 ≤ 2199 := by
  constructor
  · intro h; have := amE_zero h; omega
  · intro h
    rw [amE, if_pos hv]
    rw [if_neg fun h' => by have := amK_range hv h'; omega, if_neg (by omega)]

/-- neighbours among the shifts of a day are regular -/
theorem reg_next {t n m : Int} (h : amE t n = 0) (h' : amE t (n + m) = 0) : sReg (amV t n) (amV t (n + m)) m = true := by
  have hv := amV_vB h
  have hv' := amV_vB h'
  have e1 : amE (amV t n) m = 0 := by rw [amE_iff hv, amK_am h, ← amE_iff (amE_zero h).1]; exact h'
  have e2 : amE (amV t (n + m)) (-m) = 0 := by rw [amE_iff hv', amK_am h', show n + m + -m = n by omega, ← amE_iff (amE_zero h).1]; exact h
  have d1 : amD (amV t n) m = min (amD t n) (mlen (amK t (n + m) / 12) (amK t (n + m) % 12 + 1)) := amD_am h
  have d2 : amD (amV t (n + m)) (-m) = min (amD t (n + m)) (mlen (amK t n / 12) (amK t n % 12 + 1)) := by have := amD_am h' (k := -m); rwa [show n + m + -m = n by omega] at this
  have v1 : amV (amV t n) m = num (amK t (n + m) / 12) (amK t (n + m) % 12 + 1) (amD (amV t n) m) := by rw [amV_eq e1, amN, amK_am h]
  have v2 : amV (amV t (n + m)) (-m) = num (amK t n / 12) (amK t n % 12 + 1) (amD (amV t (n + m)) (-m)) := by rw [amV_eq e2, amN, amK_am h', show n + m + -m = n by omega]
  have w1 : amV t (n + m) = num (amK t (n + m) / 12) (amK t (n + m) % 12 + 1) (amD t (n + m)) := by rw [amV_eq h', amN]
  have w2 : amV t n = num (amK t n / 12) (amK t n % 12 + 1) (amD t n) := by rw [amV_eq h, amN]
  have c1 : amD t n = min (pD t) (mlen (amK t n / 12) (amK t n % 12 + 1)) := rfl
  have c2 : amD t (n + m) = min (pD t) (mlen (amK t (n + m) / 12) (amK t (n + m) % 12 + 1)) := rfl
  have hor : amD (amV t n) m = amD t (n + m) ∨ amD (amV t (n + m)) (-m) = amD t n := by omega
  unfold sReg
  rcases hor with hh | hh
  · rw [e1, v1, hh, ← w1]; simp
  · rw [e2, v2, hh, ← w2]; simp
theorem reg_prev {t n m : Int} (h : amE t n = 0) (h' : amE t (n - m) = 0) : sReg (amV t (n - m)) (amV t n) m = true := by
  have := reg_next h' (m := m) (by rw [show n - m + m = n by omega]; exact h)
  rwa [show n - m + m = n by omega] at this

/-- the shift of a shift is not behind the shift -/
theorem am_le {t n m : Int} (h : amE t n = 0) (h' : amE (amV t n) m = 0) : amE t (n + m) = 0 ∧ amV (amV t n) m ≤ amV t (n + m) := by
  have e1 : amE t (n + m) = 0 := by rw [amE_iff (amE_zero h).1, ← amK_am h, ← amE_iff (amV_vB h)]; exact h'
  refine ⟨e1, ?_⟩
  rw [amV_eq h', amN, amK_am h, amV_eq e1, amN, amD_am h]
  have c1 : amD t n = min (pD t) (mlen (amK t n / 12) (amK t n % 12 + 1)) := rfl
  have c2 : amD t (n + m) = min (pD t) (mlen (amK t (n + m) / 12) (amK t (n + m) % 12 + 1)) := rfl
  unfold num
  omega
/-- a day between the shift of a shift and the shift leads back -/
theorem reg_between {t n m b : Int} (h : amE t n = 0) (h' : amE (amV t n) m = 0) (h1 : amV (amV t n) m ≤ b) (h2 : b ≤ amV t (n + m)) : sReg (amV t n) b m = true := by
  obtain ⟨e1, -⟩ := am_le h h'
  have hv1 := amV_vB h'
  have hv2 := amV_vB e1
  have hvb : vB b = true := by rw [vB_iff] at hv1 hv2 ⊢; omega
  obtain ⟨ho, hn⟩ := parts_ok hvb
  obtain ⟨a1, a2, a3, a4, a5, a6⟩ := okDate_iff.1 ho
  -- the month of b
  have q1 := amN_ok h'
  have q2 := amN_ok e1
  rw [amV_eq h', amN, amK_am h] at h1
  rw [amK_am h] at q1
  rw [amV_eq e1, amN] at h2
  rw [← hn] at h1 h2
  have hm : 12 * pY b + pM b = 12 * (amK t (n + m) / 12) + (amK t (n + m) % 12 + 1) := by
    rcases Int.lt_trichotomy (12 * pY b + pM b) (12 * (amK t (n + m) / 12) + (amK t (n + m) % 12 + 1)) with h3 | h3 | h3
    · have := num_lt ho q1 h3; omega
    · exact h3
    · have := num_lt q2 ho h3; omega
  have hy : pY b = amK t (n + m) / 12 ∧ pM b = amK t (n + m) % 12 + 1 := by omega
  rw [hy.1, hy.2] at h1 h2
  have hd1 : amD (amV t n) m ≤ pD b := by unfold num at h1; omega
  have hd2 : pD b ≤ amD t (n + m) := by unfold num at h2; omega
  have d1 : amD (amV t n) m = min (amD t n) (mlen (amK t (n + m) / 12) (amK t (n + m) % 12 + 1)) := amD_am h
  have c1 : amD t n = min (pD t) (mlen (amK t n / 12) (amK t n % 12 + 1)) := rfl
  have c2 : amD t (n + m) = min (pD t) (mlen (amK t (n + m) / 12) (amK t (n + m) % 12 + 1)) := rfl
  have hK : amK b (-m) = amK t n := by unfold amK at hm ⊢; omega
  have e2 : amE b (-m) = 0 := by rw [amE_iff hvb, hK, ← amE_iff (amE_zero h).1]; exact h
  have d2 : amD b (-m) = min (pD b) (mlen (amK t n / 12) (amK t n % 12 + 1)) := by rw [amD, hK]
  by_cases hc : amD b (-m) = amD t n
  · unfold sReg
    have : amV b (-m) = amV t n := by rw [amV_eq e2, amN, hK, hc, amV_eq h, amN]
    rw [e2, this]; simp
  · have hb : pD b = amD (amV t n) m := by omega
    unfold sReg
    have : amV (amV t n) m = b := by rw [amV_eq h', amN, amK_am h, ← hb, ← hy.1, ← hy.2]; exact hn
    rw [h', this]; simp
end Go.Proofs.Ytilbolgncpfmmaa
