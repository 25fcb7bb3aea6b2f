/- Plain mathematics of adjusted days: they do not descend. -/
import Derived.Test.YtilbolgncpfmmaaW21
import Derived.Test.YtilbolgncpfmmaaPlainB
import Derived.Test.YtilbolgncpfmmaaPlainF
namespace Go.Proofs.Ytilbolgncpfmmaa
open Go.RowKit Px

theorem next_head {p : Int → Bool} {d y : Int} (hv : vB d = true) (h : (blR p 1 d).head? = some y) : d ≤ y ∧ vB y = true ∧ p y = true ∧ ∀ z, d ≤ z → z < y → p z = false := by
  cases hb : blR p 1 d with
  | nil => rw [hb] at h; cases h
  | cons x t =>
    rw [hb] at h
    cases h
    obtain ⟨a1, a2, -, -⟩ := blR_tail (Start.of_valid (.inl rfl) hv) hb
    obtain ⟨b1, b2⟩ := head_next (p := p) _ d hb
    exact ⟨b1, a1, a2, b2⟩
theorem prev_head {p : Int → Bool} {d y : Int} (hv : vB d = true) (h : (blR p (-1) d).head? = some y) : y ≤ d ∧ vB y = true ∧ p y = true ∧ ∀ z, z ≤ d → y < z → p z = false := by
  cases hb : blR p (-1) d with
  | nil => rw [hb] at h; cases h
  | cons x t =>
    rw [hb] at h
    cases h
    obtain ⟨a1, a2, -, -⟩ := blR_tail (Start.of_valid (.inr rfl) hv) hb
    obtain ⟨b1, b2⟩ := head_prev (p := p) _ d hb
    exact ⟨b1, a1, a2, b2⟩
theorem vB_bd {d : Int} (h : vB d = true) : -25567 ≤ d ∧ d ≤ 84005 := by simpa [vB] using h
/-- the month of a day, counted -/
theorem month_mono {d z : Int} (hd : vB d = true) (hz : vB z = true) (h : d ≤ z) : 12 * pY d + pM d ≤ 12 * pY z + pM z := by
  obtain ⟨h1, h2⟩ := parts_ok hd
  obtain ⟨k1, k2⟩ := parts_ok hz
  rcases Int.lt_or_le (12 * pY z + pM z) (12 * pY d + pM d) with h3 | h3
  · have := num_lt k1 h1 h3; omega
  · exact h3
theorem sameM_between {d z x : Int} (hd : vB d = true) (hz : vB z = true) (hx : vB x = true) (h1 : d ≤ z) (h2 : z ≤ x) (h : sameM x d = true) : sameM x z = true := by
  have m1 := month_mono hd hz h1
  have m2 := month_mono hz hx h2
  obtain ⟨o1, -⟩ := parts_ok hd
  obtain ⟨o2, -⟩ := parts_ok hz
  obtain ⟨o3, -⟩ := parts_ok hx
  rw [okDate_iff] at o1 o2 o3
  simp only [sameM, ptY, ptM, hd, hz, hx, if_true, Bool.and_eq_true, decide_eq_true_eq] at h ⊢
  omega
theorem firstO_some {we hs : List Int} {s d : Int} (h : oE (firstO we hs s d) = 0) : ∃ y, firstO we hs s d = some y := by
  cases e : firstO we hs s d with
  | none => rw [e] at h; simp [oE] at h
  | some y => exact ⟨y, rfl⟩
/-- what an adjusted day is -/
theorem adj_what {we hs : List Int} {d c : Int} (h0 : adjE we hs d c = 0) (hc : chk we hs = 0) : 1 ≤ c ∧ c ≤ 4 ∧ vB d = true ∧ adjOpt we hs d c = some (adjV we hs d c) := by
  unfold adjE at h0
  by_cases h1 : chkD we hs [d] = 0
  · rw [if_pos h1] at h0
    by_cases h2 : 1 ≤ c ∧ c ≤ 4
    · rw [if_pos h2] at h0
      have hv : vB d = true := by
        rw [chkD, if_pos hc] at h1
        simp at h1
        exact h1
      refine ⟨h2.1, h2.2, hv, ?_⟩
      rw [adjV, if_pos h1, if_pos h2]
      cases e : adjOpt we hs d c with
      | none => rw [e] at h0; simp [oE] at h0
      | some y => rfl
    · rw [if_neg h2] at h0; omega
  · rw [if_neg h1] at h0; omega
theorem adj_one {we hs : List Int} {d x : Int} (h : adjOpt we hs d 1 = some x) : x = d := by
  rw [adjOpt, if_pos rfl] at h; cases h; rfl
theorem adj_biz {we hs : List Int} {d c x : Int} (hv : vB d = true) (h1 : c ≠ 1) (h : adjOpt we hs d c = some x) :
    vB x = true ∧ isB we hs x = true ∧ ((firstO we hs 1 d = some x ∧ d ≤ x) ∨ (firstO we hs (-1) d = some x ∧ x ≤ d)) ∧ (c = 2 → d ≤ x) ∧ (c = 4 → x ≤ d) := by
  have up : firstO we hs 1 d = some x → vB x = true ∧ isB we hs x = true ∧ d ≤ x := fun h => by
    obtain ⟨a, b, e, -⟩ := next_head hv h
    exact ⟨b, e, a⟩
  have dn : firstO we hs (-1) d = some x → vB x = true ∧ isB we hs x = true ∧ x ≤ d := fun h => by
    obtain ⟨a, b, e, -⟩ := prev_head hv h
    exact ⟨b, e, a⟩
  rw [adjOpt, if_neg h1] at h
  by_cases h2 : c = 2
  · rw [if_pos h2] at h
    obtain ⟨a, b, e⟩ := up h
    exact ⟨a, b, .inl ⟨h, e⟩, fun _ => e, fun h => by omega⟩
  · rw [if_neg h2] at h
    by_cases h3 : c = 3
    · rw [if_pos h3] at h
      split at h
      · obtain ⟨a, b, e⟩ := up h
        exact ⟨a, b, .inl ⟨h, e⟩, fun h => by omega, fun h => by omega⟩
      · obtain ⟨a, b, e⟩ := dn h
        exact ⟨a, b, .inr ⟨h, e⟩, fun h => by omega, fun h => by omega⟩
    · rw [if_neg h3] at h
      obtain ⟨a, b, e⟩ := dn h
      exact ⟨a, b, .inr ⟨h, e⟩, fun h => by omega, fun _ => e⟩
theorem next_mono {p : Int → Bool} {d z x y : Int} (hd : vB d = true) (hz : vB z = true) (h : d ≤ z) (hx : (blR p 1 d).head? = some x) (hy : (blR p 1 z).head? = some y) : x ≤ y := by
  obtain ⟨-, -, -, a4⟩ := next_head hd hx
  obtain ⟨b1, -, b3, -⟩ := next_head hz hy
  rcases Int.lt_or_le y x with h1 | h1
  · rw [a4 y (by omega) h1] at b3; cases b3
  · exact h1
theorem prev_mono {p : Int → Bool} {d z x y : Int} (hd : vB d = true) (hz : vB z = true) (h : d ≤ z) (hx : (blR p (-1) d).head? = some x) (hy : (blR p (-1) z).head? = some y) : x ≤ y := by
  obtain ⟨a1, -, a3, -⟩ := prev_head hd hx
  obtain ⟨-, -, -, b4⟩ := prev_head hz hy
  rcases Int.lt_or_le y x with h1 | h1
  · rw [b4 x (by omega) h1] at a3; cases a3
  · exact h1
theorem adj_mono {we hs : List Int} {d z c x y : Int} (hd : vB d = true) (hz : vB z = true) (h : d ≤ z) (hx : adjOpt we hs d c = some x) (hy : adjOpt we hs z c = some y) : x ≤ y := by
  by_cases h1 : c = 1
  · subst h1; rw [adj_one hx, adj_one hy]; exact h
  rw [adjOpt, if_neg h1] at hx hy
  by_cases h2 : c = 2
  · rw [if_pos h2] at hx hy
    exact next_mono hd hz h hx hy
  rw [if_neg h2] at hx hy
  by_cases h3 : c = 3
  · rw [if_pos h3] at hx hy
    by_cases hs1 : oE (firstO we hs 1 d) = 0 ∧ sameM (oV (firstO we hs 1 d)) d = true
    · rw [if_pos hs1] at hx
      by_cases hs2 : oE (firstO we hs 1 z) = 0 ∧ sameM (oV (firstO we hs 1 z)) z = true
      · rw [if_pos hs2] at hy
        exact next_mono hd hz h hx hy
      · rw [if_neg hs2] at hy
        obtain ⟨a1, a2, a3, a4⟩ := next_head hd hx
        obtain ⟨b1, b2, b3, b4⟩ := prev_head hz hy
        rcases Int.lt_or_le z x with h4 | h4
        · exfalso
          have hn : firstO we hs 1 z = some x := by
            have := next_is (p := isB we hs) a3 (vB_bd a2).2 (x - z).toNat (by have := vB_bd hz; omega) (fun u hu hu' => a4 u (by omega) hu')
            rw [show x - ((x - z).toNat : Int) = z by omega] at this
            exact this
          have hsm := hs1.2
          rw [show firstO we hs 1 d = some x from hx] at hsm
          exact hs2 ⟨by rw [hn]; rfl, by rw [hn]; exact sameM_between (x := x) hd hz a2 h (by omega) hsm⟩
        · rcases Int.lt_or_le y x with h5 | h5
          · rw [b4 x (by omega) h5] at a3; cases a3
          · exact h5
    · rw [if_neg hs1] at hx
      obtain ⟨a1, -, -, -⟩ := prev_head hd hx
      by_cases hs2 : oE (firstO we hs 1 z) = 0 ∧ sameM (oV (firstO we hs 1 z)) z = true
      · rw [if_pos hs2] at hy
        obtain ⟨b1, -, -, -⟩ := next_head hz hy
        omega
      · rw [if_neg hs2] at hy
        exact prev_mono hd hz h hx hy
  · rw [if_neg h3] at hx hy
    exact prev_mono hd hz h hx hy

/-- what the days of payment are -/
theorem paid_all {ps : List (Int × Int)} {we hs : List Int} {c : Int} (h : pyE ps we hs c = 0) :
    0 < ps.length ∧ pyL ps we hs c = pyG ps we hs c ps.length ∧ ∀ j, j < ps.length → chkD we hs [adjV we hs (getP ps j).2 c] = 0 ∧
      (c ≠ 1 → bizV we hs (adjV we hs (getP ps j).2 c) = true) ∧ (c = 1 → adjV we hs (getP ps j).2 c = (getP ps j).2) ∧ (c = 2 → (getP ps j).2 ≤ adjV we hs (getP ps j).2 c) ∧ (c = 4 → adjV we hs (getP ps j).2 c ≤ (getP ps j).2) ∧
      ∀ i, i < j → adjV we hs (getP ps i).2 c ≤ adjV we hs (getP ps j).2 c := by
  have h' := h
  rw [pyE] at h
  split at h
  rotate_left
  · omega
  rename_i hc
  obtain ⟨hs0, hc0⟩ := hc
  have hE := fe_zero _ _ h
  refine ⟨(sChk_len hs0).1, by rw [pyL, if_pos h'], fun j hj => ?_⟩
  obtain ⟨c1, c2, hv, ho⟩ := adj_what (hE j hj) hc0
  have hvx : vB (adjV we hs (getP ps j).2 c) = true := by
    by_cases e : c = 1
    · subst e; rw [adj_one ho]; exact hv
    · exact (adj_biz hv e ho).1
  have hcd : chkD we hs [adjV we hs (getP ps j).2 c] = 0 := by rw [chkD, if_pos hc0]; simp [hvx]
  refine ⟨hcd, fun e => ?_, fun e => ?_, fun e => ?_, fun e => ?_, fun i hi => ?_⟩
  · rw [bizV, if_pos hcd]; exact (adj_biz hv e ho).2.1
  · subst e; exact adj_one ho
  · exact (adj_biz hv (by omega) ho).2.2.2.1 e
  · exact (adj_biz hv (by omega) ho).2.2.2.2 e
  · obtain ⟨-, -, hvi, hoi⟩ := adj_what (hE i (by omega)) hc0
    exact adj_mono hvi hv (chk_mono hs0 (by omega) hj).2 hoi ho
end Go.Proofs.Ytilbolgncpfmmaa
