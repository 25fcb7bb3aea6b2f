/- What Find and Next say of a checked schedule, for this seat. -/
import Derived.Test.YtilbolgncpfmmaaW16
namespace Go.Proofs.Ytilbolgncpfmmaa
open Go.RowKit Px

/-- how many of the first periods hold a day -/
def cnI (d : Int) (ps : List (Int × Int)) : Nat → Int
  | 0 => 0
  | j + 1 => cnI d ps j + (if fIn d (getP ps j) then 1 else 0)
theorem cnI_no {d : Int} {ps : List (Int × Int)} {j : Nat} (h : ∀ i, i < j → fIn d (getP ps i) = false) : cnI d ps j = 0 := by
  induction j with
  | zero => rfl
  | succ j ih => rw [cnI, ih fun i hi => h i (by omega), h j (by omega)]; rfl
theorem cnI_one {d : Int} {ps : List (Int × Int)} {k j : Nat} (hk : k < j) (h1 : fIn d (getP ps k) = true) (h : ∀ i, i < j → i ≠ k → fIn d (getP ps i) = false) : cnI d ps j = 1 := by
  induction j with
  | zero => omega
  | succ j ih =>
    rw [cnI]
    by_cases e : k = j
    · subst e
      rw [cnI_no fun i hi => h i (by omega) (by omega), h1]; rfl
    · rw [ih (by omega) fun i hi => h i (by omega), h j (by omega) (Ne.symm e)]; rfl
theorem cnI_le (d : Int) (ps : List (Int × Int)) (j : Nat) : 0 ≤ cnI d ps j ∧ cnI d ps j ≤ j := by
  induction j with
  | zero => exact ⟨Int.le_refl _, Int.le_refl _⟩
  | succ j ih => rw [cnI]; split <;> omega

theorem days_all {ps : List (Int × Int)} {d : Int} (h : sChk ps = 0) {f1 n1 f3 n3 : Int} {f2 n2 : Bool} (hf : (f1, f2, f3) = fdR ps d) (hn : (n1, n2, n3) = nxR ps d) :
    f3 = 0 ∧ n3 = 0 ∧ (∀ j, j < ps.length → fIn d (getP ps j) = true → f2 = true ∧ f1 = j ∧ n2 = true ∧ n1 = (getP ps j).2) ∧
    f2 = (decide ((getP ps 0).1 ≤ d) && decide (d < (getP ps (ps.length - 1)).2)) ∧ cnI d ps ps.length = (if f2 then 1 else 0) ∧ (f2 = false → f1 = 0) ∧
    (d < (getP ps 0).1 → n2 = true ∧ n1 = (getP ps 0).2) ∧ (¬ d < (getP ps 0).1 → f2 = false → n2 = false ∧ n1 = 0) := by
  obtain ⟨hl, -⟩ := sChk_len h
  obtain ⟨o1, o2⟩ := chk_order h
  obtain ⟨k, hk, h0, h1⟩ := chk_first h d
  have no : ∀ i, i < k → fIn d (getP ps i) = false := fun i hi => by
    have := h0 i hi
    simp only [fAf, fIn] at this ⊢
    simp [this]
  by_cases hkl : k < ps.length
  · have hak := h1 k (Nat.le_refl _) hkl
    obtain ⟨e1, e2⟩ := fd_at h hkl h0 hak
    rw [e2] at hn
    simp only [Prod.mk.injEq] at hn
    obtain ⟨rfl, rfl, rfl⟩ := hn
    have hk2 : d < (getP ps k).2 := by simpa [fAf] using hak
    have hlast := (chk_mono h (i := k) (j := ps.length - 1) (by omega) (by omega)).2
    by_cases hd : d < (getP ps k).1
    · rw [e1, if_pos hd] at hf
      simp only [Prod.mk.injEq] at hf
      obtain ⟨rfl, rfl, rfl⟩ := hf
      have k0 : k = 0 := by
        rcases Nat.eq_zero_or_pos k with h2 | h2
        · exact h2
        · have h3 := o2 (k - 1) (by omega)
          rw [show k - 1 + 1 = k by omega] at h3
          have h4 := h0 (k - 1) (by omega)
          simp only [fAf, decide_eq_false_iff_not] at h4
          omega
      subst k0
      have all : ∀ j, j < ps.length → fIn d (getP ps j) = false := fun j hj => by
        have := (chk_mono h (Nat.zero_le j) hj).1
        simp only [fIn, decide_eq_false (show ¬ (getP ps j).1 ≤ d by omega), Bool.false_and]
      refine ⟨rfl, rfl, fun j hj hj' => ?_, ?_, cnI_no all, fun _ => rfl, fun _ => ⟨rfl, rfl⟩, fun h2 => absurd hd h2⟩
      · rw [all j hj] at hj'; cases hj'
      · rw [decide_eq_false (show ¬ (getP ps 0).1 ≤ d by omega)]; rfl
    · rw [e1, if_neg hd] at hf
      simp only [Prod.mk.injEq] at hf
      obtain ⟨rfl, rfl, rfl⟩ := hf
      have hin : fIn d (getP ps k) = true := by simp only [fIn, decide_eq_true hk2, decide_eq_true (show (getP ps k).1 ≤ d by omega)]; rfl
      have oth : ∀ i, i < ps.length → i ≠ k → fIn d (getP ps i) = false := fun i hi hik => by
        rcases Nat.lt_or_ge i k with h2 | h2
        · exact no i h2
        · have h3 := (chk_mono h (i := k + 1) (j := i) (by omega) hi).1
          have h4 := o2 k (by omega)
          simp only [fIn, decide_eq_false (show ¬ (getP ps i).1 ≤ d by omega), Bool.false_and]
      have hfirst := (chk_mono h (i := 0) (j := k) (by omega) hkl).1
      refine ⟨rfl, rfl, fun j hj hj' => ?_, ?_, cnI_one hkl hin oth, fun h2 => (by cases h2), fun h2 => by omega, fun _ h2 => (by cases h2)⟩
      · by_cases e : j = k
        · subst e; exact ⟨rfl, rfl, rfl, rfl⟩
        · rw [oth j hj e] at hj'; cases hj'
      · rw [decide_eq_true (show (getP ps 0).1 ≤ d by omega), decide_eq_true (show d < (getP ps (ps.length - 1)).2 by omega)]; rfl
  · obtain rfl : k = ps.length := by omega
    obtain ⟨e1, e2⟩ := fd_no h h0
    rw [e1] at hf
    rw [e2] at hn
    simp only [Prod.mk.injEq] at hf hn
    obtain ⟨rfl, rfl, rfl⟩ := hf
    obtain ⟨rfl, rfl, rfl⟩ := hn
    have hl2 := h0 (ps.length - 1) (by omega)
    simp only [fAf, decide_eq_false_iff_not] at hl2
    have hz := o1 (ps.length - 1) (by omega)
    have hm := (chk_mono h (i := 0) (j := ps.length - 1) (by omega) (by omega)).1
    refine ⟨rfl, rfl, fun j hj hj' => ?_, ?_, cnI_no no, fun _ => rfl, fun h2 => by omega, fun _ _ => ⟨rfl, rfl⟩⟩
    · rw [no j hj] at hj'; cases hj'
    · rw [decide_eq_false hl2, Bool.and_false]
end Go.Proofs.Ytilbolgncpfmmaa
