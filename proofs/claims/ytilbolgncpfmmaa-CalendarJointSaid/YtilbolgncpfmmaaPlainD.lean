/- Plain mathematics of civil dates: no program in sight. -/
import Derived.Test.YtilbolgncpfmmaaPlain
namespace Go.Proofs.Ytilbolgncpfmmaa

/-- a leap year -/
def lp (y : Int) : Bool := (y % 4 == 0 && y % 100 != 0) || y % 400 == 0
/-- the days of a month -/
def mlen (y m : Int) : Int := if m = 2 then (if lp y then 29 else 28) else if m = 4 ∨ m = 6 ∨ m = 9 ∨ m = 11 then 30 else 31
/-- the days from 1900 to the beginning of a year -/
def bgn (y : Int) : Int := 365 * (y - 1900) + ((y - 1) / 4 - (y - 1) / 100 + (y - 1) / 400) - 460
/-- the days of the first k months -/
def cumN (y : Int) : Nat → Int
  | 0 => 0
  | k + 1 => cumN y k + mlen y (k + 1)
def okDate (y m d : Int) : Bool := decide (1900 ≤ y ∧ y ≤ 2199 ∧ 1 ≤ m ∧ m ≤ 12 ∧ 1 ≤ d ∧ d ≤ mlen y m)
/-- the day of a date -/
def num (y m d : Int) : Int := -25567 + (bgn y + d - 1 + cumN y (m - 1).toNat)
def ofV (y m d : Int) : Int := if okDate y m d then num y m d else 0
def ofE (y m d : Int) : Int := if okDate y m d then 0 else 13

theorem okDate_iff {y m d : Int} : okDate y m d = true ↔ 1900 ≤ y ∧ y ≤ 2199 ∧ 1 ≤ m ∧ m ≤ 12 ∧ 1 ≤ d ∧ d ≤ mlen y m := by simp [okDate]
theorem mlen_bd (y m : Int) : 28 ≤ mlen y m ∧ mlen y m ≤ 31 := by
  unfold mlen; split
  · split <;> omega
  · split <;> omega
theorem cumN_bd (y : Int) (k : Nat) : 28 * (k : Int) ≤ cumN y k ∧ cumN y k ≤ 31 * (k : Int) := by
  induction k with
  | zero => simp [cumN]
  | succ k ih => have := mlen_bd y (k + 1); rw [cumN]; omega
/-- 1 in a leap year -/
def lpI (y : Int) : Int := if lp y then 1 else 0
theorem lpI_bd (y : Int) : 0 ≤ lpI y ∧ lpI y ≤ 1 := by unfold lpI; split <;> omega
theorem lpI_eq (y : Int) : lpI y = y / 4 - (y - 1) / 4 - (y / 100 - (y - 1) / 100) + (y / 400 - (y - 1) / 400) := by
  unfold lpI lp
  by_cases h4 : y % 4 = 0
  · by_cases h100 : y % 100 = 0
    · by_cases h400 : y % 400 = 0
      · simp [h4, h100, h400]; omega
      · simp [h4, h100, h400]; omega
    · have h400 : y % 400 ≠ 0 := by omega
      simp [h4, h100]; omega
  · have h400 : y % 400 ≠ 0 := by omega
    have h100 : y % 100 ≠ 0 := by omega
    simp [h4, h400]; omega
theorem bgn_succ (y : Int) : bgn (y + 1) = bgn y + 365 + lpI y := by
  rw [lpI_eq]; unfold bgn
  rw [show y + 1 - 1 = y by omega]; omega
theorem mlen_sum (y : Int) : cumN y 12 = 365 + lpI y := by
  simp only [cumN, mlen, lpI]
  cases lp y <;> decide
theorem bgn_1900 : bgn 1900 = 0 := by decide
theorem bgn_2200 : bgn 2200 = 109573 := by decide
theorem bgn_mono {y z : Int} (h : y ≤ z) : bgn y ≤ bgn z := by unfold bgn; omega
theorem bgn_lt {y z : Int} (h : y < z) : bgn y + 365 ≤ bgn z := by unfold bgn; omega
theorem bgn_bd {y : Int} (h : 1900 ≤ y) (h' : y ≤ 2201) : 0 ≤ bgn y ∧ bgn y ≤ 110000 := by unfold bgn; omega

/-- the year of the day n, counted from 1900 -/
def yOf (n : Int) : Int := if bgn (1900 + n / 366 + 1) ≤ n then 1900 + n / 366 + 1 else 1900 + n / 366
theorem yOf_spec {n : Int} (h0 : 0 ≤ n) (h1 : n ≤ 109572) : 1900 ≤ yOf n ∧ yOf n ≤ 2199 ∧ bgn (yOf n) ≤ n ∧ n < bgn (yOf n + 1) := by
  unfold yOf
  split
  · rename_i h
    unfold bgn at *
    omega
  · rename_i h
    unfold bgn at *
    omega
theorem year_unique {n y z : Int} (h1 : bgn y ≤ n) (h2 : n < bgn (y + 1)) (h3 : bgn z ≤ n) (h4 : n < bgn (z + 1)) : y = z := by
  rcases Int.lt_trichotomy y z with h | h | h
  · have := bgn_mono (show y + 1 ≤ z by omega); omega
  · exact h
  · have := bgn_mono (show z + 1 ≤ y by omega); omega

/-- the month and the rest of r days, from month m on -/
def mon (y : Int) : Nat → Int → Int → Int × Int
  | 0, r, m => (m, r)
  | f + 1, r, m => if mlen y m ≤ r then mon y f (r - mlen y m) (m + 1) else (m, r)
theorem mon_next {y r m : Int} {f : Nat} (h : mlen y m ≤ r) : mon y (f + 1) r m = mon y f (r - mlen y m) (m + 1) := by rw [mon, if_pos h]
theorem mon_stop {y r m : Int} {f : Nat} (h : ¬ mlen y m ≤ r) : mon y (f + 1) r m = (m, r) := by rw [mon, if_neg h]
/-- year, month, day of a day -/
def pY (d : Int) : Int := yOf (d + 25567)
def pM (d : Int) : Int := (mon (pY d) 12 (d + 25567 - bgn (pY d)) 1).1
def pD (d : Int) : Int := (mon (pY d) 12 (d + 25567 - bgn (pY d)) 1).2 + 1

theorem mon_spec (y : Int) (f : Nat) : ∀ (k : Nat) (r : Int), f + k = 12 → 0 ≤ r → cumN y k + r < 365 + lpI y →
    ∃ j : Nat, k ≤ j ∧ j < 12 ∧ (mon y f r (k + 1)).1 = j + 1 ∧ cumN y j + (mon y f r (k + 1)).2 = cumN y k + r ∧ 0 ≤ (mon y f r (k + 1)).2 ∧ (mon y f r (k + 1)).2 < mlen y (j + 1) := by
  induction f with
  | zero =>
    intro k r hk h0 h1
    have : k = 12 := by omega
    subst this
    rw [mlen_sum] at h1; omega
  | succ f ih =>
    intro k r hk h0 h1
    by_cases h : mlen y (k + 1) ≤ r
    · rw [mon_next h]
      have := ih (k + 1) (r - mlen y (k + 1)) (by omega) (by omega) (by rw [cumN]; omega)
      obtain ⟨j, a1, a2, a3, a4, a5, a6⟩ := this
      have e : ((k + 1 : Nat) : Int) + 1 = (k : Int) + 1 + 1 := by omega
      rw [e] at a3 a4 a5 a6
      exact ⟨j, by omega, a2, a3, by rw [cumN] at a4; omega, a5, a6⟩
    · rw [mon_stop h]
      exact ⟨k, Nat.le_refl _, by omega, rfl, rfl, h0, by omega⟩

theorem parts_ok {d : Int} (h : vB d = true) : okDate (pY d) (pM d) (pD d) = true ∧ num (pY d) (pM d) (pD d) = d := by
  have hv : -25567 ≤ d ∧ d ≤ 84005 := by simpa [vB] using h
  obtain ⟨y1, y2, y3, y4⟩ := yOf_spec (n := d + 25567) (by omega) (by omega)
  have hb := bgn_succ (yOf (d + 25567))
  obtain ⟨j, a1, a2, a3, a4, a5, a6⟩ := mon_spec (pY d) 12 0 (d + 25567 - bgn (pY d)) rfl (by unfold pY; omega) (by unfold pY; simp [cumN]; omega)
  simp only [Int.natCast_zero, Int.zero_add, cumN] at a3 a4 a5 a6
  refine ⟨okDate_iff.2 ⟨by unfold pY; exact y1, by unfold pY; exact y2, ?_, ?_, ?_, ?_⟩, ?_⟩
  · unfold pM; omega
  · unfold pM; omega
  · unfold pD; omega
  · unfold pD pM; rw [a3]; omega
  · unfold num pM pD; rw [a3, show ((j : Int) + 1 - 1).toNat = j by omega]; omega

theorem cumN_mono (y : Int) {j k : Nat} (h : j ≤ k) : cumN y j ≤ cumN y k := by
  induction k with
  | zero => rw [show j = 0 by omega]; exact Int.le_refl _
  | succ k ih =>
    by_cases e : j = k + 1
    · rw [e]; exact Int.le_refl _
    · have := ih (by omega); have := mlen_bd y (k + 1); rw [cumN]; omega
theorem num_bounds {y m d : Int} (h : okDate y m d = true) : bgn y ≤ num y m d + 25567 ∧ num y m d + 25567 < bgn (y + 1) := by
  obtain ⟨h1, h2, h3, h4, h5, h6⟩ := okDate_iff.1 h
  have a := cumN_bd y (m - 1).toNat
  have b := cumN_mono y (show (m - 1).toNat + 1 ≤ 12 by omega)
  rw [cumN, mlen_sum, show (((m - 1).toNat : Nat) : Int) + 1 = m by omega] at b
  rw [bgn_succ]
  unfold num
  omega
theorem num_valid {y m d : Int} (h : okDate y m d = true) : vB (num y m d) = true := by
  obtain ⟨h1, h2, -⟩ := okDate_iff.1 h
  obtain ⟨a, b⟩ := num_bounds h
  have c := bgn_mono (show y + 1 ≤ 2200 by omega)
  have e := bgn_mono h1
  rw [bgn_1900] at e; rw [bgn_2200] at c
  simp only [vB, decide_eq_true_eq]; omega
theorem num_unique {y m d z n e : Int} (h : okDate y m d = true) (k : okDate z n e = true) (hn : num y m d = num z n e) : y = z ∧ m = n ∧ d = e := by
  obtain ⟨a1, a2⟩ := num_bounds h
  obtain ⟨b1, b2⟩ := num_bounds k
  have hy : y = z := year_unique a1 a2 (by rw [hn]; exact b1) (by rw [hn]; exact b2)
  subst hy
  obtain ⟨h1, h2, h3, h4, h5, h6⟩ := okDate_iff.1 h
  obtain ⟨k1, k2, k3, k4, k5, k6⟩ := okDate_iff.1 k
  have hm : m = n := by
    unfold num at hn
    rcases Int.lt_trichotomy m n with c | c | c
    · have := cumN_mono y (show (m - 1).toNat + 1 ≤ (n - 1).toNat by omega)
      rw [cumN, show (((m - 1).toNat : Nat) : Int) + 1 = m by omega] at this; omega
    · exact c
    · have := cumN_mono y (show (n - 1).toNat + 1 ≤ (m - 1).toNat by omega)
      rw [cumN, show (((n - 1).toNat : Nat) : Int) + 1 = n by omega] at this; omega
  subst hm
  exact ⟨rfl, rfl, by unfold num at hn; omega⟩
theorem parts_num {y m d : Int} (h : okDate y m d = true) : pY (num y m d) = y ∧ pM (num y m d) = m ∧ pD (num y m d) = d := by
  obtain ⟨a, b⟩ := parts_ok (num_valid h)
  exact num_unique a h b
end Go.Proofs.Ytilbolgncpfmmaa
