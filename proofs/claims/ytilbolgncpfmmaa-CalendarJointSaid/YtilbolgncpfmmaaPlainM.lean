/- Plain mathematics of shifts by months: no program in sight. -/
import Derived.Test.YtilbolgncpfmmaaPlainD
namespace Go.Proofs.Ytilbolgncpfmmaa

/-- the number of the shifted month -/
def amK (d n : Int) : Int := 12 * pY d + pM d - 1 + n
def amD (d n : Int) : Int := min (pD d) (mlen (amK d n / 12) (amK d n % 12 + 1))
/-- the shifted day -/
def amN (d n : Int) : Int := num (amK d n / 12) (amK d n % 12 + 1) (amD d n)
/-- the error of a shift -/
def amE (d n : Int) : Int := if vB d then (if n < -4800 ∨ 4800 < n then 2 else if amK d n / 12 < 1900 ∨ 2199 < amK d n / 12 then 13 else 0) else 13
def amV (d n : Int) : Int := if amE d n = 0 then amN d n else 0

theorem amK_bd {d n : Int} (h : vB d = true) (h1 : -4800 ≤ n) (h2 : n ≤ 4800) : 18000 ≤ amK d n ∧ amK d n ≤ 31200 := by
  obtain ⟨ho, -⟩ := parts_ok h
  obtain ⟨a, b, c, e, -, -⟩ := okDate_iff.1 ho
  unfold amK; omega
theorem am_ok {d n : Int} (h : vB d = true) (h1 : 1900 ≤ amK d n / 12) (h2 : amK d n / 12 ≤ 2199) : okDate (amK d n / 12) (amK d n % 12 + 1) (amD d n) = true := by
  obtain ⟨ho, -⟩ := parts_ok h
  obtain ⟨-, -, -, -, e1, e2⟩ := okDate_iff.1 ho
  have := mlen_bd (amK d n / 12) (amK d n % 12 + 1)
  refine okDate_iff.2 ⟨h1, h2, by omega, by omega, ?_, ?_⟩
  · unfold amD; omega
  · unfold amD; omega
theorem amE_zero {d n : Int} (h : amE d n = 0) : vB d = true ∧ -4800 ≤ n ∧ n ≤ 4800 ∧ 1900 ≤ amK d n / 12 ∧ amK d n / 12 ≤ 2199 := by
  unfold amE at h
  split at h
  · rename_i hv
    split at h
    · omega
    · split at h
      · omega
      · exact ⟨hv, by omega, by omega, by omega, by omega⟩
  · omega
end Go.Proofs.Ytilbolgncpfmmaa
