/- Plain mathematics of schedules: no program in sight. -/
import Derived.Test.YtilbolgncpfmmaaPlainM
namespace Go.Proofs.Ytilbolgncpfmmaa

/-- the end from which a schedule is built, and the direction -/
def sSt (a b s : Int) : Int := if s = 2 then a else b
def sSg (s : Int) : Int := if s = 2 then 1 else -1
/-- the inner ends from a shift by n months on -/
def inR (a b m s n : Int) : List Int :=
  if _h : 1 ≤ m ∧ n ≤ 4800 ∧ amE (sSt a b s) (sSg s * n) = 0 ∧ a < amV (sSt a b s) (sSg s * n) ∧ amV (sSt a b s) (sSg s * n) < b then
    amV (sSt a b s) (sSg s * n) :: inR a b m s (n + m) else []
termination_by (4801 - n).toNat
decreasing_by omega

theorem inR_yes {a b m s n : Int} (h1 : 1 ≤ m) (h2 : n ≤ 4800) (h3 : amE (sSt a b s) (sSg s * n) = 0) (h4 : a < amV (sSt a b s) (sSg s * n)) (h5 : amV (sSt a b s) (sSg s * n) < b) :
    inR a b m s n = amV (sSt a b s) (sSg s * n) :: inR a b m s (n + m) := by
  rw [inR, dif_pos ⟨h1, h2, h3, h4, h5⟩]
theorem inR_far {a b m s n : Int} (h2 : 4800 < n) : inR a b m s n = [] := by
  rw [inR, dif_neg (by omega)]
theorem inR_err {a b m s n : Int} (h2 : amE (sSt a b s) (sSg s * n) ≠ 0) : inR a b m s n = [] := by
  rw [inR, dif_neg (fun h => h2 h.2.2.1)]
theorem inR_lo {a b m s n : Int} (h2 : amV (sSt a b s) (sSg s * n) ≤ a) : inR a b m s n = [] := by
  rw [inR, dif_neg (by omega)]
theorem inR_hi {a b m s n : Int} (h2 : b ≤ amV (sSt a b s) (sSg s * n)) : inR a b m s n = [] := by
  rw [inR, dif_neg (by omega)]
end Go.Proofs.Ytilbolgncpfmmaa
