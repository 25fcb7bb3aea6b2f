/- Plain mathematics of calendars: no program in sight. -/
namespace Go.Proofs.Ytilbolgncpfmmaa

/-- the first error of f 0, f 1, .. below n, or 0 -/
def fe (f : Nat → Int) : Nat → Int
  | 0 => 0
  | n + 1 => if fe f n = 0 then f n else fe f n

theorem fe_all (f : Nat → Int) (n : Nat) (h : ∀ i, i < n → f i = 0) : fe f n = 0 := by
  induction n with
  | zero => rfl
  | succ n ih => rw [fe, if_pos (ih fun i hi => h i (by omega))]; exact h n (by omega)

theorem fe_zero (f : Nat → Int) (n : Nat) (h : fe f n = 0) : ∀ i, i < n → f i = 0 := by
  induction n with
  | zero => intro i hi; omega
  | succ n ih =>
    intro i hi
    rw [fe] at h
    by_cases h0 : fe f n = 0
    · rw [if_pos h0] at h
      by_cases e : i = n
      · subst e; exact h
      · exact ih h0 i (by omega)
    · rw [if_neg h0] at h; exact absurd h h0

theorem fe_stop (f : Nat → Int) (n k : Nat) (h : ∀ i, i < k → f i = 0) (hk : k < n) (hf : f k ≠ 0) : fe f n = f k := by
  induction n with
  | zero => omega
  | succ n ih =>
    by_cases e : k = n
    · subst e; rw [fe, if_pos (fe_all f k h)]
    · have := ih (by omega)
      rw [fe, this, if_neg hf]

def vB (d : Int) : Bool := decide (-25567 ≤ d ∧ d ≤ 84005)

def errW (we : List Int) (i : Nat) : Int :=
  if we[i]?.getD 0 < 0 ∨ 6 < we[i]?.getD 0 then 2 else if 0 < i ∧ we[i]?.getD 0 ≤ we[i - 1]?.getD 0 then 8 else 0

def errH (hs : List Int) (i : Nat) : Int :=
  if vB (hs[i]?.getD 0) = false then 13 else if 0 < i ∧ hs[i]?.getD 0 ≤ hs[i - 1]?.getD 0 then 8 else 0

/-- what Check returns -/
def chk (we hs : List Int) : Int :=
  if fe (errW we) we.length = 0 then (if 1000 < hs.length then 4 else fe (errH hs) hs.length) else fe (errW we) we.length

theorem chk_we {we hs : List Int} {k : Nat} {c : Int} (h : ∀ j, j < k → errW we j = 0) (hk : k < we.length) (hc : errW we k = c) (h0 : c ≠ 0) : chk we hs = c := by
  have := fe_stop (errW we) we.length k h hk (by rw [hc]; exact h0)
  rw [chk, this, if_neg (by rw [hc]; exact h0), hc]
theorem chk_lim {we hs : List Int} (h : ∀ j, j < we.length → errW we j = 0) (hl : 1000 < hs.length) : chk we hs = 4 := by
  rw [chk, if_pos (fe_all _ _ h), if_pos hl]
theorem chk_hs {we hs : List Int} {k : Nat} {c : Int} (h : ∀ j, j < we.length → errW we j = 0) (hl : ¬ 1000 < hs.length) (h' : ∀ j, j < k → errH hs j = 0) (hk : k < hs.length) (hc : errH hs k = c) (h0 : c ≠ 0) : chk we hs = c := by
  have := fe_stop (errH hs) hs.length k h' hk (by rw [hc]; exact h0)
  rw [chk, if_pos (fe_all _ _ h), if_neg hl, this, hc]
theorem chk_ok {we hs : List Int} (h : ∀ j, j < we.length → errW we j = 0) (hl : ¬ 1000 < hs.length) (h' : ∀ j, j < hs.length → errH hs j = 0) : chk we hs = 0 := by
  rw [chk, if_pos (fe_all _ _ h), if_neg hl, fe_all _ _ h']
theorem all_snoc {f : Nat → Int} {k : Nat} (h : ∀ j, j < k → f j = 0) (hk : f k = 0) : ∀ j, j < k + 1 → f j = 0 := by
  intro j hj
  by_cases e : j = k
  · subst e; exact hk
  · exact h j (by omega)
theorem errW_eq {we : List Int} {k : Nat} {x y c : Int} (hx : x = we[k]?.getD 0) (hy : y = we[k - 1]?.getD 0) (h : (if x < 0 ∨ 6 < x then 2 else if 0 < k ∧ x ≤ y then 8 else 0) = c) : errW we k = c := by
  rw [errW, ← hx, ← hy]; exact h
theorem errH_eq {hs : List Int} {k : Nat} {x y c : Int} (hx : x = hs[k]?.getD 0) (hy : y = hs[k - 1]?.getD 0) (h : (if vB x = false then 13 else if 0 < k ∧ x ≤ y then 8 else 0) = c) : errH hs k = c := by
  rw [errH, ← hx, ← hy]; exact h

def great (we hs : List Int) : Bool := decide (10 < we.length ∨ 20 < hs.length ∧ hs.length < 980 ∨ 1005 < hs.length)

end Go.Proofs.Ytilbolgncpfmmaa
