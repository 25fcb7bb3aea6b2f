/- Plain mathematics of business days in a row: no program in sight. -/
import Derived.Test.YtilbolgncpfmmaaPlain
namespace Go.Proofs.Ytilbolgncpfmmaa

/-- how many days from d on, in the direction s, are valid -/
def room (s d : Int) : Nat := if s = 1 then (84006 - d).toNat else (d + 25568).toNat

/-- the days for which p is true, among f days from d on in steps of s -/
def bl (p : Int → Bool) (s : Int) : Nat → Int → List Int
  | 0, _ => []
  | f + 1, d => if p d then d :: bl p s f (d + s) else bl p s f (d + s)

/-- the business days from a day on, in a direction -/
def blR (p : Int → Bool) (s d : Int) : List Int := bl p s (room s d) d

def oV (o : Option Int) : Int := o.getD 0
def oE (o : Option Int) : Int := if o.isSome then 0 else 13

/-- a direction, and a day from which it can be gone -/
def Start (s d : Int) : Prop := (s = 1 ∧ -25567 ≤ d ∧ d ≤ 84006) ∨ (s = -1 ∧ -25568 ≤ d ∧ d ≤ 84005)

theorem Start.bounds {s d : Int} (h : Start s d) : -25568 ≤ d ∧ d ≤ 84006 ∧ -1 ≤ s ∧ s ≤ 1 := by
  unfold Start at h; omega
theorem Start.next {s d : Int} (h : Start s d) (hv : vB d = true) : Start s (d + s) := by
  unfold Start at *
  simp only [vB, decide_eq_true_eq] at hv
  omega
theorem Start.of_valid {s d : Int} (h : s = 1 ∨ s = -1) (hv : vB d = true) : Start s d := by
  unfold Start
  simp only [vB, decide_eq_true_eq] at hv
  omega
theorem Start.of_step {s d : Int} (h : s = 1 ∨ s = -1) (hv : vB d = true) : Start s (d + s) := (Start.of_valid h hv).next hv
theorem Start.room_pos {s d : Int} (h : Start s d) (hr : room s d ≠ 0) : vB d = true := by
  unfold Start at h
  simp only [vB, decide_eq_true_eq]
  rcases h with ⟨rfl, h⟩ | ⟨rfl, h⟩
  · simp [room] at hr; omega
  · simp [room] at hr; omega

theorem room_out {s d : Int} (hs : Start s d) (h : vB d = false) : room s d = 0 := by
  rcases Nat.eq_zero_or_pos (room s d) with h0 | h0
  · exact h0
  · rw [hs.room_pos (by omega)] at h; cases h
theorem room_in {s d : Int} (hs : Start s d) (h : vB d = true) : room s d = room s (d + s) + 1 := by
  unfold Start at hs
  simp only [vB, decide_eq_true_eq] at h
  rcases hs with ⟨rfl, _⟩ | ⟨rfl, _⟩
  · simp [room]; omega
  · simp [room]; omega
theorem blR_out {p : Int → Bool} {s d : Int} (hs : Start s d) (h : vB d = false) : blR p s d = [] := by
  rw [blR, room_out hs h, bl]
theorem blR_yes {p : Int → Bool} {s d : Int} (hs : Start s d) (h : vB d = true) (hp : p d = true) : blR p s d = d :: blR p s (d + s) := by
  rw [blR, room_in hs h, bl, if_pos hp, blR]
theorem blR_no {p : Int → Bool} {s d : Int} (hs : Start s d) (h : vB d = true) (hp : p d = false) : blR p s d = blR p s (d + s) := by
  rw [blR, room_in hs h, bl, if_neg (by rw [hp]; simp), blR]

theorem bl_length (p : Int → Bool) (s : Int) (f : Nat) (d : Int) : (bl p s f d).length ≤ f := by
  induction f generalizing d with
  | zero => simp [bl]
  | succ f ih =>
    rw [bl]
    split
    · simp; exact ih _
    · exact Nat.le_succ_of_le (ih _)
theorem blR_length (p : Int → Bool) (s d : Int) (h : Start s d) : (blR p s d).length ≤ 109573 := by
  have := bl_length p s (room s d) d
  unfold Start at h
  have hr : room s d ≤ 109573 := by
    rcases h with ⟨rfl, h⟩ | ⟨rfl, h⟩
    · simp [room]; omega
    · simp [room]; omega
  unfold blR
  omega
theorem blR_length_step (p : Int → Bool) (s d : Int) (h : s = 1 ∨ s = -1) (hv : vB d = true) : (blR p s (d + s)).length ≤ 109572 := by
  have := bl_length p s (room s (d + s)) (d + s)
  simp only [vB, decide_eq_true_eq] at hv
  have hr : room s (d + s) ≤ 109572 := by
    rcases h with rfl | rfl
    · simp [room]; omega
    · simp [room]; omega
  unfold blR
  omega

/-- each element of the row has the rest of the row behind it -/
theorem bl_tail {p : Int → Bool} {s : Int} (f : Nat) (d : Int) (hs : Start s d) (hf : f = room s d) (x : Int) (t : List Int) (h : bl p s f d = x :: t) : vB x = true ∧ p x = true ∧ Start s (x + s) ∧ t = blR p s (x + s) := by
  induction f generalizing d with
  | zero => simp [bl] at h
  | succ f ih =>
    have hv : vB d = true := hs.room_pos (by omega)
    rw [room_in hs hv] at hf
    rw [bl] at h
    by_cases hp : p d
    · rw [if_pos hp] at h
      obtain ⟨rfl, rfl⟩ := List.cons.inj h
      refine ⟨hv, hp, hs.next hv, ?_⟩
      rw [blR]; congr 1; omega
    · rw [if_neg hp] at h
      exact ih (d + s) (hs.next hv) (by omega) h
theorem blR_tail {p : Int → Bool} {s d : Int} (hs : Start s d) {x : Int} {t : List Int} (h : blR p s d = x :: t) : vB x = true ∧ p x = true ∧ Start s (x + s) ∧ t = blR p s (x + s) := bl_tail _ d hs rfl x t h

/-- n business days on -/
def addO (p : Int → Bool) (s : Int) : Nat → Int → Option Int
  | 0, d => some d
  | n + 1, d => ((blR p s (d + s)).head?).bind (addO p s n)

theorem addO_eq {p : Int → Bool} {s : Int} (n : Nat) : ∀ d, Start s (d + s) → addO p s (n + 1) d = (blR p s (d + s))[n]? := by
  induction n with
  | zero => intro d hs; rw [addO]; cases h : blR p s (d + s) <;> simp [addO]
  | succ n ih =>
    intro d hs
    rw [addO]
    cases h : blR p s (d + s) with
    | nil => simp
    | cons x t =>
      obtain ⟨_, _, h3, h4⟩ := blR_tail hs h
      rw [List.head?_cons, Option.bind_some, ih x h3, h4, List.getElem?_cons_succ]

/-- how many of k days from d on p is true of -/
def cnt (p : Int → Bool) : Nat → Int → Nat
  | 0, _ => 0
  | k + 1, d => cnt p k d + (if p (d + k) then 1 else 0)
theorem cnt_le (p : Int → Bool) (k : Nat) (d : Int) : cnt p k d ≤ k := by
  induction k with
  | zero => simp [cnt]
  | succ k ih => rw [cnt]; split <;> omega
theorem cnt_cons (p : Int → Bool) (k : Nat) (d : Int) : cnt p (k + 1) d = (if p d then 1 else 0) + cnt p k (d + 1) := by
  induction k with
  | zero => simp [cnt]
  | succ k ih =>
    rw [cnt, ih, cnt]
    have : d + 1 + (k : Int) = d + ((k + 1 : Nat) : Int) := by omega
    rw [this]; omega
theorem cnt_add (p : Int → Bool) (k m : Nat) (d : Int) : cnt p (k + m) d = cnt p k d + cnt p m (d + k) := by
  induction m with
  | zero => simp [cnt]
  | succ m ih =>
    rw [← Nat.add_assoc, cnt, ih, cnt]
    have : d + ((k + m : Nat) : Int) = d + k + m := by omega
    rw [this]; omega

/-- the business days before a day -/
theorem take_cnt {p : Int → Bool} (k : Nat) : ∀ (d : Int), Start 1 d → vB (d + k) = true → ((blR p 1 d).takeWhile (fun x => decide (x < d + k))).length = cnt p k d := by
  induction k with
  | zero =>
    intro d hs hv
    have hv' : vB d = true := by simpa using hv
    simp only [cnt]
    have hge : ∀ (f : Nat) (e : Int), d ≤ e → (bl p 1 f e).takeWhile (fun x => decide (x < d + ((0 : Nat) : Int))) = [] := by
      intro f
      induction f with
      | zero => intro e _; simp [bl]
      | succ f ih =>
        intro e he
        rw [bl]
        split
        · rw [List.takeWhile_cons_of_neg]; simp; omega
        · exact ih _ (by omega)
    rw [blR, hge _ d (by omega)]; rfl
  | succ k ih =>
    intro d hs hv
    have hv' : vB d = true := by
      unfold Start at hs; simp only [vB, decide_eq_true_eq] at hv ⊢; omega
    have e : d + ((k + 1 : Nat) : Int) = d + 1 + k := by omega
    rw [e] at hv ⊢
    have ihd := ih (d + 1) (hs.next hv') hv
    rw [cnt_cons]
    cases hp : p d
    · rw [blR_no hs hv' hp, ihd]; simp
    · rw [blR_yes hs hv' hp, List.takeWhile_cons_of_pos (by simp; omega), List.length_cons, ihd]; simp; omega
end Go.Proofs.Ytilbolgncpfmmaa
