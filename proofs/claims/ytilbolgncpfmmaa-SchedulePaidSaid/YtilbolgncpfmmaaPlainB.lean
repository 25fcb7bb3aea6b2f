/- Plain mathematics: how dense business days lie, and what follows for steps. No program in sight. -/
import Derived.Test.YtilbolgncpfmmaaPlain2
namespace Go.Proofs.Ytilbolgncpfmmaa

theorem cnt_mono {p q : Int → Bool} (h : ∀ x, p x = true → q x = true) (k : Nat) (d : Int) : cnt p k d ≤ cnt q k d := by
  induction k with
  | zero => simp [cnt]
  | succ k ih =>
    rw [cnt, cnt]
    cases hp : p (d + k)
    · simp; split <;> omega
    · rw [h _ hp]; simp; omega
theorem cnt_or (p q : Int → Bool) (k : Nat) (d : Int) : cnt (fun x => p x || q x) k d ≤ cnt p k d + cnt q k d := by
  induction k with
  | zero => simp [cnt]
  | succ k ih =>
    rw [cnt, cnt, cnt]
    cases p (d + k) <;> cases q (d + k) <;> simp <;> omega
theorem cnt_eq_none (x : Int) (k : Nat) (d : Int) (h : x < d ∨ d + k ≤ x) : cnt (fun y => y == x) k d = 0 := by
  induction k with
  | zero => simp [cnt]
  | succ k ih =>
    rw [cnt, ih (by omega)]
    have : (d + (k : Int) == x) = false := by simp; omega
    simp [this]
theorem cnt_eq_one (x : Int) (k : Nat) (d : Int) : cnt (fun y => y == x) k d ≤ 1 := by
  induction k with
  | zero => simp [cnt]
  | succ k ih =>
    rw [cnt]
    by_cases e : d + (k : Int) = x
    · rw [cnt_eq_none x k d (by omega)]; split <;> omega
    · have : (d + (k : Int) == x) = false := by simp; omega
      simp [this]; exact ih
theorem cnt_list (l : List Int) (k : Nat) (d : Int) : cnt (fun y => l.contains y) k d ≤ l.length := by
  induction l with
  | nil =>
    have : ∀ k, cnt (fun y => ([] : List Int).contains y) k d = 0 := by
      intro k
      induction k with
      | zero => simp [cnt]
      | succ k ih => rw [cnt, ih]; simp
    rw [this]; simp
  | cons a t ih =>
    have h1 : cnt (fun y => (a :: t).contains y) k d ≤ cnt (fun y => (y == a) || t.contains y) k d := cnt_mono (fun x hx => by simpa [List.contains_cons] using hx) k d
    have h2 := cnt_or (fun y => y == a) (fun y => t.contains y) k d
    have h3 := cnt_eq_one a k d
    simp only [List.length_cons]; omega
theorem cnt_pos {p : Int → Bool} {k : Nat} {d x : Int} (h1 : d ≤ x) (h2 : x < d + k) (hp : p x = true) : 1 ≤ cnt p k d := by
  induction k with
  | zero => omega
  | succ k ih =>
    rw [cnt]
    by_cases e : x = d + k
    · subst e; rw [hp]; simp
    · have := ih (by omega); omega
theorem cnt_all {p : Int → Bool} (k : Nat) (d : Int) (h : ∀ i : Nat, i < k → p (d + i) = true) : cnt p k d = k := by
  induction k with
  | zero => simp [cnt]
  | succ k ih => rw [cnt, ih fun i hi => h i (by omega), h k (by omega)]; simp
theorem cnt_zero {p : Int → Bool} (k : Nat) (d : Int) (h : ∀ x, d ≤ x → x < d + k → p x = false) : cnt p k d = 0 := by
  induction k with
  | zero => simp [cnt]
  | succ k ih => rw [cnt, ih fun x a b => h x a (by omega), h (d + k) (by omega) (by omega)]; simp

/-- some weekday is no weekend day -/
theorem missing (we : List Int) (h : we.length < 7) : ∃ m : Int, 0 ≤ m ∧ m < 7 ∧ we.contains m = false := by
  rcases Classical.em (∃ m : Int, 0 ≤ m ∧ m < 7 ∧ we.contains m = false) with h1 | h1
  · exact h1
  · have hall : ∀ i : Nat, i < 7 → we.contains ((0 : Int) + i) = true := by
      intro i hi
      cases hc : we.contains ((0 : Int) + i)
      · exact absurd ⟨(0 : Int) + i, by omega, by omega, hc⟩ h1
      · rfl
    have h2 := cnt_all (p := fun y => we.contains y) 7 0 hall
    have h3 := cnt_list we 7 0
    omega

/-- dense: among 7 (m + 20) days from d on there are m for which p is true -/
def Dense (p : Int → Bool) : Prop := ∀ (m : Nat) (d : Int), -25567 ≤ d → d + 7 * (m + 20 : Nat) ≤ 84006 → m ≤ cnt p (7 * (m + 20)) d

theorem dense_of {p : Int → Bool} {we hs : List Int} (hw : we.length < 7) (hh : hs.length ≤ 20)
    (hp : ∀ x, -25567 ≤ x → x ≤ 84005 → hs.contains x = false → we.contains ((x + 25567) % 7) = false → p x = true) : Dense p := by
  obtain ⟨wm, m0, m7, hm⟩ := missing we hw
  have blk : ∀ d, -25567 ≤ d → d + 7 ≤ 84006 → 1 ≤ cnt p 7 d + cnt (fun y => hs.contains y) 7 d := by
    intro d h1 h2
    obtain ⟨x, hx1, hx2, hx3⟩ : ∃ x, d ≤ x ∧ x < d + 7 ∧ (x + 25567) % 7 = wm := ⟨d + (wm - (d + 25567)) % 7, by omega, by omega, by omega⟩
    cases hc : hs.contains x
    · have := cnt_pos (k := 7) hx1 (by omega) (hp x (by omega) (by omega) hc (by rw [hx3]; exact hm)); omega
    · have := cnt_pos (p := fun y => hs.contains y) (k := 7) hx1 (by omega) hc; omega
  have many : ∀ (m : Nat) (d : Int), -25567 ≤ d → d + 7 * m ≤ 84006 → m ≤ cnt p (7 * m) d + cnt (fun y => hs.contains y) (7 * m) d := by
    intro m
    induction m with
    | zero => intro d _ _; simp
    | succ m ih =>
      intro d h1 h2
      have a := ih d h1 (by omega)
      have b := blk (d + (7 * m : Nat)) (by omega) (by omega)
      rw [show 7 * (m + 1) = 7 * m + 7 by omega, cnt_add, cnt_add]
      omega
  intro m d h1 h2
  have a := many (m + 20) d h1 (by omega)
  have b := cnt_list hs (7 * (m + 20)) d
  omega

/-- what stands at the head of the row: the next one -/
theorem head_next {p : Int → Bool} {y : Int} {t : List Int} (f : Nat) : ∀ d, bl p 1 f d = y :: t → d ≤ y ∧ ∀ z, d ≤ z → z < y → p z = false := by
  induction f with
  | zero => intro d h; simp [bl] at h
  | succ f ih =>
    intro d h
    rw [bl] at h
    cases hp : p d
    · rw [if_neg (by rw [hp]; simp)] at h
      obtain ⟨h1, h2⟩ := ih (d + 1) h
      refine ⟨by omega, fun z hz hz' => ?_⟩
      by_cases e : z = d
      · subst e; exact hp
      · exact h2 z (by omega) hz'
    · rw [if_pos hp] at h
      obtain ⟨rfl, -⟩ := List.cons.inj h
      exact ⟨by omega, fun z hz hz' => by omega⟩
theorem head_prev {p : Int → Bool} {y : Int} {t : List Int} (f : Nat) : ∀ d, bl p (-1) f d = y :: t → y ≤ d ∧ ∀ z, z ≤ d → y < z → p z = false := by
  induction f with
  | zero => intro d h; simp [bl] at h
  | succ f ih =>
    intro d h
    rw [bl] at h
    cases hp : p d
    · rw [if_neg (by rw [hp]; simp)] at h
      obtain ⟨h1, h2⟩ := ih (d + -1) h
      refine ⟨by omega, fun z hz hz' => ?_⟩
      by_cases e : z = d
      · subst e; exact hp
      · exact h2 z (by omega) hz'
    · rw [if_pos hp] at h
      obtain ⟨rfl, -⟩ := List.cons.inj h
      exact ⟨by omega, fun z hz hz' => by omega⟩
theorem vB_of {d : Int} (h : -25567 ≤ d) (h' : d ≤ 84005) : vB d = true := by simp [vB, h, h']
/-- from the day back on, the one before -/
theorem prev_is {p : Int → Bool} {x : Int} (hx : p x = true) (h0 : -25567 ≤ x) (k : Nat) : x + k ≤ 84005 → (∀ z, x < z → z ≤ x + k → p z = false) → (blR p (-1) (x + k)).head? = some x := by
  induction k with
  | zero =>
    intro h1 _
    simp only [Int.natCast_zero, Int.add_zero] at *
    rw [blR_yes (Start.of_valid (.inr rfl) (vB_of h0 h1)) (vB_of h0 h1) hx]; rfl
  | succ k ih =>
    intro h1 h2
    have hv : vB (x + ((k + 1 : Nat) : Int)) = true := vB_of (by omega) h1
    rw [blR_no (Start.of_valid (.inr rfl) hv) hv (h2 _ (by omega) (by omega)), show x + ((k + 1 : Nat) : Int) + -1 = x + k by omega]
    exact ih (by omega) fun z a b => h2 z a (by omega)
theorem next_is {p : Int → Bool} {x : Int} (hx : p x = true) (h0 : x ≤ 84005) (k : Nat) : -25567 ≤ x - k → (∀ z, x - k ≤ z → z < x → p z = false) → (blR p 1 (x - k)).head? = some x := by
  induction k with
  | zero =>
    intro h1 _
    simp only [Int.natCast_zero, Int.sub_zero] at *
    rw [blR_yes (Start.of_valid (.inl rfl) (vB_of h1 h0)) (vB_of h1 h0) hx]; rfl
  | succ k ih =>
    intro h1 h2
    have hv : vB (x - ((k + 1 : Nat) : Int)) = true := vB_of h1 (by omega)
    rw [blR_no (Start.of_valid (.inl rfl) hv) hv (h2 _ (by omega) (by omega)), show x - ((k + 1 : Nat) : Int) + 1 = x - k by omega]
    exact ih (by omega) fun z a b => h2 z (by omega) b

/-- the next business day from d on: it is there, and near -/
theorem next_near {p : Int → Bool} (hd : Dense p) {d : Int} (h0 : -25567 ≤ d) (h1 : d ≤ 83005) : ∃ y, (blR p 1 d).head? = some y ∧ d ≤ y ∧ y < d + 147 ∧ p y = true ∧ ∀ z, d ≤ z → z < y → p z = false := by
  have hc := hd 1 d h0 (by omega)
  cases hb : blR p 1 d with
  | nil =>
    have := take_cnt (p := p) 147 d (Start.of_valid (.inl rfl) (vB_of h0 (by omega))) (vB_of (by omega) (by omega))
    rw [hb] at this; simp at this hc; omega
  | cons y t =>
    obtain ⟨a1, a2, -, -⟩ := blR_tail (Start.of_valid (.inl rfl) (vB_of h0 (by omega))) hb
    obtain ⟨b1, b2⟩ := head_next (p := p) _ d hb
    refine ⟨y, rfl, b1, ?_, a2, b2⟩
    rcases Int.lt_or_le y (d + 147) with h | h
    · exact h
    · have := cnt_zero (p := p) 147 d (fun x c e => b2 x c (by omega))
      simp at hc; omega
theorem prev_near {p : Int → Bool} (hd : Dense p) {d : Int} (h0 : -24567 ≤ d) (h1 : d ≤ 84005) : ∃ y, (blR p (-1) d).head? = some y ∧ y ≤ d ∧ d - 147 < y ∧ p y = true ∧ ∀ z, z ≤ d → y < z → p z = false := by
  have hc := hd 1 (d - 146) (by omega) (by omega)
  cases hb : blR p (-1) d with
  | nil =>
    have hno : ∀ (f : Nat) (e : Int), f = room (-1) e → Start (-1) e → bl p (-1) f e = [] → ∀ z, -25567 ≤ z → z ≤ e → p z = false := by
      intro f
      induction f with
      | zero => intro e he hs _ z hz1 hz2; simp [room] at he; omega
      | succ f ih =>
        intro e he hs hbl z hz1 hz2
        have hv : vB e = true := hs.room_pos (by omega)
        rw [bl] at hbl
        cases hp : p e
        · rw [if_neg (by rw [hp]; simp)] at hbl
          by_cases e1 : z = e
          · subst e1; exact hp
          · rw [room_in hs hv] at he
            exact ih (e + -1) (by omega) (hs.next hv) hbl z hz1 (by omega)
        · rw [if_pos hp] at hbl; simp at hbl
    have := cnt_zero (p := p) 147 (d - 146) (fun x c e => hno _ d rfl (Start.of_valid (.inr rfl) (vB_of (by omega) h1)) hb x (by omega) (by omega))
    simp at hc; omega
  | cons y t =>
    obtain ⟨a1, a2, -, -⟩ := blR_tail (Start.of_valid (.inr rfl) (vB_of (by omega) h1)) hb
    obtain ⟨b1, b2⟩ := head_prev (p := p) _ d hb
    refine ⟨y, rfl, b1, ?_, a2, b2⟩
    rcases Int.lt_or_le (d - 147) y with h | h
    · exact h
    · have := cnt_zero (p := p) 147 (d - 146) (fun x c e => b2 x (by omega) (by omega))
      simp at hc; omega

theorem addO_snoc {p : Int → Bool} {s : Int} (k : Nat) : ∀ f, addO p s (k + 1) f = (addO p s k f).bind (fun x => (blR p s (x + s)).head?) := by
  induction k with
  | zero =>
    intro f
    rw [addO]
    cases (blR p s (f + s)).head? <;> simp [addO]
  | succ k ih =>
    intro f
    rw [addO]
    cases h : (blR p s (f + s)).head? with
    | none => simp [addO, h]
    | some y => rw [Option.bind_some, ih y]; simp [addO, h]

theorem nth_near {p : Int → Bool} (hd : Dense p) {f : Int} (h0 : -25567 ≤ f) (h1 : f + 560 ≤ 84005) (i : Nat) (hi : i < 59) : ∃ y, (blR p 1 (f + 1))[i]? = some y ∧ y < f + 1 + 553 := by
  have hc := hd 59 (f + 1) (by omega) (by omega)
  have ht := take_cnt (p := p) 553 (f + 1) (Start.of_valid (.inl rfl) (vB_of (by omega) (by omega))) (vB_of (by omega) (by omega))
  have hl : i < ((blR p 1 (f + 1)).takeWhile (fun x => decide (x < f + 1 + ((553 : Nat) : Int)))).length := by simp at hc; omega
  have hpre := List.takeWhile_prefix (l := blR p 1 (f + 1)) (fun x => decide (x < f + 1 + ((553 : Nat) : Int)))
  obtain ⟨t, ht'⟩ := hpre
  refine ⟨((blR p 1 (f + 1)).takeWhile (fun x => decide (x < f + 1 + ((553 : Nat) : Int))))[i], ?_, ?_⟩
  · conv => lhs; rw [← ht']
    rw [List.getElem?_append_left hl, List.getElem?_eq_getElem hl]
  · have := List.all_takeWhile (l := blR p 1 (f + 1)) (p := fun x => decide (x < f + 1 + ((553 : Nat) : Int)))
    rw [List.all_eq_true] at this
    have := this _ (List.getElem_mem hl)
    simpa using this

/-- k business days on, and back; between both there are k -/
theorem chain {p : Int → Bool} (hd : Dense p) {f : Int} (h0 : -25567 ≤ f) (h1 : f + 560 ≤ 84005) (hf : p f = true) (k : Nat) (hk : k ≤ 59) :
    ∃ y, addO p 1 k f = some y ∧ addO p (-1) k y = some f ∧ f ≤ y ∧ y ≤ f + 553 ∧ p y = true ∧ cnt p (y - f).toNat f = k := by
  induction k with
  | zero => exact ⟨f, rfl, rfl, by omega, by omega, hf, by simp [cnt]⟩
  | succ k ih =>
    obtain ⟨y, a1, a2, a3, a4, a5, a6⟩ := ih (by omega)
    obtain ⟨y', b1, b2⟩ := nth_near hd h0 h1 k (by omega)
    have e1 : addO p 1 (k + 1) f = some y' := by rw [addO_eq k f (Start.of_step (.inl rfl) (vB_of h0 (by omega)))]; exact b1
    have e2 := e1
    rw [addO_snoc, a1, Option.bind_some] at e2
    have hvy : vB y = true := vB_of (by omega) (by omega)
    cases hb : blR p 1 (y + 1) with
    | nil => rw [hb] at e2; cases e2
    | cons q t =>
      rw [hb] at e2
      obtain rfl : q = y' := by simpa using e2
      obtain ⟨c1, c2, -, -⟩ := blR_tail (Start.of_step (.inl rfl) hvy) hb
      obtain ⟨d1, d2⟩ := head_next (p := p) _ (y + 1) hb
      have hback : (blR p (-1) (q + -1)).head? = some y := by
        have := prev_is (p := p) (x := y) a5 (by omega) (q - 1 - y).toNat (by omega) (fun z u v => d2 z (by omega) (by omega))
        rw [show y + ((q - 1 - y).toNat : Int) = q + -1 by omega] at this
        exact this
      refine ⟨q, e1, ?_, by omega, by omega, c2, ?_⟩
      · rw [addO, hback, Option.bind_some]; exact a2
      · rw [show (q - f).toNat = (y - f).toNat + (q - y).toNat by omega, cnt_add, a6, show f + ((y - f).toNat : Int) = y by omega]
        rw [show (q - y).toNat = (q - y - 1).toNat + 1 by omega, cnt_cons, a5]
        rw [cnt_zero (p := p) (q - y - 1).toNat (y + 1) (fun x u v => d2 x u (by omega))]
        simp
end Go.Proofs.Ytilbolgncpfmmaa
