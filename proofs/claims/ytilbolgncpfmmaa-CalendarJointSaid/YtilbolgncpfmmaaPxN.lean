/- The logic of pure states: a region that draws its order comes to what the order of the text comes to. -/
import Derived.Test.YtilbolgncpfmmaaPxM
import Derived.Orders
import Derived.KernelRfl
namespace Go.Proofs.Ytilbolgncpfmmaa.Px
open Go.RowKit

/-! the last of the writes that have been done -/
def lastV {α : Type} (L : Nat → Bool) : Nat → List (Option α) → Option α
  | _, [] => none
  | k, u :: us => match lastV L (k + 1) us with
    | some v => some v
    | none => bif L k then u else none
theorem lastV_congr {α : Type} {L L' : Nat → Bool} (us : List (Option α)) (k : Nat) (h : ∀ j v, us[j]? = some (some v) → L (k + j) = L' (k + j)) : lastV L k us = lastV L' k us := by
  induction us generalizing k with
  | nil => rfl
  | cons u us ih =>
    simp only [lastV]
    rw [ih (k + 1) fun j v hj => by have := h (j + 1) v (by simpa using hj); rw [show k + 1 + j = k + (j + 1) by omega]; exact this]
    cases u with
    | none => cases L k <;> cases L' k <;> rfl
    | some v => rw [show L k = L' k from h 0 v rfl]
theorem lastV_none {α : Type} {L : Nat → Bool} (us : List (Option α)) (k : Nat) (h : ∀ j v, us[j]? = some (some v) → L (k + j) = false) : lastV L k us = none := by
  induction us generalizing k with
  | nil => rfl
  | cons u us ih =>
    simp only [lastV]
    rw [ih (k + 1) fun j v hj => by have := h (j + 1) v (by simpa using hj); rw [show k + 1 + j = k + (j + 1) by omega]; exact this]
    cases u with
    | none => cases L k <;> rfl
    | some v => rw [show L k = false from h 0 v rfl]; rfl
theorem lastV_some {α : Type} {L : Nat → Bool} (us : List (Option α)) (k : Nat) {v : α} (h : lastV L k us = some v) : ∃ j, us[j]? = some (some v) ∧ L (k + j) = true := by
  induction us generalizing k with
  | nil => cases h
  | cons u us ih =>
    simp only [lastV] at h
    split at h
    · rename_i v' h1
      cases h
      obtain ⟨j, h2, h3⟩ := ih (k + 1) h1
      exact ⟨j + 1, by simpa using h2, by rw [show k + (j + 1) = k + 1 + j by omega]; exact h3⟩
    · cases hL : L k with
      | false => rw [hL] at h; cases h
      | true => rw [hL] at h; exact ⟨0, by simpa using h, hL⟩
theorem lastV_at {α : Type} {L : Nat → Bool} (us : List (Option α)) (k i : Nat) {v : α} (hi : us[i]? = some (some v)) (hL : L (k + i) = true) (h : ∀ j u, i < j → us[j]? = some (some u) → L (k + j) = false) : lastV L k us = some v := by
  induction us generalizing k i with
  | nil => simp at hi
  | cons u us ih =>
    simp only [lastV]
    cases i with
    | zero =>
      simp at hi
      subst hi
      rw [lastV_none us (k + 1) fun j v hj => by have := h (j + 1) v (by omega) (by simpa using hj); rw [show k + 1 + j = k + (j + 1) by omega]; exact this]
      rw [show L k = true from hL]
      rfl
    | succ i =>
      rw [ih (k + 1) i (by simpa using hi) (by rw [show k + 1 + i = k + (i + 1) by omega]; exact hL) fun j u hj hu => by
        have := h (j + 1) u (by omega) (by simpa using hu); rw [show k + 1 + j = k + (j + 1) by omega]; exact this]
theorem lastV_all {α : Type} {L : Nat → Bool} (us : List (Option α)) (k i : Nat) {v : α} (hi : us[i]? = some (some v)) (hL : L (k + i) = true) : lastV L k us ≠ none := by
  induction us generalizing k i with
  | nil => simp at hi
  | cons u us ih =>
    simp only [lastV]
    cases i with
    | zero =>
      simp at hi
      subst hi
      split
      · simp
      · rw [show L k = true from hL]; simp
    | succ i =>
      have := ih (k + 1) i (by simpa using hi) (by rw [show k + 1 + i = k + (i + 1) by omega]; exact hL)
      split
      · simp
      · contradiction

abbrev Trc := List (SV × Ef)
def usS (t : Nat) : List Oper → Trc → List (Option SV)
  | o :: l, (x, _) :: tr => (if o.dst = some t then some x else none) :: usS t l tr
  | _, _ => []
def bOf (e : Nat) : Ef → Option (List SV)
  | .box i cs => if e = i then some cs else none
  | _ => none
def tOf (e : Nat) : Ef → Option Nat
  | .tok i n => if e = i then some n else none
  | _ => none
def usB (e : Nat) : List Oper → Trc → List (Option (List SV))
  | _ :: l, (_, ef) :: tr => bOf e ef :: usB e l tr
  | _, _ => []
def usT (e : Nat) : List Oper → Trc → List (Option Nat)
  | _ :: l, (_, ef) :: tr => tOf e ef :: usT e l tr
  | _, _ => []
/-- the state when the operations L have been done -/
def stD (L : Nat → Bool) : Nat → List Oper → Trc → PS → PS
  | k, o :: l, (x, ef) :: tr, st => stD L (k + 1) l tr (bif L k then (st.eff ef).put o.dst x else st)
  | _, _, _, st => st

theorem eff_get (st : PS) (ef : Ef) (i : Nat) : (st.eff ef).get i = st.get i := by cases ef <;> rfl
theorem put_get (st : PS) (d : Option Nat) (x : SV) (t : Nat) : (st.put d x).get t = if d = some t then x else st.get t := by
  cases d with
  | none => simp [PS.put]
  | some d =>
    rw [get_put]
    by_cases h : t = d
    · simp [h]
    · simp [h, Ne.symm h]
theorem eff_bget (st : PS) (ef : Ef) (e : Nat) : (st.eff ef).bget e = (bOf e ef).or (st.bget e) := by
  cases ef with
  | box i cs => simp only [PS.eff, bget_bput, bOf]; by_cases h : e = i <;> simp [h]
  | _ => rfl
theorem eff_tget (st : PS) (ef : Ef) (e : Nat) : (st.eff ef).tget e = (tOf e ef).or (st.tget e) := by
  cases ef with
  | tok i n => simp only [PS.eff, tget_tput, tOf]; by_cases h : e = i <;> simp [h]
  | _ => rfl

theorem stD_n (L : Nat → Bool) (k : Nat) (l : List Oper) (tr : Trc) (st : PS) : (stD L k l tr st).n = st.n := by
  induction l generalizing k tr st with
  | nil => rfl
  | cons o l ih =>
    cases tr with
    | nil => rfl
    | cons p tr =>
      obtain ⟨x, ef⟩ := p
      rw [stD, ih]
      cases L k
      · rfl
      · cases ef <;> cases o.dst <;> rfl
theorem stD_get (L : Nat → Bool) (k : Nat) (l : List Oper) (tr : Trc) (st : PS) (t : Nat) : (stD L k l tr st).get t = (lastV L k (usS t l tr)).getD (st.get t) := by
  induction l generalizing k tr st with
  | nil => rfl
  | cons o l ih =>
    cases tr with
    | nil => rfl
    | cons p tr =>
      obtain ⟨x, ef⟩ := p
      simp only [stD, usS, lastV]
      rw [ih]
      cases h : lastV L (k + 1) (usS t l tr) with
      | some v => rfl
      | none =>
        cases hL : L k
        · simp
        · simp only [cond_true, Option.getD_none, put_get, eff_get]
          by_cases hd : o.dst = some t <;> simp [hd]
theorem stD_bget (L : Nat → Bool) (k : Nat) (l : List Oper) (tr : Trc) (st : PS) (e : Nat) : (stD L k l tr st).bget e = (lastV L k (usB e l tr)).or (st.bget e) := by
  induction l generalizing k tr st with
  | nil => rfl
  | cons o l ih =>
    cases tr with
    | nil => rfl
    | cons p tr =>
      obtain ⟨x, ef⟩ := p
      simp only [stD, usB, lastV]
      rw [ih]
      cases h : lastV L (k + 1) (usB e l tr) with
      | some v => rfl
      | none =>
        cases hL : L k
        · simp
        · simp only [cond_true, Option.none_or, bget_put, eff_bget]
theorem stD_tget (L : Nat → Bool) (k : Nat) (l : List Oper) (tr : Trc) (st : PS) (e : Nat) : (stD L k l tr st).tget e = (lastV L k (usT e l tr)).or (st.tget e) := by
  induction l generalizing k tr st with
  | nil => rfl
  | cons o l ih =>
    cases tr with
    | nil => rfl
    | cons p tr =>
      obtain ⟨x, ef⟩ := p
      simp only [stD, usT, lastV]
      rw [ih]
      cases h : lastV L (k + 1) (usT e l tr) with
      | some v => rfl
      | none =>
        cases hL : L k
        · simp
        · simp only [cond_true, Option.none_or, tget_put, eff_tget]

/-- one operation, in the order of the text -/
def StepOk (P : Program) (ops : Array Oper) (o : Oper) (st : PS) (x : SV) (ef : Ef) : Prop :=
  (LocS P o st x ef ∧ opOk o st ef = true ∧ st.want ops o = some true) ∨ (x = .tup [] ∧ ef = .no ∧ dstOk o st = true ∧ st.want ops o = some false)
/-- the trace of the order of the text: at each operation the state of all before it -/
structure TrOk (P : Program) (l : List Oper) (tr : Trc) (st : PS) : Prop where
  len : tr.length = l.length
  step : ∀ (i : Nat) o x ef, l[i]? = some o → tr[i]? = some (x, ef) → StepOk P l.toArray o (stD (fun k => Nat.blt k i) 0 l tr st) x ef

theorem stD_lt (l : List Oper) (tr : Trc) (k i : Nat) (hk : i ≤ k) (st : PS) : stD (fun k => Nat.blt k i) k l tr st = st := by
  induction l generalizing tr k with
  | nil => rfl
  | cons o l ih =>
    cases tr with
    | nil => rfl
    | cons p tr =>
      obtain ⟨x, ef⟩ := p
      have : Nat.blt k i = false := by
        rw [← Bool.not_eq_true]; intro e; have := Nat.le_of_ble_eq_true e; omega
      rw [stD]
      simp only [this, cond_false]
      exact ih tr (k + 1) (by omega)

theorem YR.trace {P : Program} {ops : Array Oper} {K : PS → Prop} {l : List Oper} {st : PS} (h : YR P false ops K l st) : ∀ k, ∃ tr : Trc, tr.length = l.length ∧
    (∀ (i : Nat) o x ef, l[i]? = some o → tr[i]? = some (x, ef) → StepOk P ops o (stD (fun j => Nat.blt j (k + i)) k l tr st) x ef) ∧ K (stD (fun _ => true) k l tr st) := by
  induction h with
  | nil h => exact fun k => ⟨[], rfl, fun i o x ef hi => by simp at hi, h⟩
  | @op o rest st x ef hs hk hw _ ih =>
    intro k
    obtain ⟨tr, h1, h2, h3⟩ := ih (k + 1)
    refine ⟨(x, ef) :: tr, by simp [h1], fun i o' x' ef' hi ht => ?_, h3⟩
    cases i with
    | zero =>
      simp at hi ht
      obtain ⟨rfl, rfl⟩ := ht
      subst hi
      rw [stD_lt _ _ _ _ (by omega)]
      exact .inl ⟨hs, hk, hw⟩
    | succ i =>
      have := h2 i o' x' ef' (by simpa using hi) (by simpa using ht)
      have hb : Nat.blt k (k + (i + 1)) = true := Nat.ble_eq_true_of_le (by omega)
      rw [stD]
      simp only [hb, cond_true]
      rw [show k + (i + 1) = k + 1 + i by omega]
      exact this
  | @skip o rest st hd hw _ ih =>
    intro k
    obtain ⟨tr, h1, h2, h3⟩ := ih (k + 1)
    refine ⟨(.tup [], .no) :: tr, by simp [h1], fun i o' x' ef' hi ht => ?_, h3⟩
    cases i with
    | zero =>
      simp at hi ht
      obtain ⟨rfl, rfl⟩ := ht
      subst hi
      rw [stD_lt _ _ _ _ (by omega)]
      exact .inr ⟨rfl, rfl, hd, hw⟩
    | succ i =>
      have := h2 i o' x' ef' (by simpa using hi) (by simpa using ht)
      have hb : Nat.blt k (k + (i + 1)) = true := Nat.ble_eq_true_of_le (by omega)
      rw [stD]
      simp only [hb, cond_true]
      rw [show k + (i + 1) = k + 1 + i by omega]
      exact this
  | any hq => cases hq
end Go.Proofs.Ytilbolgncpfmmaa.Px

/- The logic of pure states: regions that draw their order. -/
namespace Go.Proofs.Ytilbolgncpfmmaa.Px
open Go.RowKit

def preB (l : List Oper) : Nat → Nat → Nat → Bool
  | 0, _, _ => false
  | n + 1, j, i => match l[i]? with
    | some o => o.after.toList.any fun e => Region.binds .any e && (Nat.beq e.on j || preB l n j e.on)
    | none => false
def Down (l : List Oper) (D : Nat → Bool) : Prop := ∀ (i : Nat) o, l[i]? = some o → D i = true → ∀ e ∈ o.after, Region.binds .any e = true → D e.on = true
theorem pre_mem {l : List Oper} {D : Nat → Bool} (hD : Down l D) (n : Nat) : ∀ (j i : Nat), preB l n j i = true → (∀ o, l[i]? = some o → ∀ e ∈ o.after, Region.binds .any e = true → D e.on = true) → D j = true := by
  induction n with
  | zero => intro j i h; cases h
  | succ n ih =>
    intro j i h hi
    simp only [preB] at h
    split at h
    · rename_i o ho
      rw [List.any_eq_true] at h
      obtain ⟨e, he, h1⟩ := h
      rw [Bool.and_eq_true, Bool.or_eq_true] at h1
      have h2 := hi o ho e (Array.mem_toList_iff.1 he) h1.1
      rcases h1.2 with h3 | h3
      · rw [← Nat.eq_of_beq_eq_true h3]; exact h2
      · exact ih j e.on h3 fun o' ho' e' he' hb' => hD e.on o' ho' h2 e' he' hb'
    · cases h

def ordB (l : List Oper) (i j : Nat) : Bool := bif Nat.blt i j then preB l l.length i j else preB l l.length j i
theorem blt_t {i j : Nat} (h : i < j) : Nat.blt i j = true := Nat.ble_eq_true_of_le h
theorem blt_f {i j : Nat} (h : ¬ i < j) : Nat.blt i j = false := by rw [← Bool.not_eq_true]; intro e; exact h (Nat.le_of_ble_eq_true e)
theorem ordB_symm {l : List Oper} {i j : Nat} (hij : i ≠ j) (h : ordB l i j = true) : ordB l j i = true := by
  unfold ordB at h ⊢
  rcases Nat.lt_or_gt_of_ne hij with h1 | h1
  · rw [blt_t h1, cond_true] at h
    rw [blt_f (by omega), cond_false]
    exact h
  · rw [blt_f (by omega), cond_false] at h
    rw [blt_t h1, cond_true]
    exact h
def isWr (o : Op) : Bool := isStore o || isApp o
def pairB (l : List Oper) (i j : Nat) (oi oj : Oper) : Bool :=
  Nat.beq i j || ((!(match oj.dst with | some t => (oi.looksAt l.toArray).any (Nat.beq t) || (match oi.dst with | some t' => Nat.beq t t' | none => false) | none => false) && !(isWr oi.op && isT oj.op)) || ordB l i j)
def allIx {α : Type} (f : Nat → α → Bool) : Nat → List α → Bool
  | _, [] => true
  | k, x :: l => f k x && allIx f (k + 1) l
theorem allIx_spec {α : Type} {f : Nat → α → Bool} {l : List α} {k : Nat} (h : allIx f k l = true) (i : Nat) (x : α) (hi : l[i]? = some x) : f (k + i) x = true := by
  induction l generalizing k i with
  | nil => simp at hi
  | cons y l ih =>
    simp only [allIx, Bool.and_eq_true] at h
    cases i with
    | zero => simp at hi; subst hi; exact h.1
    | succ i => have := ih h.2 i (by simpa using hi); rw [show k + (i + 1) = k + 1 + i by omega]; exact this
def drawB (l : List Oper) : Bool :=
  allIx (fun i o => o.after.toList.all fun e => !Region.binds .any e || Nat.blt e.on i) 0 l &&
  allIx (fun i oi => allIx (fun j oj => pairB l i j oi oj) 0 l) 0 l &&
  (l.all (fun o => !isNew o.op) || allIx (fun i oi => !isNew oi.op || allIx (fun j oj => !isStore oj.op || ordB l i j) 0 l) 0 l)

theorem before_of {l : List Oper} {D : Nat → Bool} (hD : Down l D) {i j : Nat} (hij : i ≠ j) (ho : ordB l i j = true) (hi : D i = false) (hready : ∀ o, l[i]? = some o → ∀ e ∈ o.after, Region.binds .any e = true → D e.on = true) : D j = Nat.blt j i := by
  unfold ordB at ho
  rcases Nat.lt_or_gt_of_ne hij with h | h
  · have h1 : Nat.blt i j = true := Nat.ble_eq_true_of_le h
    have h2 : Nat.blt j i = false := by rw [← Bool.not_eq_true]; intro e; have := Nat.le_of_ble_eq_true e; omega
    rw [h1, cond_true] at ho
    rw [h2, ← Bool.not_eq_true]
    intro hj
    have := pre_mem hD _ i j ho fun o ho e he hb => hD j o ho hj e he hb
    rw [hi] at this
    cases this
  · have h1 : Nat.blt i j = false := by rw [← Bool.not_eq_true]; intro e; have := Nat.le_of_ble_eq_true e; omega
    have h2 : Nat.blt j i = true := Nat.ble_eq_true_of_le h
    rw [h1, cond_false] at ho
    rw [h2]
    exact pre_mem hD _ j i ho hready

theorem usS_some {t : Nat} {l : List Oper} {tr : Trc} {j : Nat} {v : SV} (h : (usS t l tr)[j]? = some (some v)) : ∃ o ef, l[j]? = some o ∧ tr[j]? = some (v, ef) ∧ o.dst = some t := by
  induction l generalizing tr j with
  | nil => simp [usS] at h
  | cons o l ih =>
    cases tr with
    | nil => simp [usS] at h
    | cons p tr =>
      obtain ⟨x, ef⟩ := p
      cases j with
      | zero =>
        simp only [usS, List.getElem?_cons_zero, Option.some.injEq] at h
        by_cases hd : o.dst = some t
        · rw [if_pos hd] at h; cases h; exact ⟨o, ef, rfl, rfl, hd⟩
        · rw [if_neg hd] at h; cases h
      | succ j => exact ih (by simpa [usS] using h)
theorem usB_some {e : Nat} {l : List Oper} {tr : Trc} {j : Nat} {v : List SV} (h : (usB e l tr)[j]? = some (some v)) : ∃ o x, l[j]? = some o ∧ tr[j]? = some (x, .box e v) := by
  induction l generalizing tr j with
  | nil => simp [usB] at h
  | cons o l ih =>
    cases tr with
    | nil => simp [usB] at h
    | cons p tr =>
      obtain ⟨x, ef⟩ := p
      cases j with
      | zero =>
        simp only [usB, List.getElem?_cons_zero, Option.some.injEq] at h
        cases ef with
        | box i cs =>
          simp only [bOf] at h
          by_cases hd : e = i
          · rw [if_pos hd] at h; cases h; subst hd; exact ⟨o, x, rfl, rfl⟩
          · rw [if_neg hd] at h; cases h
        | _ => cases h
      | succ j => exact ih (by simpa [usB] using h)
theorem usT_some {e : Nat} {l : List Oper} {tr : Trc} {j : Nat} {v : Nat} (h : (usT e l tr)[j]? = some (some v)) : ∃ o x, l[j]? = some o ∧ tr[j]? = some (x, .tok e v) := by
  induction l generalizing tr j with
  | nil => simp [usT] at h
  | cons o l ih =>
    cases tr with
    | nil => simp [usT] at h
    | cons p tr =>
      obtain ⟨x, ef⟩ := p
      cases j with
      | zero =>
        simp only [usT, List.getElem?_cons_zero, Option.some.injEq] at h
        cases ef with
        | tok i cs =>
          simp only [tOf] at h
          by_cases hd : e = i
          · rw [if_pos hd] at h; cases h; subst hd; exact ⟨o, x, rfl, rfl⟩
          · rw [if_neg hd] at h; cases h
        | _ => cases h
      | succ j => exact ih (by simpa [usT] using h)
theorem usS_at {t : Nat} {l : List Oper} {tr : Trc} {j : Nat} {o : Oper} {x : SV} {ef : Ef} (h1 : l[j]? = some o) (h2 : tr[j]? = some (x, ef)) : (usS t l tr)[j]? = some (if o.dst = some t then some x else none) := by
  induction l generalizing tr j with
  | nil => simp at h1
  | cons o' l ih =>
    cases tr with
    | nil => simp at h2
    | cons p tr =>
      obtain ⟨x', ef'⟩ := p
      cases j with
      | zero => simp at h1 h2; subst h1; obtain ⟨rfl, rfl⟩ := h2; rfl
      | succ j => exact ih (by simpa using h1) (by simpa using h2)
theorem usB_at {t : Nat} {l : List Oper} {tr : Trc} {j : Nat} {o : Oper} {x : SV} {ef : Ef} (h1 : l[j]? = some o) (h2 : tr[j]? = some (x, ef)) : (usB t l tr)[j]? = some (bOf t ef) := by
  induction l generalizing tr j with
  | nil => simp at h1
  | cons o' l ih =>
    cases tr with
    | nil => simp at h2
    | cons p tr =>
      obtain ⟨x', ef'⟩ := p
      cases j with
      | zero => simp at h1 h2; subst h1; obtain ⟨rfl, rfl⟩ := h2; rfl
      | succ j => exact ih (by simpa using h1) (by simpa using h2)
theorem usT_at {t : Nat} {l : List Oper} {tr : Trc} {j : Nat} {o : Oper} {x : SV} {ef : Ef} (h1 : l[j]? = some o) (h2 : tr[j]? = some (x, ef)) : (usT t l tr)[j]? = some (tOf t ef) := by
  induction l generalizing tr j with
  | nil => simp at h1
  | cons o' l ih =>
    cases tr with
    | nil => simp at h2
    | cons p tr =>
      obtain ⟨x', ef'⟩ := p
      cases j with
      | zero => simp at h1 h2; subst h1; obtain ⟨rfl, rfl⟩ := h2; rfl
      | succ j => exact ih (by simpa using h1) (by simpa using h2)

section
variable {P : Program} {l : List Oper} {tr : Trc} {st : PS}

structure Drawn (l : List Oper) : Prop where
  edge : ∀ (i : Nat) o, l[i]? = some o → ∀ e ∈ o.after, Region.binds .any e = true → e.on < i
  rd : ∀ (i j : Nat) oi oj t, l[i]? = some oi → l[j]? = some oj → i ≠ j → oj.dst = some t → t ∈ oi.looksAt l.toArray → ordB l i j = true
  ww : ∀ (i j : Nat) oi oj t, l[i]? = some oi → l[j]? = some oj → i ≠ j → oi.dst = some t → oj.dst = some t → ordB l i j = true
  mem : ∀ (i j : Nat) oi oj, l[i]? = some oi → l[j]? = some oj → i ≠ j → isWr oi.op = true → isT oj.op = true → ordB l i j = true
  new : ∀ (i j : Nat) oi oj, l[i]? = some oi → l[j]? = some oj → isNew oi.op = true → isStore oj.op = true → ordB l i j = true

theorem drawn_of (h : drawB l = true) : Drawn l := by
  unfold drawB at h
  rw [Bool.and_eq_true, Bool.and_eq_true, Bool.or_eq_true] at h
  obtain ⟨⟨h1, h2⟩, h3⟩ := h
  have pr : ∀ (i j : Nat) oi oj, l[i]? = some oi → l[j]? = some oj → i ≠ j → (match oj.dst with | some t => (oi.looksAt l.toArray).any (Nat.beq t) || (match oi.dst with | some t' => Nat.beq t t' | none => false) | none => false) = true ∨ (isWr oi.op && isT oj.op) = true → ordB l i j = true := by
    intro i j oi oj hi hj hij hh
    have h4 := allIx_spec (allIx_spec h2 i oi hi) j oj hj
    rw [Nat.zero_add, Nat.zero_add] at h4
    unfold pairB at h4
    rw [Bool.or_eq_true, Bool.or_eq_true, Bool.and_eq_true, Bool.not_eq_true', Bool.not_eq_true'] at h4
    rcases h4 with h4 | ⟨h4, h5⟩ | h4
    · exact absurd (Nat.eq_of_beq_eq_true h4) hij
    · rcases hh with hh | hh
      · rw [hh] at h4; cases h4
      · rw [hh] at h5; cases h5
    · exact h4
  refine ⟨fun i o hi e he hb => ?_, fun i j oi oj t hi hj hij hd ht => pr i j oi oj hi hj hij (.inl ?_), fun i j oi oj t hi hj hij hd hd' => pr i j oi oj hi hj hij (.inl ?_), fun i j oi oj hi hj hij hw ht => pr i j oi oj hi hj hij (.inr (by rw [hw, ht]; rfl)), ?_⟩
  · have h4 := allIx_spec h1 i o hi
    rw [List.all_eq_true] at h4
    have h5 := h4 e (Array.mem_toList_iff.2 he)
    rw [Bool.or_eq_true, Bool.not_eq_true', hb] at h5
    rcases h5 with h5 | h5
    · cases h5
    · rw [Nat.zero_add] at h5; exact Nat.le_of_ble_eq_true h5
  · rw [hd]
    simp only [Bool.or_eq_true]
    left
    rw [List.any_eq_true]
    exact ⟨t, ht, Nat.beq_refl t⟩
  · rw [hd, hd']
    simp [Nat.beq_refl]
  · intro i j oi oj hi hj hn hs
    rcases h3 with h3 | h3
    · rw [List.all_eq_true] at h3
      have := h3 oi (List.mem_of_getElem? hi)
      rw [hn] at this
      cases this
    · have h4 := allIx_spec h3 i oi hi
      rw [hn, Bool.not_true, Bool.false_or] at h4
      have h5 := allIx_spec h4 j oj hj
      rw [hs, Bool.not_true, Bool.false_or, Nat.zero_add, Nat.zero_add] at h5
      exact h5

/-- what kind of operation writes a box, a row -/
theorem writer_box (ht : TrOk P l tr st) {j e : Nat} {cs : List SV} (h : (usB e l tr)[j]? = some (some cs)) : ∃ o x, l[j]? = some o ∧ tr[j]? = some (x, .box e cs) ∧ (isStore o.op = true ∨ (isNew o.op = true ∧ o.dst = some e ∧ (stD (fun k => Nat.blt k j) 0 l tr st).bget e = none)) := by
  obtain ⟨o, x, h1, h2⟩ := usB_some h
  refine ⟨o, x, h1, h2, ?_⟩
  rcases ht.step j o x _ h1 h2 with ⟨-, h3, -⟩ | ⟨-, h3, -⟩
  · unfold opOk at h3
    rw [Bool.and_eq_true] at h3
    have h4 := h3.1
    simp only [Bool.or_eq_true, Bool.and_eq_true] at h4
    rcases h4 with h4 | ⟨⟨h4, h5⟩, h6⟩
    · exact .inl h4
    · refine .inr ⟨h4, ?_, by simpa using h6⟩
      cases hd : o.dst with
      | none => rw [hd] at h5; cases h5
      | some d => rw [hd] at h5; rw [Nat.eq_of_beq_eq_true h5]
  · cases h3
theorem writer_tok (ht : TrOk P l tr st) {j e n : Nat} (h : (usT e l tr)[j]? = some (some n)) : ∃ o, l[j]? = some o ∧ isApp o.op = true := by
  obtain ⟨o, x, h1, h2⟩ := usT_some h
  refine ⟨o, h1, ?_⟩
  rcases ht.step j o x _ h1 h2 with ⟨-, h3, -⟩ | ⟨-, h3, -⟩
  · unfold opOk at h3
    rw [Bool.and_eq_true] at h3
    exact h3.1
  · cases h3
theorem isT_of_wr {o : Op} (h : isWr o = true) : isT o = true := by
  unfold isWr isStore isApp at h
  cases o <;> first | rfl | simp at h

theorem get_agree (hd : Drawn l) {D : Nat → Bool} (hD : Down l D) {i : Nat} {o : Oper} (hi : l[i]? = some o) (hDi : D i = false) (hr : ∀ e ∈ o.after, Region.binds .any e = true → D e.on = true) (t : Nat) (hl : t ∈ o.looksAt l.toArray) :
    (stD D 0 l tr st).get t = (stD (fun k => Nat.blt k i) 0 l tr st).get t := by
  rw [stD_get, stD_get]
  congr 1
  refine lastV_congr _ _ fun j v hj => ?_
  obtain ⟨oj, ef, h1, -, h3⟩ := usS_some hj
  rw [Nat.zero_add]
  by_cases hij : i = j
  · subst hij
    rw [hDi]
    exact (by rw [← Bool.not_eq_true]; intro e; have := Nat.le_of_ble_eq_true e; omega : Nat.blt i i = false).symm
  · exact before_of hD hij (hd.rd i j o oj t hi h1 hij h3 hl) hDi fun o' ho' => by rw [hi] at ho'; cases ho'; exact hr

theorem blt_self (i : Nat) : Nat.blt i i = false := by rw [← Bool.not_eq_true]; intro e; have := Nat.le_of_ble_eq_true e; omega

theorem bget_agree (hd : Drawn l) (ht : TrOk P l tr st) {D : Nat → Bool} (hD : Down l D) {i : Nat} {o : Oper} (hi : l[i]? = some o) (hDi : D i = false) (hr : ∀ e ∈ o.after, Region.binds .any e = true → D e.on = true) (hT : isT o.op = true) (e : Nat)
    (h1 : (stD (fun k => Nat.blt k i) 0 l tr st).bget e ≠ none) (h2 : (stD D 0 l tr st).bget e ≠ none) : (stD D 0 l tr st).bget e = (stD (fun k => Nat.blt k i) 0 l tr st).bget e := by
  have hr' : ∀ o', l[i]? = some o' → ∀ e ∈ o'.after, Region.binds .any e = true → D e.on = true := fun o' ho' => by rw [hi] at ho'; cases ho'; exact hr
  rw [stD_bget] at h1 h2
  rw [stD_bget, stD_bget]
  congr 1
  refine lastV_congr _ _ fun j v hj => ?_
  rw [Nat.zero_add]
  obtain ⟨oj, x, h3, h4, h5⟩ := writer_box ht hj
  by_cases hij : i = j
  · subst hij; rw [hDi]; exact (blt_self i).symm
  rcases h5 with h5 | ⟨h5, h6, h7⟩
  · refine before_of hD hij ?_ hDi hr'
    exact ordB_symm (Ne.symm hij) (hd.mem j i oj o h3 hi (Ne.symm hij) (by simp [isWr, h5]) hT)
  · -- a box that was made here: it has one maker alone
    have h0 : st.bget e = none := by
      rw [stD_bget] at h7
      cases hb : st.bget e with
      | none => rfl
      | some c => rw [hb] at h7; cases hx : lastV (fun k => Nat.blt k j) 0 (usB e l tr) <;> rw [hx] at h7 <;> cases h7
    have seen : ∀ (j1 j2 : Nat) c1, (usB e l tr)[j1]? = some (some c1) → j1 < j2 → (stD (fun k => Nat.blt k j2) 0 l tr st).bget e = none → False := by
      intro j1 j2 c1 g1 hlt g7
      rw [stD_bget] at g7
      have := lastV_all (L := fun k => Nat.blt k j2) (usB e l tr) 0 j1 g1 (by rw [Nat.zero_add]; exact Nat.ble_eq_true_of_le hlt)
      cases hx : lastV (fun k => Nat.blt k j2) 0 (usB e l tr) with
      | none => exact this hx
      | some c => rw [hx] at g7; cases g7
    have one : ∀ L : Nat → Bool, Down l L → (lastV L 0 (usB e l tr)).or (st.bget e) ≠ none → L j = true := by
      intro L hLd hL
      rw [h0] at hL
      cases hx : lastV L 0 (usB e l tr) with
      | none => rw [hx] at hL; exact absurd rfl hL
      | some c =>
        obtain ⟨j', g1, g2⟩ := lastV_some _ _ hx
        rw [Nat.zero_add] at g2
        rcases Nat.lt_trichotomy j j' with h | h | h
        · obtain ⟨o2, x2, g3, g4, g5⟩ := writer_box ht g1
          rcases g5 with g5 | ⟨-, -, g7⟩
          · have hord := hd.new j j' oj o2 h3 g3 h5 g5
            unfold ordB at hord
            rw [blt_t h, cond_true] at hord
            exact pre_mem hLd _ j j' hord fun o' ho' => hLd j' o' ho' g2
          · exact (seen j j' _ hj h g7).elim
        · rw [h]; exact g2
        · exact (seen j' j _ g1 h h7).elim
    have hdn : Down l (fun k => Nat.blt k i) := fun k o' ho' hk e' he' hb' => by
      have h8 := hd.edge k o' ho' e' he' hb'
      have h9 := Nat.le_of_ble_eq_true hk
      exact blt_t (by omega)
    rw [one D hD h2]
    exact (one _ hdn h1).symm

theorem tget_agree (hd : Drawn l) (ht : TrOk P l tr st) {D : Nat → Bool} (hD : Down l D) {i : Nat} {o : Oper} (hi : l[i]? = some o) (hDi : D i = false) (hr : ∀ e ∈ o.after, Region.binds .any e = true → D e.on = true) (hT : isT o.op = true) (e : Nat) :
    (stD D 0 l tr st).tget e = (stD (fun k => Nat.blt k i) 0 l tr st).tget e := by
  have hr' : ∀ o', l[i]? = some o' → ∀ e ∈ o'.after, Region.binds .any e = true → D e.on = true := fun o' ho' => by rw [hi] at ho'; cases ho'; exact hr
  rw [stD_tget, stD_tget]
  congr 1
  refine lastV_congr _ _ fun j v hj => ?_
  rw [Nat.zero_add]
  obtain ⟨oj, h3, h5⟩ := writer_tok ht hj
  by_cases hij : i = j
  · subst hij; rw [hDi]; exact (blt_self i).symm
  refine before_of hD hij ?_ hDi hr'
  exact ordB_symm (Ne.symm hij) (hd.mem j i oj o h3 hi (Ne.symm hij) (by simp [isWr, h5]) hT)

theorem agree (hd : Drawn l) (ht : TrOk P l tr st) {D : Nat → Bool} (hD : Down l D) {i : Nat} {o : Oper} (hi : l[i]? = some o) (hDi : D i = false) (hr : ∀ e ∈ o.after, Region.binds .any e = true → D e.on = true) {ef : Ef} (hk : opOk o (stD (fun k => Nat.blt k i) 0 l tr st) ef = true)
    {B : Nat} {w0 : Cx} {g : Gh} {a : Act} {w : World} (hrep : Rep B w0 g (stD D 0 l tr st) a w) : Agr o (stD (fun k => Nat.blt k i) 0 l tr st) (stD D 0 l tr st) := by
  have hev : ∀ y ∈ o.op.operands, (stD D 0 l tr st).ev y = (stD (fun k => Nat.blt k i) 0 l tr st).ev y := by
    intro y hy
    cases y with
    | tmp t =>
      refine get_agree hd hD hi hDi hr t ?_
      unfold Oper.looksAt
      refine List.mem_append.2 (.inl (List.mem_filterMap.2 ⟨.tmp t, Array.mem_toList_iff.2 hy, rfl⟩))
    | _ => rfl
  unfold opOk at hk
  rw [Bool.and_eq_true, Bool.or_eq_true, Bool.not_eq_true'] at hk
  have hops : isT o.op = true → ∀ y ∈ o.op.operands, (match (stD (fun k => Nat.blt k i) 0 l tr st).ev y with
    | .bx i' _ => ((stD (fun k => Nat.blt k i) 0 l tr st).bget i').isSome
    | .fn _ caps => caps.all fun c => ((stD (fun k => Nat.blt k i) 0 l tr st).bget c).isSome
    | _ => true) = true := by
    intro hT y hy
    rcases hk.2 with h | h
    · rw [hT] at h; cases h
    · rw [Array.all_eq_true_iff_forall_mem] at h
      exact h y hy
  refine ⟨by rw [stD_n, stD_n], hev, fun hT y hy e off hye => ?_, fun hT y hy f caps hye c hc => ?_, fun hT y hy t k es hye => tget_agree hd ht hD hi hDi hr hT t, fun hN d hdst hnone => ?_⟩
  · have h1 := hops hT y hy
    rw [hye] at h1
    refine bget_agree hd ht hD hi hDi hr hT e (by simp only at h1; intro e'; rw [e'] at h1; cases h1) ?_
    have h2 := hrep.eval y
    rw [hev y hy, hye] at h2
    obtain ⟨b, h3, -⟩ := h2
    exact hrep.dom e b h3
  · have h1 := hops hT y hy
    rw [hye] at h1
    simp only [List.all_eq_true] at h1
    refine bget_agree hd ht hD hi hDi hr hT c (by have := h1 c hc; intro e'; rw [e'] at this; cases this) ?_
    have h2 := hrep.eval y
    rw [hev y hy, hye] at h2
    obtain ⟨bs, -, h3, h4⟩ := h2
    obtain ⟨q, hq⟩ := List.mem_iff_getElem?.1 hc
    have hlt : q < bs.length := by rw [h3]; exact (List.getElem?_eq_some_iff.1 hq).1
    exact hrep.dom c _ (h4 q _ c (List.getElem?_eq_getElem hlt) hq)
  · -- nobody else has made a box for this slot
    rw [stD_bget] at hnone ⊢
    have h0 : st.bget d = none := by
      cases hb : st.bget d with
      | none => rfl
      | some c => rw [hb] at hnone; cases hx : lastV (fun k => Nat.blt k i) 0 (usB d l tr) <;> rw [hx] at hnone <;> cases hnone
    rw [h0] at hnone ⊢
    have hlast : lastV (fun k => Nat.blt k i) 0 (usB d l tr) = none := by simpa using hnone
    rw [lastV_none _ _ fun j v hj => ?_]
    · rfl
    · rw [Nat.zero_add]
      by_cases hij : i = j
      · subst hij; exact hDi
      obtain ⟨oj, x, h3, h4, h5⟩ := writer_box ht hj
      have hge : ¬ j < i := fun hlt => by
        have := lastV_all (L := fun k => Nat.blt k i) (usB d l tr) 0 j hj (by rw [Nat.zero_add]; exact blt_t hlt)
        exact this hlast
      rcases h5 with h5 | ⟨h5, h6, -⟩
      · have := before_of hD hij (hd.new i j o oj hi h3 hN h5) hDi fun o' ho' => by rw [hi] at ho'; cases ho'; exact hr
        rw [this]
        exact blt_f hge
      · have := before_of hD hij (hd.ww i j o oj d hi h3 hij hdst h6) hDi fun o' ho' => by rw [hi] at ho'; cases ho'; exact hr
        rw [this]
        exact blt_f hge

/-- one operation more -/
theorem stD_add (hd : Drawn l) (ht : TrOk P l tr st) {D D' : Nat → Bool} (hD : Down l D) {i : Nat} {o : Oper} {x : SV} {ef : Ef} (hi : l[i]? = some o) (hx : tr[i]? = some (x, ef)) (hDi : D i = false) (hr : ∀ e ∈ o.after, Region.binds .any e = true → D e.on = true) (hD' : ∀ j, D' j = (D j || Nat.beq j i)) :
    (stD D' 0 l tr st).n = (((stD D 0 l tr st).eff ef).put o.dst x).n ∧ (∀ t, (stD D' 0 l tr st).get t = (((stD D 0 l tr st).eff ef).put o.dst x).get t) ∧ (∀ e, (stD D' 0 l tr st).bget e = (((stD D 0 l tr st).eff ef).put o.dst x).bget e) ∧ ∀ e, (stD D' 0 l tr st).tget e = (((stD D 0 l tr st).eff ef).put o.dst x).tget e := by
  have hr' : ∀ o', l[i]? = some o' → ∀ e ∈ o'.after, Region.binds .any e = true → D e.on = true := fun o' ho' => by rw [hi] at ho'; cases ho'; exact hr
  have hne : ∀ j, j ≠ i → D' j = D j := fun j hj => by
    have : Nat.beq j i = false := by rw [← Bool.not_eq_true]; intro e; exact hj (Nat.eq_of_beq_eq_true e)
    rw [hD', this, Bool.or_false]
  have heq : D' i = true := by rw [hD', Nat.beq_refl, Bool.or_true]
  refine ⟨?_, fun t => ?_, fun e => ?_, fun e => ?_⟩
  · rw [stD_n, n_put]
    cases ef <;> exact (stD_n _ _ _ _ _).symm
  · rw [stD_get, put_get, eff_get, stD_get]
    have hat := usS_at (t := t) hi hx
    by_cases hdt : o.dst = some t
    · rw [if_pos hdt] at hat ⊢
      rw [lastV_at _ 0 i hat (by rw [Nat.zero_add]; exact heq) fun j u hij hu => ?_]
      · rfl
      · obtain ⟨oj, ef', h1, -, h3⟩ := usS_some hu
        rw [Nat.zero_add, hne j (by omega), before_of hD (by omega) (hd.ww i j o oj t hi h1 (by omega) hdt h3) hDi hr']
        exact blt_f (by omega)
    · rw [if_neg hdt] at hat ⊢
      congr 1
      refine lastV_congr _ _ fun j v hj => ?_
      rw [Nat.zero_add]
      refine hne j fun e => ?_
      subst e
      rw [hat] at hj
      cases hj
  · rw [stD_bget, bget_put, eff_bget, stD_bget]
    have hat := usB_at (t := e) hi hx
    cases hb : bOf e ef with
    | some cs =>
      rw [hb] at hat
      rw [lastV_at _ 0 i hat (by rw [Nat.zero_add]; exact heq) fun j u hij hu => ?_]
      · rfl
      · rw [Nat.zero_add, hne j (by omega)]
        obtain ⟨oi, xi, g1, g2, g3⟩ := writer_box ht hat
        rw [hi] at g1
        cases g1
        obtain ⟨oj, xj, h1, h2, h3⟩ := writer_box ht hu
        have hord : ordB l i j = true := by
          rcases g3 with g3 | ⟨g3, g4, -⟩
          · rcases h3 with h3 | ⟨h3, -, -⟩
            · exact hd.mem i j o oj hi h1 (by omega) (by simp [isWr, g3]) (isT_of_wr (by simp [isWr, h3]))
            · exact ordB_symm (by omega) (hd.new j i oj o h1 hi h3 g3)
          · rcases h3 with h3 | ⟨h3, h4, -⟩
            · exact hd.new i j o oj hi h1 g3 h3
            · exact hd.ww i j o oj e hi h1 (by omega) g4 h4
        rw [before_of hD (by omega) hord hDi hr']
        exact blt_f (by omega)
    | none =>
      rw [hb] at hat
      rw [Option.none_or]
      congr 1
      refine lastV_congr _ _ fun j v hj => ?_
      rw [Nat.zero_add]
      refine hne j fun e' => ?_
      subst e'
      rw [hat] at hj
      cases hj
  · rw [stD_tget, tget_put, eff_tget, stD_tget]
    have hat := usT_at (t := e) hi hx
    cases hb : tOf e ef with
    | some n =>
      rw [hb] at hat
      rw [lastV_at _ 0 i hat (by rw [Nat.zero_add]; exact heq) fun j u hij hu => ?_]
      · rfl
      · rw [Nat.zero_add, hne j (by omega)]
        obtain ⟨oi, g1, g3⟩ := writer_tok ht hat
        rw [hi] at g1
        cases g1
        obtain ⟨oj, h1, h3⟩ := writer_tok ht hu
        rw [before_of hD (by omega) (hd.mem i j o oj hi h1 (by omega) (by simp [isWr, g3]) (isT_of_wr (by simp [isWr, h3]))) hDi hr']
        exact blt_f (by omega)
    | none =>
      rw [hb] at hat
      rw [Option.none_or]
      congr 1
      refine lastV_congr _ _ fun j v hj => ?_
      rw [Nat.zero_add]
      refine hne j fun e' => ?_
      subst e'
      rw [hat] at hj
      cases hj

theorem want_agree (hd : Drawn l) {D : Nat → Bool} (hD : Down l D) {i : Nat} {o : Oper} (hi : l[i]? = some o) (hDi : D i = false) (hr : ∀ e ∈ o.after, Region.binds .any e = true → D e.on = true) : (stD D 0 l tr st).want l.toArray o = (stD (fun k => Nat.blt k i) 0 l tr st).want l.toArray o := by
  unfold PS.want
  cases hg : o.guard with
  | none => rfl
  | some p =>
    obtain ⟨j, b⟩ := p
    simp only
    cases hdst : (l.toArray[j]?).bind (·.dst) with
    | none => rfl
    | some d =>
      simp only
      rw [stD_n, stD_n, get_agree hd hD hi hDi hr d ?_]
      unfold Oper.looksAt
      refine List.mem_append.2 (.inr ?_)
      rw [hg]
      rw [List.getElem?_toArray] at hdst
      simp [hdst]

theorem drawn_sound {K : PS → Prop} (hd : Drawn l) (ht : TrOk P l tr st) (hK : K (stD (fun _ => true) 0 l tr st)) {B : Nat} {w0 : Cx} {Q : Exit → PS → Prop} (hQ : ∀ s, K s → Q .normal s) :
    ∀ (fuel : Nat) (listed : Array Bool) (g : Gh) (a : Act) (w : World), listed.size = l.length → (listed.toList.count false) ≤ fuel → Down l (fun k => listed.getD k false) → Rep B w0 g (stD (fun k => listed.getD k false) 0 l tr st) a w → wpAny P .any l.toArray (Post B w0 Q) fuel listed a w := by
  have fin : ∀ (listed : Array Bool) (g : Gh) (a : Act) (w : World), listed.size = l.length → Region.ready .any l.toArray listed = [] → Rep B w0 g (stD (fun k => listed.getD k false) 0 l tr st) a w → Post B w0 Q .normal a w := by
    intro listed g a w hsz hready hrep
    have hall : ∀ n, n ≤ l.length → ∀ k, k < n → listed.getD k false = true := by
      intro n
      induction n with
      | zero => intro _ k hk; omega
      | succ n ih =>
        intro hn k hk
        rcases Nat.lt_succ_iff_lt_or_eq.1 hk with h | h
        · exact ih (by omega) k h
        · subst h
          cases hx : listed.getD k false with
          | true => rfl
          | false =>
            have hlt : k < listed.size := by omega
            have ho : l[k]? = some l[k] := List.getElem?_eq_getElem (by omega)
            have : k ∈ Region.ready .any l.toArray listed := by
              rw [mem_ready]
              refine ⟨by simpa [Array.getD, hlt] using hx, l[k], by simp, fun e he hb => ih (by omega) e.on (hd.edge k _ ho e he hb)⟩
            rw [hready] at this
            cases this
    refine ⟨g, stD (fun _ => true) 0 l tr st, hrep.congr (by rw [stD_n, stD_n]) (fun t => ?_) (fun t => ?_) (fun t => ?_), hQ _ hK⟩
    · rw [stD_get, stD_get]
      congr 1
      refine lastV_congr _ _ fun j v hj => ?_
      obtain ⟨o, ef, h1, -⟩ := usS_some hj
      rw [Nat.zero_add]
      exact (hall l.length (Nat.le_refl _) j (List.getElem?_eq_some_iff.1 h1).1).symm
    · rw [stD_bget, stD_bget]
      congr 1
      refine lastV_congr _ _ fun j v hj => ?_
      obtain ⟨o, ef, h1, -⟩ := usB_some hj
      rw [Nat.zero_add]
      exact (hall l.length (Nat.le_refl _) j (List.getElem?_eq_some_iff.1 h1).1).symm
    · rw [stD_tget, stD_tget]
      congr 1
      refine lastV_congr _ _ fun j v hj => ?_
      obtain ⟨o, ef, h1, -⟩ := usT_some hj
      rw [Nat.zero_add]
      exact (hall l.length (Nat.le_refl _) j (List.getElem?_eq_some_iff.1 h1).1).symm
  intro fuel
  induction fuel with
  | zero =>
    intro listed g a w hsz hc hdn hrep
    have hready : Region.ready .any l.toArray listed = [] := by
      cases hq : Region.ready .any l.toArray listed with
      | nil => rfl
      | cons k ks =>
        have : k ∈ Region.ready .any l.toArray listed := by rw [hq]; simp
        rw [mem_ready] at this
        obtain ⟨h1, o, h2, -⟩ := this
        have hlt : k < listed.size := by rw [hsz]; have := (Array.getElem?_eq_some_iff.1 h2).1; simpa using this
        have h3 : listed[k] = false := by simpa [Array.getD, hlt] using h1
        have : 0 < listed.toList.count false := List.count_pos_iff.2 (by rw [← h3]; simp)
        omega
    exact ⟨hready, fin listed g a w hsz hready hrep⟩
  | succ fuel ih =>
    intro listed g a w hsz hc hdn hrep
    refine ⟨fun hready => fin listed g a w hsz hready hrep, fun i hi => ?_⟩
    rw [mem_ready] at hi
    obtain ⟨h1, o, h2, h3⟩ := hi
    have hil : l[i]? = some o := by simpa using h2
    have hlt : i < l.length := (List.getElem?_eq_some_iff.1 hil).1
    have hDi : listed.getD i false = false := by simpa [Array.getD, show i < listed.size by omega] using h1
    obtain ⟨⟨x, ef⟩, hx⟩ : ∃ p, tr[i]? = some p := ⟨_, List.getElem?_eq_getElem (by rw [ht.len]; exact hlt)⟩
    have hset : ∀ j, (listed.setIfInBounds i true).getD j false = (listed.getD j false || Nat.beq j i) := fun j => by
      by_cases hji : j = i
      · subst hji
        simp [Array.getD, show j < listed.size by omega, Nat.beq_refl]
      · have : Nat.beq j i = false := by rw [← Bool.not_eq_true]; intro e; exact hji (Nat.eq_of_beq_eq_true e)
        rw [this, Bool.or_false]
        by_cases hjs : j < listed.size
        · simp [Array.getD, hjs, Ne.symm hji]
        · simp [Array.getD, hjs]
    have hdn' : Down l (fun k => (listed.setIfInBounds i true).getD k false) := by
      intro j oj hj hDj e he hb
      simp only [hset] at hDj ⊢
      rw [Bool.or_eq_true] at hDj ⊢
      left
      rcases hDj with hDj | hDj
      · exact hdn j oj hj hDj e he hb
      · rw [Nat.eq_of_beq_eq_true hDj, hil] at hj
        cases hj
        exact h3 e he hb
    have hcnt : (listed.setIfInBounds i true).toList.count false ≤ fuel := by
      have hlt' : i < listed.toList.length := by simp; omega
      have h4 : listed.toList[i] = false := by simpa [Array.getD, show i < listed.size by omega] using hDi
      have h5 := List.count_set (l := listed.toList) (a := true) (b := false) (i := i) hlt'
      have h6 : 0 < listed.toList.count false := List.count_pos_iff.2 (by rw [← h4]; simp)
      rw [Array.toList_setIfInBounds, h5, h4]
      simp only [beq_self_eq_true, if_true, show (true == false) = false from rfl, Bool.false_eq_true, if_false]
      omega
    have hadd := stD_add hd ht hdn hil hx hDi h3 (D' := fun k => (listed.setIfInBounds i true).getD k false) hset
    have next : ∀ g' a' w', Rep B w0 g' (((stD (fun k => listed.getD k false) 0 l tr st).eff ef).put o.dst x) a' w' → wpAny P .any l.toArray (Post B w0 Q) fuel (listed.setIfInBounds i true) a' w' := fun g' a' w' hr' =>
      ih _ g' a' w' (by simpa using hsz) hcnt hdn' (hr'.congr hadd.1 hadd.2.1 hadd.2.2.1 hadd.2.2.2)
    unfold wpOp
    rw [h2]
    simp only
    rcases ht.step i o x ef hil hx with ⟨h4, h5, h6⟩ | ⟨rfl, rfl, h5, h6⟩
    · have hw := want_spec hrep ((want_agree hd hdn hil hDi h3).trans h6)
      rw [if_pos hw]
      exact .inl (h4 _ (agree hd ht hdn hil hDi h3 h5 hrep) B w0 g a w _ _ hrep next)
    · have hw := want_spec hrep ((want_agree hd hdn hil hDi h3).trans h6)
      rw [if_neg (by rw [hw]; simp)]
      refine next g _ w (hrep.put SRep.undef _ ?_)
      intro q hq
      rw [stD_n]
      have := dstOk_spec h5 q hq
      rwa [stD_n] at this

theorem pw_draw {B : Nat} {w0 : Cx} {Q : Exit → PS → Prop} {id : Nat} (hm : P.follows .mixedOrders = true) (hb : drawB l = true) (h : YR P false l.toArray (Q .normal) l st) : PW P B w0 (.region id l.toArray true) Q st := fun g a w hr => by
  obtain ⟨tr, h1, h2, h3⟩ := h.trace 0
  have ht : TrOk P l tr st := ⟨h1, fun i o x ef hi hx => by have := h2 i o x ef hi hx; rwa [Nat.zero_add] at this⟩
  have hempty : ∀ k, (Array.replicate l.toArray.size false).getD k false = false := fun k => by
    by_cases hk : k < l.length <;> simp [Array.getD, hk]
  have hw : Rep B w0 g st a { w with drawn := w.drawn + 1 } := hr.grow ⟨rfl, rfl, rfl, Nat.le_refl _, fun _ _ => rfl⟩
  refine wp_region_any hm (drawn_sound (drawn_of hb) ht h3 (fun _ h => h) l.toArray.size _ g a _ (by simp) (by simp) (fun i o _ hD => ?_) (hw.congr (stD_n _ _ _ _ _) (fun t => ?_) (fun t => ?_) fun t => ?_))
  · exact absurd ((hempty i).symm.trans hD) (by simp)
  · rw [stD_get, lastV_none _ _ fun j v _ => hempty _]; rfl
  · rw [stD_bget, lastV_none _ _ fun j v _ => hempty _]; rfl
  · rw [stD_tget, lastV_none _ _ fun j v _ => hempty _]; rfl
end
end Go.Proofs.Ytilbolgncpfmmaa.Px

/- The logic of pure states: rows that grow, literals. -/
namespace Go.Proofs.Ytilbolgncpfmmaa.Px
open Go.RowKit

/-- a slice type that is appended to -/
class AppOf (P : Program) (T : TypeId) (E : outParam TypeId) (k : outParam Nat) (bytes : outParam Nat) : Prop where
  und : P.underlying T = some (.slice E)
  inf : ∃ i z, P.info? E = some i ∧ i.zero = some z ∧ i.size = k ∧ i.bytes = bytes ∧ z.cells.size = k

theorem appOf_mk {P : Program} {T E k bytes : Nat} {z : Value} (hu : P.underlying T = some (.slice E)) (h : (P.info? E).map (fun i => (i.zero, i.size, i.bytes)) = some (some z, k, bytes)) (hz : z.cells.size = k) : AppOf P T E k bytes := by
  obtain ⟨i, h1, h2, h3, h4⟩ := info_parts h
  exact ⟨hu, i, z, h1, h2, h3, h4, hz⟩
theorem own_of_tip {w : World} {B E k n : Nat} {v : Value} {xs : List Value} (h : w.ownsRow B E k v n xs) {A : Option Addr} {m c : Nat} (hv : v = .slice A m c) : m = n := by
  obtain ⟨A', c', h1, -⟩ := own_form h
  exact (Value.slice.inj (hv.symm.trans h1)).2.1

section
variable {P : Program} {st : PS} {d : Option Nat} {ty : TypeId} {pos : String} {af : Array Edge} {gd : Option (Nat × Bool)}

theorem ls_append (T : TypeId) (s x : Operand) {E k bytes t n : Nat} {es es2 : List (List DV)} [hA : AppOf P T E k bytes] (hs : st.ev s = .ts t k es) (ht : st.tget t = some n) (hn : n = es.length) (hx : asSl (st.ev x) = some (k, es2)) (hE : t / 100000 = E)
    (hb : (es.length + es2.length) * bytes ≤ 140737488351232) (hl : es.length + es2.length ≤ 140737488351232) (hd : dstOk ⟨d, .call { callee := .builtin .append, args := #[s, x], argTypes := #[T, T] }, ty, pos, af, gd⟩ st = true) :
    LocS P ⟨d, .call { callee := .builtin .append, args := #[s, x], argTypes := #[T, T] }, ty, pos, af, gd⟩ st (.ts t k (es ++ es2)) (.tok t (es.length + es2.length)) := fun st2 ha => by
  subst hn
  intro B w0 g a w K Q hr hK
  have h1 := hr.eval s
  rw [ha.ev s (by simp [Op.operands, Call.operands]), hs] at h1
  obtain ⟨h1, h2⟩ := h1
  obtain ⟨A1, c1, ys, hv1, hc1, hm1, hk1, hl1, hcell1, hone1, hrep1⟩ := DRep.row h1
  have h3 := hr.eval x
  rw [ha.ev x (by simp [Op.operands, Call.operands])] at h3
  obtain ⟨A2, c2, news, hv2, hc2, hm2, hk2, hl2, hcell2, hone2, hrep2⟩ := DRep.row (h3.asSl hx)
  obtain ⟨T', A, c, h4, h5⟩ := hr.tlen t es.length ((ha.tk rfl s (by simp [Op.operands, Call.operands]) t k es hs).trans ht)
  obtain ⟨h6, h7⟩ := h2 T' h4
  have h8 : a.eval s = T'.v := (h7 A es.length c h5).2 rfl
  obtain ⟨⟨n', xs, h9⟩, h10⟩ := hr.toks t T' h4
  obtain rfl : es.length = n' := own_of_tip h9 h5
  have hTE : T'.E = E := (hr.telt t T' h4).trans hE
  obtain ⟨i, z, q1, q2, q3, q4, q5⟩ := hA.inf
  rw [hTE, h6] at h9
  obtain ⟨v', w', r1, r2, r3, r4, r5, r6, r7⟩ := run_app (P := P) w B T ty E i z k bytes hA.und q1 q2 q3 q4 q5 T'.v es.length xs h9 A2 es2.length c2 news hl2 (fun h0 => by
    obtain ⟨b, off, rfl, hcell⟩ := hcell2 h0
    exact ⟨_, rfl, fun j u hj => by rw [Addr.add_lit]; exact (hcell j u hj).1⟩) hone2 (by unfold maxLen; omega) (by omega) hr.base
  have hxs : xs = ys := by
    apply List.ext_getElem?
    intro j
    have hlx := h9.1
    by_cases hj : j < es.length * k
    · have h0 : 0 < es.length := by
        rcases Nat.eq_zero_or_pos es.length with h0 | h0
        · rw [h0] at hj; simp at hj
        · exact h0
      obtain ⟨b, off, hA1, hcell⟩ := hcell1 h0
      obtain ⟨u, hu⟩ : ∃ u, ys[j]? = some u := ⟨_, List.getElem?_eq_getElem (by omega)⟩
      obtain ⟨u', hu'⟩ : ∃ u, xs[j]? = some u := ⟨_, List.getElem?_eq_getElem (by omega)⟩
      have e1 : T'.v = .slice (some ⟨b, off, none⟩) es.length c1 := by rw [← h8, hv1, hA1]
      have e2 := own_cell h9 (b := b) (by rw [e1]; rfl) j u' hu'
      obtain ⟨A3, c3, e3, -, e4⟩ := own_form h9
      have e5 := e4 b (by rw [e1]; rfl)
      have e6 : off = 0 := by
        have := e1.symm.trans e5
        have := (Value.slice.inj this).1
        simpa using this
      have e7 := (hcell j u hu).1
      rw [e6, Nat.zero_add, e2] at e7
      rw [hu, hu', Option.some.inj e7]
    · rw [List.getElem?_eq_none (by omega), List.getElem?_eq_none (by omega)]
  subst hxs
  obtain ⟨fx, hrep'⟩ := hr.app t es.length es2.length T' h4 xs news v' (by rw [hTE, h6]; exact h9) (by rw [hTE, h6]; exact r2) r3 (fun b hb hne => r4 b hb hne) (fun b o hb hb' ho => r5 b o hb hb' (by rw [← h6]; exact ho)) r6 r7
  have hrun : (execOp a.eval ⟨d, .call { callee := .builtin .append, args := #[s, x], argTypes := #[T, T] }, ty, pos, af, gd⟩).run P w = .ok (.value v') w' := by
    simp only [execOp, resolve, invoke, builtin, Sem.run_bind, Sem.run_pure, Result.andThen_ok, List.map_toArray, List.map_cons, List.map_nil, h8, hv2, r1]
  unfold Oper.wp
  rw [hrun]
  refine hK _ _ _ (hrep'.put (v := v') (x := .ts t k (es ++ es2)) ⟨?_, fun T2 hT2 => ?_⟩ _ (dstOk_spec (st := st2.tput t _) (ha.dst hd)))
  · obtain ⟨A3, c3, e3, e4, e5⟩ := own_form r2
    have e3' : v' = .slice A3 (es ++ es2).length c3 := by rw [List.length_append]; exact e3
    refine (congrArg (fun q => DRep (Fx (g.sett t ⟨v', T'.E, T'.k⟩)) w' q (.sl k (es ++ es2))) e3').mpr ?_
    refine DRep.of_row (xs := xs ++ news) (by rw [List.length_append]; exact e4) (by rw [List.length_append]; exact Nat.le_trans hl (by decide)) (fun e he => ?_) (fun h0 => ?_) (fun u hu => ?_) fun i j e y he hy => ?_
    · rcases List.mem_append.1 he with he | he
      · exact hk1 e he
      · exact hk2 e he
    · rcases r2.2 with ⟨e6, e7⟩ | ⟨gb, cap, cur, e6, e7, e8, -⟩
      · rw [List.length_append] at h0; omega
      · have e9 : A3 = some ⟨gb, 0, none⟩ := (Value.slice.inj (e3.symm.trans e6)).1
        refine ⟨gb, 0, e9, fun j u hj => ⟨?_, ?_⟩⟩
        · rw [Nat.zero_add]; exact own_cell r2 (by rw [e6]; rfl) j u hj
        · refine ⟨hrep'.f0.1 gb _ e7, fun i' hi' => ?_, fun t2 T2 n2 c2' hT2 hv2' => ?_⟩
          · exact (hrep'.toks t ⟨v', T'.E, T'.k⟩ (by simp [Gh.sett])).2 i' gb (by rw [show (⟨v', T'.E, T'.k⟩ : Tk).v = v' from rfl, e6]; rfl) hi'
          · have htt : t2 = t := hrep'.tdis t2 t T2 ⟨v', T'.E, T'.k⟩ gb hT2 (by simp [Gh.sett]) (by rw [hv2']; rfl) (by rw [show (⟨v', T'.E, T'.k⟩ : Tk).v = v' from rfl, e6]; rfl)
            subst htt
            simp only [Gh.sett, if_pos] at hT2
            cases hT2
            have e10 : n2 = es.length + es2.length := (Value.slice.inj ((show v' = _ from hv2').symm.trans e6)).2.1
            have hlt := (List.getElem?_eq_some_iff.1 hj).1
            rw [r2.1] at hlt
            show 0 + j < n2 * T'.k
            rw [e10, h6, Nat.zero_add]
            exact hlt
    · rcases List.mem_append.1 hu with hu | hu
      · exact hone1 u hu
      · exact hone2 u hu
    · by_cases hi : i < es.length
      · rw [List.getElem?_append_left hi] at he
        obtain ⟨u, e6, e7⟩ := hrep1 i j e y he hy
        refine ⟨u, ?_, e7.mono fx⟩
        rw [List.getElem?_append_left (List.getElem?_eq_some_iff.1 e6).1]
        exact e6
      · rw [List.getElem?_append_right (by omega)] at he
        obtain ⟨u, e6, e7⟩ := hrep2 (i - es.length) j e y he hy
        refine ⟨u, ?_, e7.mono fx⟩
        have : i * k + j - xs.length = (i - es.length) * k + j := by
          rw [h9.1, Nat.sub_mul]
          have := Nat.mul_le_mul_right k (show es.length ≤ i by omega)
          omega
        rw [List.getElem?_append_right (by rw [h9.1]; have := Nat.mul_le_mul_right k (show es.length ≤ i by omega); omega), this]
        exact e6
  · simp only [Gh.sett, if_pos] at hT2
    cases hT2
    refine ⟨h6, fun A3 n3 c3 e3 => ?_⟩
    have e4 : n3 = es.length + es2.length := own_of_tip r2 e3
    rw [List.length_append]
    exact ⟨by omega, fun _ => rfl⟩
end

/-- no slot holds the row t -/
def SV.noTs (t : Nat) : SV → Bool
  | .ts t' _ _ => !Nat.beq t' t
  | _ => true
def PS.noTs (st : PS) (t : Nat) : Bool := st.s.all (fun p => p.2.noTs t) && st.b.all fun p => p.2.all fun x => x.noTs t
theorem SRep.newt {g : Gh} {w : World} {v : Value} {x : SV} {t : Nat} {T : Tk} (h : SRep g w v x) (hx : x.noTs t = true) (hT : T.v = .slice none 0 0) : SRep (g.sett t T) w v x := by
  have fx : ∀ b o, Fx g b o → (w.cell? ⟨b, o, none⟩).isSome → Fx (g.sett t T) b o ∧ w.cell? ⟨b, o, none⟩ = w.cell? ⟨b, o, none⟩ := by
    refine fun b o hf _ => ⟨⟨hf.1, hf.2.1, fun t' T' n c h1 h2 => ?_⟩, rfl⟩
    simp only [Gh.sett] at h1
    by_cases e : t' = t
    · rw [if_pos e] at h1; cases h1; rw [hT] at h2; cases h2
    · rw [if_neg e] at h1; exact hf.2.2 t' T' n c h1 h2
  cases x with
  | any => trivial
  | d x => exact DRep.mono h fx
  | ts t' k es =>
    refine ⟨DRep.mono h.1 fx, fun T' hT' => ?_⟩
    simp only [Gh.sett] at hT'
    have hne : t' ≠ t := fun e => by rw [e] at hx; simp [SV.noTs, Nat.beq_refl] at hx
    rw [if_neg hne] at hT'
    exact h.2 T' hT'
  | bx i off => exact h
  | rd cs =>
    obtain ⟨b, off, f, h1, h2⟩ := h
    refine ⟨b, off, f, h1, fun j x hj => ?_⟩
    obtain ⟨h3, h4, h5', h5⟩ := h2 j x hj
    obtain ⟨h6, h7⟩ := fx _ _ h4 (by rw [h3]; rfl)
    exact ⟨h7.trans h3, h6, h5', h5.mono fx⟩
  | tup xs =>
    obtain ⟨vs, h1, h2, h3⟩ := h
    exact ⟨vs, h1, h2, fun i y x hy hx => (h3 i y x hy hx).mono fx⟩
  | fn f caps => exact h

/-- a variable that holds nil becomes a row of one's own -/
theorem pw_tok {P : Program} {B : Nat} {w0 : Cx} {Q : Exit → PS → Prop} {st : PS} {c : Code} (s t k : Nat) (hs : st.get s = .d (.val (.slice none 0 0))) (ht : st.tget t = none) (hno : st.noTs t = true) (h : PW P B w0 c Q ((st.put (some s) (.ts t k [])).tput t 0)) : PW P B w0 c Q st := fun g a w hr => by
  have hv := hr.slots s
  rw [hs] at hv
  have hv : a.tmps.getD s undef = .slice none 0 0 := DRep.val_eq hv
  have hno' := hno
  unfold PS.noTs at hno'
  rw [Bool.and_eq_true, List.all_eq_true, List.all_eq_true] at hno'
  have hgt : g.tk t = none := by
    cases e : g.tk t with
    | none => rfl
    | some T => exact absurd ht (hr.tdom t T e)
  refine h (g.sett t ⟨.slice none 0 0, t / 100000, k⟩) a w ⟨hr.below, hr.base, hr.f0, hr.size, hr.defers, fun i => ?_, fun i cs hi => ?_, hr.blk, hr.dom, hr.inj, fun t' T' hT' => ?_, fun t' T' hT' => ?_, fun t1 t2 T1 T2 b h1 h2 h3 h4 => ?_, fun t' T' hT' => ?_, fun t' n hn => ?_⟩
  · show SRep _ w _ ((st.put (some s) (.ts t k [])).get i)
    rw [get_put]
    by_cases e : i = s
    · rw [if_pos e, e, hv]
      refine ⟨DRep.nil, fun T hT => ?_⟩
      simp only [Gh.sett, if_pos] at hT
      cases hT
      refine ⟨rfl, fun A n c h1 => ?_⟩
      cases h1
      exact ⟨Nat.le_refl _, fun _ => rfl⟩
    · rw [if_neg e]
      refine (hr.slots i).newt ?_ rfl
      unfold PS.get
      cases e2 : aget st.s i with
      | none => rfl
      | some x => exact hno'.1 _ (aget_mem e2)
  · obtain ⟨b, xs, T, h1, h2, h3, h4, h5⟩ := hr.boxes i cs hi
    refine ⟨b, xs, T, h1, h2, h3, fun j c hj => ?_, h5⟩
    obtain ⟨x, h6, h7⟩ := h4 j c hj
    have h8 := hno'.2 _ (aget_mem hi)
    rw [List.all_eq_true] at h8
    exact ⟨x, h6, h7.newt (h8 c (List.mem_of_getElem? hj)) rfl⟩
  · simp only [Gh.sett] at hT'
    by_cases e : t' = t
    · rw [if_pos e] at hT'; cases hT'
      exact ⟨⟨0, [], World.ownsRow_nil _ _ _ _⟩, fun i b hb => by simp [Value.ownBlock] at hb⟩
    · rw [if_neg e] at hT'; exact hr.toks t' T' hT'
  · simp only [Gh.sett] at hT'
    by_cases e : t' = t
    · rw [if_pos e] at hT'; cases hT'; rw [e]
    · rw [if_neg e] at hT'; exact hr.telt t' T' hT'
  · simp only [Gh.sett] at h1 h2
    by_cases e1 : t1 = t
    · rw [if_pos e1] at h1; cases h1; simp [Value.ownBlock] at h3
    · by_cases e2 : t2 = t
      · rw [if_pos e2] at h2; cases h2; simp [Value.ownBlock] at h4
      · rw [if_neg e1] at h1; rw [if_neg e2] at h2; exact hr.tdis t1 t2 T1 T2 b h1 h2 h3 h4
  · rw [tget_tput]
    simp only [Gh.sett] at hT'
    by_cases e : t' = t
    · simp [e]
    · rw [if_neg e] at hT' ⊢; exact hr.tdom t' T' hT'
  · rw [tget_tput] at hn
    by_cases e : t' = t
    · rw [if_pos e] at hn; cases hn
      exact ⟨⟨.slice none 0 0, t / 100000, k⟩, none, 0, by simp [Gh.sett, e], rfl⟩
    · rw [if_neg e] at hn
      obtain ⟨T, A, c, h1, h2⟩ := hr.tlen t' n hn
      exact ⟨T, A, c, by simp [Gh.sett, e, h1], h2⟩
end Go.Proofs.Ytilbolgncpfmmaa.Px

/- The logic of pure states: literals, slices of slices, the small builtins. -/
namespace Go.Proofs.Ytilbolgncpfmmaa.Px
open Go.RowKit

/-! literals -/
def setV (cs : Array Value) : Nat → List Value → Array Value
  | _, [] => cs
  | off, v :: vs => setV (cs.setIfInBounds off v) (off + 1) vs
theorem foldl_setV (vs : List Value) (off k : Nat) (cs : Array Value) : (vs.zipIdx k).foldl (fun cs (p : Value × Nat) => cs.setIfInBounds (off + p.2) p.1) cs = setV cs (off + k) vs := by
  induction vs generalizing k cs with
  | nil => rfl
  | cons v vs ih =>
    rw [List.zipIdx_cons, List.foldl_cons, ih, setV]
    rfl
def setDs : List DV → Nat → List DV → List DV
  | cs, _, [] => cs
  | cs, off, x :: xs => setDs (cs.set off x) (off + 1) xs
theorem setDs_length (cs xs : List DV) (off : Nat) : (setDs cs off xs).length = cs.length := by
  induction xs generalizing cs off with
  | nil => rfl
  | cons x xs ih => rw [setDs, ih]; simp
structure Reps (F : Nat → Nat → Prop) (w : World) (vs : List Value) (xs : List DV) : Prop where
  len : vs.length = xs.length
  one : ∀ v ∈ vs, v.oneCell' = true
  rep : ∀ (i : Nat) v x, vs[i]? = some v → xs[i]? = some x → DRep F w v x
theorem Reps.set {F : Nat → Nat → Prop} {w : World} {vs : List Value} {xs : List DV} (h : Reps F w vs xs) (off : Nat) {v : Value} {x : DV} (hv : v.oneCell' = true) (hx : DRep F w v x) : Reps F w (vs.set off v) (xs.set off x) := by
  refine ⟨by simp [h.len], fun u hu => ?_, fun i u y hu hy => ?_⟩
  · rcases List.mem_or_eq_of_mem_set hu with h1 | h1
    · exact h.one u h1
    · rw [h1]; exact hv
  · by_cases e : i = off
    · subst e
      have h1 := (List.getElem?_eq_some_iff.1 hu).1
      rw [List.getElem?_set_self (by simpa using h1)] at hu
      have h2 := (List.getElem?_eq_some_iff.1 hy).1
      rw [List.getElem?_set_self (by simpa using h2)] at hy
      cases hu; cases hy; exact hx
    · rw [List.getElem?_set_ne (Ne.symm e)] at hu hy
      exact h.rep i u y hu hy
theorem Reps.setV {F : Nat → Nat → Prop} {w : World} {us : List Value} {ys : List DV} (h2 : Reps F w us ys) : ∀ {vs : Array Value} {xs : List DV} (off : Nat), Reps F w vs.toList xs → Reps F w (setV vs off us).toList (setDs xs off ys) := by
  induction us generalizing ys with
  | nil =>
    intro vs xs off h
    cases ys with
    | nil => exact h
    | cons => have := h2.len; simp at this
  | cons u us ih =>
    intro vs xs off h
    cases ys with
    | nil => have := h2.len; simp at this
    | cons y ys =>
      refine ih ⟨by simpa using h2.len, fun v hv => h2.one v (by simp [hv]), fun i v x hv hx => h2.rep (i + 1) v x (by simpa using hv) (by simpa using hx)⟩ (off + 1) ?_
      rw [Array.toList_setIfInBounds]
      exact h.set off (h2.one u (by simp)) (h2.rep 0 u y rfl rfl)

def dfill (place : Nat → Option (Nat × Nat)) (cs : List DV) : List (Nat × List DV) → Option (List DV)
  | [] => some cs
  | (i, xs) :: rest => match place i with
    | none => none
    | some (off, size) => bif Nat.beq xs.length size && Nat.ble (off + xs.length) cs.length then dfill place (setDs cs off xs) rest else none

theorem fill_reps {F : Nat → Nat → Prop} {w : World} {place : Nat → Option (Nat × Nat)} : ∀ (ps : List (Nat × Value)) (qs : List (Nat × List DV)) (vs : Array Value) (xs ys : List DV), ps.length = qs.length → (∀ (i : Nat) p q, ps[i]? = some p → qs[i]? = some q → p.1 = q.1 ∧ Reps F w p.2.cells.toList q.2) → Reps F w vs.toList xs → dfill place xs qs = some ys →
    ∃ us, Instr.fill place vs ps = some us ∧ Reps F w us.toList ys := by
  intro ps
  induction ps with
  | nil =>
    intro qs vs xs ys hl _ h hf
    cases qs with
    | nil => cases hf; exact ⟨vs, rfl, h⟩
    | cons => cases hl
  | cons p ps ih =>
    intro qs vs xs ys hl hp h hf
    cases qs with
    | nil => cases hl
    | cons q qs =>
      obtain ⟨i, v⟩ := p
      obtain ⟨i', zs⟩ := q
      obtain ⟨rfl, h1⟩ := hp 0 _ _ rfl rfl
      simp only [dfill] at hf
      split at hf
      · cases hf
      · rename_i off size hpl
        cases hb : Nat.beq zs.length size && Nat.ble (off + zs.length) xs.length with
        | false => rw [hb] at hf; cases hf
        | true =>
          rw [hb, cond_true] at hf
          rw [Bool.and_eq_true] at hb
          have e1 := Nat.eq_of_beq_eq_true hb.1
          have e2 := Nat.le_of_ble_eq_true hb.2
          have e3 : v.cells.size = zs.length := by simpa using h1.len
          have e4 : vs.size = xs.length := by simpa using h.len
          obtain ⟨us, h2, h3⟩ := ih qs (setV vs off v.cells.toList) (setDs xs off zs) ys (by simpa using hl) (fun j p q hp' hq' => hp (j + 1) p q (by simpa using hp') (by simpa using hq')) (h1.setV off h) hf
          refine ⟨us, ?_, h3⟩
          simp only [Instr.fill, hpl]
          rw [if_neg (by simp; omega)]
          have e5 : v.cells.zipIdx.foldl (fun cs (p : Value × Nat) => cs.setIfInBounds (off + p.2) p.1) vs = setV vs off v.cells.toList := by
            rw [← Array.foldl_toList, Array.toList_zipIdx]
            have := foldl_setV v.cells.toList off 0 vs
            simpa using this
          exact (congrArg (fun q => Instr.fill place q ps) e5).trans h2

/-- the cells of a part -/
def partD : SV → Option (List DV)
  | .d (.agg cs) => some cs
  | .d x => some [x]
  | .ts _ k es => some [.sl k es]
  | _ => none
theorem SRep.partD {g : Gh} {w : World} {v : Value} {x : SV} {ys : List DV} (h : SRep g w v x) (hx : partD x = some ys) : Reps (Fx g) w v.cells.toList ys := by
  have key : ∀ cs : List SV, toCells x = some cs → toDs cs = some ys → Reps (Fx g) w v.cells.toList ys := by
    intro cs h1 h2
    obtain ⟨h3, h4, h5⟩ := h.cells h1
    obtain ⟨h6, h7⟩ := toDs_get h2
    refine ⟨by simp [h3, h6], h4, fun i u y hu hy => ?_⟩
    obtain ⟨c, h8, h9⟩ := h7 i y hy
    obtain ⟨u', h10, h11⟩ := h5 i c h8
    have : u' = u := by
      have h12 : v.cells[i]? = some u := by simpa using hu
      rw [h10] at h12; exact Option.some.inj h12
    exact this ▸ h11.toD h9
  cases x with
  | d x =>
    cases x with
    | val u => cases hx; exact key _ rfl rfl
    | sl k es => cases hx; exact key _ rfl rfl
    | ref cs => cases hx; exact key _ rfl rfl
    | abs R => cases hx; exact key _ rfl rfl
    | agg cs =>
      cases hx
      have : ∀ l : List DV, toDs (l.map SV.d) = some l := by
        intro l
        induction l with
        | nil => rfl
        | cons z l ih => simp only [List.map_cons, toDs, ih]; rfl
      exact key _ rfl (this _)
  | ts t k es => cases hx; exact key _ rfl rfl
  | _ => cases hx

def partDs (st : PS) : List (Nat × Operand) → Option (List (Nat × List DV))
  | [] => some []
  | (i, x) :: l => match partD (st.ev x), partDs st l with
    | some y, some ys => some ((i, y) :: ys)
    | _, _ => none
theorem partDs_get {st : PS} {l : List (Nat × Operand)} {ys : List (Nat × List DV)} (h : partDs st l = some ys) : l.length = ys.length ∧ ∀ (j : Nat) p q, l[j]? = some p → ys[j]? = some q → p.1 = q.1 ∧ partD (st.ev p.2) = some q.2 := by
  induction l generalizing ys with
  | nil => cases h; exact ⟨rfl, fun j x y hj => by simp at hj⟩
  | cons p l ih =>
    obtain ⟨i, x⟩ := p
    simp only [partDs] at h
    split at h
    · rename_i y0 ys0 h1 h2
      cases h
      obtain ⟨h3, h4⟩ := ih h2
      refine ⟨by simp [h3], fun j x' y hx hy => ?_⟩
      cases j with
      | zero => simp at hx hy; subst hx hy; exact ⟨rfl, h1⟩
      | succ j => exact h4 j x' y (by simpa using hx) (by simpa using hy)
    · cases h
theorem partDs_congr {st st2 : PS} {l : List (Nat × Operand)} (h : ∀ p ∈ l, st2.ev p.2 = st.ev p.2) : partDs st2 l = partDs st l := by
  induction l with
  | nil => rfl
  | cons x l ih => obtain ⟨i, x⟩ := x; simp only [partDs]; rw [h (i, x) (by simp), ih fun y hy => h y (by simp [hy])]

/-- a struct type's literal: its places and zeros -/
class BuildOf (P : Program) (T : TypeId) (places : outParam (List (Nat × Nat))) (zs : outParam (List Value)) : Prop where
  run : ∀ w (parts : Array (Nat × Value)) cells, Instr.fill (places.toArray[·]?) zs.toArray parts.toList = some cells → (Instr.build T parts).run P w = .ok (.agg cells) w
  one : ∀ z ∈ zs, z.oneCell' = true
theorem buildOf_mk {P : Program} {T : TypeId} {places : List (Nat × Nat)} {zs : List Value} {z : Value} {fs : Array Field} (hz : ∀ w, (zeroValue T).run P w = .ok z w) (hzc : z.cells = zs.toArray) (hu : ∀ w, (underlying T).run P w = .ok (.struct fs) w)
    (hp : ∀ w, (fs.mapM fun f => do pure (f.offset, ← Go.sizeOf f.type) : Sem (Array (Nat × Nat))).run P w = .ok places.toArray w) (one : ∀ z ∈ zs, z.oneCell' = true) : BuildOf P T places zs := by
  refine ⟨fun w parts cells h => ?_, one⟩
  unfold Instr.build
  simp only [Sem.run_bind, hz, Result.andThen_ok, hu, hp, hzc, h, Sem.run_pure]

section
variable {P : Program} {st : PS} {d : Option Nat} {ty : TypeId} {pos : String} {af : Array Edge} {gd : Option (Nat × Bool)}
theorem ls_build (T : TypeId) (ps : List (Nat × Operand)) {places : List (Nat × Nat)} {zs : List Value} {qs : List (Nat × List DV)} {ys : List DV} [hB : BuildOf P T places zs] (hq : partDs st ps = some qs) (hf : dfill (places.toArray[·]?) (zs.map .val) qs = some ys) (hd : dstOk ⟨d, .build T ps.toArray, ty, pos, af, gd⟩ st = true) :
    LocS P ⟨d, .build T ps.toArray, ty, pos, af, gd⟩ st (.d (.agg ys)) .no := fun st2 ha =>
  OpS.value (ha.dst hd) fun _ _ g a w h => by
    have hq2 : partDs st2 ps = some qs := by
      rw [partDs_congr fun p hp => ha.ev p.2 ?_]
      · exact hq
      · simp only [Op.operands, List.mem_toArray, List.mem_map]
        exact ⟨p, hp, rfl⟩
    obtain ⟨h1, h2⟩ := partDs_get hq2
    obtain ⟨us, h3, h4⟩ := fill_reps (F := Fx g) (w := w) (ps.map fun p => (p.1, a.eval p.2)) qs zs.toArray (zs.map .val) ys (by simp [h1]) (fun i p q hp hq' => by
      rw [List.getElem?_map, Option.map_eq_some_iff] at hp
      obtain ⟨p', hp', rfl⟩ := hp
      obtain ⟨h5, h6⟩ := h2 i p' q hp' hq'
      exact ⟨h5, (h.eval p'.2).partD h6⟩) ⟨by simp, by simpa using hB.one, fun i v x hv hx => by
        rw [List.getElem?_map] at hx
        have hv' : zs[i]? = some v := by simpa using hv
        rw [hv'] at hx
        cases hx
        exact DRep.val v (hB.one v (List.mem_of_getElem? hv'))⟩ hf
    refine ⟨.agg us, w, ?_, Below.refl _ _, ?_⟩
    · simp only [execOp, Sem.run_bind, List.map_toArray]
      rw [hB.run w _ us (by simpa using h3)]
      rfl
    · have : us = us.toList.toArray := by simp
      rw [this]
      exact DRep.agg h4.len h4.one h4.rep

/-- rows of k cells -/
def chunk (k : Nat) : Nat → List DV → List (List DV)
  | 0, _ => []
  | n + 1, l => l.take k :: chunk k n (l.drop k)
theorem chunk_length (k n : Nat) (l : List DV) : (chunk k n l).length = n := by
  induction n generalizing l with
  | zero => rfl
  | succ n ih => simp [chunk, ih]
theorem chunk_get (k n : Nat) (l : List DV) (i j : Nat) (e : List DV) (x : DV) (he : (chunk k n l)[i]? = some e) (hx : e[j]? = some x) (hl : l.length = n * k) : l[i * k + j]? = some x ∧ e.length = k := by
  induction n generalizing l i with
  | zero => simp [chunk] at he
  | succ n ih =>
    rw [Nat.succ_mul] at hl
    cases i with
    | zero =>
      simp [chunk] at he
      subst he
      have hlen : (l.take k).length = k := by rw [List.length_take]; omega
      have hj := (List.getElem?_eq_some_iff.1 hx).1
      rw [hlen] at hj
      rw [List.getElem?_take_of_lt hj] at hx
      exact ⟨by simpa using hx, hlen⟩
    | succ i =>
      obtain ⟨h1, h2⟩ := ih (l.drop k) i (by simpa [chunk] using he) (by simp; omega)
      rw [List.getElem?_drop] at h1
      exact ⟨by rw [show (i + 1) * k + j = k + (i * k + j) by rw [Nat.succ_mul]; omega]; exact h1, h2⟩
theorem chunk_mem (k n : Nat) (l : List DV) (hl : l.length = n * k) : ∀ e ∈ chunk k n l, e.length = k := by
  induction n generalizing l with
  | zero => intro e he; simp [chunk] at he
  | succ n ih =>
    rw [Nat.succ_mul] at hl
    intro e he
    rcases List.mem_cons.1 he with h | h
    · rw [h, List.length_take]; omega
    · exact ih (l.drop k) (by simp; omega) e h

/-- a slice type's literal -/
class LitOf (P : Program) (T : TypeId) (E : outParam TypeId) (k : outParam Nat) (zs : outParam (List Value)) : Prop where
  und : ∀ w, (underlying T).run P w = .ok (.slice E) w
  size : ∀ w, (Go.sizeOf E).run P w = .ok k w
  zero : ∀ w, ∃ z, (zeroValue E).run P w = .ok z w ∧ z.cells = zs.toArray
  len : zs.length = k
  one : ∀ z ∈ zs, z.oneCell' = true

def zerosD (zs : List Value) : Nat → List DV
  | 0 => []
  | n + 1 => zs.map .val ++ zerosD zs n
theorem zerosD_length (zs : List Value) (n : Nat) : (zerosD zs n).length = n * zs.length := by
  induction n with
  | zero => simp [zerosD]
  | succ n ih => simp [zerosD, ih, Nat.succ_mul]; omega
theorem zerosD_get (zs : List Value) (n i : Nat) (x : DV) (hi : (zerosD zs n)[i]? = some x) : x = .val (zs.toArray[i % zs.length]!) ∧ zs.toArray[i % zs.length]! ∈ zs := by
  induction n generalizing i with
  | zero => simp [zerosD] at hi
  | succ n ih =>
    simp only [zerosD] at hi
    by_cases h : i < zs.length
    · rw [List.getElem?_append_left (by simpa using h), List.getElem?_map, List.getElem?_eq_getElem h] at hi
      rw [Nat.mod_eq_of_lt h]
      simp at hi
      simp [h, ← hi]
    · rw [List.getElem?_append_right (by simp; omega)] at hi
      simp only [List.length_map] at hi
      have h0 : 0 < zs.length := by
        rcases Nat.eq_zero_or_pos zs.length with h0 | h0
        · have hlt := (List.getElem?_eq_some_iff.1 hi).1
          rw [zerosD_length, h0] at hlt
          simp at hlt
        · exact h0
      have := ih (i - zs.length) hi
      rw [show (i - zs.length) % zs.length = i % zs.length from (Nat.mod_eq_sub_mod (by omega)).symm] at this
      exact this

theorem lit_core {T n : Nat} {ps : List (Nat × Operand)} {E k : Nat} {zs : List Value} {qs : List (Nat × List DV)} {ys : List DV} {es : List (List DV)} [hB : LitOf P T E k zs] {st2 : PS} (hq2 : partDs st2 ps = some qs) (hf : dfill (fun i => some (i * k, k)) (zerosD zs n) qs = some ys) (he : chunk k n ys = es) (hsm : n * k ≤ 16777216) (hsn : n ≤ 16777216) {B : Nat} {w0 : Cx} {g : Gh} {a : Act} {w : World} (h : Rep B w0 g st2 a w) :
    ∃ us : Array Value, (execOp a.eval ⟨d, .buildSlice T n ps.toArray, ty, pos, af, gd⟩).run P w = .ok (.value (.slice (some ⟨w.heap.size, 0, none⟩) n n)) (w.alloc (.cells us E)) ∧ us.size = n * k ∧ DRep (Fx g) (w.alloc (.cells us E)) (.slice (some ⟨w.heap.size, 0, none⟩) n n) (.sl k es) := by
  obtain ⟨h1, h2⟩ := partDs_get hq2
  have hz : Reps (Fx g) w ((Array.range (n * k)).map (zs.toArray[· % zs.toArray.size]!)).toList (zerosD zs n) := by
    refine ⟨by simp [zerosD_length, hB.len], fun v hv => ?_, fun i v x hv hx => ?_⟩
    · obtain ⟨i, hi⟩ := List.mem_iff_getElem?.1 hv
      have hlt := (List.getElem?_eq_some_iff.1 hi).1
      simp at hlt
      obtain ⟨x, hx⟩ : ∃ x, (zerosD zs n)[i]? = some x := ⟨_, List.getElem?_eq_getElem (by rw [zerosD_length, hB.len]; exact hlt)⟩
      have h5 := zerosD_get zs n i x hx
      simp [hlt] at hi
      rw [← hi]
      simpa using hB.one _ h5.2
    · have h5 := zerosD_get zs n i x hx
      have hlt := (List.getElem?_eq_some_iff.1 hv).1
      simp at hlt
      simp [hlt] at hv
      rw [h5.1]
      have h6 := hB.one _ h5.2
      have h7 : zs.toArray[i % zs.length]! = v := by rw [← hv]; simp
      rw [h7] at h6 ⊢
      exact DRep.val _ h6
  obtain ⟨us, h3, h4⟩ := fill_reps (F := Fx g) (w := w) (ps.map fun p => (p.1, a.eval p.2)) qs _ (zerosD zs n) ys (by simp [h1]) (fun i p q hp hq' => by
    rw [List.getElem?_map, Option.map_eq_some_iff] at hp
    obtain ⟨p', hp', rfl⟩ := hp
    obtain ⟨h5, h6⟩ := h2 i p' q hp' hq'
    exact ⟨h5, (h.eval p'.2).partD h6⟩) hz hf
  have hyl : ys.length = n * k := by
    have : ∀ (qs : List (Nat × List DV)) (xs ys : List DV), dfill (fun i => some (i * k, k)) xs qs = some ys → ys.length = xs.length := by
      intro qs
      induction qs with
      | nil => intro xs ys h; cases h; rfl
      | cons q qs ih =>
        intro xs ys h
        obtain ⟨i, z⟩ := q
        simp only [dfill] at h
        cases hb : Nat.beq z.length k && Nat.ble (i * k + z.length) xs.length with
        | false => rw [hb] at h; cases h
        | true => rw [hb, cond_true] at h; rw [ih _ _ h, setDs_length]
    rw [this qs _ ys hf, zerosD_length, hB.len]
  have hul : us.size = n * k := by have := h4.len; simp at this; omega
  refine ⟨us, ?_, hul, ?_⟩
  · obtain ⟨z, hz1, hz2⟩ := hB.zero w
    have hrun : (Instr.buildSlice T n (ps.map fun p => (p.1, a.eval p.2)).toArray).run P w = .ok (.slice (some ⟨w.heap.size, 0, none⟩) n n) (w.alloc (.cells us E)) := by
      unfold Instr.buildSlice
      simp only [Sem.run_bind, hB.und, hB.size, Result.andThen_ok]
      rw [if_neg (by simp; omega)]
      by_cases hnk : n * k = 0
      · have hqs : Instr.fill (fun i => some (i * k, k)) ((Array.range (n * k)).map ((#[] : Array Value)[· % (#[] : Array Value).size]!)) (ps.map fun p => (p.1, a.eval p.2)) = some us := by
          rw [← h3]; congr 1; rw [hnk]; simp
        simp only [hnk, if_true, pure_bind] at hqs ⊢
        simp only [hqs, Sem.run_bind, newRow, run_newObj, Result.andThen_ok, Sem.run_pure, World.alloc]
      · simp only [hnk, if_false, Sem.run_bind, hz1, Result.andThen_ok, pure_bind, hz2]
        simp only [h3, Sem.run_bind, newRow, run_newObj, Result.andThen_ok, Sem.run_pure, World.alloc]
    simp only [execOp, Sem.run_bind, List.map_toArray, hrun, Result.andThen_ok, Sem.run_pure]
  · have e0 := Ext.grow (g := g) ((Below.refl _ w).alloc (Nat.le_refl _) (.cells us E))
    have hel : es.length = n := by rw [← he]; exact chunk_length k n ys
    subst he
    have : DRep (Fx g) (w.alloc (.cells us E)) (.slice (some ⟨w.heap.size, 0, none⟩) (chunk k n ys).length n) (.sl k (chunk k n ys)) := by
      refine DRep.of_row (xs := us.toList) (by omega) (by omega) (chunk_mem k n ys hyl) (fun _ => ⟨w.heap.size, 0, rfl, fun j u hj => ⟨?_, ?_⟩⟩) h4.one fun i j e x he' hx => ?_
      · rw [Nat.zero_add]
        simp only [World.cell?, heap_alloc_new, Option.isSome_none, Bool.false_eq_true, if_false]
        simpa using hj
      · refine ⟨h.f0.1 _ _ h.base, fun i' hi' => ?_, fun t T n' c' hT hv => ?_⟩
        · have := (h.blk i' _ hi').2; omega
        · obtain ⟨⟨n'', xs, h8⟩, -⟩ := h.toks t T hT
          have := (h8.lt w.heap.size (by rw [hv]; rfl)).2
          omega
      · obtain ⟨h8, h9⟩ := chunk_get k n ys i j e x he' hx hyl
        have hlt := (List.getElem?_eq_some_iff.1 h8).1
        have h10 : us.toList[i * k + j]? = some _ := List.getElem?_eq_getElem (by simp; omega)
        exact ⟨_, h10, (h4.rep _ _ x h10 h8).mono e0.fx⟩
    rw [hel] at this
    exact this
theorem ls_lit (T : TypeId) (n : Nat) (ps : List (Nat × Operand)) {E k : Nat} {zs : List Value} {qs : List (Nat × List DV)} {ys : List DV} {es : List (List DV)} [hB : LitOf P T E k zs] (hq : partDs st ps = some qs) (hf : dfill (fun i => some (i * k, k)) (zerosD zs n) qs = some ys) (he : chunk k n ys = es) (hsm : Nat.ble (n * k) 16777216 = true) (hsn : Nat.ble n 16777216 = true) (hd : dstOk ⟨d, .buildSlice T n ps.toArray, ty, pos, af, gd⟩ st = true) :
    LocS P ⟨d, .buildSlice T n ps.toArray, ty, pos, af, gd⟩ st (.d (.sl k es)) .no := fun st2 ha => by
  have hsm := Nat.le_of_ble_eq_true hsm
  have hsn := Nat.le_of_ble_eq_true hsn
  refine OpS.value (ha.dst hd) fun _ _ g a w h => ?_
  have hq2 : partDs st2 ps = some qs := by
    rw [partDs_congr fun p hp => ha.ev p.2 ?_]
    · exact hq
    · simp only [Op.operands, List.mem_toArray, List.mem_map]
      exact ⟨p, hp, rfl⟩
  obtain ⟨us, h1, -, h3⟩ := lit_core (P := P) (T := T) (d := d) (ty := ty) (pos := pos) (af := af) (gd := gd) hq2 hf he hsm hsn h
  exact ⟨_, _, h1, (Below.refl _ _).alloc (Nat.le_refl _) _, h3⟩

/-! conversions of integers and strings; min and max -/
class UndI (P : Program) (T : TypeId) (kd : outParam IntKind) : Prop where
  run : ∀ w, (underlying T).run P w = .ok (.int kd) w
class UndS (P : Program) (T : TypeId) : Prop where
  run : ∀ w, (underlying T).run P w = .ok .string w
theorem ls_convI (S D : TypeId) (x : Operand) {ks kd k : IntKind} {n : Int} [hS : UndI P S ks] [hD : UndI P D kd] (hx : st.ev x = .d (.val (.int k n))) (hd : dstOk ⟨d, .convert S D x, ty, pos, af, gd⟩ st = true) :
    LocS P ⟨d, .convert S D x, ty, pos, af, gd⟩ st (.d (.val (.int kd (kd.wrap n)))) .no := fun st2 ha =>
  OpS.value (ha.dst hd) fun _ _ _ a w h => by
    have h1 := h.eval x
    rw [ha.ev x (by simp [Op.operands]), hx] at h1
    refine ⟨.int kd (kd.wrap n), w, ?_, Below.refl _ _, DRep.val _ rfl⟩
    simp only [execOp, DRep.val_eq h1, convert, Sem.run_bind, hS.run, hD.run, Result.andThen_ok, Conv.intToInt, Sem.run_pure]
theorem ls_convS (S D : TypeId) (x : Operand) {s : ByteArray} [hS : UndS P S] [hD : UndS P D] (hx : st.ev x = .d (.val (.string s))) (hd : dstOk ⟨d, .convert S D x, ty, pos, af, gd⟩ st = true) :
    LocS P ⟨d, .convert S D x, ty, pos, af, gd⟩ st (.d (.val (.string s))) .no := fun st2 ha =>
  OpS.value (ha.dst hd) fun _ _ _ a w h => by
    have h1 := h.eval x
    rw [ha.ev x (by simp [Op.operands]), hx] at h1
    refine ⟨.string s, w, ?_, Below.refl _ _, DRep.val _ rfl⟩
    simp only [execOp, DRep.val_eq h1, convert, Sem.run_bind, hS.run, hD.run, Result.andThen_ok, Sem.run_pure]
def evVals (st : PS) : List Operand → Option (List Value)
  | [] => some []
  | x :: l => match st.ev x, evVals st l with
    | .d (.val v), some vs => some (v :: vs)
    | _, _ => none
theorem evVals_get {st : PS} {l : List Operand} {vs : List Value} (h : evVals st l = some vs) {B : Nat} {w0 : Cx} {g : Gh} {a : Act} {w : World} (hr : Rep B w0 g st a w) : l.map a.eval = vs := by
  induction l generalizing vs with
  | nil => cases h; rfl
  | cons x l ih =>
    simp only [evVals] at h
    split at h
    · rename_i v vs' h1 h2
      cases h
      have h3 := hr.eval x
      rw [h1] at h3
      rw [List.map_cons, ih h2, DRep.val_eq h3]
    · cases h
theorem evVals_congr {st st2 : PS} {l : List Operand} (h : ∀ x ∈ l, st2.ev x = st.ev x) : evVals st2 l = evVals st l := by
  induction l with
  | nil => rfl
  | cons x l ih => simp only [evVals]; rw [h x (by simp), ih fun y hy => h y (by simp [hy])]
/-- a builtin of plain values -/
theorem ls_bi (b : Builtin) (l : List Operand) (ts : Array TypeId) {vs : List Value} {u : Value} (hx : evVals st l = some vs) (hr : builtin b ts ty (l.toArray.map fun | .const _ => true | _ => false) vs.toArray = Sem.pure (.value u)) (hu : u.oneCell' = true) (hd : dstOk ⟨d, .call { callee := .builtin b, args := l.toArray, argTypes := ts }, ty, pos, af, gd⟩ st = true) :
    LocS P ⟨d, .call { callee := .builtin b, args := l.toArray, argTypes := ts }, ty, pos, af, gd⟩ st (.d (.val u)) .no := fun st2 ha =>
  OpS.value (ha.dst hd) fun _ _ _ a w h => by
    have h1 : evVals st2 l = some vs := by rw [evVals_congr fun x hx => ha.ev x (by simp [Op.operands, Call.operands, hx])]; exact hx
    have h2 := evVals_get h1 h
    refine ⟨u, w, ?_, Below.refl _ _, DRep.val _ hu⟩
    have h3 : (execOp a.eval ⟨d, .call { callee := .builtin b, args := l.toArray, argTypes := ts }, ty, pos, af, gd⟩).run P w = (builtin b ts ty (l.toArray.map fun | .const _ => true | _ => false) (l.map a.eval).toArray).run P w := by
      simp only [execOp, resolve, Sem.run_bind, Sem.run_pure, Result.andThen_ok, invoke, List.map_toArray]
      rfl
    rw [h3, h2, hr]
    rfl

/-- a literal that becomes a row of one's own -/
theorem yRt {ops : Array Oper} {K : PS → Prop} {rest : List Oper} {T n t e : Nat} {ps : List (Nat × Operand)} {E k : Nat} {zs : List Value} {qs : List (Nat × List DV)} {ys : List DV} {es : List (List DV)} [hB : LitOf P T E k zs] (hq : partDs st ps = some qs) (hf : dfill (fun i => some (i * k, k)) (zerosD zs n) qs = some ys) (he : chunk k n ys = es) (hsm : Nat.ble (n * k) 16777216 = true) (hsn : Nat.ble n 16777216 = true)
    (hE : t / 100000 = E) (ht : st.tget t = none) (hno : st.noTs t = true) (h : YR P true ops K rest ((st.tput t n).put (some e) (.ts t k es))) (hd : dstOk ⟨some e, .buildSlice T n ps.toArray, ty, pos, af, gd⟩ st = true := by kernel_rfl) (hw : st.want ops ⟨some e, .buildSlice T n ps.toArray, ty, pos, af, gd⟩ = some true := by rfl) :
    YR P true ops K (⟨some e, .buildSlice T n ps.toArray, ty, pos, af, gd⟩ :: rest) st := by
  have hsm := Nat.le_of_ble_eq_true hsm
  have hsn := Nat.le_of_ble_eq_true hsn
  refine .any rfl fun B w0 Q hQ g a w hr => ?_
  obtain ⟨us, h1, h2, h3⟩ := lit_core (P := P) (T := T) (d := some e) (ty := ty) (pos := pos) (af := af) (gd := gd) hq hf he hsm hsn hr
  have hno' := hno
  unfold PS.noTs at hno'
  rw [Bool.and_eq_true, List.all_eq_true, List.all_eq_true] at hno'
  have hel : es.length = n := by rw [← he]; exact chunk_length k n ys
  have hgt : g.tk t = none := by
    cases e' : g.tk t with
    | none => rfl
    | some T => exact absurd ht (hr.tdom t T e')
  have hown : (w.alloc (.cells us E)).ownsRow B E k (.slice (some ⟨w.heap.size, 0, none⟩) n n) n us.toList :=
    ⟨by simp [h2], .inr ⟨w.heap.size, n, us, rfl, hr.base, heap_alloc_new _ _, Nat.le_refl _, by unfold maxLen; omega, h2, by rw [List.take_of_length_le (by simp [h2])]⟩⟩
  have hb : Below w.heap.size w (w.alloc (.cells us E)) := (Below.refl _ _).alloc (Nat.le_refl _) _
  have hr' := hr.grow hb
  obtain ⟨G, hG⟩ : ∃ G, G = g.sett t ⟨.slice (some ⟨w.heap.size, 0, none⟩) n n, E, k⟩ := ⟨_, rfl⟩
  have fx : ∀ b o, Fx g b o → ((w.alloc (.cells us E)).cell? ⟨b, o, none⟩).isSome → Fx G b o ∧ (w.alloc (.cells us E)).cell? ⟨b, o, none⟩ = (w.alloc (.cells us E)).cell? ⟨b, o, none⟩ := by
    refine fun b o hf' hs => ⟨⟨by rw [hG]; exact hf'.1, by rw [hG]; exact hf'.2.1, fun t' T' n' c' q1 q2 => ?_⟩, rfl⟩
    rw [hG] at q1
    simp only [Gh.sett] at q1
    by_cases e' : t' = t
    · rw [if_pos e'] at q1
      cases q1
      cases q2
      simp only [World.cell?, heap_alloc_new, Option.isSome_none, Bool.false_eq_true, if_false] at hs
      rw [← h2]
      rcases Nat.lt_or_ge o us.size with h5 | h5
      · exact h5
      · rw [Array.getElem?_eq_none h5] at hs; simp at hs
    · rw [if_neg e'] at q1; exact hf'.2.2 t' T' n' c' q1 q2
  have srep : ∀ v x, SRep g (w.alloc (.cells us E)) v x → x.noTs t = true → SRep G (w.alloc (.cells us E)) v x := by
    intro v x hx hxt
    cases x with
    | any => trivial
    | d x => exact DRep.mono hx fx
    | ts t' k' es' =>
      refine ⟨DRep.mono hx.1 fx, fun T' hT' => ?_⟩
      rw [hG] at hT'
      simp only [Gh.sett] at hT'
      have hne : t' ≠ t := fun e' => by rw [e'] at hxt; simp [SV.noTs, Nat.beq_refl] at hxt
      rw [if_neg hne] at hT'
      exact hx.2 T' hT'
    | bx i off => rw [hG]; exact hx
    | rd cs =>
      obtain ⟨b, off, f, q1, q2⟩ := hx
      refine ⟨b, off, f, q1, fun j x hj => ?_⟩
      obtain ⟨q3, q4, q5', q5⟩ := q2 j x hj
      obtain ⟨q6, q7⟩ := fx _ _ q4 (by rw [q3]; rfl)
      exact ⟨q3, q6, q5', q5.mono fx⟩
    | tup xs =>
      obtain ⟨vs, q1, q2, q3⟩ := hx
      exact ⟨vs, q1, q2, fun i y x hy hx => (q3 i y x hy hx).mono fx⟩
    | fn f caps => rw [hG]; exact hx
  have hnew : Rep B w0 G (st.tput t n) a (w.alloc (.cells us E)) := by
    refine ⟨hr'.below, hr'.base, by rw [hG]; exact hr'.f0, hr'.size, hr'.defers, fun i => srep _ _ (hr'.slots i) ?_, fun i cs hi => ?_, by rw [hG]; exact hr'.blk, by rw [hG]; exact hr'.dom, by rw [hG]; exact hr'.inj, fun t' T' hT' => ?_, fun t' T' hT' => ?_, fun t1 t2 T1 T2 b q1 q2 q3 q4 => ?_, fun t' T' hT' => ?_, fun t' n' hn => ?_⟩
    · show ((st.tput t n).get i).noTs t = true
      unfold PS.get
      cases e2 : aget (st.tput t n).s i with
      | none => rfl
      | some x => exact hno'.1 _ (aget_mem e2)
    · obtain ⟨b, xs, T', q1, q2, q3, q4, q5⟩ := hr'.boxes i cs hi
      refine ⟨b, xs, T', by rw [hG]; exact q1, q2, q3, fun j c hj => ?_, q5⟩
      obtain ⟨x, q6, q7⟩ := q4 j c hj
      have q8 := hno'.2 _ (aget_mem hi)
      rw [List.all_eq_true] at q8
      exact ⟨x, q6, srep _ _ q7 (q8 c (List.mem_of_getElem? hj))⟩
    · rw [hG] at hT' ⊢
      simp only [Gh.sett] at hT'
      by_cases e' : t' = t
      · rw [if_pos e'] at hT'; cases hT'
        refine ⟨⟨n, us.toList, hown⟩, fun i b hb' hi => ?_⟩
        have := (hr.blk i b hi).2
        simp [Value.ownBlock] at hb'
        omega
      · rw [if_neg e'] at hT'; exact hr'.toks t' T' hT'
    · rw [hG] at hT'
      simp only [Gh.sett] at hT'
      by_cases e' : t' = t
      · rw [if_pos e'] at hT'; cases hT'; rw [e', hE]
      · rw [if_neg e'] at hT'; exact hr'.telt t' T' hT'
    · rw [hG] at q1 q2
      simp only [Gh.sett] at q1 q2
      by_cases e1 : t1 = t <;> by_cases e2 : t2 = t
      · omega
      · rw [if_pos e1] at q1; rw [if_neg e2] at q2; cases q1
        obtain ⟨⟨n', xs, q5⟩, -⟩ := hr.toks t2 T2 q2
        have := (q5.lt b q4).2
        simp [Value.ownBlock] at q3
        omega
      · rw [if_neg e1] at q1; rw [if_pos e2] at q2; cases q2
        obtain ⟨⟨n', xs, q5⟩, -⟩ := hr.toks t1 T1 q1
        have := (q5.lt b q3).2
        simp [Value.ownBlock] at q4
        omega
      · rw [if_neg e1] at q1; rw [if_neg e2] at q2; exact hr'.tdis t1 t2 T1 T2 b q1 q2 q3 q4
    · rw [tget_tput]
      rw [hG] at hT'
      simp only [Gh.sett] at hT'
      by_cases e' : t' = t
      · simp [e']
      · rw [if_neg e'] at hT' ⊢; exact hr'.tdom t' T' hT'
    · rw [tget_tput] at hn
      by_cases e' : t' = t
      · rw [if_pos e'] at hn; cases hn
        exact ⟨⟨.slice (some ⟨w.heap.size, 0, none⟩) n n, E, k⟩, some ⟨w.heap.size, 0, none⟩, n, by rw [hG]; simp [Gh.sett, e'], rfl⟩
      · rw [if_neg e'] at hn
        obtain ⟨T', A, c, q1, q2⟩ := hr'.tlen t' n' hn
        exact ⟨T', A, c, by rw [hG]; simp [Gh.sett, e', q1], q2⟩
  have hput := hnew.put (v := .slice (some ⟨w.heap.size, 0, none⟩) n n) (x := .ts t k es) ⟨h3.mono fx, fun T' hT' => by
    rw [hG] at hT'
    simp only [Gh.sett, if_pos] at hT'
    cases hT'
    refine ⟨rfl, fun A n' c q => ?_⟩
    cases q
    exact ⟨by omega, fun _ => rfl⟩⟩ (some e) (fun i hi => dstOk_spec (st := st) hd i hi)
  unfold wpList
  rw [if_pos (want_spec hr hw)]
  refine .inl ?_
  unfold Oper.wp
  rw [h1]
  exact h.sound hQ hput
end
end Go.Proofs.Ytilbolgncpfmmaa.Px

/- The logic of pure states: its rules, short. -/
namespace Go.Proofs.Ytilbolgncpfmmaa.Px
open Go.RowKit
section
variable {P : Program} {sq : Bool} {ops : Array Oper} {K : PS → Prop} {rest : List Oper} {st : PS} {d : Option Nat} {op : Op} {ty : TypeId} {pos : String} {af : Array Edge} {gd : Option (Nat × Bool)} {q : Nat × Bool}
theorem yMd {u : DV} {y : Operand} (hx : st.ev y = .d u) (h : YR P sq ops K rest (st.put d (.d u))) (hd : dstOk ⟨d, .move y, ty, pos, af, gd⟩ st = true := by kernel_rfl) (hk : opOk ⟨d, .move y, ty, pos, af, gd⟩ st .no = true := by kernel_rfl) (hw : st.want ops ⟨d, .move y, ty, pos, af, gd⟩ = some true := by rfl) : YR P sq ops K (⟨d, .move y, ty, pos, af, gd⟩ :: rest) st := yr_v (lm (x := .d u) hx hd) hk hw h
theorem yAd {u : DV} {y : Operand} (hx : st.ev y = .d u) (h : YR P sq ops K rest (st.put d (.d u))) (hd : dstOk ⟨d, .assign y, ty, pos, af, gd⟩ st = true := by kernel_rfl) (hk : opOk ⟨d, .assign y, ty, pos, af, gd⟩ st .no = true := by kernel_rfl) (hw : st.want ops ⟨d, .assign y, ty, pos, af, gd⟩ = some true := by rfl) : YR P sq ops K (⟨d, .assign y, ty, pos, af, gd⟩ :: rest) st := yr_v (la (x := .d u) hx hd) hk hw h
theorem yMb {i o : Nat} {y : Operand} (hx : st.ev y = .bx i o) (h : YR P sq ops K rest (st.put d (.bx i o))) (hd : dstOk ⟨d, .move y, ty, pos, af, gd⟩ st = true := by kernel_rfl) (hk : opOk ⟨d, .move y, ty, pos, af, gd⟩ st .no = true := by kernel_rfl) (hw : st.want ops ⟨d, .move y, ty, pos, af, gd⟩ = some true := by rfl) : YR P sq ops K (⟨d, .move y, ty, pos, af, gd⟩ :: rest) st := yr_v (lm (x := .bx i o) hx hd) hk hw h
theorem yAb {i o : Nat} {y : Operand} (hx : st.ev y = .bx i o) (h : YR P sq ops K rest (st.put d (.bx i o))) (hd : dstOk ⟨d, .assign y, ty, pos, af, gd⟩ st = true := by kernel_rfl) (hk : opOk ⟨d, .assign y, ty, pos, af, gd⟩ st .no = true := by kernel_rfl) (hw : st.want ops ⟨d, .assign y, ty, pos, af, gd⟩ = some true := by rfl) : YR P sq ops K (⟨d, .assign y, ty, pos, af, gd⟩ :: rest) st := yr_v (la (x := .bx i o) hx hd) hk hw h
theorem yMt {t k : Nat} {es : List (List DV)} {y : Operand} (hx : st.ev y = .ts t k es) (h : YR P sq ops K rest (st.put d (.ts t k es))) (hd : dstOk ⟨d, .move y, ty, pos, af, gd⟩ st = true := by kernel_rfl) (hk : opOk ⟨d, .move y, ty, pos, af, gd⟩ st .no = true := by kernel_rfl) (hw : st.want ops ⟨d, .move y, ty, pos, af, gd⟩ = some true := by rfl) : YR P sq ops K (⟨d, .move y, ty, pos, af, gd⟩ :: rest) st := yr_v (lm (x := .ts t k es) hx hd) hk hw h
theorem yAt {t k : Nat} {es : List (List DV)} {y : Operand} (hx : st.ev y = .ts t k es) (h : YR P sq ops K rest (st.put d (.ts t k es))) (hd : dstOk ⟨d, .assign y, ty, pos, af, gd⟩ st = true := by kernel_rfl) (hk : opOk ⟨d, .assign y, ty, pos, af, gd⟩ st .no = true := by kernel_rfl) (hw : st.want ops ⟨d, .assign y, ty, pos, af, gd⟩ = some true := by rfl) : YR P sq ops K (⟨d, .assign y, ty, pos, af, gd⟩ :: rest) st := yr_v (la (x := .ts t k es) hx hd) hk hw h
theorem yMr {cs : List DV} {y : Operand} (hx : st.ev y = .rd cs) (h : YR P sq ops K rest (st.put d (.rd cs))) (hd : dstOk ⟨d, .move y, ty, pos, af, gd⟩ st = true := by kernel_rfl) (hk : opOk ⟨d, .move y, ty, pos, af, gd⟩ st .no = true := by kernel_rfl) (hw : st.want ops ⟨d, .move y, ty, pos, af, gd⟩ = some true := by rfl) : YR P sq ops K (⟨d, .move y, ty, pos, af, gd⟩ :: rest) st := yr_v (lm (x := .rd cs) hx hd) hk hw h
theorem yAr {cs : List DV} {y : Operand} (hx : st.ev y = .rd cs) (h : YR P sq ops K rest (st.put d (.rd cs))) (hd : dstOk ⟨d, .assign y, ty, pos, af, gd⟩ st = true := by kernel_rfl) (hk : opOk ⟨d, .assign y, ty, pos, af, gd⟩ st .no = true := by kernel_rfl) (hw : st.want ops ⟨d, .assign y, ty, pos, af, gd⟩ = some true := by rfl) : YR P sq ops K (⟨d, .assign y, ty, pos, af, gd⟩ :: rest) st := yr_v (la (x := .rd cs) hx hd) hk hw h
theorem yMp {xs : List DV} {y : Operand} (hx : st.ev y = .tup xs) (h : YR P sq ops K rest (st.put d (.tup xs))) (hd : dstOk ⟨d, .move y, ty, pos, af, gd⟩ st = true := by kernel_rfl) (hk : opOk ⟨d, .move y, ty, pos, af, gd⟩ st .no = true := by kernel_rfl) (hw : st.want ops ⟨d, .move y, ty, pos, af, gd⟩ = some true := by rfl) : YR P sq ops K (⟨d, .move y, ty, pos, af, gd⟩ :: rest) st := yr_v (lm (x := .tup xs) hx hd) hk hw h
theorem yAp {xs : List DV} {y : Operand} (hx : st.ev y = .tup xs) (h : YR P sq ops K rest (st.put d (.tup xs))) (hd : dstOk ⟨d, .assign y, ty, pos, af, gd⟩ st = true := by kernel_rfl) (hk : opOk ⟨d, .assign y, ty, pos, af, gd⟩ st .no = true := by kernel_rfl) (hw : st.want ops ⟨d, .assign y, ty, pos, af, gd⟩ = some true := by rfl) : YR P sq ops K (⟨d, .assign y, ty, pos, af, gd⟩ :: rest) st := yr_v (la (x := .tup xs) hx hd) hk hw h
theorem yMf {f : Nat} {cs : List Nat} {y : Operand} (hx : st.ev y = .fn f cs) (h : YR P sq ops K rest (st.put d (.fn f cs))) (hd : dstOk ⟨d, .move y, ty, pos, af, gd⟩ st = true := by kernel_rfl) (hk : opOk ⟨d, .move y, ty, pos, af, gd⟩ st .no = true := by kernel_rfl) (hw : st.want ops ⟨d, .move y, ty, pos, af, gd⟩ = some true := by rfl) : YR P sq ops K (⟨d, .move y, ty, pos, af, gd⟩ :: rest) st := yr_v (lm (x := .fn f cs) hx hd) hk hw h
theorem yAf {f : Nat} {cs : List Nat} {y : Operand} (hx : st.ev y = .fn f cs) (h : YR P sq ops K rest (st.put d (.fn f cs))) (hd : dstOk ⟨d, .assign y, ty, pos, af, gd⟩ st = true := by kernel_rfl) (hk : opOk ⟨d, .assign y, ty, pos, af, gd⟩ st .no = true := by kernel_rfl) (hw : st.want ops ⟨d, .assign y, ty, pos, af, gd⟩ = some true := by rfl) : YR P sq ops K (⟨d, .assign y, ty, pos, af, gd⟩ :: rest) st := yr_v (la (x := .fn f cs) hx hd) hk hw h
theorem yMa  {y : Operand} (hx : st.ev y = .any) (h : YR P sq ops K rest (st.put d (.any))) (hd : dstOk ⟨d, .move y, ty, pos, af, gd⟩ st = true := by kernel_rfl) (hk : opOk ⟨d, .move y, ty, pos, af, gd⟩ st .no = true := by kernel_rfl) (hw : st.want ops ⟨d, .move y, ty, pos, af, gd⟩ = some true := by rfl) : YR P sq ops K (⟨d, .move y, ty, pos, af, gd⟩ :: rest) st := yr_v (lm (x := .any) hx hd) hk hw h
theorem yAa  {y : Operand} (hx : st.ev y = .any) (h : YR P sq ops K rest (st.put d (.any))) (hd : dstOk ⟨d, .assign y, ty, pos, af, gd⟩ st = true := by kernel_rfl) (hk : opOk ⟨d, .assign y, ty, pos, af, gd⟩ st .no = true := by kernel_rfl) (hw : st.want ops ⟨d, .assign y, ty, pos, af, gd⟩ = some true := by rfl) : YR P sq ops K (⟨d, .assign y, ty, pos, af, gd⟩ :: rest) st := yr_v (la (x := .any) hx hd) hk hw h
theorem yPd {u : DV} {c y z : Operand} (hc : st.ev c = .d (.val (.bool true))) (hx : st.ev y = .d u) (h : YR P sq ops K rest (st.put d (.d u))) (hd : dstOk ⟨d, .pick c y z, ty, pos, af, gd⟩ st = true := by kernel_rfl) (hk : opOk ⟨d, .pick c y z, ty, pos, af, gd⟩ st .no = true := by kernel_rfl) (hw : st.want ops ⟨d, .pick c y z, ty, pos, af, gd⟩ = some true := by rfl) : YR P sq ops K (⟨d, .pick c y z, ty, pos, af, gd⟩ :: rest) st := yr_v (lpt (x := .d u) hc hx hd) hk hw h
theorem yVd {u : DV} {c y z : Operand} (hc : st.ev c = .d (.val (.bool false))) (hx : st.ev z = .d u) (h : YR P sq ops K rest (st.put d (.d u))) (hd : dstOk ⟨d, .pick c y z, ty, pos, af, gd⟩ st = true := by kernel_rfl) (hk : opOk ⟨d, .pick c y z, ty, pos, af, gd⟩ st .no = true := by kernel_rfl) (hw : st.want ops ⟨d, .pick c y z, ty, pos, af, gd⟩ = some true := by rfl) : YR P sq ops K (⟨d, .pick c y z, ty, pos, af, gd⟩ :: rest) st := yr_v (lpf (x := .d u) hc hx hd) hk hw h
theorem yPb {i o : Nat} {c y z : Operand} (hc : st.ev c = .d (.val (.bool true))) (hx : st.ev y = .bx i o) (h : YR P sq ops K rest (st.put d (.bx i o))) (hd : dstOk ⟨d, .pick c y z, ty, pos, af, gd⟩ st = true := by kernel_rfl) (hk : opOk ⟨d, .pick c y z, ty, pos, af, gd⟩ st .no = true := by kernel_rfl) (hw : st.want ops ⟨d, .pick c y z, ty, pos, af, gd⟩ = some true := by rfl) : YR P sq ops K (⟨d, .pick c y z, ty, pos, af, gd⟩ :: rest) st := yr_v (lpt (x := .bx i o) hc hx hd) hk hw h
theorem yVb {i o : Nat} {c y z : Operand} (hc : st.ev c = .d (.val (.bool false))) (hx : st.ev z = .bx i o) (h : YR P sq ops K rest (st.put d (.bx i o))) (hd : dstOk ⟨d, .pick c y z, ty, pos, af, gd⟩ st = true := by kernel_rfl) (hk : opOk ⟨d, .pick c y z, ty, pos, af, gd⟩ st .no = true := by kernel_rfl) (hw : st.want ops ⟨d, .pick c y z, ty, pos, af, gd⟩ = some true := by rfl) : YR P sq ops K (⟨d, .pick c y z, ty, pos, af, gd⟩ :: rest) st := yr_v (lpf (x := .bx i o) hc hx hd) hk hw h
theorem yPt {t k : Nat} {es : List (List DV)} {c y z : Operand} (hc : st.ev c = .d (.val (.bool true))) (hx : st.ev y = .ts t k es) (h : YR P sq ops K rest (st.put d (.ts t k es))) (hd : dstOk ⟨d, .pick c y z, ty, pos, af, gd⟩ st = true := by kernel_rfl) (hk : opOk ⟨d, .pick c y z, ty, pos, af, gd⟩ st .no = true := by kernel_rfl) (hw : st.want ops ⟨d, .pick c y z, ty, pos, af, gd⟩ = some true := by rfl) : YR P sq ops K (⟨d, .pick c y z, ty, pos, af, gd⟩ :: rest) st := yr_v (lpt (x := .ts t k es) hc hx hd) hk hw h
theorem yVt {t k : Nat} {es : List (List DV)} {c y z : Operand} (hc : st.ev c = .d (.val (.bool false))) (hx : st.ev z = .ts t k es) (h : YR P sq ops K rest (st.put d (.ts t k es))) (hd : dstOk ⟨d, .pick c y z, ty, pos, af, gd⟩ st = true := by kernel_rfl) (hk : opOk ⟨d, .pick c y z, ty, pos, af, gd⟩ st .no = true := by kernel_rfl) (hw : st.want ops ⟨d, .pick c y z, ty, pos, af, gd⟩ = some true := by rfl) : YR P sq ops K (⟨d, .pick c y z, ty, pos, af, gd⟩ :: rest) st := yr_v (lpf (x := .ts t k es) hc hx hd) hk hw h
theorem yPf {f : Nat} {cs : List Nat} {c y z : Operand} (hc : st.ev c = .d (.val (.bool true))) (hx : st.ev y = .fn f cs) (h : YR P sq ops K rest (st.put d (.fn f cs))) (hd : dstOk ⟨d, .pick c y z, ty, pos, af, gd⟩ st = true := by kernel_rfl) (hk : opOk ⟨d, .pick c y z, ty, pos, af, gd⟩ st .no = true := by kernel_rfl) (hw : st.want ops ⟨d, .pick c y z, ty, pos, af, gd⟩ = some true := by rfl) : YR P sq ops K (⟨d, .pick c y z, ty, pos, af, gd⟩ :: rest) st := yr_v (lpt (x := .fn f cs) hc hx hd) hk hw h
theorem yVf {f : Nat} {cs : List Nat} {c y z : Operand} (hc : st.ev c = .d (.val (.bool false))) (hx : st.ev z = .fn f cs) (h : YR P sq ops K rest (st.put d (.fn f cs))) (hd : dstOk ⟨d, .pick c y z, ty, pos, af, gd⟩ st = true := by kernel_rfl) (hk : opOk ⟨d, .pick c y z, ty, pos, af, gd⟩ st .no = true := by kernel_rfl) (hw : st.want ops ⟨d, .pick c y z, ty, pos, af, gd⟩ = some true := by rfl) : YR P sq ops K (⟨d, .pick c y z, ty, pos, af, gd⟩ :: rest) st := yr_v (lpf (x := .fn f cs) hc hx hd) hk hw h
theorem yLr {T : Nat} {y : Operand} {cs : List DV} {c : DV} [AggOf P T false 1] (hx : st.ev y = .rd cs) (hc : cs[0]? = some c) (h : YR P sq ops K rest (st.put d (.d c))) (hd : dstOk ⟨d, .load T y, ty, pos, af, gd⟩ st = true := by kernel_rfl) (hk : opOk ⟨d, .load T y, ty, pos, af, gd⟩ st .no = true := by kernel_rfl) (hw : st.want ops ⟨d, .load T y, ty, pos, af, gd⟩ = some true := by rfl) : YR P sq ops K (⟨d, .load T y, ty, pos, af, gd⟩ :: rest) st := yr_v (load_rd T y hx hc hd) hk hw h
theorem yLs {T k : Nat} {y : Operand} {cs ys : List DV} [AggOf P T true k] (hx : st.ev y = .rd cs) (hc : cs.take k = ys) (hl : ys.length = k) (h : YR P sq ops K rest (st.put d (.d (.agg ys)))) (hd : dstOk ⟨d, .load T y, ty, pos, af, gd⟩ st = true := by kernel_rfl) (hk : opOk ⟨d, .load T y, ty, pos, af, gd⟩ st .no = true := by kernel_rfl) (hw : st.want ops ⟨d, .load T y, ty, pos, af, gd⟩ = some true := by rfl) : YR P sq ops K (⟨d, .load T y, ty, pos, af, gd⟩ :: rest) st := yr_v (load_rd_agg T y hx hc hl hd) hk hw h
theorem yLd {u : DV} {T : Nat} {y : Operand} {i off : Nat} {cs : List SV} [AggOf P T false 1] (hx : st.ev y = .bx i off) (hi : st.bget i = some cs) (hc : cs[off]? = some (.d u)) (h : YR P sq ops K rest (st.put d (.d u))) (hd : dstOk ⟨d, .load T y, ty, pos, af, gd⟩ st = true := by kernel_rfl) (hk : opOk ⟨d, .load T y, ty, pos, af, gd⟩ st .no = true := by kernel_rfl) (hw : st.want ops ⟨d, .load T y, ty, pos, af, gd⟩ = some true := by rfl) : YR P sq ops K (⟨d, .load T y, ty, pos, af, gd⟩ :: rest) st := yr_v (load_bx T y hx hi hc hd) hk hw h
theorem yLb {i' o' : Nat} {T : Nat} {y : Operand} {i off : Nat} {cs : List SV} [AggOf P T false 1] (hx : st.ev y = .bx i off) (hi : st.bget i = some cs) (hc : cs[off]? = some (.bx i' o')) (h : YR P sq ops K rest (st.put d (.bx i' o'))) (hd : dstOk ⟨d, .load T y, ty, pos, af, gd⟩ st = true := by kernel_rfl) (hk : opOk ⟨d, .load T y, ty, pos, af, gd⟩ st .no = true := by kernel_rfl) (hw : st.want ops ⟨d, .load T y, ty, pos, af, gd⟩ = some true := by rfl) : YR P sq ops K (⟨d, .load T y, ty, pos, af, gd⟩ :: rest) st := yr_v (load_bx T y hx hi hc hd) hk hw h
theorem yLt {t k : Nat} {es : List (List DV)} {T : Nat} {y : Operand} {i off : Nat} {cs : List SV} [AggOf P T false 1] (hx : st.ev y = .bx i off) (hi : st.bget i = some cs) (hc : cs[off]? = some (.ts t k es)) (h : YR P sq ops K rest (st.put d (.ts t k es))) (hd : dstOk ⟨d, .load T y, ty, pos, af, gd⟩ st = true := by kernel_rfl) (hk : opOk ⟨d, .load T y, ty, pos, af, gd⟩ st .no = true := by kernel_rfl) (hw : st.want ops ⟨d, .load T y, ty, pos, af, gd⟩ = some true := by rfl) : YR P sq ops K (⟨d, .load T y, ty, pos, af, gd⟩ :: rest) st := yr_v (load_bx T y hx hi hc hd) hk hw h
theorem yLq {ds : List DV} {T : Nat} {y : Operand} {i off : Nat} {cs : List SV} [AggOf P T false 1] (hx : st.ev y = .bx i off) (hi : st.bget i = some cs) (hc : cs[off]? = some (.rd ds)) (h : YR P sq ops K rest (st.put d (.rd ds))) (hd : dstOk ⟨d, .load T y, ty, pos, af, gd⟩ st = true := by kernel_rfl) (hk : opOk ⟨d, .load T y, ty, pos, af, gd⟩ st .no = true := by kernel_rfl) (hw : st.want ops ⟨d, .load T y, ty, pos, af, gd⟩ = some true := by rfl) : YR P sq ops K (⟨d, .load T y, ty, pos, af, gd⟩ :: rest) st := yr_v (load_bx T y hx hi hc hd) hk hw h
theorem yLf {f : Nat} {ds : List Nat} {T : Nat} {y : Operand} {i off : Nat} {cs : List SV} [AggOf P T false 1] (hx : st.ev y = .bx i off) (hi : st.bget i = some cs) (hc : cs[off]? = some (.fn f ds)) (h : YR P sq ops K rest (st.put d (.fn f ds))) (hd : dstOk ⟨d, .load T y, ty, pos, af, gd⟩ st = true := by kernel_rfl) (hk : opOk ⟨d, .load T y, ty, pos, af, gd⟩ st .no = true := by kernel_rfl) (hw : st.want ops ⟨d, .load T y, ty, pos, af, gd⟩ = some true := by rfl) : YR P sq ops K (⟨d, .load T y, ty, pos, af, gd⟩ :: rest) st := yr_v (load_bx T y hx hi hc hd) hk hw h
theorem yLa {T k : Nat} {y : Operand} {i off : Nat} {cs : List SV} {ys : List DV} [AggOf P T true k] (hx : st.ev y = .bx i off) (hi : st.bget i = some cs) (hc : toDs ((cs.drop off).take k) = some ys) (hl : ys.length = k) (h : YR P sq ops K rest (st.put d (.d (.agg ys)))) (hd : dstOk ⟨d, .load T y, ty, pos, af, gd⟩ st = true := by kernel_rfl) (hk : opOk ⟨d, .load T y, ty, pos, af, gd⟩ st .no = true := by kernel_rfl) (hw : st.want ops ⟨d, .load T y, ty, pos, af, gd⟩ = some true := by rfl) : YR P sq ops K (⟨d, .load T y, ty, pos, af, gd⟩ :: rest) st := yr_v (load_bx_agg T y hx hi hc hl hd) hk hw h
theorem yFb {S f : Nat} {y : Operand} {i o off T : Nat} [FieldOf P S f off T] (hx : st.ev y = .bx i o) (h : YR P sq ops K rest (st.put d (.bx i (o + off)))) (hd : dstOk ⟨d, .fieldAddr S y f, ty, pos, af, gd⟩ st = true := by kernel_rfl) (hk : opOk ⟨d, .fieldAddr S y f, ty, pos, af, gd⟩ st .no = true := by kernel_rfl) (hw : st.want ops ⟨d, .fieldAddr S y f, ty, pos, af, gd⟩ = some true := by rfl) : YR P sq ops K (⟨d, .fieldAddr S y f, ty, pos, af, gd⟩ :: rest) st := yr_v (fa_bx S f y hx hd) hk hw h
theorem yFr {S f : Nat} {y : Operand} {cs cs' : List DV} {off T : Nat} [FieldOf P S f off T] (hx : st.ev y = .rd cs) (hc : cs.drop off = cs') (h : YR P sq ops K rest (st.put d (.rd cs'))) (hd : dstOk ⟨d, .fieldAddr S y f, ty, pos, af, gd⟩ st = true := by kernel_rfl) (hk : opOk ⟨d, .fieldAddr S y f, ty, pos, af, gd⟩ st .no = true := by kernel_rfl) (hw : st.want ops ⟨d, .fieldAddr S y f, ty, pos, af, gd⟩ = some true := by rfl) : YR P sq ops K (⟨d, .fieldAddr S y f, ty, pos, af, gd⟩ :: rest) st := yr_v (fa_rd S f y hx hc hd) hk hw h
theorem yE {S f : Nat} {y : Operand} {cs : List DV} {c : DV} {off T : Nat} [FieldOf P S f off T] [AggOf P T false 1] (hx : st.ev y = .d (.agg cs)) (hc : cs[off]? = some c) (h : YR P sq ops K rest (st.put d (.d c))) (hd : dstOk ⟨d, .field S y f, ty, pos, af, gd⟩ st = true := by kernel_rfl) (hk : opOk ⟨d, .field S y f, ty, pos, af, gd⟩ st .no = true := by kernel_rfl) (hw : st.want ops ⟨d, .field S y f, ty, pos, af, gd⟩ = some true := by rfl) : YR P sq ops K (⟨d, .field S y f, ty, pos, af, gd⟩ :: rest) st := yr_v (ls_field S f y hx hc hd) hk hw h
theorem yB {op : BinOp} {t t' : Nat} {x y : Operand} {vx vy u : Value} (hx : st.ev x = .d (.val vx)) (hy : st.ev y = .d (.val vy)) (hr : (eqGuard op t x y vx vy >>= fun _ => binOp op t vx vy) = Sem.pure u) (hu : u.oneCell' = true) (h : YR P sq ops K rest (st.put d (.d (.val u)))) (hd : dstOk ⟨d, .binOp op t x y t', ty, pos, af, gd⟩ st = true := by kernel_rfl) (hk : opOk ⟨d, .binOp op t x y t', ty, pos, af, gd⟩ st .no = true := by kernel_rfl) (hw : st.want ops ⟨d, .binOp op t x y t', ty, pos, af, gd⟩ = some true := by rfl) : YR P sq ops K (⟨d, .binOp op t x y t', ty, pos, af, gd⟩ :: rest) st := yr_v (ls_bin op t t' x y hx hy hr hu hd) hk hw h
theorem yU {op : UnOp} {t : Nat} {x : Operand} {vx u : Value} (hx : st.ev x = .d (.val vx)) (hr : Op.unary op vx = Sem.pure u) (hu : u.oneCell' = true) (h : YR P sq ops K rest (st.put d (.d (.val u)))) (hd : dstOk ⟨d, .unOp op t x, ty, pos, af, gd⟩ st = true := by kernel_rfl) (hk : opOk ⟨d, .unOp op t x, ty, pos, af, gd⟩ st .no = true := by kernel_rfl) (hw : st.want ops ⟨d, .unOp op t x, ty, pos, af, gd⟩ = some true := by rfl) : YR P sq ops K (⟨d, .unOp op t x, ty, pos, af, gd⟩ :: rest) st := yr_v (ls_un op t x hx hr hu hd) hk hw h
theorem yX {x : Operand} {i : Nat} {xs : List DV} {u : DV} (hx : st.ev x = .tup xs) (hu : xs[i]? = some u) (h : YR P sq ops K rest (st.put d (.d u))) (hd : dstOk ⟨d, .extract x i, ty, pos, af, gd⟩ st = true := by kernel_rfl) (hk : opOk ⟨d, .extract x i, ty, pos, af, gd⟩ st .no = true := by kernel_rfl) (hw : st.want ops ⟨d, .extract x i, ty, pos, af, gd⟩ = some true := by rfl) : YR P sq ops K (⟨d, .extract x i, ty, pos, af, gd⟩ :: rest) st := yr_v (ls_extract x i hx hu hd) hk hw h
theorem yN {T E k : Nat} {x : Operand} {es : List (List DV)} [SliceOf P T E k] (hx : asSl (st.ev x) = some (k, es)) (h : YR P sq ops K rest (st.put d (.d (.val (.int .i64 es.length))))) (hd : dstOk ⟨d, .call { callee := .builtin .len, args := #[x], argTypes := #[T] }, ty, pos, af, gd⟩ st = true := by kernel_rfl) (hk : opOk ⟨d, .call { callee := .builtin .len, args := #[x], argTypes := #[T] }, ty, pos, af, gd⟩ st .no = true := by kernel_rfl) (hw : st.want ops ⟨d, .call { callee := .builtin .len, args := #[x], argTypes := #[T] }, ty, pos, af, gd⟩ = some true := by rfl) : YR P sq ops K (⟨d, .call { callee := .builtin .len, args := #[x], argTypes := #[T] }, ty, pos, af, gd⟩ :: rest) st := yr_v (ls_len_sl T x hx hd) hk hw h
theorem yC {f : Nat} {l : List Operand} {ts : Array TypeId} {ys : List DV} {r : SV} [HasBody P f] (hc : PCalls P f ys r) (ha : evDs st l = some ys) (hr : resOk r = true) (h : YR P sq ops K rest (st.put d r)) (hd : dstOk ⟨d, .call { callee := .value (.func f), args := l.toArray, argTypes := ts }, ty, pos, af, gd⟩ st = true := by kernel_rfl) (hk : opOk ⟨d, .call { callee := .value (.func f), args := l.toArray, argTypes := ts }, ty, pos, af, gd⟩ st .no = true := by kernel_rfl) (hw : st.want ops ⟨d, .call { callee := .value (.func f), args := l.toArray, argTypes := ts }, ty, pos, af, gd⟩ = some true := by rfl) : YR P sq ops K (⟨d, .call { callee := .value (.func f), args := l.toArray, argTypes := ts }, ty, pos, af, gd⟩ :: rest) st := yr_v (ls_call f l ts ha hc hr hd) hk hw h
theorem yI {b : Builtin} {l : List Operand} {ts : Array TypeId} {vs : List Value} {u : Value} (hx : evVals st l = some vs) (hr : builtin b ts ty (l.toArray.map fun | .const _ => true | _ => false) vs.toArray = Sem.pure (.value u)) (hu : u.oneCell' = true) (h : YR P sq ops K rest (st.put d (.d (.val u)))) (hd : dstOk ⟨d, .call { callee := .builtin b, args := l.toArray, argTypes := ts }, ty, pos, af, gd⟩ st = true := by kernel_rfl) (hk : opOk ⟨d, .call { callee := .builtin b, args := l.toArray, argTypes := ts }, ty, pos, af, gd⟩ st .no = true := by kernel_rfl) (hw : st.want ops ⟨d, .call { callee := .builtin b, args := l.toArray, argTypes := ts }, ty, pos, af, gd⟩ = some true := by rfl) : YR P sq ops K (⟨d, .call { callee := .builtin b, args := l.toArray, argTypes := ts }, ty, pos, af, gd⟩ :: rest) st := yr_v (ls_bi b l ts hx hr hu hd) hk hw h
theorem yJ {S D : Nat} {x : Operand} {ks kd k : IntKind} {n : Int} [UndI P S ks] [UndI P D kd] (hx : st.ev x = .d (.val (.int k n))) (h : YR P sq ops K rest (st.put d (.d (.val (.int kd (kd.wrap n)))))) (hd : dstOk ⟨d, .convert S D x, ty, pos, af, gd⟩ st = true := by kernel_rfl) (hk : opOk ⟨d, .convert S D x, ty, pos, af, gd⟩ st .no = true := by kernel_rfl) (hw : st.want ops ⟨d, .convert S D x, ty, pos, af, gd⟩ = some true := by rfl) : YR P sq ops K (⟨d, .convert S D x, ty, pos, af, gd⟩ :: rest) st := yr_v (ls_convI S D x hx hd) hk hw h
theorem yH {S D : Nat} {x : Operand} {s : ByteArray} [UndS P S] [UndS P D] (hx : st.ev x = .d (.val (.string s))) (h : YR P sq ops K rest (st.put d (.d (.val (.string s))))) (hd : dstOk ⟨d, .convert S D x, ty, pos, af, gd⟩ st = true := by kernel_rfl) (hk : opOk ⟨d, .convert S D x, ty, pos, af, gd⟩ st .no = true := by kernel_rfl) (hw : st.want ops ⟨d, .convert S D x, ty, pos, af, gd⟩ = some true := by rfl) : YR P sq ops K (⟨d, .convert S D x, ty, pos, af, gd⟩ :: rest) st := yr_v (ls_convS S D x hx hd) hk hw h
theorem yW {T E k : Nat} {x y : Operand} {n : Int} {kd : IntKind} {es : List (List DV)} {e : List DV} [SliceOf P T E k] (he : es[n.toNat]? = some e) (h0 : 0 ≤ n) (hx : asSl (st.ev x) = some (k, es)) (hy : st.ev y = .d (.val (.int kd n))) (h : YR P sq ops K rest (st.put d (.rd e))) (hd : dstOk ⟨d, .indexAddr T x y, ty, pos, af, gd⟩ st = true := by kernel_rfl) (hk : opOk ⟨d, .indexAddr T x y, ty, pos, af, gd⟩ st .no = true := by kernel_rfl) (hw : st.want ops ⟨d, .indexAddr T x y, ty, pos, af, gd⟩ = some true := by rfl) : YR P sq ops K (⟨d, .indexAddr T x y, ty, pos, af, gd⟩ :: rest) st := yr_v (ls_indexAddr T x y hx hy h0 he hd) hk hw h
theorem yG {T : Nat} {ps : List (Nat × Operand)} {places : List (Nat × Nat)} {zs : List Value} {qs : List (Nat × List DV)} {ys : List DV} [BuildOf P T places zs] (hq : partDs st ps = some qs) (hf : dfill (places.toArray[·]?) (zs.map .val) qs = some ys) (h : YR P sq ops K rest (st.put d (.d (.agg ys)))) (hd : dstOk ⟨d, .build T ps.toArray, ty, pos, af, gd⟩ st = true := by kernel_rfl) (hk : opOk ⟨d, .build T ps.toArray, ty, pos, af, gd⟩ st .no = true := by kernel_rfl) (hw : st.want ops ⟨d, .build T ps.toArray, ty, pos, af, gd⟩ = some true := by rfl) : YR P sq ops K (⟨d, .build T ps.toArray, ty, pos, af, gd⟩ :: rest) st := yr_v (ls_build T ps hq hf hd) hk hw h
theorem yR {T n : Nat} {ps : List (Nat × Operand)} {E k : Nat} {zs : List Value} {qs : List (Nat × List DV)} {ys : List DV} {es : List (List DV)} [LitOf P T E k zs] (hq : partDs st ps = some qs) (hf : dfill (fun i => some (i * k, k)) (zerosD zs n) qs = some ys) (he : chunk k n ys = es) (hs : Nat.ble (n * k) 16777216 = true) (hs' : Nat.ble n 16777216 = true) (h : YR P sq ops K rest (st.put d (.d (.sl k es)))) (hd : dstOk ⟨d, .buildSlice T n ps.toArray, ty, pos, af, gd⟩ st = true := by kernel_rfl) (hk : opOk ⟨d, .buildSlice T n ps.toArray, ty, pos, af, gd⟩ st .no = true := by kernel_rfl) (hw : st.want ops ⟨d, .buildSlice T n ps.toArray, ty, pos, af, gd⟩ = some true := by rfl) : YR P sq ops K (⟨d, .buildSlice T n ps.toArray, ty, pos, af, gd⟩ :: rest) st := yr_v (ls_lit T n ps hq hf he hs hs' hd) hk hw h
theorem yK {T : Nat} {y : Operand} {i : Nat} {cs : List SV} (hx : toCells (st.ev y) = some cs) (hi : st.bget i = none) (h : YR P sq ops K rest ((st.bput i cs).put (some i) (.bx i 0))) (hd : dstOk ⟨some i, .box T y, ty, pos, af, gd⟩ st = true := by kernel_rfl) (hk : opOk ⟨some i, .box T y, ty, pos, af, gd⟩ st (.box i cs) = true := by kernel_rfl) (hw : st.want ops ⟨some i, .box T y, ty, pos, af, gd⟩ = some true := by rfl) : YR P sq ops K (⟨some i, .box T y, ty, pos, af, gd⟩ :: rest) st := yr_b (ls_box T y hx hi hd) hk hw h
theorem yZ {T i : Nat} {zs : List Value} {cs : List SV} [ZeroOf P T zs] (hcs : (zs.map fun z => SV.d (.val z)) = cs) (hi : st.bget i = none) (h : YR P sq ops K rest ((st.bput i cs).put (some i) (.bx i 0))) (hd : dstOk ⟨some i, .alloc T, ty, pos, af, gd⟩ st = true := by kernel_rfl) (hk : opOk ⟨some i, .alloc T, ty, pos, af, gd⟩ st (.box i cs) = true := by kernel_rfl) (hw : st.want ops ⟨some i, .alloc T, ty, pos, af, gd⟩ = some true := by rfl) : YR P sq ops K (⟨some i, .alloc T, ty, pos, af, gd⟩ :: rest) st := by subst hcs; exact yr_b (ls_alloc T hi hd) hk hw h
theorem ySd {u : Value} {T : Nat} {z y : Operand} {i off : Nat} {cs cs' : List SV} [AggOf P T false 1] (hz : st.ev z = .bx i off) (hi : st.bget i = some cs) (hy : st.ev y = .d (.val u)) (hcs : cs.set off (.d (.val u)) = cs') (h : YR P sq ops K rest ((st.bput i cs').put d .any)) (hle : Nat.blt off cs.length = true := by kernel_rfl) (hd : dstOk ⟨d, .store T z y, ty, pos, af, gd⟩ st = true := by kernel_rfl) (hk : opOk ⟨d, .store T z y, ty, pos, af, gd⟩ st (.box i cs') = true := by kernel_rfl) (hw : st.want ops ⟨d, .store T z y, ty, pos, af, gd⟩ = some true := by rfl) : YR P sq ops K (⟨d, .store T z y, ty, pos, af, gd⟩ :: rest) st := by subst hcs; exact yr_b (store1 (x := .d (.val u)) hz hi hy rfl (Nat.le_of_ble_eq_true hle) hd) hk hw h
theorem ySl {k : Nat} {es : List (List DV)} {T : Nat} {z y : Operand} {i off : Nat} {cs cs' : List SV} [AggOf P T false 1] (hz : st.ev z = .bx i off) (hi : st.bget i = some cs) (hy : st.ev y = .d (.sl k es)) (hcs : cs.set off (.d (.sl k es)) = cs') (h : YR P sq ops K rest ((st.bput i cs').put d .any)) (hle : Nat.blt off cs.length = true := by kernel_rfl) (hd : dstOk ⟨d, .store T z y, ty, pos, af, gd⟩ st = true := by kernel_rfl) (hk : opOk ⟨d, .store T z y, ty, pos, af, gd⟩ st (.box i cs') = true := by kernel_rfl) (hw : st.want ops ⟨d, .store T z y, ty, pos, af, gd⟩ = some true := by rfl) : YR P sq ops K (⟨d, .store T z y, ty, pos, af, gd⟩ :: rest) st := by subst hcs; exact yr_b (store1 (x := .d (.sl k es)) hz hi hy rfl (Nat.le_of_ble_eq_true hle) hd) hk hw h
theorem ySt {t k : Nat} {es : List (List DV)} {T : Nat} {z y : Operand} {i off : Nat} {cs cs' : List SV} [AggOf P T false 1] (hz : st.ev z = .bx i off) (hi : st.bget i = some cs) (hy : st.ev y = .ts t k es) (hcs : cs.set off (.ts t k es) = cs') (h : YR P sq ops K rest ((st.bput i cs').put d .any)) (hle : Nat.blt off cs.length = true := by kernel_rfl) (hd : dstOk ⟨d, .store T z y, ty, pos, af, gd⟩ st = true := by kernel_rfl) (hk : opOk ⟨d, .store T z y, ty, pos, af, gd⟩ st (.box i cs') = true := by kernel_rfl) (hw : st.want ops ⟨d, .store T z y, ty, pos, af, gd⟩ = some true := by rfl) : YR P sq ops K (⟨d, .store T z y, ty, pos, af, gd⟩ :: rest) st := by subst hcs; exact yr_b (store1 (x := .ts t k es) hz hi hy rfl (Nat.le_of_ble_eq_true hle) hd) hk hw h
theorem ySb {i' o' : Nat} {T : Nat} {z y : Operand} {i off : Nat} {cs cs' : List SV} [AggOf P T false 1] (hz : st.ev z = .bx i off) (hi : st.bget i = some cs) (hy : st.ev y = .bx i' o') (hcs : cs.set off (.bx i' o') = cs') (h : YR P sq ops K rest ((st.bput i cs').put d .any)) (hle : Nat.blt off cs.length = true := by kernel_rfl) (hd : dstOk ⟨d, .store T z y, ty, pos, af, gd⟩ st = true := by kernel_rfl) (hk : opOk ⟨d, .store T z y, ty, pos, af, gd⟩ st (.box i cs') = true := by kernel_rfl) (hw : st.want ops ⟨d, .store T z y, ty, pos, af, gd⟩ = some true := by rfl) : YR P sq ops K (⟨d, .store T z y, ty, pos, af, gd⟩ :: rest) st := by subst hcs; exact yr_b (store1 (x := .bx i' o') hz hi hy rfl (Nat.le_of_ble_eq_true hle) hd) hk hw h
theorem yS {T k : Nat} {bb : Bool} {z y : Operand} {i off : Nat} {cs xs cs' : List SV} [AggOf P T bb k] (hz : st.ev z = .bx i off) (hi : st.bget i = some cs) (hy : toCells (st.ev y) = some xs) (hcs : setAll cs off xs = cs') (hl : xs.length = k) (h : YR P sq ops K rest ((st.bput i cs').put d .any)) (hle : Nat.ble (off + xs.length) cs.length = true := by kernel_rfl) (hd : dstOk ⟨d, .store T z y, ty, pos, af, gd⟩ st = true := by kernel_rfl) (hk : opOk ⟨d, .store T z y, ty, pos, af, gd⟩ st (.box i cs') = true := by kernel_rfl) (hw : st.want ops ⟨d, .store T z y, ty, pos, af, gd⟩ = some true := by rfl) : YR P sq ops K (⟨d, .store T z y, ty, pos, af, gd⟩ :: rest) st := by subst hcs; exact yr_b (ls_store T z y hz hi hy hl (Nat.le_of_ble_eq_true hle) hd) hk hw h
theorem yT {T E k bytes t n m : Nat} {x y : Operand} {es es2 es' : List (List DV)} [AppOf P T E k bytes] (hb : (es.length + es2.length) * bytes ≤ 140737488351232) (hl : es.length + es2.length ≤ 140737488351232) (hs : st.ev x = .ts t k es) (ht : st.tget t = some n) (hn : n = es.length) (hx : asSl (st.ev y) = some (k, es2)) (hE : t / 100000 = E) (he : es ++ es2 = es') (hm : es.length + es2.length = m) (h : YR P sq ops K rest ((st.tput t m).put d (.ts t k es'))) (hd : dstOk ⟨d, .call { callee := .builtin .append, args := #[x, y], argTypes := #[T, T] }, ty, pos, af, gd⟩ st = true := by kernel_rfl) (hk : opOk ⟨d, .call { callee := .builtin .append, args := #[x, y], argTypes := #[T, T] }, ty, pos, af, gd⟩ st (.tok t m) = true := by kernel_rfl) (hw : st.want ops ⟨d, .call { callee := .builtin .append, args := #[x, y], argTypes := #[T, T] }, ty, pos, af, gd⟩ = some true := by rfl) : YR P sq ops K (⟨d, .call { callee := .builtin .append, args := #[x, y], argTypes := #[T, T] }, ty, pos, af, gd⟩ :: rest) st := by subst he hm; exact yr_t (ls_append T x y hs ht hn hx hE hb hl hd) hk hw h
theorem yO (hw : st.want ops ⟨d, op, ty, pos, af, some q⟩ = some false) (h : YR P sq ops K rest (st.put d (.tup []))) (hd : dstOk ⟨d, op, ty, pos, af, some q⟩ st = true := by kernel_rfl) : YR P sq ops K (⟨d, op, ty, pos, af, some q⟩ :: rest) st := .skip hd hw h
theorem yQ (h : K st) : YR P sq ops K [] st := .nil h

def valsOf : List DV → Option (List Value)
  | [] => some []
  | .val v :: l => (valsOf l).map (v :: ·)
  | _ => none
theorem DRep.vals {F : Nat → Nat → Prop} {w : World} {v : Value} {cs : List DV} {vs : List Value} (h : DRep F w v (.agg cs)) (hv : valsOf cs = some vs) : v = .agg vs.toArray := by
  generalize e : DV.agg cs = x at h
  cases h with
  | val => cases e
  | sl => cases e
  | ref => cases e
  | abs => cases e
  | @agg xs cs' hl h1 h2 =>
    cases e
    have : xs = vs := by
      clear h1
      induction cs generalizing xs vs with
      | nil => cases hv; exact List.length_eq_zero_iff.1 hl
      | cons c cs ih =>
        match xs, hl with
        | x :: xs, hl =>
          cases c with
          | val u =>
            simp only [valsOf, Option.map_eq_some_iff] at hv
            obtain ⟨vs', h3, rfl⟩ := hv
            have e1 := DRep.val_eq (h2 0 x _ rfl rfl)
            have e2 : xs = vs' := ih h3 (by simpa using hl) (fun i x c hx hc => h2 (i + 1) x c (by simpa using hx) (by simpa using hc))
            rw [e1, e2]
          | agg => cases hv
          | sl => cases hv
          | ref => cases hv
          | abs => cases hv
    rw [this]
/-- an operation of two structs -/
theorem yBA {op : BinOp} {t t' : Nat} {x y : Operand} {cs ds : List DV} {vs us : List Value} {u : Value} (hr : ∀ w, (eqGuard op t x y (.agg vs.toArray) (.agg us.toArray) >>= fun _ => binOp op t (.agg vs.toArray) (.agg us.toArray)).run P w = .ok u w) (hu : u.oneCell' = true) (hx : st.ev x = .d (.agg cs)) (hcx : valsOf cs = some vs) (hy : st.ev y = .d (.agg ds)) (hcy : valsOf ds = some us)
    (h : YR P sq ops K rest (st.put d (.d (.val u)))) (hd : dstOk ⟨d, .binOp op t x y t', ty, pos, af, gd⟩ st = true := by kernel_rfl) (hk : opOk ⟨d, .binOp op t x y t', ty, pos, af, gd⟩ st .no = true := by kernel_rfl) (hw : st.want ops ⟨d, .binOp op t x y t', ty, pos, af, gd⟩ = some true := by rfl) : YR P sq ops K (⟨d, .binOp op t x y t', ty, pos, af, gd⟩ :: rest) st :=
  yr_v (fun st2 ha => OpS.value (ha.dst hd) fun _ _ _ a w h => by
    have h1 := h.eval x
    rw [ha.ev x (by simp [Op.operands]), hx] at h1
    have h2 := h.eval y
    rw [ha.ev y (by simp [Op.operands]), hy] at h2
    refine ⟨u, w, ?_, Below.refl _ _, DRep.val u hu⟩
    have := hr w
    simp only [execOp, DRep.vals h1 hcx, DRep.vals h2 hcy, Sem.run_bind, Sem.run_pure] at this ⊢
    cases h3 : Sem.run P (eqGuard op t x y (.agg vs.toArray) (.agg us.toArray)) w with
    | ok q w1 =>
      rw [h3] at this
      simp only [Result.andThen_ok] at this ⊢
      rw [this]
      rfl
    | halt q w1 => rw [h3] at this; simp [Result.andThen] at this) hk hw h
end
end Go.Proofs.Ytilbolgncpfmmaa.Px
