/- Ranges over functions: iterators as data, rounds as code that is handed the boxes. -/
import Derived.Test.YtkfoogabijnamaaGreatDoorB3
import Derived.Maps.RangeRun
import Derived.ArgAppend
import Derived.Laws.Append
import Derived.ChangeKeysEq
import Derived.MapKept
import Derived.Carry
import Derived.Maps.Own
import Derived.Sort.KeysCollected
set_option maxHeartbeats 1000000
namespace Go.Proofs.YtkfoogabijnamaaGreatDoor.Px
open Go.RowKit

def ItSpec (P : Program) (gf : FuncId) (lb : Array Value) (xs : List (List Value)) (F : Nat → Nat → Prop) (w : World) : Prop :=
  ∀ (l : Nat) (J : Nat → World → Prop) (Jx : World → Prop),
    (∀ i A A', J i A → Below A.heap.size A A' → J i A') → (∀ A A', Jx A → Below A.heap.size A A' → Jx A') →
    (∀ i x A, xs[i]? = some x → J i A → YieldAt Fence.wide 0 P l x.toArray A fun e A' => (e = .returned (.bool true) ∧ J (i + 1) A' ∧ Kp F A F A' ∧ GlobOk F A') ∨ (e = .returned (.bool false) ∧ Jx A')) →
    GlobOk F w → J 0 w → CallsIn Fence.wide 0 P gf (#[.func (.yield l) #[] #[]] ++ lb) w fun e w' => (∃ v, e = .returned v) ∧ (J xs.length w' ∨ Jx w')
def ItR (P : Program) (xs : List (List Value)) (F : Nat → Nat → Prop) (w : World) (v : Value) : Prop :=
  ∃ gf lb, v = .func (.func gf) #[] lb ∧ (∀ args w, (callFunc gf args).run P w = .ok (.enter gf args) w) ∧ ∀ F' w', Kp F w F' w' → ItSpec P gf lb xs F' w'
def dIt (P : Program) (xs : List (List Value)) : DV := .abs (ItR P xs)
theorem DRep.it {P : Program} {xs : List (List Value)} {F : Nat → Nat → Prop} {w : World} {v : Value} (h : DRep F w v (dIt P xs)) : ItR P xs F w v := by
  cases h with
  | abs _ _ h => exact h

section
variable {P : Program} {B : Nat} {w0 : Cx} {Q : Exit → PS → Prop} {st : PS} {c : Code}
end

theorem Rep.rl {B : Nat} {w1 : World} {g1 : Gh} {r : Option Nat} {g : Gh} {st : PS} {a : Act} {w : World} {d : Nat} {hd : d ≤ w1.heap.size} (h : Rep B ⟨w1, g1, r, d, hd⟩ g st a w) (r' : Option Nat) : Rep B ⟨w1, g1, r', d, hd⟩ g st a w :=
  ⟨h.evo, h.base, h.f0, h.lim, h.size, h.defers, h.slots, h.boxes, h.maps, h.blk, h.dom, h.inj, h.toks, h.tf0, h.telt, h.tdis, h.tdom, h.tlen, h.glob, h.gown, h.ghp⟩
theorem Rep.mark {B : Nat} {w0 : Cx} {g : Gh} {st : PS} {a : Act} {w : World} (h : Rep B w0 g st a w) {ds : List Deferred} (hd : Dfr w0 g w ds) : Rep B w0 g st { a with defers := ds } w :=
  { h with size := h.size, slots := h.slots, defers := hd }
theorem Rep.not_tok {B : Nat} {w0 : Cx} {g : Gh} {st : PS} {a : Act} {w : World} (h : Rep B w0 g st a w) {b : Nat} (hb : w.heap.size ≤ b) : (∀ i, g.bl i ≠ some b) ∧ ∀ t T, g.tk t = some T → T.v.ownBlock ≠ some b := by
  refine ⟨fun i hi => ?_, fun t T hT e => ?_⟩
  · have := (h.blk i b hi).2; omega
  · obtain ⟨⟨n, xs, h1⟩, -⟩ := h.toks t T hT
    have := (h1.lt b e).2
    omega

def asgC : Code → Option (List (Nat × Nat))
  | .skip => some []
  | .region _ ops false => match ops.toList with
    | [⟨some d, .assign (.tmp t), _, _, _, none⟩] => some [(d, t)]
    | _ => none
  | .seq x y => match asgC x, asgC y with
    | some l, some l' => some (l ++ l')
    | _, _ => none
  | _ => none
def asgA (l : List (Nat × Nat)) (T : Array Value) : Array Value := l.foldl (fun T p => T.setIfInBounds p.1 (T.getD p.2 undef)) T
def zipA (ps : List Nat) (x : List Value) (T : Array Value) : Array Value := (ps.toArray.zip x.toArray).foldl (fun t (p, v) => t.setIfInBounds p v) T
inductive ArgR (st : PS) (no : List Nat) (nw : List (Nat × Value)) : Nat → List SV → Prop
  | nil {j : Nat} : ArgR st no nw j []
  | any {j : Nat} {l : List SV} (h : ArgR st no nw (j + 1) l) : ArgR st no nw j (.any :: l)
  | keep {j : Nat} {x : SV} {l : List SV} (hn : no.contains j = false) (hx : SVle (st.get j) x) (h : ArgR st no nw (j + 1) l) : ArgR st no nw j (x :: l)
  | new {j : Nat} {v : Value} {l : List SV} (hv : aget nw j = some v) (ho : v.oneCell' = true) (h : ArgR st no nw (j + 1) l) : ArgR st no nw j (.d (.val v) :: l)
theorem ArgR.get {st : PS} {no : List Nat} {nw : List (Nat × Value)} {j : Nat} {l : List SV} (h : ArgR st no nw j l) : ∀ (k : Nat) x, l[k]? = some x → x = .any ∨ (j + k ∉ no ∧ SVle (st.get (j + k)) x) ∨ ∃ v, aget nw (j + k) = some v ∧ v.oneCell' = true ∧ x = .d (.val v) := by
  induction h with
  | nil => intro k x h; simp at h
  | any _ ih =>
    intro k x h
    cases k with
    | zero => simp at h; exact .inl h.symm
    | succ k => have := ih k x (by simpa using h); rwa [Nat.add_assoc, Nat.add_comm 1] at this
  | keep hn hx _ ih =>
    intro k x h
    cases k with
    | zero =>
      simp at h
      subst h
      refine .inr (.inl ⟨fun hm => ?_, hx⟩)
      rw [Nat.add_zero] at hm
      rw [List.contains_iff_mem.2 hm] at hn
      cases hn
    | succ k => have := ih k x (by simpa using h); rwa [Nat.add_assoc, Nat.add_comm 1] at this
  | new hv ho _ ih =>
    intro k x h
    cases k with
    | zero => simp at h; subst h; exact .inr (.inr ⟨_, hv, ho, rfl⟩)
    | succ k => have := ih k x (by simpa using h); rwa [Nat.add_assoc, Nat.add_comm 1] at this

def QRd (N : Prop) (Q : Exit → PS → Prop) (n : Nat) (S : List (Nat × SV)) (bs : List (Nat × List SV)) (ts : List (Nat × Nat)) (bn : List (Nat × List SV)) (tn : List (Nat × Nat)) : Exit → PS → Prop
  | .normal, s => N ∧ hasB s (shB bn) ∧ hasT s (shT tn)
  | .ret, s => ∃ b' t', hasB s (shB b') ∧ hasT s (shT t') ∧ b'.map (·.1) = bs.map (·.1) ∧ t'.map (·.1) = ts.map (·.1) ∧ fitX [] bs ts b' = true ∧ Q .ret ⟨n, S, b', t'⟩
  | .exit id, s => ∃ b' t', hasB s (shB b') ∧ hasT s (shT t') ∧ b'.map (·.1) = bs.map (·.1) ∧ t'.map (·.1) = ts.map (·.1) ∧ fitX [] bs ts b' = true ∧ Q (.exit id) ⟨n, S, b', t'⟩
  | _, _ => False
def nwOf (ps : List Nat) (asg : List (Nat × Nat)) (x : List Value) : List (Nat × Value) := asg.map fun p => (p.1, (x[ps.idxOf p.2]?).getD undef)
end Go.Proofs.YtkfoogabijnamaaGreatDoor.Px
set_option maxHeartbeats 1000000
namespace Go.Proofs.YtkfoogabijnamaaGreatDoor.Px
open Go.RowKit

def Cx.at (w0 : Cx) (g : Gh) (w : World) (h : w0.d0 ≤ w.heap.size) : Cx := ⟨w, g, w0.rl, w0.d0, h⟩
theorem Rep.rebase {B : Nat} {w0 : Cx} {g : Gh} {st : PS} {a : Act} {w : World} (h : Rep B w0 g st a w) (hd : w0.d0 ≤ w.heap.size) : Rep B (w0.at g w hd) g st a w :=
  { h with
    evo := Evo.refl _ _
    size := h.size
    slots := h.slots
    defers := h.defers
    gown := fun q cs hq ho => h.gown q cs hq (h.evo.own ho)
    ghp := fun q cs hq => by
      obtain ⟨vs, e, T, z, h1⟩ := h.ghp q cs hq
      exact ⟨vs, e, T, z, (h.evo.heap q (h.gown q cs hq)).trans h1⟩ }
def Vis (es : Array MapEntry) (ms : List (Value × DV)) (seen : Array Nat) (dn : List (Value × DV)) : Prop := ∃ D R : List (MapEntry × (Value × DV)), (D ++ R).Perm (es.toList.zip ms) ∧ seen.toList = D.map (·.1.born) ∧ dn = D.map (·.2)
theorem Vis.start (es : Array MapEntry) (ms : List (Value × DV)) : Vis es ms #[] [] := ⟨[], es.toList.zip ms, by simp, rfl, rfl⟩
theorem mem_leftOf {es : Array MapEntry} {seen : Array Nat} {e : MapEntry} : e ∈ (leftOf es seen).toList ↔ e ∈ es.toList ∧ e.born ∉ seen.toList := by
  unfold leftOf
  simp
theorem Vis.step {es : Array MapEntry} {ms dn : List (Value × DV)} {seen : Array Nat} (h : Vis es ms seen dn) (hl : es.size = ms.length) {e : MapEntry} (he : e ∈ (leftOf es seen).toList) : ∃ p, (e, p) ∈ es.toList.zip ms ∧ Vis es ms (seen.push e.born) (dn ++ [p]) := by
  obtain ⟨D, R, h1, h2, h3⟩ := h
  obtain ⟨h4, h5⟩ := mem_leftOf.1 he
  have h6 : e ∈ (es.toList.zip ms).map (·.1) := by rw [List.map_fst_zip (by simp [hl])]; exact h4
  obtain ⟨⟨e', p⟩, hz, rfl⟩ := List.mem_map.1 h6
  refine ⟨p, hz, ?_⟩
  have h7 : (e', p) ∈ D ++ R := h1.mem_iff.2 hz
  have h8 : (e', p) ∈ R := by
    rcases List.mem_append.1 h7 with h | h
    · exact absurd (by rw [h2]; exact List.mem_map.2 ⟨_, h, rfl⟩) h5
    · exact h
  obtain ⟨R1, R2, rfl⟩ := List.append_of_mem h8
  refine ⟨D ++ [(e', p)], R1 ++ R2, ?_, by simp [h2], by simp [h3]⟩
  refine List.Perm.trans ?_ h1
  rw [List.append_assoc]
  have hm : (R1 ++ (e', p) :: R2).Perm ((e', p) :: (R1 ++ R2)) := List.perm_middle
  exact List.Perm.append_left D hm.symm
theorem Vis.done {es : Array MapEntry} {ms dn : List (Value × DV)} {seen : Array Nat} (h : Vis es ms seen dn) (hl : es.size = ms.length) (hn : (es.toList.map (·.born)).Nodup) (h0 : (leftOf es seen).size = 0) : dn.Perm ms := by
  obtain ⟨D, R, h1, h2, h3⟩ := h
  have hR : R = [] := by
    cases R with
    | nil => rfl
    | cons z R =>
      have hz : z ∈ es.toList.zip ms := h1.mem_iff.1 (by simp)
      have hze : z.1 ∈ es.toList := (List.of_mem_zip hz).1
      have hzs : z.1.born ∈ seen.toList := by
        refine Decidable.byContradiction fun hc => ?_
        have := mem_leftOf.2 ⟨hze, hc⟩
        rw [Array.eq_empty_of_size_eq_zero h0] at this
        simp at this
      have hp : ((D ++ z :: R).map fun x => x.1.born).Nodup := by
        rw [(h1.map _).nodup_iff]
        have : (es.toList.zip ms).map (fun x => x.1.born) = ((es.toList.zip ms).map (·.1)).map (·.born) := by rw [List.map_map]; rfl
        rw [this, List.map_fst_zip (by simp [hl])]
        exact hn
      rw [h2] at hzs
      rw [List.map_append, List.nodup_append] at hp
      exact absurd rfl (hp.2.2 _ hzs _ (by simp))
  subst hR
  rw [List.append_nil] at h1
  have h4 := h1.map (·.2)
  rw [List.map_snd_zip (by simp [hl])] at h4
  rw [h3]
  exact h4
end Go.Proofs.YtkfoogabijnamaaGreatDoor.Px
set_option maxHeartbeats 1000000
namespace Go.Proofs.YtkfoogabijnamaaGreatDoor.Px
open Go.RowKit

def Self (rl : Option Nat) (d0 : Nat) (g : Gh) (st : PS) (a : Act) (w : World) : Prop := ∃ hd : d0 ≤ w.heap.size, Rep w.heap.size ⟨w, g, rl, d0, hd⟩ g st a w
theorem Rep.self {B : Nat} {w0 : Cx} {g : Gh} {st : PS} {a : Act} {w : World} (h : Rep B w0 g st a w) : Self w0.rl w0.d0 g st a w :=
  have hd : w0.d0 ≤ w.heap.size := Nat.le_trans w0.hd h.evo.bel.size
  ⟨hd, { h.rebase hd with base := Nat.le_refl _, f0 := fun b o hb => h.f0 b o (Nat.le_trans h.base hb), size := h.size, slots := h.slots, defers := h.defers }⟩
def Stb (X : Gh → World → Prop) : Prop := ∀ g w g' w', X g w → (∀ i b, g.bl i = some b → b < w.heap.size) → Evo g w g' w' → X g' w'
def PostX (rl : Option Nat) (d0 : Nat) {ι : Type} (X : ι → Gh → World → Prop) (Q : Exit → PS → ι → Prop) : Exit → Act → World → Prop := fun e a w => ∃ g s i, Self rl d0 g s a w ∧ X i g w ∧ Q e s i
def PX (P : Program) (rl : Option Nat) (d0 : Nat) {ι : Type} (X : ι → Gh → World → Prop) (c : Code) (Q : Exit → PS → ι → Prop) (st : PS) (i : ι) : Prop :=
  ∀ g a w, Self rl d0 g st a w → X i g w → c.wpIn (rF rl) 0 P (PostX rl d0 X Q) a w
def QThenX {ι : Type} (K : PS → ι → Prop) (Q : Exit → PS → ι → Prop) : Exit → PS → ι → Prop
  | .normal, st, i => K st i
  | e, st, i => Q e st i
def QBlockX {ι : Type} (id : Nat) (Q : Exit → PS → ι → Prop) : Exit → PS → ι → Prop
  | .exit id', st, i => bif Nat.beq id' id then Q .normal st i else Q (.exit id') st i
  | e, st, i => Q e st i
def QRegX {ι : Type} (Q : Exit → PS → ι → Prop) : Exit → PS → ι → Prop
  | .normal, st, i => Q .normal st i
  | _, _, _ => False

section
variable {P : Program} {rl : Option Nat} {d0 : Nat} {ι : Type} {X : ι → Gh → World → Prop} {Q : Exit → PS → ι → Prop} {st : PS} {i : ι}
theorem px_mono {c : Code} {Q' : Exit → PS → ι → Prop} (h : PX P rl d0 X c Q' st i) (hq : ∀ e s j, Q' e s j → Q e s j) : PX P rl d0 X c Q st i := fun g a w hs hx =>
  wpIn_mono (h g a w hs hx) fun e _ _ ⟨g, s, j, h1, h2, h3⟩ => ⟨g, s, j, h1, h2, hq e s j h3⟩
theorem px_skip (h : Q .normal st i) : PX P rl d0 X .skip Q st i := fun g _ _ hs hx => wpIn_skip ⟨g, st, i, hs, hx, h⟩
theorem px_exit {id : Nat} (h : Q (.exit id) st i) : PX P rl d0 X (.exit id) Q st i := fun g _ _ hs hx => wpIn_exit ⟨g, st, i, hs, hx, h⟩
theorem px_ret (h : Q .ret st i) : PX P rl d0 X .ret Q st i := fun g _ _ hs hx => wpIn_ret ⟨g, st, i, hs, hx, h⟩
theorem px_seq {x y : Code} (h : PX P rl d0 X x (QThenX (PX P rl d0 X y Q) Q) st i) : PX P rl d0 X (.seq x y) Q st i := fun g a w hs hx =>
  wpIn_seq (wpIn_mono (h g a w hs hx) fun e a w ⟨g, s, j, h1, h2, h3⟩ => by
    cases e with
    | normal => exact h3 g a w h1 h2
    | _ => exact ⟨g, s, j, h1, h2, h3⟩)
theorem px_block {id : Nat} {c : Code} (h : PX P rl d0 X c (QBlockX id Q) st i) : PX P rl d0 X (.block id c) Q st i := fun g a w hs hx =>
  wpIn_block (wpIn_mono (h g a w hs hx) fun e _ _ ⟨g, s, j, h1, h2, h3⟩ => by
    cases e with
    | exit id' =>
      simp only [Exit.inBlock]
      by_cases e : id' = id
      · subst e
        rw [if_pos rfl]
        refine ⟨g, s, j, h1, h2, ?_⟩
        simpa [QBlockX, Nat.beq_refl] using h3
      · rw [if_neg e]
        refine ⟨g, s, j, h1, h2, ?_⟩
        have : Nat.beq id' id = false := by rw [← Bool.not_eq_true]; intro e'; exact e (Nat.eq_of_beq_eq_true e')
        simpa [QBlockX, this] using h3
    | _ => exact ⟨g, s, j, h1, h2, h3⟩)
theorem px_cond {c : Operand} {x y : Code} {t : Bool} (hc : st.ev c = .d (.val (.bool t))) (h1 : t = true → PX P rl d0 X x Q st i) (h2 : t = false → PX P rl d0 X y Q st i) : PX P rl d0 X (.cond c x y) Q st i := fun g a w hs hx => by
  obtain ⟨hd, hr⟩ := hs
  have h := hr.eval c
  rw [hc] at h
  have : a.eval c = .bool t := DRep.val_eq h
  cases t with
  | true => exact wpIn_cond_true this (h1 rfl g a w ⟨hd, hr⟩ hx)
  | false => exact wpIn_cond_false this (h2 rfl g a w ⟨hd, hr⟩ hx)
theorem Self.le {g : Gh} {a : Act} {w : World} {st' : PS} (hX : Stb (X i)) (h : Self rl d0 g st a w) (hx : X i g w) (hl : Le st st') : ∃ g', Self rl d0 g' st' a w ∧ X i g' w := by
  obtain ⟨hd, hr⟩ := h
  obtain ⟨g', h1⟩ := hr.le hl
  exact ⟨g', h1.self, hX _ _ _ _ hx (fun i b hi => (hr.blk i b hi).2) h1.evo⟩
theorem px_loop {κ : Type} {c : Code} (J : κ → PS) (f : κ → ι) (I : κ → Prop) (μ : κ → Nat) (k0 : κ) (hX : ∀ j, Stb (X j)) (hI : I k0) (hle : Le st (J k0)) (hf : i = f k0)
    (round : ∀ k, I k → PX P rl d0 X c (QThenX (fun s j => ∃ k', I k' ∧ μ k' < μ k ∧ Le s (J k') ∧ j = f k') Q) (J k) (f k)) : PX P rl d0 X (.loop c) Q st i := fun g a w hs hx => by
  subst hf
  obtain ⟨g', h1, h2⟩ := hs.le (hX _) hx hle
  refine wpIn_loop_ghost (fun n a w => ∃ k, μ k = n ∧ I k ∧ ∃ g, Self rl d0 g (J k) a w ∧ X (f k) g w) (μ k0) ⟨k0, rfl, hI, g', h1, h2⟩ ?_
  rintro n a w ⟨k, rfl, hk, g, hs, hx⟩
  refine wpIn_mono (round k hk g a w hs hx) fun e a w ⟨g, s, j, h1, h2, h3⟩ => ?_
  cases e with
  | normal =>
    obtain ⟨k', h4, h5, h6, rfl⟩ := h3
    obtain ⟨g', h7, h8⟩ := h1.le (hX _) h2 h6
    exact ⟨μ k', h5, k', rfl, h4, g', h7, h8⟩
  | _ => exact ⟨g, s, j, h1, h2, h3⟩

theorem wpList_app {ops : Array Oper} {R Q2 : Exit → Act → World → Prop} {l' : List Oper} (hne : ∀ e a w, R e a w → e = .normal) (hq : ∀ a w, R .normal a w → wpList P ops Q2 l' a w) : ∀ {l : List Oper} {a : Act} {w : World}, wpList P ops R l a w → wpList P ops Q2 (l ++ l') a w
  | [], a, w, h => hq a w h
  | o :: l, a, w, h => by
    rw [List.cons_append]
    unfold wpList at h ⊢
    split
    · rename_i hw
      rw [if_pos hw] at h
      rcases h with h | ⟨-, a', w', h⟩
      · refine .inl ?_
        unfold Oper.wp at h ⊢
        generalize (execOp a.eval o).run P w = r at h ⊢
        cases r with
        | ok x w' =>
          cases x with
          | value v => exact wpList_app hne hq h
          | skip => exact wpList_app hne hq h
          | defer d => exact wpList_app hne hq h
          | enter f args =>
            refine h.mono fun e w'' he => ?_
            match e, he with
            | .returned v, he => exact wpList_app hne hq he
            | .panicked ch, he => exact absurd (hne _ _ _ he) (fun e => by cases e)
            | .outgrown, ⟨a1, w1, h1⟩ => exact absurd (hne _ _ _ h1) (fun e => by cases e)
          | row row args => exact h.mono fun v w'' he => wpList_app hne hq he
          | _ => exact h.elim
        | halt x w' => cases x <;> first | exact absurd (hne _ _ _ h) (fun e => by cases e) | exact h.elim
      · exact absurd (hne _ _ _ h) (fun e => by cases e)
    · rename_i hw
      rw [if_neg hw] at h
      exact wpList_app hne hq h
end
end Go.Proofs.YtkfoogabijnamaaGreatDoor.Px
set_option maxHeartbeats 1000000
namespace Go.Proofs.YtkfoogabijnamaaGreatDoor.Px
open Go.RowKit

theorem Rep.rebox {B : Nat} {w0 : Cx} {g : Gh} {st : PS} {a : Act} {w w' : World} (h : Rep B w0 g st a w) {i b b' T : Nat} (hlt : i < 500000) (hsm : smB i) (hbl : g.bl i = some b) (hb0 : Below 0 w w') (hne : ∀ k, k < w.heap.size → k ≠ b → w'.heap[k]? = w.heap[k]?) (hbb : b' = b ∨ w.heap.size ≤ b')
    (xs : Array Value) (hheap : w'.heap[b']? = some (.cells xs T (0, 0))) (vs : List Value) (hl : vs.length ≤ xs.size) (hx : ∀ (j : Nat) u, vs[j]? = some u → xs[j]? = some u ∧ u.oneCell' = true) :
    Rep B w0 (g.addb i b') ((st.kill i).bput i (vs.map fun u => .d (.val u))) a w' := by
  have hbs : b' < w'.heap.size := (Array.getElem?_eq_some_iff.1 hheap).1
  have hothers : ∀ j c, j ≠ i → g.bl j = some c → c ≠ b' ∧ w'.heap[c]? = w.heap[c]? := fun j c hj hc => by
    have h1 : c ≠ b := fun e => hj (h.inj j i b (by rw [hc, e]) hbl)
    have h2 := (h.blk j c hc).2
    refine ⟨fun e => ?_, hne c h2 h1⟩
    rcases hbb with e2 | e2
    · exact h1 (e.trans e2)
    · omega
  have ev : Evo g w (g.addb i b') w' := by
    refine ⟨hb0, rfl, fun c o hf hs => ?_, fun c hc => ?_, fun j c hj => ?_, fun _ T h => .inl ⟨T, h, .inl rfl⟩, fun t T _ h h' => .inr (.inr ⟨t, T, h, h'⟩), fun j c hj hc hc' => ?_⟩
    · have hcl := see_lt hs
      have hcb : c ≠ b := fun e => hf.2.1 i (by rw [hbl, e])
      refine ⟨⟨hf.1, fun j hj => ?_, hf.2.2⟩, see_of_block (hne c hcl hcb) o⟩
      simp only [Gh.addb] at hj
      split at hj
      · cases hj
        rcases hbb with e2 | e2
        · exact hcb e2
        · omega
      · exact hf.2.1 j hj
    · rcases Nat.lt_or_ge c w.heap.size with h1 | h1
      · exact hne c h1 fun e => hc (.inr (.inl ⟨i, e ▸ hbl⟩))
      · exact absurd (.inl h1) hc
    · simp only [Gh.addb] at hj
      split at hj
      · rename_i e
        cases hj
        refine .inr ⟨e ▸ hsm, ?_⟩
        rcases hbb with e2 | e2
        · exact .inr (.inl ⟨i, e2 ▸ hbl⟩)
        · exact .inl e2
      · exact .inl hj
    · have hji : j ≠ i := fun e => hj (e ▸ hsm)
      exact shape_of_block (hothers j c hji hc).2
  have srep : ∀ v x, SRep g w v x → SRep (g.addb i b') w' v (x.kill i) := fun v x hx =>
    (hx.le (kill_le i x)).extp ev.fx (fun j hj c hc => by
      simp only [Gh.addb]
      rw [if_neg (kill_ids hj).2]
      exact hc) (fun t' k' es e T' hT' => ⟨T', hT', .inl rfl⟩) fun j hj c hc => shape_of_block (hothers j c (kill_ids hj).2 hc).2
  obtain ⟨-, hk⟩ := h.kill i
  have hxs : ∀ (j : Nat) c, (vs.map fun u => SV.d (.val u))[j]? = some c → ∃ x, xs[j]? = some x ∧ SRep (g.addb i b') w' x c := fun j c hj => by
    rw [List.getElem?_map, Option.map_eq_some_iff] at hj
    obtain ⟨u, hu, rfl⟩ := hj
    obtain ⟨h1, h2⟩ := hx j u hu
    exact ⟨u, h1, DRep.val u h2⟩
  refine { hk with evo := h.evo.trans ev, defers := h.defers.evo ev, base := Nat.le_trans h.base hb0.size, f0 := h.f0, lim := hk.lim, size := hk.size, glob := fun q cs hq => srep _ (.rd cs) (h.glob q cs hq), slots := fun j => ?_, boxes := fun j cs' hj hj5 => ?_, maps := fun j ms hj hge => ?_, blk := fun j c hj => ?_, dom := fun j c hj => ?_, inj := fun j k c hj hk => ?_, toks := fun t' T' hT' => ?_, tf0 := h.tf0, telt := h.telt, tdis := h.tdis, tdom := h.tdom, tlen := h.tlen }
  · show SRep _ w' _ ((st.kill i).get j)
    rw [kill_get]
    exact srep _ _ (h.slots j)
  · rw [bget_bput] at hj
    by_cases e : j = i
    · rw [if_pos e] at hj
      cases hj
      refine ⟨b', xs, T, by simp [Gh.addb, e], hheap, by simpa using hl, hxs, fun q u hq hu => ?_⟩
      rw [List.length_map] at hq
      have h1 := hx q _ (List.getElem?_eq_getElem hq)
      rw [h1.1] at hu
      cases hu
      exact h1.2
    · rw [if_neg e] at hj
      rw [kill_bget, if_neg e, Option.map_eq_some_iff] at hj
      obtain ⟨cs0, q1, rfl⟩ := hj
      obtain ⟨c, ys, T', q2, q3, q4, q5, q6⟩ := h.boxes j cs0 q1 hj5
      refine ⟨c, ys, T', by simp [Gh.addb, e, q2], (hothers j c e q2).2.trans q3, by simpa using q4, fun q c0 hq => ?_, fun q u hq hu => q6 q u (by simpa using hq) hu⟩
      rw [List.getElem?_map, Option.map_eq_some_iff] at hq
      obtain ⟨c1, q7, rfl⟩ := hq
      obtain ⟨x, q8, q9⟩ := q5 q c1 q7
      exact ⟨x, q8, srep _ _ q9⟩
  · have e : j ≠ i := by omega
    rw [bget_bput, if_neg e, kill_bget, if_neg e, Option.map_eq_some_iff] at hj
    obtain ⟨cs0, q1, q2⟩ := hj
    have q3 := kill_mc q2
    subst q3
    obtain ⟨c, es, c', q4, q5, q6⟩ := h.maps j ms q1 hge
    exact ⟨c, es, c', by simp [Gh.addb, e, q4], (hothers j c e q4).2.trans q5, q6.mono ev.fx⟩
  · simp only [Gh.addb] at hj
    split at hj
    · cases hj
      refine ⟨fun o => ?_, hbs⟩
      rcases hbb with e2 | e2
      · rw [e2]; exact (h.blk i b hbl).1 o
      · exact h.f0 _ o (Nat.le_trans h.base e2)
    · exact ⟨(h.blk j c hj).1, Nat.lt_of_lt_of_le (h.blk j c hj).2 hb0.size⟩
  · rw [bget_bput]
    simp only [Gh.addb] at hj
    split at hj
    · rename_i e; simp [e]
    · rename_i e
      rw [if_neg e, kill_bget, if_neg e]
      have := h.dom j c hj
      cases q : st.bget j with
      | none => exact absurd q this
      | some x => simp
  · simp only [Gh.addb] at hj hk
    split at hj <;> split at hk
    · omega
    · rename_i e1 e2; cases hj; exact absurd rfl (hothers k _ e2 hk).1
    · rename_i e1 e2; cases hk; exact absurd rfl (hothers j _ e1 hj).1
    · exact h.inj j k c hj hk
  · obtain ⟨⟨n, ys, h1⟩, h2⟩ := h.toks t' T' hT'
    have h3 : ∀ c, T'.v.ownBlock = some c → c ≠ b ∧ c < w.heap.size := fun c hc => ⟨fun e => h2 i b (e ▸ hc) hbl, (h1.lt c hc).2⟩
    refine ⟨⟨n, ys, ownsRow_of_same h1 fun c hc => hne c (h3 c hc).2 (h3 c hc).1⟩, fun j c hc hj => ?_⟩
    simp only [Gh.addb] at hj
    split at hj
    · cases hj
      have := h3 _ hc
      rcases hbb with e2 | e2
      · exact this.1 e2
      · omega
    · exact h2 j c hc hj

section
variable {P : Program} {ops : Array Oper} {K : PS → Prop} {rest : List Oper} {st : PS} {ty : TypeId} {pos : String} {af : Array Edge} {gd : Option (Nat × Bool)}
theorem news_vals {F : Nat → Nat → Prop} {w : World} {k m : Nat} {vs news : List Value} {es : List (List DV)} (hes : chunk k m (vs.map .val) = es) (hvl : vs.length = m * k) (hnl : news.length = es.length * k)
    (h : ∀ (i j : Nat) e z, es[i]? = some e → e[j]? = some z → ∃ u, news[i * k + j]? = some u ∧ DRep F w u z) : news = vs := by
  have hm : es.length = m := by rw [← hes, chunk_length]
  refine List.ext_getElem? fun j => ?_
  by_cases hj : j < m * k
  · have hk0 : 0 < k := by
      rcases Nat.eq_zero_or_pos k with h0 | h0
      · rw [h0, Nat.mul_zero] at hj; omega
      · exact h0
    have hq : j / k < es.length := by rw [hm]; exact Nat.div_lt_of_lt_mul (by rw [Nat.mul_comm]; exact hj)
    have hr : j % k < k := Nat.mod_lt _ hk0
    have he := List.getElem?_eq_getElem hq
    have hlen : es[j / k].length = k := by
      have := chunk_mem k m (vs.map .val) (by simpa using hvl)
      exact this _ (by rw [hes]; exact List.getElem_mem hq)
    have hx := List.getElem?_eq_getElem (l := es[j / k]) (i := j % k) (by omega)
    obtain ⟨u, t1, t2⟩ := h _ _ _ _ he hx
    have t3 := (chunk_get k m (vs.map .val) (j / k) (j % k) es[j / k] _ (by rw [hes]; exact he) hx (by simpa using hvl)).1
    have e : j / k * k + j % k = j := by rw [Nat.mul_comm]; exact Nat.div_add_mod j k
    rw [e] at t1 t3
    rw [List.getElem?_map, Option.map_eq_some_iff] at t3
    obtain ⟨u', t4, t5⟩ := t3
    rw [← t5] at t2
    rw [t1, t4, DRep.val_eq t2]
  · rw [List.getElem?_eq_none (by rw [hnl, hm]; omega), List.getElem?_eq_none (by omega)]

theorem bs_own {B : Nat} {w0 : Cx} {g : Gh} {a : Act} {w : World} (hr : Rep B w0 g st a w) {i n E k : Nat} {v : Value} {vs : List Value} (hlt : i < 500000) (hv : SRep g w v (.bs i n E k)) (hi : st.bget i = some (vs.map fun u => .d (.val u))) (hn : vs.length = n * k) :
    ∃ b c xs, g.bl i = some b ∧ v = .slice (some ⟨b, 0, none⟩) n c ∧ n ≤ c ∧ c ≤ maxLen ∧ w.heap[b]? = some (.cells xs E (0, 0)) ∧ xs.size = c * k ∧ w.ownsRow 0 E k v n vs ∧ ∀ u ∈ vs, u.oneCell' = true := by
  obtain ⟨b, c, q1, q2, q3, q4, q5⟩ := hv
  obtain ⟨b', xs, T, q6, q7, q8, q9, q10⟩ := hr.boxes i _ hi hlt
  rw [q1] at q6
  cases q6
  have hsh : T = E ∧ xs.size = c * k := by
    simp only [World.shape?, q7, Option.some.injEq, Prod.mk.injEq] at q5
    exact q5
  obtain ⟨rfl, hsz⟩ := hsh
  rw [List.length_map] at q8 q10
  have hxv : ∀ (j : Nat) u, vs[j]? = some u → xs[j]? = some u ∧ u.oneCell' = true := fun j u hj => by
    obtain ⟨u', t1, t2⟩ := q9 j (.d (.val u)) (by rw [List.getElem?_map, hj]; rfl)
    have t3 := DRep.val_eq t2
    subst t3
    exact ⟨t1, q10 j u' (List.getElem?_eq_some_iff.1 hj).1 t1⟩
  have hone : ∀ u ∈ vs, u.oneCell' = true := fun u hu => by
    obtain ⟨j, hj⟩ := List.mem_iff_getElem?.1 hu
    exact (hxv j u hj).2
  refine ⟨b, c, xs, q1, q2, q3, q4, q7, hsz, ?_, hone⟩
  rw [q2]
  refine ⟨hn, .inr ⟨b, c, xs, rfl, Nat.zero_le _, q7, q3, q4, hsz, ?_⟩⟩
  refine List.ext_getElem? fun j => ?_
  by_cases hj : j < n * k
  · rw [List.getElem?_take_of_lt hj]
    have hjv := List.getElem?_eq_getElem (l := vs) (i := j) (by omega)
    rw [hjv]
    simpa using (hxv j _ hjv).1
  · rw [List.getElem?_eq_none (by simp; omega), List.getElem?_eq_none (by omega)]
theorem yTw {T E k bytes n m i e : Nat} {x y : Operand} {us vs : List Value} {es : List (List DV)} [hA : AppOf P T E k bytes] (h0 : 0 < m) (hb : (n + m) * bytes ≤ 140737488351232) (hm : n + m ≤ 140737488351232) (hes : chunk k m (vs.map .val) = es) (hvl : vs.length = m * k) (hul : us.length = n * k) (hx : st.ev x = .bs i n E k) (hi : st.bget i = some (us.map fun u => .d (.val u))) (hy : asSl (st.ev y) = some (k, es))
    (h : YR P true ops K rest (((st.kill i).bput i ((us ++ vs).map fun u => .d (.val u))).put (some e) (.bs i (n + m) E k))) (hd : dstOk ⟨some e, .call { callee := .builtin .append, args := #[x, y], argTypes := #[T, T] }, ty, pos, af, gd⟩ st = true := by kernel_rfl) (hw : st.want ops ⟨some e, .call { callee := .builtin .append, args := #[x, y], argTypes := #[T, T] }, ty, pos, af, gd⟩ = some true := by rfl) (hlt : Nat.blt i 500000 = true := by rfl) (hsm : Nat.blt (i % 500000) 10000 = true := by rfl) :
    YR P true ops K (⟨some e, .call { callee := .builtin .append, args := #[x, y], argTypes := #[T, T] }, ty, pos, af, gd⟩ :: rest) st := by
  have hlt5 : i < 500000 := Nat.le_of_ble_eq_true hlt
  have hsm5 : smB i := Nat.le_of_ble_eq_true hsm
  clear hlt hsm
  refine .any rfl fun B w0 Q hQ g a w hr => ?_
  have h1 := hr.eval x
  rw [hx] at h1
  obtain ⟨b, c, xs, p1, p2, p3, p4, p5, p6, p7, p8⟩ := bs_own hr hlt5 h1 hi hul
  obtain ⟨A2, c2, news, hv2, hl2, hcell2, hone2, hrep2⟩ := asSl_cells hr hy
  have hel : es.length = m := by rw [← hes, chunk_length]
  obtain rfl := news_vals hes hvl hl2 hrep2
  obtain ⟨ti, z, q1, q2, q3, q4, q5⟩ := hA.inf
  obtain ⟨v', w', r1, r2, r3, r4, r5, r6, r7⟩ := run_app (P := P) w 0 T ty E ti z k bytes hA.und q1 q2 q3 q4 q5 (a.eval x) n us p7 A2 es.length c2 news hl2 (fun h0 => by
    obtain ⟨b, off, rfl, hcell⟩ := hcell2 h0
    exact ⟨_, rfl, fun j u hj => by rw [Addr.add_lit]; exact hcell j u hj⟩) hone2 (by unfold maxLen; omega) (by rw [hel]; omega) (Nat.zero_le _)
  rw [hel] at r2
  obtain ⟨hxl, (⟨-, q0⟩ | ⟨gb, cap, cur, rfl, t1, t2, t3, t4, t5, t6⟩)⟩ := r2
  · omega
  have hob : (a.eval x).ownBlock = some b := by rw [p2]; rfl
  have hbb : gb = b ∨ w.heap.size ≤ gb := by
    rcases r6 with r6 | r6
    · rw [hob] at r6; exact .inl (by simpa [Value.ownBlock] using r6)
    · exact .inr (by have : gb = w.heap.size := by simpa [Value.ownBlock] using r6
                     omega)
  have hcur : ∀ (j : Nat) (u : Value), (us ++ news)[j]? = some u → cur[j]? = some u ∧ u.oneCell' = true := fun j u hj => by
    refine ⟨?_, ?_⟩
    · rw [← t6] at hj
      have hj' : j < (n + m) * k := by have := (List.getElem?_eq_some_iff.1 hj).1; rw [List.length_take] at this; omega
      rw [List.getElem?_take_of_lt hj'] at hj
      simpa using hj
    · rcases List.mem_append.1 (List.mem_of_getElem? hj) with q | q
      · exact p8 u q
      · exact hone2 u q
  have hr' := hr.rebox hlt5 hsm5 p1 r3 (fun k hk hne => r4 k hk (by rw [hob]; exact fun e => hne (Option.some.inj e).symm)) hbb cur t2 (us ++ news) (by rw [hxl, t5]; exact Nat.mul_le_mul_right _ t3) hcur
  have hrun : (execOp a.eval ⟨some e, .call { callee := .builtin .append, args := #[x, y], argTypes := #[T, T] }, ty, pos, af, gd⟩).run P w = .ok (.value (.slice (some ⟨gb, 0, none⟩) (n + m) cap)) w' := by
    simp only [execOp, resolve, invoke, builtin, Sem.run_bind, Sem.run_pure, Result.andThen_ok, List.map_toArray, List.map_cons, List.map_nil, hv2, r1]
  unfold wpList
  rw [if_pos (want_spec hr hw)]
  refine .inl ?_
  unfold Oper.wp
  rw [hrun]
  refine h.sound hQ (hr'.put (x := .bs i (n + m) E k) ⟨gb, cap, by simp [Gh.addb], rfl, t3, t4, by simp [World.shape?, t2, t5]⟩ _ ?_)
  intro j hj
  exact dstOk_spec (st := st) hd j hj
def PRowC (P : Program) (f : FuncId) (E k : Nat) (vs vs' : List Value) : Prop :=
  ∀ (w : World) (A : Option Addr) (c n : Nat), w.ownsRow 0 E k (.slice A n c) n vs → 0 < n → (∀ u ∈ vs, u.oneCell' = true) → Calls P f #[.slice A n c] w fun e w' => ∃ n' rest, e = .returned (.slice A n' c) ∧ n' ≤ n ∧ vs'.length = n' * k ∧ w'.ownsRow 0 E k (.slice A n c) n (vs' ++ rest) ∧ (∀ u ∈ vs', u.oneCell' = true) ∧ w.grownBy w' (Value.slice A n c).ownBlock
end
end Go.Proofs.YtkfoogabijnamaaGreatDoor.Px
set_option maxHeartbeats 1000000
namespace Go.Proofs.YtkfoogabijnamaaGreatDoor.Px
open Go.RowKit

def Rcl (k : Nat) (es : List (List DV)) (F : Nat → Nat → Prop) (w : World) (v : Value) : Prop := DRep F w v (.sl k es) ∧ ∃ A, v = .slice A es.length es.length
abbrev dCl (k : Nat) (es : List (List DV)) : DV := .abs (Rcl k es)
theorem Rcl.mono {k : Nat} {es : List (List DV)} (F F' : Nat → Nat → Prop) (w w' : World) (v : Value) (h : Rcl k es F w v) (hk : Kp F w F' w') : Rcl k es F' w' v := ⟨h.1.mono hk, h.2⟩
theorem DRep.of_cl {F : Nat → Nat → Prop} {w : World} {v : Value} {k : Nat} {es : List (List DV)} (h : DRep F w v (.sl k es)) (h2 : ∃ A, v = .slice A es.length es.length) : DRep F w v (dCl k es) :=
  .abs Rcl.mono (by obtain ⟨A, rfl⟩ := h2; rfl) ⟨h, h2⟩
theorem DRep.cl {F : Nat → Nat → Prop} {w : World} {v : Value} {k : Nat} {es : List (List DV)} (h : DRep F w v (dCl k es)) : Rcl k es F w v := by
  generalize e : dCl k es = x at h
  cases h with
  | abs hR h1 h => cases e; exact h
  | _ => cases e
theorem DRep.cap {F : Nat → Nat → Prop} {w : World} {A A' : Option Addr} {n c c' k : Nat} {es : List (List DV)} (h : DRep F w (.slice A n c) (.sl k es)) (hc : n ≤ c') (hA : 0 < n → A' = A) : DRep F w (.slice A' n c') (.sl k es) := by
  obtain ⟨A0, c0, news, hv, h1, h2, h3, h4, h5, h6, h7⟩ := DRep.row h
  obtain ⟨e1, e2, e3⟩ := Value.slice.inj hv
  subst e1 e2 e3
  exact DRep.of_row (xs := news) hc h2 h3 (fun h0 => by rw [hA h0]; exact h5 h0) h6 h7
theorem add_zero (k : Nat) (A : Option Addr) : A.map (·.add (0 * k)) = A := by
  cases A with
  | none => rfl
  | some a => simp [Addr.add]

section
variable {P : Program} {sq : Bool} {ops : Array Oper} {K : PS → Prop} {rest : List Oper} {st : PS} {d : Option Nat} {op : Op} {ty : TypeId} {pos : String} {af : Array Edge} {gd : Option (Nat × Bool)} {q : Nat × Bool}
theorem ls_litc (T : TypeId) (n : Nat) (ps : List (Nat × Operand)) {E k : Nat} {zs : List Value} {qs : List (Nat × List DV)} {ys : List DV} {es : List (List DV)} [hB : LitOf P T E k zs] (hq : partDs st ps = some qs) (hf : dfill (fun i => some (i * k, k)) (zerosD zs n) qs = some ys) (he : chunk k n ys = es) (hsm : Nat.ble (n * k) 16777216 = true) (hsn : Nat.ble n 16777216 = true) (hd : dstOk ⟨d, .buildSlice T n ps.toArray, ty, pos, af, gd⟩ st = true) :
    LocS P ⟨d, .buildSlice T n ps.toArray, ty, pos, af, gd⟩ st (.d (dCl k es)) .no := fun st2 ha => by
  have hsm := Nat.le_of_ble_eq_true hsm
  have hsn := Nat.le_of_ble_eq_true hsn
  refine OpS.value (ha.dst hd) fun _ _ g a w h => ?_
  have hq2 : partDs st2 ps = some qs := by
    rw [partDs_congr fun p hp => ha.ev p.2 ?_]
    · exact hq
    · simp only [Op.operands, List.mem_toArray, List.mem_map]
      exact ⟨p, hp, rfl⟩
  obtain ⟨us, h1, -, h3⟩ := lit_core (P := P) (T := T) (d := d) (ty := ty) (pos := pos) (af := af) (gd := gd) hq2 hf he hsm hsn h
  have hl : es.length = n := by rw [← he, chunk_length]
  exact ⟨_, _, h1, (Below.refl _ _).alloc (Nat.le_refl _) _, DRep.of_cl h3 ⟨_, by rw [hl]⟩⟩
theorem yRl {T n : Nat} {ps : List (Nat × Operand)} {E k : Nat} {zs : List Value} {qs : List (Nat × List DV)} {ys : List DV} {es : List (List DV)} [LitOf P T E k zs] (hq : partDs st ps = some qs) (hf : dfill (fun i => some (i * k, k)) (zerosD zs n) qs = some ys) (he : chunk k n ys = es) (hs : Nat.ble (n * k) 16777216 = true) (hs' : Nat.ble n 16777216 = true) (h : YR P sq ops K rest (st.put d (.d (dCl k es)))) (hd : dstOk ⟨d, .buildSlice T n ps.toArray, ty, pos, af, gd⟩ st = true := by kernel_rfl) (hk : opOk ⟨d, .buildSlice T n ps.toArray, ty, pos, af, gd⟩ st .no = true := by kernel_rfl) (hw : st.want ops ⟨d, .buildSlice T n ps.toArray, ty, pos, af, gd⟩ = some true := by rfl) :
    YR P sq ops K (⟨d, .buildSlice T n ps.toArray, ty, pos, af, gd⟩ :: rest) st := yr_v (ls_litc T n ps hq hf he hs hs' hd) hk hw h
theorem ls_slice_c (T : TypeId) (x y z : Operand) {E k : Nat} {n : Int} {kd kd' : IntKind} {es es' : List (List DV)} [hS : SliceOf P T E k] (hx : asSl (st.ev x) = some (k, es)) (hy : st.ev y = .d (.val (.int kd n))) (hz : st.ev z = .d (.val (.int kd' n))) (h0 : 0 ≤ n) (he : n ≤ es.length) (hes : es.take n.toNat = es') (hd : dstOk ⟨d, .slice T x none (some y) (some z), ty, pos, af, gd⟩ st = true) :
    LocS P ⟨d, .slice T x none (some y) (some z), ty, pos, af, gd⟩ st (.d (dCl k es')) .no := fun st2 ha =>
  OpS.value (ha.dst hd) fun _ _ g a w h => by
    have h1 := h.eval x
    rw [ha.ev x (by simp [Op.operands])] at h1
    have h1 := h1.asSl hx
    obtain ⟨A, c, news, hv, hc, hm, -⟩ := DRep.row h1
    have h2 := h.eval y
    rw [ha.ev y (by simp [Op.operands]), hy] at h2
    have h3 := h.eval z
    rw [ha.ev z (by simp [Op.operands]), hz] at h3
    rw [hv] at h1
    have hp := h1.part 0 n.toNat (by omega) (by omega)
    rw [List.drop_zero, Nat.sub_zero, add_zero, ite_self] at hp
    have hel : es'.length = n.toNat := by rw [← hes, List.length_take]; omega
    refine ⟨.slice A n.toNat n.toNat, w, ?_, Below.refl _ _, DRep.of_cl ?_ ⟨A, by rw [hel]⟩⟩
    · have hn : 0 ≤ n ∧ n ≤ (c : Int) := ⟨h0, by omega⟩
      have hn2 : 0 ≤ n ∧ n ≤ ((n.toNat : Nat) : Int) := ⟨h0, by omega⟩
      simp only [execOp, Instr.sliceAt, Instr.slice, Instr.sliceBounds, Instr.sliceBound, hv, DRep.val_eq h2, DRep.val_eq h3, asIntOf, Sem.run_bind, Sem.run_pure, Result.andThen_ok, hS.und, hn, hn2, and_self, if_true, hS.size, Option.map_some, Option.map_none, Nat.sub_zero, add_zero, ite_self]
    · rw [← hes]; exact hp.cap (Nat.le_refl _) fun _ => rfl
theorem yDc {T E k : Nat} {x y z : Operand} {n : Int} {kd kd' : IntKind} {es es' : List (List DV)} [SliceOf P T E k] (h0 : 0 ≤ n) (he : n ≤ es.length) (hes : es.take n.toNat = es') (hx : asSl (st.ev x) = some (k, es)) (hy : st.ev y = .d (.val (.int kd n))) (hz : st.ev z = .d (.val (.int kd' n))) (h : YR P sq ops K rest (st.put d (.d (dCl k es')))) (hd : dstOk ⟨d, .slice T x none (some y) (some z), ty, pos, af, gd⟩ st = true := by kernel_rfl) (hk : opOk ⟨d, .slice T x none (some y) (some z), ty, pos, af, gd⟩ st .no = true := by kernel_rfl) (hw : st.want ops ⟨d, .slice T x none (some y) (some z), ty, pos, af, gd⟩ = some true := by rfl) :
    YR P sq ops K (⟨d, .slice T x none (some y) (some z), ty, pos, af, gd⟩ :: rest) st := yr_v (ls_slice_c T x y z hx hy hz h0 he hes hd) hk hw h
end
section
variable {P : Program} {ops : Array Oper} {K : PS → Prop} {rest : List Oper} {st : PS} {ty : TypeId} {pos : String} {af : Array Edge} {gd : Option (Nat × Bool)}
variable {B : Nat} {w0 : Cx} {Q : Exit → PS → Prop} {c : Code}
end
end Go.Proofs.YtkfoogabijnamaaGreatDoor.Px
namespace Go.Proofs.YtkfoogabijnamaaGreatDoor.Px
open Go.RowKit
section
variable {P : Program} {sq : Bool} {ops : Array Oper} {K : PS → Prop} {rest : List Oper} {st : PS} {d : Option Nat} {ty : TypeId} {pos : String} {af : Array Edge} {gd : Option (Nat × Bool)}
end
end Go.Proofs.YtkfoogabijnamaaGreatDoor.Px
set_option maxHeartbeats 1000000
namespace Go.Proofs.YtkfoogabijnamaaGreatDoor.Px
open Go.RowKit

section
variable {P : Program} {sq : Bool} {ops : Array Oper} {K : PS → Prop} {rest : List Oper} {st : PS} {d : Option Nat} {op : Op} {ty : TypeId} {pos : String} {af : Array Edge} {gd : Option (Nat × Bool)} {q : Nat × Bool}
theorem DRep.fresh {B : Nat} {w0 : Cx} {g : Gh} {a : Act} {w w' : World} (h : Rep B w0 g st a w) (hb : Below w.heap.size w w') {E k n : Nat} {v : Value} {xs : List Value} {es : List (List DV)} (hown : w'.ownsRow w.heap.size E k v n xs) (hn : es.length = n) (h0 : 0 < n) (hm : n ≤ 9223372036854775807) (hk : ∀ e ∈ es, e.length = k) (h1 : ∀ u ∈ xs, u.oneCell' = true)
    (hrep : ∀ (i j : Nat) e x, es[i]? = some e → e[j]? = some x → ∃ u, xs[i * k + j]? = some u ∧ DRep (Fx g) w u x) : DRep (Fx g) w' v (.sl k es) := by
  subst hn
  have e0 := (Ext.grow h hb).fx
  obtain ⟨A, c, h2, h3, h4⟩ := own_form hown
  rcases hown.2 with ⟨e6, e7⟩ | ⟨gb, cap, cur, e6, e7, e8, -⟩
  · rw [e6] at h2
    have := (Value.slice.inj h2).2.1
    omega
  · have e9 : A = some ⟨gb, 0, none⟩ := (Value.slice.inj (h2.symm.trans e6)).1
    rw [h2]
    refine DRep.of_row (xs := xs) h3 hm hk (fun _ => ⟨gb, 0, e9, fun j u hj => ⟨?_, ?_⟩⟩) h1 fun i j e x he hx => ?_
    · rw [Nat.zero_add]; exact own_cell hown (by rw [e6]; rfl) j u hj
    · refine ⟨h.f0 _ _ (Nat.le_trans h.base e7), fun i' hi' => ?_, fun t T n' c' hT hv => ?_⟩
      · have := (h.blk i' _ hi').2; omega
      · obtain ⟨⟨n'', ys, h8⟩, -⟩ := h.toks t T hT
        have := (h8.lt gb (by rw [hv]; rfl)).2
        omega
    · obtain ⟨u, h8, h9⟩ := hrep i j e x he hx
      exact ⟨u, h8, h9.mono e0⟩
theorem ls_app_c (T : TypeId) (x y : Operand) {E k bytes : Nat} {es es2 : List (List DV)} [hA : AppOf P T E k bytes] (hk0 : 0 < k) (hb : (es.length + es2.length) * bytes ≤ 140737488351232) (hm : es.length + es2.length ≤ 140737488351232) (hx : st.ev x = .d (dCl k es)) (hy : asSl (st.ev y) = some (k, es2)) (hd : dstOk ⟨d, .call { callee := .builtin .append, args := #[x, y], argTypes := #[T, T] }, ty, pos, af, gd⟩ st = true) :
    LocS P ⟨d, .call { callee := .builtin .append, args := #[x, y], argTypes := #[T, T] }, ty, pos, af, gd⟩ st (.d (.sl k (es ++ es2))) .no := fun st2 ha =>
  OpS.value (ha.dst hd) fun _ _ g a w hr => by
    have h1 := hr.eval x
    rw [ha.ev x (by simp [Op.operands, Call.operands]), hx] at h1
    obtain ⟨h1, A0, h1v⟩ := DRep.cl h1
    have h3 := hr.eval y
    rw [ha.ev y (by simp [Op.operands, Call.operands])] at h3
    obtain ⟨A2, c2, news, hv2, hc2, hm2, hk2, hl2, hcell2, hone2, hrep2⟩ := DRep.row (h3.asSl hy)
    obtain ⟨A1, c1, olds, hv1, hc1, hm1, hk1, hl1, hcell1, hone1, hrep1⟩ := DRep.row h1
    obtain ⟨ti, z, q1, q2, q3, q4, q5⟩ := hA.inf
    have hrun : ∀ v' w', (Builtin.append_ #[T, T] ty #[a.eval x, .slice A2 es2.length c2]).run P w = .ok v' w' → (execOp a.eval ⟨d, .call { callee := .builtin .append, args := #[x, y], argTypes := #[T, T] }, ty, pos, af, gd⟩).run P w = .ok (.value v') w' := fun v' w' r => by
      simp only [execOp, resolve, invoke, builtin, Sem.run_bind, Sem.run_pure, Result.andThen_ok, List.map_toArray, List.map_cons, List.map_nil, hv2, r]
    rcases Nat.eq_zero_or_pos es2.length with h0 | h0
    · have he2 : es2 = [] := List.eq_nil_of_length_eq_zero h0
      subst he2
      refine ⟨a.eval x, w, hrun _ _ ?_, Below.refl _ _, by rw [List.append_nil]; exact h1⟩
      rw [h1v]
      cases A0 <;> cases A2 <;> simp [Builtin.append_, run_underlying hA.und, sizeOf, typeInfo, q1, Builtin.lenOf, Builtin.firstCells, loadCells, loadCellsFrom, storeCells]
    · obtain ⟨b2, off2, rfl, hcell⟩ := hcell2 h0
      have happ : ∃ v' w', (Builtin.append_ #[T, T] ty #[a.eval x, .slice (some ⟨b2, off2, none⟩) es2.length c2]).run P w = .ok v' w' ∧ w'.ownsRow w.heap.size E k v' (es.length + es2.length) (olds ++ news) ∧ Below w.heap.size w w' := by
        rw [h1v]
        cases A0 with
        | none =>
          have hn0 : es.length = 0 := by
            rcases Nat.eq_zero_or_pos es.length with e | e
            · exact e
            · obtain ⟨b, off, e2, -⟩ := hcell1 e
              rw [h1v] at hv1
              have := (Value.slice.inj hv1).1
              rw [e2] at this
              cases this
          have ho : olds = [] := List.eq_nil_of_length_eq_zero (by rw [hl1, hn0, Nat.zero_mul])
          subst ho
          rw [hn0]
          obtain ⟨v', w', r1, r2, r3, r4, r5, r6, r7⟩ := run_app (P := P) w w.heap.size T ty E ti z k bytes hA.und q1 q2 q3 q4 q5 (.slice none 0 0) 0 [] (World.ownsRow_nil _ _ _ _) (some ⟨b2, off2, none⟩) es2.length c2 news hl2 (fun _ => ⟨_, rfl, fun j u hj => by rw [Addr.add_lit]; exact (hcell j u hj).1⟩) hone2 (by unfold maxLen; omega) (by rw [hn0] at hb; exact Nat.le_trans hb (by decide)) (Nat.le_refl _)
          exact ⟨v', w', r1, r2, r3.os, r3.tape, r3.output, r3.size, fun k hk => r4 k hk (by simp [Value.ownBlock])⟩
        | some ad =>
          obtain ⟨v', w', r1, r2, r3⟩ := run_append_arg_grows (P := P) (w := w) T ty E ti z k bytes hA.und q1 q2 q3 q4 q5 hk0 ad es.length es.length olds hl1 (fun j u hj => by
            have hn0 : 0 < es.length := by
              rcases Nat.eq_zero_or_pos es.length with e | e
              · have := (List.getElem?_eq_some_iff.1 hj).1
                rw [hl1, e, Nat.zero_mul] at this
                omega
              · exact e
            obtain ⟨b, off, e2, hc⟩ := hcell1 hn0
            rw [h1v] at hv1
            have := (Value.slice.inj hv1).1
            rw [e2] at this
            cases this
            rw [Addr.add_lit]
            exact (hc j u hj).1) ⟨b2, off2, none⟩ es2.length c2 news hl2 (fun j u hj => by rw [Addr.add_lit]; exact (hcell j u hj).1) (by omega) (by unfold maxLen; omega) (by omega)
          exact ⟨v', w', r1, r2, r3.os, r3.tape, r3.output, r3.size, fun k hk => r3.block k hk (fun e => by cases e)⟩
      obtain ⟨v', w', r1, r2, hbel⟩ := happ
      refine ⟨v', w', hrun _ _ r1, hbel, DRep.fresh hr hbel r2 (List.length_append ..) (by omega) (by omega) (fun e he => ?_) (fun u hu => ?_) fun i j e z he hz => ?_⟩
      · rcases List.mem_append.1 he with he | he
        · exact hk1 e he
        · exact hk2 e he
      · rcases List.mem_append.1 hu with hu | hu
        · exact hone1 u hu
        · exact hone2 u hu
      · by_cases hi : i < es.length
        · rw [List.getElem?_append_left hi] at he
          obtain ⟨u, e6, e7⟩ := hrep1 i j e z he hz
          refine ⟨u, ?_, e7⟩
          rw [List.getElem?_append_left (List.getElem?_eq_some_iff.1 e6).1]
          exact e6
        · rw [List.getElem?_append_right (by omega)] at he
          obtain ⟨u, e6, e7⟩ := hrep2 (i - es.length) j e z he hz
          refine ⟨u, ?_, e7⟩
          have : i * k + j - olds.length = (i - es.length) * k + j := by
            rw [hl1, Nat.sub_mul]
            have := Nat.mul_le_mul_right k (show es.length ≤ i by omega)
            omega
          rw [List.getElem?_append_right (by rw [hl1]; have := Nat.mul_le_mul_right k (show es.length ≤ i by omega); omega), this]
          exact e6
theorem yTf {T E k bytes : Nat} {x y : Operand} {es es2 es' : List (List DV)} [hA : AppOf P T E k bytes] (hk0 : 0 < k) (hb : (es.length + es2.length) * bytes ≤ 140737488351232) (hm : es.length + es2.length ≤ 140737488351232) (hes : es ++ es2 = es') (hx : st.ev x = .d (dCl k es)) (hy : asSl (st.ev y) = some (k, es2)) (h : YR P sq ops K rest (st.put d (.d (.sl k es')))) (hd : dstOk ⟨d, .call { callee := .builtin .append, args := #[x, y], argTypes := #[T, T] }, ty, pos, af, gd⟩ st = true := by kernel_rfl) (hk : opOk ⟨d, .call { callee := .builtin .append, args := #[x, y], argTypes := #[T, T] }, ty, pos, af, gd⟩ st .no = true := by kernel_rfl) (hw : st.want ops ⟨d, .call { callee := .builtin .append, args := #[x, y], argTypes := #[T, T] }, ty, pos, af, gd⟩ = some true := by rfl) :
    YR P sq ops K (⟨d, .call { callee := .builtin .append, args := #[x, y], argTypes := #[T, T] }, ty, pos, af, gd⟩ :: rest) st := yr_v (hes ▸ ls_app_c T x y hk0 hb hm hx hy hd) hk hw h
end
end Go.Proofs.YtkfoogabijnamaaGreatDoor.Px
set_option maxHeartbeats 1000000
namespace Go.Proofs.YtkfoogabijnamaaGreatDoor
open Go.RowKit Px

section
variable {P : Program} {sq : Bool} {ops : Array Oper} {K : PS → Prop} {rest : List Oper} {st : PS} {d : Option Nat} {ty : TypeId} {pos : String} {af : Array Edge} {gd : Option (Nat × Bool)}
theorem ls_len_nil (T : TypeId) (x : Operand) {E k : Nat} [hS : SliceOf P T E k] (hx : st.ev x = .d (.val (.slice none 0 0))) (hd : dstOk ⟨d, .call { callee := .builtin .len, args := #[x], argTypes := #[T] }, ty, pos, af, gd⟩ st = true) :
    LocS P ⟨d, .call { callee := .builtin .len, args := #[x], argTypes := #[T] }, ty, pos, af, gd⟩ st (.d (.val (.int .i64 0))) .no := fun st2 ha =>
  OpS.value (ha.dst hd) fun _ _ g a w h => by
    have h1 := h.eval x
    rw [ha.ev x (by simp [Op.operands, Call.operands]), hx] at h1
    refine ⟨.int .i64 0, w, ?_, Below.refl _ _, DRep.val _ rfl⟩
    simp [execOp, resolve, invoke, builtin, Builtin.len_, DRep.val_eq h1, hS.und, goInt]
theorem yNl {T E k : Nat} {x : Operand} [SliceOf P T E k] (hx : st.ev x = .d (.val (.slice none 0 0))) (h : YR P sq ops K rest (st.put d (.d (.val (.int .i64 0))))) (hd : dstOk ⟨d, .call { callee := .builtin .len, args := #[x], argTypes := #[T] }, ty, pos, af, gd⟩ st = true := by kernel_rfl) (hk : opOk ⟨d, .call { callee := .builtin .len, args := #[x], argTypes := #[T] }, ty, pos, af, gd⟩ st .no = true := by kernel_rfl) (hw : st.want ops ⟨d, .call { callee := .builtin .len, args := #[x], argTypes := #[T] }, ty, pos, af, gd⟩ = some true := by rfl) :
    YR P sq ops K (⟨d, .call { callee := .builtin .len, args := #[x], argTypes := #[T] }, ty, pos, af, gd⟩ :: rest) st := yr_v (ls_len_nil T x hx hd) hk hw h
end
section
variable {P : Program} {ops : Array Oper} {K : PS → Prop} {rest : List Oper} {st : PS} {ty : TypeId} {pos : String} {af : Array Edge} {gd : Option (Nat × Bool)}
variable {B : Nat} {w0 : Cx} {Q : Exit → PS → Prop} {c : Code}
end
end Go.Proofs.YtkfoogabijnamaaGreatDoor
set_option maxHeartbeats 1000000
namespace Go.Proofs.YtkfoogabijnamaaGreatDoor.Px
open Go.RowKit Go.ChangeShapes

inductive CK where
  | i (k : IntKind)
  | s
  | b
def CK.is : CK → Value → Bool
  | .i k, .int k' _ => decide (k' = k)
  | .s, .string _ => true
  | .b, .bool _ => true
  | _, _ => false
def CK.ty (P : Program) (c : CK) (t : TypeId) : Bool := match c, P.underlying t with
  | .i k, some (.int k') => decide (k = k')
  | .s, some .string => true
  | .b, some .bool => true
  | _, _ => false
def veq : Value → Value → Bool
  | .int _ a, .int _ b => a == b
  | .string a, .string b => a.toList == b.toList
  | .bool a, .bool b => a == b
  | _, _ => false
def veqs : List Value → List Value → Bool
  | [], [] => true
  | x :: xs, y :: ys => veq x y && veqs xs ys
  | _, _ => false
def fits : List CK → List Value → Bool
  | [], [] => true
  | c :: cs, x :: xs => c.is x && fits cs xs
  | _, _ => false
section
variable {P : Program} (w : World)
theorem CK.plain {c : CK} {t : TypeId} (h : c.ty P t = true) : P.plainKey t = true := by
  unfold CK.ty at h
  unfold Program.plainKey
  cases e : P.underlying t with
  | none => rw [e] at h; cases c <;> simp at h
  | some d => rw [e] at h; cases c <;> cases d <;> simp at h ⊢
theorem run_veq {c : CK} {t : TypeId} (h : c.ty P t = true) {x y : Value} (hx : c.is x = true) (hy : c.is y = true) (d : Nat) : (Op.equalIn (d + 1) t x y).run P w = .ok (veq x y) w := by
  unfold CK.ty at h
  cases e : P.underlying t with
  | none => rw [e] at h; cases c <;> simp at h
  | some u =>
    rw [e] at h
    cases c with
    | i k =>
      cases u <;> simp at h
      subst h
      cases x <;> simp [CK.is] at hx
      cases y <;> simp [CK.is] at hy
      subst hx hy
      exact run_equalIn_int w d t _ _ _ _ e
    | s =>
      cases u <;> simp at h
      cases x <;> simp [CK.is] at hx
      cases y <;> simp [CK.is] at hy
      exact run_equalIn_string w d t _ _ e
    | b =>
      cases u <;> simp at h
      cases x <;> simp [CK.is] at hx
      cases y <;> simp [CK.is] at hy
      exact run_equalIn_bool' w d t _ _ e
def fieldsB (P : Program) : Nat → List CK → List Field → Bool
  | _, [], [] => true
  | off, c :: cs, f :: fs => c.ty P f.type && Nat.beq f.offset off && !(f.name == "_") && fieldsB P (off + 1) cs fs
  | _, _, _ => false
theorem run_eqFieldsV (d : Nat) (xs ys : Array Value) : ∀ (cs : List CK) (fs : List Field) (off : Nat), fieldsB P off cs fs = true → ∀ la lb : List Value, fits cs la = true → fits cs lb = true → (∀ (j : Nat) v, la[j]? = some v → xs[off + j]? = some v) → (∀ (j : Nat) v, lb[j]? = some v → ys[off + j]? = some v) →
    (Op.eqFields (d + 1) xs ys fs).run P w = .ok (veqs la lb) w
  | [], [], off, _, la, lb, ha, hb, _, _ => by
    cases la with
    | nil => cases lb with
      | nil => simp [Op.eqFields, veqs]
      | cons => cases hb
    | cons => cases ha
  | [], _ :: _, _, h, _, _, _, _, _, _ => by cases h
  | _ :: _, [], _, h, _, _, _, _, _, _ => by cases h
  | c :: cs, f :: fs, off, h, la, lb, ha, hb, hxs, hys => by
    cases la with
    | nil => cases ha
    | cons a la =>
      cases lb with
      | nil => cases hb
      | cons b lb =>
        simp only [fieldsB, fits, Bool.and_eq_true] at h ha hb
        obtain ⟨⟨⟨h1, h2⟩, h3⟩, h4⟩ := h
        have h2 := Nat.eq_of_beq_eq_true h2
        have hn : f.name ≠ "_" := by simpa using h3
        have p1 := run_part_plain w (CK.plain h1) (xs := xs) (off := f.offset) (v := a) (by rw [h2]; exact hxs 0 a rfl)
        have p2 := run_part_plain w (CK.plain h1) (xs := ys) (off := f.offset) (v := b) (by rw [h2]; exact hys 0 b rfl)
        have p3 := run_veq w h1 ha.1 hb.1 d
        have ih := run_eqFieldsV d xs ys cs fs (off + 1) h4 la lb ha.2 hb.2 (fun j v hj => by rw [show off + 1 + j = off + (j + 1) by omega]; exact hxs (j + 1) v hj) fun j v hj => by rw [show off + 1 + j = off + (j + 1) by omega]; exact hys (j + 1) v hj
        simp only [Op.eqFields, hn, ne_eq, not_false_eq_true, if_true, Sem.run_bind, p1, p2, p3, Result.andThen_ok, veqs]
        cases veq a b
        · simp
        · simpa using ih
end
class EqOf (P : Program) (T : TypeId) (cs : outParam (List CK)) : Prop where
  run : ∀ (w : World) (la lb : List Value), fits cs la = true → fits cs lb = true → (Op.equalIn 10000 T (.agg la.toArray) (.agg lb.toArray)).run P w = .ok (veqs la lb) w
  guard : P.eqGuardType P.depth T = false
theorem eqOf_struct {P : Program} {T : TypeId} {cs : List CK} (h : (match P.underlying T with | some (.struct fs) => fieldsB P 0 cs fs.toList | _ => false) = true) (hp : P.stoodInHeld T = false) (hg : P.eqGuardType P.depth T = false) : EqOf P T cs := by
  refine ⟨fun w la lb ha hb => ?_, hg⟩
  cases hu : P.underlying T with
  | none => rw [hu] at h; cases h
  | some u =>
    rw [hu] at h
    cases u with
    | struct fs =>
      have hf : P.fieldsOf T = fs := by simp [Program.fieldsOf, hu]
      rw [show (10000 : Nat) = 9999 + 1 from rfl, run_equalIn_agg w 9999 T _ _ (by rw [hf]; exact hu) hp, hf]
      exact run_eqFieldsV w 9998 _ _ cs fs.toList 0 h la lb ha hb (fun j v hj => by simpa using hj) fun j v hj => by simpa using hj
    | _ => cases h
section
variable {P : Program} {sq : Bool} {ops : Array Oper} {K : PS → Prop} {rest : List Oper} {st : PS} {d : Option Nat} {ty : TypeId} {pos : String} {af : Array Edge} {gd : Option (Nat × Bool)}
theorem yBx {t t' : Nat} {x y : Operand} {cs ds : List DV} {vs us : List Value} {ks : List CK} [hE : EqOf P t ks] (hv : fits ks vs = true) (hu : fits ks us = true) (hx : st.ev x = .d (.agg cs)) (hcx : valsOf cs = some vs) (hy : st.ev y = .d (.agg ds)) (hcy : valsOf ds = some us)
    (h : YR P sq ops K rest (st.put d (.d (.val (.bool (!veqs vs us)))))) (hd : dstOk ⟨d, .binOp .neq t x y t', ty, pos, af, gd⟩ st = true := by kernel_rfl) (hk : opOk ⟨d, .binOp .neq t x y t', ty, pos, af, gd⟩ st .no = true := by kernel_rfl) (hw : st.want ops ⟨d, .binOp .neq t x y t', ty, pos, af, gd⟩ = some true := by rfl) : YR P sq ops K (⟨d, .binOp .neq t x y t', ty, pos, af, gd⟩ :: rest) st :=
  yBA (fun w => by rw [Sem.run_bind, run_eqGuard_agg w _ _ _ _ _ _ hE.guard, Result.andThen_ok, run_neq_struct, hE.run w vs us hv hu]; rfl) rfl hx hcx hy hcy h hd hk hw
end
theorem veq_str (a b : List UInt8) : veq (vS a) (vS b) = (a == b) := by
  show ((ByteArray.mk a.toArray).toList == (ByteArray.mk b.toArray).toList) = (a == b)
  rw [str_list, str_list]
end Go.Proofs.YtkfoogabijnamaaGreatDoor.Px
set_option maxHeartbeats 1000000
namespace Go.Proofs.YtkfoogabijnamaaGreatDoor.Px
open Go.RowKit

theorem wp_q {P : Program} {o : Oper} {a : Act} {w : World} {K K' : Act → World → Prop} {Q Q' : Exit → Act → World → Prop} (h : ∀ a w, K a w → K' a w) (hq : ∀ e a w, e ≠ .normal → Q e a w → Q' e a w) (hh : o.wp P a w K Q) : o.wp P a w K' Q' := by
  have hl : LetsOut Q → LetsOut Q' := fun ⟨a, w, h⟩ => ⟨a, w, hq _ _ _ (by simp) h⟩
  unfold Oper.wp at *
  generalize (execOp a.eval o).run P w = r at *
  cases r with
  | ok n w' =>
    cases n <;> simp only [Oper.upon] at hh ⊢ <;>
      first
        | exact h _ _ hh
        | exact Calls.mono hh (fun e w'' he => by cases e <;> first | exact h _ _ he | exact hl he | exact hq _ _ _ (by simp) he)
        | exact Rows.mono hh (fun _ _ he => h _ _ he)
  | halt x w' => cases x <;> simp only [Oper.upon] at hh ⊢ <;> first | exact hq _ _ _ (by simp) hh | exact hh
def allR : List Nat → (Nat → Prop) → Prop
  | [], _ => True
  | i :: l, p => p i ∧ allR l p
theorem allR_mem {l : List Nat} {p : Nat → Prop} (h : allR l p) {i : Nat} (hi : i ∈ l) : p i := by
  induction l with
  | nil => cases hi
  | cons j l ih =>
    rcases List.mem_cons.1 hi with rfl | hi
    · exact h.1
    · exact ih h.2 hi
def gt (dflt : Bool) : List Bool → Nat → Bool
  | [], _ => dflt
  | b :: _, 0 => b
  | _ :: l, n + 1 => gt dflt l n
theorem gt_eq (dflt : Bool) (l : List Bool) (n : Nat) : l.toArray.getD n dflt = gt dflt l n := by
  induction l generalizing n with
  | nil => simp [gt, Array.getD]
  | cons b l ih =>
    cases n with
    | zero => simp [gt, Array.getD]
    | succ n => simpa [gt, Array.getD] using ih n
def rdy (listed : List Bool) : Nat → List Oper → List Nat
  | _, [] => []
  | k, o :: l => bif !(gt true listed k) && o.after.toList.all (fun e => !Region.binds .any e || gt false listed e.on) then k :: rdy listed (k + 1) l else rdy listed (k + 1) l
theorem mem_rdy {listed : List Bool} {l : List Oper} {k j : Nat} : j ∈ rdy listed k l ↔ k ≤ j ∧ gt true listed j = false ∧ ∃ o, l[j - k]? = some o ∧ ∀ e ∈ o.after, Region.binds .any e = true → gt false listed e.on = true := by
  induction l generalizing k with
  | nil => simp [rdy]
  | cons o l ih =>
    have hc : (!(gt true listed k) && o.after.toList.all (fun e => !Region.binds .any e || gt false listed e.on)) = true ↔ gt true listed k = false ∧ ∀ e ∈ o.after, Region.binds .any e = true → gt false listed e.on = true := by
      rw [Bool.and_eq_true, Bool.not_eq_true', List.all_eq_true]
      refine and_congr Iff.rfl ⟨fun h e he hb => ?_, fun h e he => ?_⟩
      · have := h e (Array.mem_toList_iff.2 he)
        rw [hb] at this
        simpa using this
      · have := h e (Array.mem_toList_iff.1 he)
        cases hb : Region.binds .any e with
        | false => rfl
        | true => rw [this hb]; rfl
    unfold rdy
    have tail : (j ∈ rdy listed (k + 1) l) ↔ k + 1 ≤ j ∧ gt true listed j = false ∧ ∃ o', (o :: l)[j - k]? = some o' ∧ ∀ e ∈ o'.after, Region.binds .any e = true → gt false listed e.on = true := by
      rw [ih]
      refine and_congr_right fun h => ?_
      rw [show j - k = (j - (k + 1)) + 1 by omega, List.getElem?_cons_succ]
    cases hb : (!(gt true listed k) && o.after.toList.all (fun e => !Region.binds .any e || gt false listed e.on)) with
    | true =>
      rw [cond_true, List.mem_cons, tail]
      obtain ⟨h1, h2⟩ := hc.1 hb
      constructor
      · rintro (rfl | ⟨h3, h4⟩)
        · exact ⟨Nat.le_refl _, h1, o, by simp, h2⟩
        · exact ⟨by omega, h4⟩
      · rintro ⟨h3, h4⟩
        by_cases e : j = k
        · exact .inl e
        · exact .inr ⟨by omega, h4⟩
    | false =>
      rw [cond_false, tail]
      constructor
      · rintro ⟨h3, h4⟩; exact ⟨by omega, h4⟩
      · rintro ⟨h3, h4, o', h5, h6⟩
        by_cases e : j = k
        · subst e
          simp only [Nat.sub_self, List.getElem?_cons_zero, Option.some.injEq] at h5
          subst h5
          rw [hc.2 ⟨h4, h6⟩] at hb
          cases hb
        · exact ⟨by omega, h4, o', h5, h6⟩
theorem rdy_ready {listed : List Bool} {l : List Oper} {j : Nat} : j ∈ Region.ready .any l.toArray listed.toArray ↔ j ∈ rdy listed 0 l := by
  rw [mem_ready, mem_rdy, gt_eq]
  simp only [Nat.zero_le, true_and, Nat.sub_zero, List.getElem?_toArray, gt_eq]
section
variable {P : Program} {B : Nat} {w0 : Cx} {l : List Oper} {J st : PS}
def PA (P : Program) (B : Nat) (w0 : Cx) (l : List Oper) (J : PS) (fuel : Nat) (listed : List Bool) (st : PS) : Prop :=
  ∀ (Q : Exit → PS → Prop), (∀ s, Le s J → Q .normal s) → (∀ c s, ¬ Q (.panic c) s) → ∀ g a w, Rep B w0 g st a w → wpAny P .any l.toArray (Post B w0 Q) fuel listed.toArray a w
def Pure (P : Program) (o : Oper) (st : PS) (x : SV) : Prop :=
  dstOk o st = true ∧ o.guard = none ∧ ∀ B w0 g a w, Rep B w0 g st a w → ∃ v, (∀ w', (execOp a.eval o).run P w' = .ok (.value v) w') ∧ SRep g w v x
def noSel (l : List Oper) : Bool := l.all fun o => match o.op with | .select .. => false | _ => true
def apartB (l : List Oper) (listed : List Bool) (i : Nat) (oi : Oper) : Bool := allIx (fun j oj => Nat.beq j i || gt true listed j || oj.after.toList.any (fun e => Region.binds .any e && Nat.beq e.on i) || oi.apart l.toArray oj) 0 l
end
section
variable {P : Program} {sq : Bool} {ops : Array Oper} {K : PS → Prop} {rest : List Oper} {st : PS} {d : Option Nat} {op : Op} {ty : TypeId} {pos : String} {af : Array Edge} {gd : Option (Nat × Bool)} {q : Nat × Bool}
end
end Go.Proofs.YtkfoogabijnamaaGreatDoor.Px
set_option maxHeartbeats 1000000
namespace Go.Proofs.YtkfoogabijnamaaGreatDoor.Px
open Go.RowKit

def kmap (l : List (List UInt8 × DV)) : List (Value × DV) := l.map fun p => (vS p.1, p.2)
def mget (z : DV) (k : List UInt8) : List (List UInt8 × DV) → DV
  | [] => z
  | (k', v) :: l => if k' = k then v else mget z k l
def mset (k : List UInt8) (v : DV) : List (List UInt8 × DV) → List (List UInt8 × DV)
  | [] => [(k, v)]
  | (k', v') :: l => if k' = k then (k, v) :: l else (k', v') :: mset k v l

theorem find_spec (k : List UInt8) : ∀ (l : List (List UInt8 × DV)) (es : List MapEntry) (n : Nat), es.length = l.length → (∀ (i : Nat) e p, es[i]? = some e → l[i]? = some p → e.key = vS p.1) →
    (∃ j e d, Instr.findNow .string (vS k) es n = some (some (n + j, e.val)) ∧ es[j]? = some e ∧ l[j]? = some (k, d) ∧ (∀ z, mget z k l = d) ∧ ∀ v, mset k v l = l.set j (k, v)) ∨
    (Instr.findNow .string (vS k) es n = some none ∧ (∀ z, mget z k l = z) ∧ (∀ v, mset k v l = l ++ [(k, v)]) ∧ ∀ p ∈ l, p.1 ≠ k)
  | [], [], n, _, _ => .inr ⟨rfl, fun _ => rfl, fun _ => rfl, fun p hp => by simp at hp⟩
  | [], e :: es, n, hl, _ => by simp at hl
  | p :: l, [], n, hl, _ => by simp at hl
  | (k', d) :: l, e :: es, n, hl, hk => by
    have h0 : e.key = vS k' := hk 0 e (k', d) rfl rfl
    have hs : Instr.sameNow .string (vS k) e.key = some ((⟨k.toArray⟩ : ByteArray) == ⟨k'.toArray⟩) := by rw [h0]; rfl
    by_cases hkk : k' = k
    · subst hkk
      refine .inl ⟨0, e, d, ?_, rfl, rfl, fun z => by rw [mget, if_pos rfl], fun v => by rw [mset, if_pos rfl]; rfl⟩
      rw [Instr.findNow, hs, (MapKept.bytes_beq _ _).2 rfl]
      rfl
    · have hb : ((⟨k.toArray⟩ : ByteArray) == ⟨k'.toArray⟩) = false := by
        rw [← Bool.not_eq_true, MapKept.bytes_beq]
        intro e
        apply hkk
        have := congrArg (fun x : ByteArray => x.data.toList) e
        simpa using this.symm
      have hf : Instr.findNow .string (vS k) (e :: es) n = Instr.findNow .string (vS k) es (n + 1) := by rw [Instr.findNow, hs, hb]
      rcases find_spec k l es (n + 1) (by simpa using hl) (fun i e' p' he hp => hk (i + 1) e' p' (by simpa using he) (by simpa using hp)) with ⟨j, e', d', h1, h2, h3, h4, h5⟩ | ⟨h1, h2, h3, h4⟩
      · refine .inl ⟨j + 1, e', d', ?_, h2, h3, fun z => by rw [mget, if_neg hkk, h4], fun v => by rw [mset, if_neg hkk, h5]; rfl⟩
        rw [hf, h1, show n + 1 + j = n + (j + 1) by omega]
      · exact .inr ⟨by rw [hf, h1], fun z => by rw [mget, if_neg hkk, h2], fun v => by rw [mset, if_neg hkk, h3]; rfl, fun p hp => by
          rcases List.mem_cons.1 hp with rfl | hp
          · exact hkk
          · exact h4 p hp⟩

class MapOf (P : Program) (T : Nat) (z : outParam DV) : Prop where
  und : ∃ kt et, P.underlying T = some (.map kt et) ∧ P.underlying kt = some .string ∧ ∀ w, ∃ v, (zeroValue et).run P w = .ok v w ∧ ∀ F w', DRep F w' v z

section
variable {P : Program} {sq : Bool} {ops : Array Oper} {K : PS → Prop} {rest : List Oper} {st : PS} {d : Option Nat} {ty : TypeId} {pos : String} {af : Array Edge} {gd : Option (Nat × Bool)}

theorem ls_mkm (T : TypeId) {e : Nat} (hi : st.bget (500000 + e) = none) (hd : dstOk ⟨some e, .makeMap T none, ty, pos, af, gd⟩ st = true) :
    LocS P ⟨some e, .makeMap T none, ty, pos, af, gd⟩ st (.mb (500000 + e)) (.box (500000 + e) [.mc (kmap [])]) := fun st2 ha => by
  intro B w0 g a w K Q hr hK
  have hin : e < st2.n := dstOk_spec (ha.dst hd) e rfl
  have hlim : st2.n ≤ 10000 := hr.lim
  have hi2 : st2.bget (500000 + e) = none := ha.fresh rfl e rfl (500000 + e) (newOf_map (by omega)) hi
  have hrep := hr.newm e 0 hi2 hin #[] (kmap []) ⟨rfl, MapKept.stamped_empty 0, fun i e p he => by simp at he⟩
  have hrun : (execOp a.eval ⟨some e, .makeMap T none, ty, pos, af, gd⟩).run P w = .ok (.value (.map (some w.heap.size))) (w.alloc (.map #[] 0)) := by
    simp [execOp, run_makeMap]
  unfold Oper.wp
  rw [hrun]
  exact hK _ _ _ (hrep.put (x := .mb (500000 + e)) ⟨w.heap.size, by simp [Gh.addb], rfl⟩ _ (dstOk_spec (st := st2.bput (500000 + e) _) (ha.dst hd)))
theorem yKm {T e : Nat} (hi : st.bget (500000 + e) = none)
    (h : YR P sq ops K rest ((st.bput (500000 + e) [.mc (kmap [])]).put (some e) (.mb (500000 + e)))) (hd : dstOk ⟨some e, .makeMap T none, ty, pos, af, gd⟩ st = true := by kernel_rfl) (hk : opOk ⟨some e, .makeMap T none, ty, pos, af, gd⟩ st (.box (500000 + e) [.mc (kmap [])]) = true := by kernel_rfl) (hw : st.want ops ⟨some e, .makeMap T none, ty, pos, af, gd⟩ = some true := by rfl) :
    YR P sq ops K (⟨some e, .makeMap T none, ty, pos, af, gd⟩ :: rest) st := yr_b (ls_mkm T hi hd) hk hw h

theorem map_at {B : Nat} {w0 : Cx} {g : Gh} {a : Act} {w : World} (hr : Rep B w0 g st a w) {i : Nat} {l : List (List UInt8 × DV)} (hge : 500000 ≤ i) (hi : st.bget i = some [.mc (kmap l)]) :
    ∃ b es c, g.bl i = some b ∧ w.heap[b]? = some (.map es c) ∧ es.toList.length = l.length ∧ MapKept.Stamped es c ∧ (∀ (i : Nat) e p, es.toList[i]? = some e → l[i]? = some p → e.key = vS p.1) ∧ ∀ (i : Nat) e p, es.toList[i]? = some e → l[i]? = some p → DRep (Fx g) w e.val p.2 := by
  obtain ⟨b, es, c, h1, h2, h3, h5, h4⟩ := hr.maps i _ hi hge
  have hp : ∀ (i : Nat) p, l[i]? = some p → (kmap l)[i]? = some (vS p.1, p.2) := fun i p hp => by rw [kmap, List.getElem?_map, hp]; rfl
  exact ⟨b, es, c, h1, h2, by simpa [kmap] using h3, h5, fun i e p he hl => (h4 i e _ (by simpa using he) (hp i p hl)).1, fun i e p he hl => (h4 i e _ (by simpa using he) (hp i p hl)).2⟩

theorem ls_mlk (T : TypeId) (x y : Operand) {i : Nat} {l : List (List UInt8 × DV)} {k : List UInt8} {z : DV} [hM : MapOf P T z] (hge : 500000 ≤ i) (hx : st.ev x = .mb i) (hi : st.bget i = some [.mc (kmap l)]) (hy : st.ev y = .d (dS k)) (hd : dstOk ⟨d, .lookup T x y false, ty, pos, af, gd⟩ st = true) :
    LocS P ⟨d, .lookup T x y false, ty, pos, af, gd⟩ st (.d (mget z k l)) .no := fun st2 ha =>
  OpS.value (ha.dst hd) fun _ _ g a w h => by
    have h1 := h.eval x
    rw [ha.ev x (by simp [Op.operands]), hx] at h1
    have h2 := h.eval y
    rw [ha.ev y (by simp [Op.operands]), hy] at h2
    have hi2 : st2.bget i = some [.mc (kmap l)] := (ha.ids rfl x (by simp [Op.operands]) i (by rw [hx]; simp [SV.ids])).trans hi
    obtain ⟨b, q1, q2⟩ := h1
    obtain ⟨b', es, c, r1, r2, r3, -, r4, r5⟩ := map_at h hge hi2
    rw [q1] at r1
    cases r1
    obtain ⟨kt, et, m1, m2, m3⟩ := hM.und
    obtain ⟨v, m4, m5⟩ := m3 w
    have hc : ∀ e, (Instr.checkKey e 10000 kt (vS k)).run P w = .ok () w := fun e => MapKept.run_checkKey (k := vS k) m2 (by simp [MapKept.IsKey]) e 9999
    rcases find_spec k l es.toList 0 r3 r4 with ⟨j, e, d', f1, f2, f3, f4, -⟩ | ⟨f1, f2, -, -⟩
    · refine ⟨e.val, w, ?_, Below.refl _ _, ?_⟩
      · simp [execOp, Instr.lookup, run_underlying m1, q2, DRep.val_eq h2, MapKept.run_getObj_map r2, hc, MapKept.run_findKey m2 f1, Result.andThen]
      · rw [f4]; exact r5 j e _ f2 f3
    · refine ⟨v, w, ?_, Below.refl _ _, ?_⟩
      · simp [execOp, Instr.lookup, run_underlying m1, q2, DRep.val_eq h2, MapKept.run_getObj_map r2, hc, MapKept.run_findKey m2 f1, m4, Result.andThen]
      · rw [f2]; exact m5 _ _
theorem yKl {T : Nat} {x y : Operand} {i : Nat} {l : List (List UInt8 × DV)} {k : List UInt8} {z v : DV} [hM : MapOf P T z] (hx : st.ev x = .mb i) (hi : st.bget i = some [.mc (kmap l)]) (hy : st.ev y = .d (dS k)) (hv : mget z k l = v)
    (h : YR P sq ops K rest (st.put d (.d v))) (hge : Nat.ble 500000 i = true := by rfl) (hd : dstOk ⟨d, .lookup T x y false, ty, pos, af, gd⟩ st = true := by kernel_rfl) (hk : opOk ⟨d, .lookup T x y false, ty, pos, af, gd⟩ st .no = true := by kernel_rfl) (hw : st.want ops ⟨d, .lookup T x y false, ty, pos, af, gd⟩ = some true := by rfl) :
    YR P sq ops K (⟨d, .lookup T x y false, ty, pos, af, gd⟩ :: rest) st := yr_v (hv ▸ ls_mlk T x y (Nat.le_of_ble_eq_true hge) hx hi hy hd) hk hw h

theorem run_keyStays (k : List UInt8) (w : World) : (Instr.keyThatStays (vS k) (vS k)).run P w = .ok (vS k) w := by
  have : Instr.sameBits 10000 (vS k) (vS k) = true := by
    show ((⟨k.toArray⟩ : ByteArray) == ⟨k.toArray⟩) = true
    exact (MapKept.bytes_beq _ _).2 rfl
  simp [Instr.keyThatStays, this]
theorem ls_mup (T : TypeId) (x y u : Operand) {i : Nat} {l : List (List UInt8 × DV)} {k : List UInt8} {z v : DV} [hM : MapOf P T z] (hge : 500000 ≤ i) (hx : st.ev x = .mb i) (hi : st.bget i = some [.mc (kmap l)]) (hy : st.ev y = .d (dS k)) (hu : st.ev u = .d v) (hd : dstOk ⟨d, .mapUpdate T x y u, ty, pos, af, gd⟩ st = true) :
    LocS P ⟨d, .mapUpdate T x y u, ty, pos, af, gd⟩ st .any (.box i [.mc (kmap (mset k v l))]) := fun st2 ha => by
  intro B w0 g a w K Q h hK
  have h1 := h.eval x
  rw [ha.ev x (by simp [Op.operands]), hx] at h1
  have h2 := h.eval y
  rw [ha.ev y (by simp [Op.operands]), hy] at h2
  have h3 := h.eval u
  rw [ha.ev u (by simp [Op.operands]), hu] at h3
  have hi2 : st2.bget i = some [.mc (kmap l)] := (ha.ids rfl x (by simp [Op.operands]) i (by rw [hx]; simp [SV.ids])).trans hi
  obtain ⟨b, q1, q2⟩ := h1
  obtain ⟨b', es, c, r1, r2, r3, rs, r4, r5⟩ := map_at h hge hi2
  rw [q1] at r1
  cases r1
  obtain ⟨kt, et, m1, m2, -⟩ := hM.und
  have hc : ∀ e, (Instr.checkKey e 10000 kt (vS k)).run P w = .ok () w := fun e => MapKept.run_checkKey (k := vS k) m2 (by simp [MapKept.IsKey]) e 9999
  have hblt : b < w.heap.size := (Array.getElem?_eq_some_iff.1 r2).1
  suffices hrun : ∃ es' c', (execOp a.eval ⟨d, .mapUpdate T x y u, ty, pos, af, gd⟩).run P w = .ok .skip { w with heap := w.heap.setIfInBounds b (.map es' c') } ∧ es'.toList.length = (mset k v l).length ∧ MapKept.Stamped es' c' ∧ ∀ (q : Nat) e p, es'.toList[q]? = some e → (mset k v l)[q]? = some p → e.key = vS p.1 ∧ DRep (Fx g) w e.val p.2 by
    obtain ⟨es', c', e1, e2, e4, e3⟩ := hrun
    have hs := MapKept.heap_set (o' := .map es' c') r2
    have hrep := h.seto i b [.mc (kmap (mset k v l))] (w' := { w with heap := w.heap.setIfInBounds b (.map es' c') }) q1 ⟨rfl, rfl, rfl, by simp, fun q hq => by omega⟩ (fun q _ hne => hs.2 q hne) (by unfold World.shape?; simp only [hs.1, r2]) (fun _ hlt => by omega) (fun e _ ms hms => by
      obtain rfl : kmap (mset k v l) = ms := by simpa using hms
      refine ⟨es', c', hs.1, by simpa [kmap] using e2, e4, fun q en p he hp => ?_⟩
      rw [kmap, List.getElem?_map, Option.map_eq_some_iff] at hp
      obtain ⟨p', hp1, rfl⟩ := hp
      have := e3 q en p' (by simpa using he) hp1
      exact ⟨this.1, this.2.mono e.fx⟩)
    unfold Oper.wp
    rw [e1]
    exact hK g _ _ (hrep.put (x := .any) trivial _ (dstOk_spec (st := st2.bput i _) (ha.dst hd)))
  rcases find_spec k l es.toList 0 r3 r4 with ⟨j, e, d', f1, f2, f3, -, f5⟩ | ⟨f1, -, f3, f6⟩
  · have hek : e.key = vS k := r4 j e _ f2 f3
    have hj : es[j]? = some e := by simpa using f2
    refine ⟨es.modify j fun e => { e with key := vS k, val := a.eval u }, c, ?_, ?_, ?_, ?_⟩
    · simp [execOp, Instr.mapUpdate, run_underlying m1, q2, DRep.val_eq h2, MapKept.run_getObj_map r2, hc, MapKept.run_findKey m2 f1, hj, hek, run_keyStays, MapKept.run_setObj_map _ r2, Result.andThen]
    · rw [f5]; simpa using r3
    · exact MapKept.stamped_modify rs j _ (fun _ _ => rfl) fun e' _ he' => by
        rw [hj] at he'
        cases he'
        exact hek.symm
    · intro q en p he hp
      rw [f5] at hp
      rw [Array.toList_modify, List.getElem?_modify] at he
      by_cases hq : j = q
      · subst hq
        rw [f2] at he
        rw [List.getElem?_set_self (by rw [← r3]; exact (List.getElem?_eq_some_iff.1 f2).1)] at hp
        cases hp
        simp at he
        subst he
        exact ⟨rfl, h3⟩
      · rw [List.getElem?_set_ne hq] at hp
        simp [hq] at he
        exact ⟨r4 q en p (by simpa using he) hp, r5 q en p (by simpa using he) hp⟩
  · refine ⟨es.push { key := vS k, val := a.eval u, born := c }, c + 1, ?_, ?_, ?_, ?_⟩
    · simp [execOp, Instr.mapUpdate, run_underlying m1, q2, DRep.val_eq h2, MapKept.run_getObj_map r2, hc, MapKept.run_findKey m2 f1, MapKept.run_setObj_map _ r2, Result.andThen]
    · rw [f3]; simpa using r3
    · exact MapKept.stamped_push rs fun x hx e => by
        obtain ⟨q, hq⟩ := List.mem_iff_getElem?.1 hx
        obtain ⟨p, hp⟩ : ∃ p, l[q]? = some p := ⟨_, List.getElem?_eq_getElem (by rw [← r3]; exact (List.getElem?_eq_some_iff.1 hq).1)⟩
        have h5 := r4 q x p hq hp
        rw [e] at h5
        refine f6 p (List.mem_of_getElem? hp) ?_
        have := congrArg (fun v : Value => match v with | .string s => s.data.toList | _ => []) h5
        simpa using this.symm
    · intro q en p he hp
      rw [f3] at hp
      rw [Array.toList_push] at he
      rcases Nat.lt_or_ge q l.length with hq | hq
      · rw [List.getElem?_append_left hq] at hp
        rw [List.getElem?_append_left (by omega)] at he
        exact ⟨r4 q en p he hp, r5 q en p he hp⟩
      · rw [List.getElem?_append_right hq] at hp
        rw [List.getElem?_append_right (by omega), r3] at he
        obtain ⟨hq0, -⟩ := List.getElem?_eq_some_iff.1 hp
        have hq1 : q - l.length = 0 := by simpa using hq0
        rw [hq1] at he hp
        cases he
        cases hp
        exact ⟨rfl, h3⟩
theorem yKu {T : Nat} {x y u : Operand} {i : Nat} {l l' : List (List UInt8 × DV)} {k : List UInt8} {z v : DV} [hM : MapOf P T z] (hx : st.ev x = .mb i) (hi : st.bget i = some [.mc (kmap l)]) (hy : st.ev y = .d (dS k)) (hu : st.ev u = .d v) (hl : mset k v l = l')
    (h : YR P sq ops K rest ((st.bput i [.mc (kmap l')]).put d .any)) (hge : Nat.ble 500000 i = true := by rfl) (hd : dstOk ⟨d, .mapUpdate T x y u, ty, pos, af, gd⟩ st = true := by kernel_rfl) (hk : opOk ⟨d, .mapUpdate T x y u, ty, pos, af, gd⟩ st (.box i [.mc (kmap l')]) = true := by kernel_rfl) (hw : st.want ops ⟨d, .mapUpdate T x y u, ty, pos, af, gd⟩ = some true := by rfl) :
    YR P sq ops K (⟨d, .mapUpdate T x y u, ty, pos, af, gd⟩ :: rest) st := yr_b (hl ▸ ls_mup T x y u (Nat.le_of_ble_eq_true hge) hx hi hy hu hd) hk hw h
end
end Go.Proofs.YtkfoogabijnamaaGreatDoor.Px
set_option maxHeartbeats 1000000
namespace Go.Proofs.YtkfoogabijnamaaGreatDoor.Px
open Go.RowKit Go.Maps Go.Sort Go.WideMaps

def KeysC (P : Program) (fK it T : Nat) : Prop := ∀ mb W, Calls P fK #[.map mb] W fun e w' => e = .returned (.func (.func it) #[] #[.pointer (some ⟨W.heap.size, 0, none⟩)]) ∧ w' = W.alloc (.cells #[.map mb] T)
def SortedC (P : Program) (fS it k : Nat) : Prop := ∀ (a b nn : Nat) (D0 : DataW Unit) (R : Value → Option (DataW Unit × List MemPlace)) (W : World), a < W.heap.size → W.cell? ⟨a, 0, none⟩ = some (.map (some b)) → W.ownsMap P k R b nn D0 →
  Maps.size D0 ≤ maxLen → Maps.size D0 * 16 ≤ 140737488355328 → Calls P fS #[.func (.func it) #[] #[.pointer (some ⟨a, 0, none⟩)]] W fun e w' => ∃ (v : Value) (ss : List (List UInt8)), e = .returned v ∧ ss.Perm (strKeys D0) ∧
    w'.ownsRow W.heap.size k 1 v ss.length ((ss.mergeSort (fun x y => decide (x ≤ y))).map encStr) ∧ (v = .slice none 0 0 ↔ ss = []) ∧ Below W.heap.size W w'

def skeys (l : List (List UInt8 × DV)) : List (List UInt8) := (l.map (·.1)).mergeSort leB

def anyR (_ : Value) : Option (DataW Unit × List MemPlace) := some (.nil, [])

theorem own_of_map {P : Program} {k : Nat} {w : World} {b c : Nat} {es : Array MapEntry} {l : List (List UInt8 × DV)} (hk : P.underlying k = some .string) (h2 : w.heap[b]? = some (.map es c)) (h3 : es.toList.length = l.length) (hs : MapKept.Stamped es c)
    (h4 : ∀ (i : Nat) e p, es.toList[i]? = some e → l[i]? = some p → e.key = vS p.1) (hl : l.length ≤ 1000000) (hkl : ∀ p ∈ l, p.1.length ≤ 1000000) :
    ∃ D0 : DataW Unit, w.ownsMap P k anyR b l.length D0 ∧ Maps.size D0 = l.length ∧ (strKeys D0).Perm (l.map (·.1)) := by
  have hrd : ∀ (i : Nat) e p, es.toList[i]? = some e → l[i]? = some p → WideElems.rd P k anyR e = some (.string p.1, .nil) := fun i e p he hp => by
    have h5 := h4 i e p he hp
    have h6 : keyOf P k e.key = some (.string p.1) := by
      rw [h5]
      have := keyOf_string_mk hk (s := ⟨p.1.toArray⟩) (by
        have := hkl p (List.mem_of_getElem? hp)
        show p.1.toArray.size ≤ maxLen
        simp only [List.size_toArray, maxLen]; omega)
      simpa [vS] using this
    simp [WideElems.rd, h6, anyR]
  have hmap : es.toList.map (WideElems.rg P k anyR) = l.map fun p => (Lit.string p.1, DataW.nil) := by
    refine List.ext_getElem? fun i => ?_
    rw [List.getElem?_map, List.getElem?_map]
    cases he : es.toList[i]? with
    | none =>
      have : l[i]? = none := by rw [List.getElem?_eq_none_iff] at he ⊢; omega
      rw [this]; rfl
    | some e =>
      cases hp : l[i]? with
      | none => rw [List.getElem?_eq_none_iff] at hp; have := (List.getElem?_eq_some_iff.1 he).1; omega
      | some p => simp [WideElems.rg_of (hrd i e p he hp)]
  refine ⟨_, ⟨es, c, h2, ⟨by simp only [maxLen]; simp at h3; omega, hs, fun x hx => ?_⟩, by simp at h3; omega, rfl⟩, ?_, ?_⟩
  · obtain ⟨i, hi, rfl⟩ := List.mem_iff_getElem.1 hx
    exact ⟨_, hrd i _ _ (List.getElem?_eq_getElem hi) (List.getElem?_eq_getElem (by omega))⟩
  · rw [hmap]
    show ((l.map fun p => (Lit.string p.1, (DataW.nil : DataW Unit))).foldr DataW.insert []).length = _
    rw [(WideShapes.sorted_perm _).length_eq, List.length_map]
  · rw [hmap]
    show (((l.map fun p => (Lit.string p.1, (DataW.nil : DataW Unit))).foldr DataW.insert []).map fun p => strOf p.1).Perm _
    refine ((WideShapes.sorted_perm _).map _).trans ?_
    rw [List.map_map]
    exact .refl _

section
variable {P : Program} {ops : Array Oper} {K : PS → Prop} {rest : List Oper} {st : PS} {d : Option Nat} {ty : TypeId} {pos : String} {af : Array Edge} {gd : Option (Nat × Bool)}

theorem yKk {fK it T e i : Nat} {x : Operand} {ts : Array TypeId} [HasBody P fK] (hK : KeysC P fK it T) (hx : st.ev x = .mb i) (hi : st.bget e = none)
    (h : YR P true ops K rest ((st.bput e [.mb i]).put (some e) (.fn it [e]))) (hin : Nat.blt e st.n = true := by rfl)
    (hw : st.want ops ⟨some e, .call { callee := .value (.func fK), args := #[x], argTypes := ts }, ty, pos, af, gd⟩ = some true := by rfl) :
    YR P true ops K (⟨some e, .call { callee := .value (.func fK), args := #[x], argTypes := ts }, ty, pos, af, gd⟩ :: rest) st := by
  refine .any rfl fun B w0 Q hQ g a w hr => ?_
  have hlt : e < st.n := Nat.le_of_ble_eq_true hin
  have h1 := hr.eval x
  rw [hx] at h1
  obtain ⟨b, q1, q2⟩ := h1
  unfold wpList
  rw [if_pos (want_spec hr hw)]
  refine .inl ?_
  unfold Oper.wp
  have hrun := run_call (P := P) (f := fK) (d := some e) (l := [x]) (ts := ts) (ty := ty) (pos := pos) (af := af) (gd := gd) (a := a) (w := w)
  rw [hrun]
  show Calls P fK _ w _
  have hc := hK (some b) w
  simp only [List.map_cons, List.map_nil, q2]
  refine hc.mono ?_
  rintro e' w' ⟨rfl, rfl⟩
  have hrep := hr.newb e T hi hlt #[.map (some b)] [.mb i] (by simp) (fun j c hj => by
    cases j with
    | zero => cases hj; exact ⟨_, rfl, b, q1, rfl⟩
    | succ j => simp at hj) (fun u hu => by simp at hu; subst hu; rfl)
  refine h.sound hQ (hrep.put (x := .fn it [e]) ⟨[w.heap.size], rfl, rfl, fun j b' c hb hc' => ?_⟩ _ fun j hj => by cases hj; exact hlt)
  cases j with
  | zero => cases hb; cases hc'; simp [Gh.addb]
  | succ j => simp at hb

theorem yKs {fS it k j i : Nat} {l : List (List UInt8 × DV)} {ks : List (List UInt8)} {x : Operand} {ts : Array TypeId} [HasBody P fS] (hS : SortedC P fS it k) (hk : P.underlying k = some .string) (hx : st.ev x = .fn it [j]) (hj : st.bget j = some [.mb i]) (hi : st.bget i = some [.mc (kmap l)])
    (hl : l.length ≤ 1000000) (hkl : ∀ p ∈ l, p.1.length ≤ 1000000) (hks : skeys l = ks)
    (h : YR P true ops K rest (st.put d (.d (.sl 1 (ks.map fun s => [dS s]))))) (hjl : Nat.blt j 500000 = true := by rfl) (hge : Nat.ble 500000 i = true := by rfl) (hd : dstOk ⟨d, .call { callee := .value (.func fS), args := #[x], argTypes := ts }, ty, pos, af, gd⟩ st = true := by kernel_rfl)
    (hw : st.want ops ⟨d, .call { callee := .value (.func fS), args := #[x], argTypes := ts }, ty, pos, af, gd⟩ = some true := by rfl) :
    YR P true ops K (⟨d, .call { callee := .value (.func fS), args := #[x], argTypes := ts }, ty, pos, af, gd⟩ :: rest) st := by
  subst hks
  refine .any rfl fun B w0 Q hQ g a w hr => ?_
  have h1 := hr.eval x
  rw [hx] at h1
  obtain ⟨bs, q1, q2, q3⟩ := h1
  obtain ⟨a0, rfl⟩ : ∃ a0, bs = [a0] := by
    match bs, q2 with
    | [a0], _ => exact ⟨a0, rfl⟩
  have q4 := q3 0 a0 j rfl rfl
  obtain ⟨b', xs, T, r1, r2, r3, r4, -⟩ := hr.boxes j _ hj (Nat.le_of_ble_eq_true hjl)
  rw [q4] at r1
  cases r1
  obtain ⟨u, r5, b, r6, rfl⟩ := r4 0 _ rfl
  obtain ⟨b2, es, c, s1, s2, s3, s4, s5, -⟩ := map_at hr (Nat.le_of_ble_eq_true hge) hi
  rw [r6] at s1
  cases s1
  obtain ⟨D0, d1, d2, d3⟩ := own_of_map hk s2 s3 s4 s5 hl hkl
  have hcell : w.cell? ⟨a0, 0, none⟩ = some (.map (some b)) := see_cell.2 (by rw [see_cells r2, r5]; rfl)
  unfold wpList
  rw [if_pos (want_spec hr hw)]
  refine .inl ?_
  unfold Oper.wp
  have hrun := run_call (P := P) (f := fS) (d := d) (l := [x]) (ts := ts) (ty := ty) (pos := pos) (af := af) (gd := gd) (a := a) (w := w)
  rw [hrun]
  show Calls P fS _ w _
  have hc := hS a0 b l.length D0 anyR w (hr.blk j a0 q4).2 hcell d1 (by rw [d2]; simp only [maxLen]; omega) (by rw [d2]; omega)
  simp only [List.map_cons, List.map_nil, q1]
  refine hc.mono ?_
  rintro e' w' ⟨v, ss, rfl, hp, hrow, -, hb⟩
  have hsort : ss.mergeSort (fun x y => decide (x ≤ y)) = skeys l := mergeSort_of_perm (hp.trans d3)
  rw [hsort] at hrow
  have hlen : ss.length = (skeys l).length := by rw [← hsort, List.length_mergeSort]
  have hlen2 : (skeys l).length = l.length := by rw [skeys, List.length_mergeSort, List.length_map]
  refine h.sound hQ ((hr.grow hb).put (x := .d (.sl 1 ((skeys l).map fun s => [dS s]))) ?_ _ (dstOk_spec (st := st) hd))
  show DRep (Fx g) w' v _
  rcases hrow.2 with ⟨rfl, h0⟩ | ⟨gb, cap, cur, rfl, hbase, hg, hc1, hc2, -, ht⟩
  · have : skeys l = [] := List.eq_nil_of_length_eq_zero (by omega)
    rw [this]
    exact .nil
  · refine .sl (fun i _ => encStr ((skeys l).getD i [])) (by simp [hlen]) hc1 (by omega) (fun e he => ?_) (fun h0 => ⟨gb, 0, rfl, fun i j hi' hj' => ⟨?_, ?_⟩⟩) (fun i j _ _ => rfl) (fun i j e x he hx' => ?_)
    · obtain ⟨s, -, rfl⟩ := List.mem_map.1 he; rfl
    · have hi2 : i < (skeys l).length := by omega
      obtain rfl : j = 0 := by omega
      refine see_cell.2 ?_
      rw [see_cells hg]
      have h5 : cur.toList[i]? = ((skeys l).map encStr)[i]? := by
        rw [← ht, List.getElem?_take_of_lt (by omega)]
      rw [show 0 + i * 1 + 0 = i by omega, ← Array.getElem?_toList, h5, List.getElem?_map, List.getElem?_eq_getElem hi2]
      simp [List.getD, List.getElem?_eq_getElem hi2]
    · refine ⟨hr.f0 _ _ (Nat.le_trans hr.base hbase), fun i' hi3 => ?_, fun t T' n c' hT hv => ?_⟩
      · have := (hr.blk i' gb hi3).2; omega
      · obtain ⟨⟨n', xs', h6⟩, -⟩ := hr.toks t T' hT
        have := (h6.lt gb (by rw [hv]; rfl)).2
        omega
    · rw [List.getElem?_map, Option.map_eq_some_iff] at he
      obtain ⟨s, hs1, rfl⟩ := he
      cases j with
      | zero =>
        cases hx'
        simp only [List.getD, hs1, Option.getD_some]
        exact DRep.val _ rfl
      | succ j => simp at hx'

def mhas (k : List UInt8) (l : List (List UInt8 × DV)) : Bool := l.any fun p => p.1 == k
end
end Go.Proofs.YtkfoogabijnamaaGreatDoor.Px
set_option maxHeartbeats 1000000
namespace Go.Proofs.YtkfoogabijnamaaGreatDoor.Px
open Go.RowKit

section
variable {P : Program} {B : Nat} {w0 : Cx} {Q : Exit → PS → Prop} {st : PS} {c : Code}
theorem pw_frzm (s i : Nat) {ms : List (Value × DV)} (hs : st.get s = .mb i) (hi : st.bget i = some [.mc ms]) (h : PW P B w0 c Q ((st.kill i).put (some s) (.d (.mp ms)))) (hge : Nat.ble 500000 i = true := by rfl) : PW P B w0 c Q st := fun g a w hr => by
  obtain ⟨ev, hr'⟩ := hr.kill i
  have hv := hr.slots s
  rw [hs] at hv
  obtain ⟨b, q1, q2⟩ := hv
  obtain ⟨b', es, ck, r1, r2, r3⟩ := hr.maps i ms hi (Nat.le_of_ble_eq_true hge)
  rw [q1] at r1
  cases r1
  have hd : DRep (Fx (g.delb i)) w (a.tmps.getD s undef) (.mp ms) := by
    rw [q2]
    refine .mp (es := es) (ck := ck) ?_ r3.2.1 ⟨(hr.blk i b q1).1 0, fun j hj => ?_, fun t T n' c' hT hTv => ?_⟩ r3.1 (fun k e p he hp => (r3.2.2 k e p he hp).1) fun k e p he hp => ((r3.2.2 k e p he hp).2).mono ev.fx
    · unfold see
      rw [r2]
    · obtain ⟨h1, h2⟩ := Gh.delb_bl hj
      exact h2 (hr.inj j i b h1 q1)
    · exact absurd q1 ((hr.toks t T hT).2 i b (by rw [hTv]; rfl))
  refine h _ a w { hr' with lim := hr'.lim, size := hr'.size, boxes := hr'.boxes, maps := hr'.maps, dom := hr'.dom, tdom := hr'.tdom, tlen := hr'.tlen, glob := hr'.glob, slots := fun j => ?_ }
  rw [get_put]
  by_cases e : j = s
  · rw [if_pos e, e]; exact hd
  · rw [if_neg e]; exact hr'.slots j
end

section
variable {P : Program} {sq : Bool} {ops : Array Oper} {K : PS → Prop} {rest : List Oper} {st : PS} {d : Option Nat} {ty : TypeId} {pos : String} {af : Array Edge} {gd : Option (Nat × Bool)}
theorem ls_mle (T : TypeId) (x y : Operand) {l : List (List UInt8 × DV)} {k : List UInt8} {z : DV} [hM : MapOf P T z] (hx : st.ev x = .d (.mp (kmap l))) (hy : st.ev y = .d (dS k)) (hd : dstOk ⟨d, .lookup T x y false, ty, pos, af, gd⟩ st = true) :
    LocS P ⟨d, .lookup T x y false, ty, pos, af, gd⟩ st (.d (mget z k l)) .no := fun st2 ha =>
  OpS.value (ha.dst hd) fun _ _ g a w h => by
    have h1 := h.eval x
    rw [ha.ev x (by simp [Op.operands]), hx] at h1
    have h2 := h.eval y
    rw [ha.ev y (by simp [Op.operands]), hy] at h2
    obtain ⟨b, es, c, q2, r2, -, -, hl, hkv⟩ := DRep.mapd h1
    have hp : ∀ (i : Nat) p, l[i]? = some p → (kmap l)[i]? = some (vS p.1, p.2) := fun i p hp => by rw [kmap, List.getElem?_map, hp]; rfl
    have r3 : es.toList.length = l.length := by simpa [kmap] using hl
    have r4 : ∀ (i : Nat) e p, es.toList[i]? = some e → l[i]? = some p → e.key = vS p.1 := fun i e p he hl => (hkv i e _ (by simpa using he) (hp i p hl)).1
    have r5 : ∀ (i : Nat) e p, es.toList[i]? = some e → l[i]? = some p → DRep (Fx g) w e.val p.2 := fun i e p he hl => (hkv i e _ (by simpa using he) (hp i p hl)).2
    obtain ⟨kt, et, m1, m2, m3⟩ := hM.und
    obtain ⟨v, m4, m5⟩ := m3 w
    have hc : ∀ e, (Instr.checkKey e 10000 kt (vS k)).run P w = .ok () w := fun e => MapKept.run_checkKey (k := vS k) m2 (by simp [MapKept.IsKey]) e 9999
    rcases find_spec k l es.toList 0 r3 r4 with ⟨j, e, d', f1, f2, f3, f4, -⟩ | ⟨f1, f2, -, -⟩
    · refine ⟨e.val, w, ?_, Below.refl _ _, ?_⟩
      · simp [execOp, Instr.lookup, run_underlying m1, q2, DRep.val_eq h2, MapKept.run_getObj_map r2, hc, MapKept.run_findKey m2 f1, Result.andThen]
      · rw [f4]; exact r5 j e _ f2 f3
    · refine ⟨v, w, ?_, Below.refl _ _, ?_⟩
      · simp [execOp, Instr.lookup, run_underlying m1, q2, DRep.val_eq h2, MapKept.run_getObj_map r2, hc, MapKept.run_findKey m2 f1, m4, Result.andThen]
      · rw [f2]; exact m5 _ _
theorem yKe {T : Nat} {x y : Operand} {l : List (List UInt8 × DV)} {k : List UInt8} {z v : DV} [hM : MapOf P T z] (hx : st.ev x = .d (.mp (kmap l))) (hy : st.ev y = .d (dS k)) (hv : mget z k l = v)
    (h : YR P sq ops K rest (st.put d (.d v))) (hd : dstOk ⟨d, .lookup T x y false, ty, pos, af, gd⟩ st = true := by kernel_rfl) (hk : opOk ⟨d, .lookup T x y false, ty, pos, af, gd⟩ st .no = true := by kernel_rfl) (hw : st.want ops ⟨d, .lookup T x y false, ty, pos, af, gd⟩ = some true := by rfl) :
    YR P sq ops K (⟨d, .lookup T x y false, ty, pos, af, gd⟩ :: rest) st := yr_v (hv ▸ ls_mle T x y hx hy hd) hk hw h
end
end Go.Proofs.YtkfoogabijnamaaGreatDoor.Px
set_option maxHeartbeats 1000000
namespace Go.Proofs.YtkfoogabijnamaaGreatDoor.Px
open Go.RowKit

structure HP where
  w : World
  F : Nat → Nat → Prop
  ex : Option Nat
structure HI where
  rows : List (Value × List (List UInt8))
  it : Option (Nat × List (List UInt8 × DV) × List (List UInt8 × DV))
  mp : Option (Nat × List (List UInt8 × DV))
  fs : List (Value × DV)
structure HCo (p : HP) (fs : List (Value × DV)) (g : Gh) (w : World) : Prop where
  os : w.os = p.w.os
  tape : w.tape = p.w.tape
  output : w.output = p.w.output
  size : p.w.heap.size ≤ w.heap.size
  block : ∀ b, b < p.w.heap.size → p.ex ≠ some b → w.heap[b]? = p.w.heap[b]?
  f0 : ∀ b o, g.f0 b o → p.F b o
  new : ∀ b o, p.w.heap.size ≤ b → p.F b o
  own : ∀ b, Own g w b → p.w.heap.size ≤ b
  gl : ∀ q cs, aget gs q = some cs → q < p.w.heap.size ∧ p.ex ≠ some q
  fs : ∀ q ∈ fs, DRep (Fx g) w q.1 q.2
structure HR (E N : Nat) (rows : List (Value × List (List UInt8))) (g : Gh) (w : World) : Prop where
  row : ∀ (j : Nat) v xs, rows[j]? = some (v, xs) → 0 < xs.length ∧ w.ownsRow N E 1 v xs.length (xs.map vS) ∧ ∀ b, v.ownBlock = some b → ¬ Own g w b ∧ ∀ o, g.f0 b o → o < xs.length
  dis : ∀ (j j' : Nat) p p' b, rows[j]? = some p → rows[j']? = some p' → p.1.ownBlock = some b → p'.1.ownBlock = some b → j = j'
def HT (it : Option (Nat × List (List UInt8 × DV) × List (List UInt8 × DV))) (N : Nat) (g : Gh) (w : World) : Prop :=
  ∀ r l dn, it = some (r, l, dn) → ∃ bm es c seen cc, w.heap[r]? = some (.mapIter (some bm) c seen cc) ∧ see w bm 0 = some (.mp es c) ∧ c ≤ cc ∧ MapAt g w es c (kmap l) ∧ Vis es (kmap l) seen (kmap dn) ∧ ¬ Own g w r ∧ Fx g bm 0 ∧ N ≤ r ∧ (∀ q, dn.getLast? = some q → ∃ (s0 : Array Nat) (e : MapEntry), seen = s0.push e.born ∧ cc = c ∧ e ∈ es.toList ∧ e.key = vS q.1 ∧ DRep (Fx g) w e.val q.2)
def HM (mp : Option (Nat × List (List UInt8 × DV))) (p : HP) (g : Gh) (w : World) : Prop :=
  ∀ bo l, mp = some (bo, l) → ∃ (es : Array MapEntry) (c : Nat), w.heap[bo]? = some (.map es c) ∧ MapKept.Stamped es c ∧ es.toList.length = l.length ∧ (∀ (i : Nat) e q, es.toList[i]? = some e → l[i]? = some q → e.key = vS q.1 ∧ ∀ F w', DRep F w' e.val q.2) ∧ ¬ Own g w bo ∧ (∀ o, ¬ g.f0 bo o) ∧ (p.w.heap.size ≤ bo ∨ p.ex = some bo)
structure HX (E : Nat) (p : HP) (i : HI) (g : Gh) (w : World) : Prop where
  co : HCo p i.fs g w
  rows : HR E p.w.heap.size i.rows g w
  it : HT i.it p.w.heap.size g w
  mp : HM i.mp p g w

theorem HCo.keep {p : HP} {fs : List (Value × DV)} {g g' : Gh} {w w' : World} (h : HCo p fs g w) (hos : w'.os = w.os) (ht : w'.tape = w.tape) (ho : w'.output = w.output) (hsz : w.heap.size ≤ w'.heap.size)
    (hb : ∀ b, b < p.w.heap.size → p.ex ≠ some b → w'.heap[b]? = w.heap[b]?) (hf : ∀ b o, g'.f0 b o → p.F b o) (hown : ∀ b, Own g' w' b → Own g w b) (kp : Kp (Fx g) w (Fx g') w') : HCo p fs g' w' :=
  ⟨hos.trans h.os, ht.trans h.tape, ho.trans h.output, Nat.le_trans h.size hsz, fun b hb1 hb2 => (hb b hb1 hb2).trans (h.block b hb1 hb2), hf, h.new, fun b hb' => h.own b (hown b hb'), h.gl, fun q hq => (h.fs q hq).mono kp⟩
theorem HR.keep {E N : Nat} {rows : List (Value × List (List UInt8))} {g g' : Gh} {w w' : World} (h : HR E N rows g w) (hb : ∀ (j : Nat) v xs b, rows[j]? = some (v, xs) → v.ownBlock = some b → w'.heap[b]? = w.heap[b]? ∧ ∀ o, g'.f0 b o → g.f0 b o) (hown : ∀ b, Own g' w' b → Own g w b) : HR E N rows g' w' :=
  ⟨fun j v xs hj => by
    obtain ⟨h1, h2, h3⟩ := h.row j v xs hj
    exact ⟨h1, ownsRow_of_same h2 fun b hb' => (hb j v xs b hj hb').1, fun b hb' => ⟨fun ho => (h3 b hb').1 (hown b ho), fun o ho => (h3 b hb').2 o ((hb j v xs b hj hb').2 o ho)⟩⟩, h.dis⟩
theorem HT.keep {it : Option (Nat × List (List UInt8 × DV) × List (List UInt8 × DV))} {N : Nat} {g g' : Gh} {w w' : World} (h : HT it N g w) (hb : ∀ r l dn, it = some (r, l, dn) → w'.heap[r]? = w.heap[r]?) (hown : ∀ b, Own g' w' b → Own g w b) (kp : Kp (Fx g) w (Fx g') w') : HT it N g' w' := fun r l dn hi => by
  obtain ⟨bm, es, c, seen, cc, h1, h2, h3, h4, h5, h6, h7, h9, h8⟩ := h r l dn hi
  obtain ⟨k1, k2⟩ := kp bm 0 h7 (by rw [h2]; rfl)
  refine ⟨bm, es, c, seen, cc, (hb r l dn hi).trans h1, k2.trans h2, h3, h4.mono kp, h5, fun ho => h6 (hown r ho), k1, h9, fun q hq => ?_⟩
  obtain ⟨s0, e, e1, e2, e3, e4, e5⟩ := h8 q hq
  exact ⟨s0, e, e1, e2, e3, e4, e5.mono kp⟩
theorem HM.keep {mp : Option (Nat × List (List UInt8 × DV))} {p : HP} {g g' : Gh} {w w' : World} (h : HM mp p g w) (hb : ∀ bo l, mp = some (bo, l) → w'.heap[bo]? = w.heap[bo]? ∧ ∀ o, g'.f0 bo o → g.f0 bo o) (hown : ∀ b, Own g' w' b → Own g w b) : HM mp p g' w' := fun bo l hi => by
  obtain ⟨es, c, h1, h2, h3, h4, h5, h6, h7⟩ := h bo l hi
  exact ⟨es, c, (hb bo l hi).1.trans h1, h2, h3, h4, fun ho => h5 (hown bo ho), fun o ho => h6 o ((hb bo l hi).2 o ho), h7⟩

theorem HX.stb {E : Nat} {p : HP} (i : HI) : Stb (HX E p i) := fun g w g' w' h hlt ev => by
  have hown : ∀ b, Own g' w' b → Own g w b := fun b => ev.own
  refine ⟨h.co.keep ev.bel.os ev.bel.tape ev.bel.output ev.bel.size (fun b hb _ => ev.heap b fun ho => by have := h.co.own b ho; omega) (fun b o hf => h.co.f0 b o (by rw [← ev.f0]; exact hf)) hown ev.fx, h.rows.keep (fun j v xs b hj hb => ⟨ev.heap b ((h.rows.row j v xs hj).2.2 b hb).1, fun o ho => by rw [← ev.f0]; exact ho⟩) hown, h.it.keep (fun r l dn hi => ?_) hown ev.fx, h.mp.keep (fun bo l hi => ?_) hown⟩
  · obtain ⟨bm, es, c, seen, cc, h1, h2, h3, h4, h5, h6, h7, h9, h8⟩ := h.it r l dn hi
    exact ev.heap r h6
  · obtain ⟨es, c, h1, h2, h3, h4, h5, h6, h7⟩ := h.mp bo l hi
    exact ⟨ev.heap bo h5, fun o ho => by rw [← ev.f0]; exact ho⟩

theorem Self.chg {rl : Option Nat} {d0 : Nat} {g : Gh} {st : PS} {a : Act} {w w' : World} (h : Self rl d0 g st a w) (F' : Nat → Nat → Prop) (hsz : w.heap.size ≤ w'.heap.size) (h1 : ∀ b o, b < w.heap.size → g.f0 b o → F' b o) (h3 : ∀ b o, w'.heap.size ≤ b → F' b o)
    (h4 : ∀ b, b < w.heap.size → Own g w b → w'.heap[b]? = w.heap[b]?) (h5 : ∀ b o, b < w.heap.size → Fx g b o → (see w b o).isSome → see w' b o = see w b o) (h6 : ∀ q cs, aget gs q = some cs → w'.heap[q]? = w.heap[q]?)
    (h7 : ∀ D : Nat, w.heap[D]? = some (.deferred (some [])) → (∃ d ∈ a.defers, d = { target := .collected D, args := #[] }) → w'.heap[D]? = w.heap[D]?) :
    Self rl d0 { g with f0 := F' } st a w' ∧ Kp (Fx g) w (Fx { g with f0 := F' }) w' ∧ ∀ b, Own { g with f0 := F' } w' b → Own g w b := by
  obtain ⟨hd, r⟩ := h
  have kp : Kp (Fx g) w (Fx { g with f0 := F' }) w' := fun b o hf hs => ⟨⟨h1 b o (see_lt hs) hf.1, hf.2.1, hf.2.2⟩, h5 b o (see_lt hs) hf hs⟩
  have hown : ∀ b, Own { g with f0 := F' } w' b → Own g w b := fun b ho => by
    rcases ho with ho | ho | ho
    · exact .inl (Nat.le_trans hsz ho)
    · exact .inr (.inl ho)
    · exact .inr (.inr ho)
  have hbb : ∀ i b, g.bl i = some b → w'.heap[b]? = w.heap[b]? := fun i b hi => h4 b (r.blk i b hi).2 (.inr (.inl ⟨i, hi⟩))
  have e : Ext g w { g with f0 := F' } w' := ⟨kp, fun _ _ h => h, fun _ T h => ⟨T, h, .inl rfl⟩, fun i b hi => shape_of_block (hbb i b hi)⟩
  refine ⟨⟨Nat.le_trans hd hsz, { r with evo := Evo.refl _ _, base := Nat.le_refl _, f0 := h3, size := r.size, slots := fun j => (r.slots j).ext e, defers := ⟨r.defers.1, fun d hd' => ?_⟩, glob := fun q cs hq => (r.glob q cs hq).ext e, boxes := fun i cs hi hlt => ?_, maps := fun i ms hi hge => ?_, blk := fun i b hi => ⟨fun o => h1 b o (r.blk i b hi).2 ((r.blk i b hi).1 o), Nat.lt_of_lt_of_le (r.blk i b hi).2 hsz⟩, toks := fun t T hT => ?_, tf0 := fun t T b o hT hb => ?_, gown := fun q cs hq ho => r.gown q cs hq (hown q ho), ghp := fun q cs hq => ?_ }⟩, kp, hown⟩
  · obtain ⟨D, q1, q2, q3, q4⟩ := r.defers.2 d hd'
    exact ⟨D, q1, (h7 D q2 ⟨d, hd', q1⟩).trans q2, fun ho => q3 (hown D ho), q4⟩
  · obtain ⟨b, xs, T, q1, q2, q3, q4, q5⟩ := r.boxes i cs hi hlt
    refine ⟨b, xs, T, q1, (hbb i b q1).trans q2, q3, fun j c hj => ?_, q5⟩
    obtain ⟨x, q6, q7⟩ := q4 j c hj
    exact ⟨x, q6, q7.ext e⟩
  · obtain ⟨b, es, c, q1, q2, q3⟩ := r.maps i ms hi hge
    exact ⟨b, es, c, q1, (hbb i b q1).trans q2, q3.mono kp⟩
  · obtain ⟨⟨n, xs, q1⟩, q2⟩ := r.toks t T hT
    exact ⟨⟨n, xs, ownsRow_of_same q1 fun b hb => h4 b (q1.lt b hb).2 (.inr (.inr ⟨t, T, hT, hb⟩))⟩, q2⟩
  · obtain ⟨⟨n, xs, q1⟩, q2⟩ := r.toks t T hT
    exact h1 b o (q1.lt b hb).2 (r.tf0 t T b o hT hb)
  · obtain ⟨vs, q1, T, z, q2⟩ := r.ghp q cs hq
    exact ⟨vs, q1, T, z, (h6 q cs hq).trans q2⟩

def PL (P : Program) (ops : Array Oper) (rl : Option Nat) (d0 : Nat) {ι : Type} (X : ι → Gh → World → Prop) (K : PS → ι → Prop) (l : List Oper) (st : PS) (i : ι) : Prop :=
  ∀ g a w, Self rl d0 g st a w → X i g w → wpList P ops (fun e a' w' => e = .normal ∧ ∃ g' s j, Self rl d0 g' s a' w' ∧ X j g' w' ∧ Kp (Fx g) w (Fx g') w' ∧ K s j) l a w
section
variable {P : Program} {ops : Array Oper} {rl : Option Nat} {d0 : Nat} {ι : Type} {X : ι → Gh → World → Prop} {K : PS → ι → Prop} {Q : Exit → PS → ι → Prop} {st : PS} {i : ι}
theorem wpList_mono {Q1 Q2 : Exit → Act → World → Prop} (h : ∀ e a w, Q1 e a w → Q2 e a w) {l : List Oper} {a : Act} {w : World} (hne : ∀ e a w, Q1 e a w → e = .normal) (hh : wpList P ops Q1 l a w) : wpList P ops Q2 l a w := by
  have := wpList_app (Q2 := Q2) (l' := []) hne (fun a w q => h _ a w q) hh
  rwa [List.append_nil] at this
theorem pl_nil (h : K st i) : PL P ops rl d0 X K [] st i := fun g a w hs hx => ⟨rfl, g, st, i, hs, hx, Kp.same fun _ _ h => h, h⟩
theorem pl_app {l l' : List Oper} (h : PL P ops rl d0 X (fun s j => PL P ops rl d0 X K l' s j) l st i) : PL P ops rl d0 X K (l ++ l') st i := fun g a w hs hx =>
  wpList_app (fun _ _ _ h => h.1) (fun a' w' ⟨_, g', s, j, h1, h2, h3, h4⟩ => wpList_mono (fun _ _ _ ⟨e, g2, s2, j2, q1, q2, q3, q4⟩ => ⟨e, g2, s2, j2, q1, q2, h3.trans q3, q4⟩) (fun _ _ _ h => h.1) (h4 g' a' w' h1 h2)) (h g a w hs hx)
theorem pl_cons {o : Oper} {l : List Oper} (h : PL P ops rl d0 X (fun s j => PL P ops rl d0 X K l s j) [o] st i) : PL P ops rl d0 X K (o :: l) st i := pl_app (l := [o]) h
theorem pl_y {l : List Oper} (hX : Stb (X i)) (h : YR P true ops (fun s => K s i) l st) : PL P ops rl d0 X K l st i := fun g a w ⟨hd, hr⟩ hx =>
  wpList_mono (fun _ _ _ ⟨g', s, q1, e, q2⟩ => ⟨e, g', s, i, q1.self, hX _ _ _ _ hx (fun i b hi => (hr.blk i b hi).2) q1.evo, q1.evo.fx, q2⟩) (fun _ _ _ ⟨_, _, _, e, _⟩ => e) (h.sound (w0 := ⟨w, g, rl, d0, hd⟩) (Q := fun e s => e = .normal ∧ K s i) (fun s hs => ⟨rfl, hs⟩) hr)
theorem px_rs {id : Nat} {l : List Oper} (h : PL P l.toArray rl d0 X (fun s j => Q .normal s j) l st i) (hnd : ndB l = true := by rfl) : PX P rl d0 X (.region id l.toArray false) Q st i := fun g a w hs hx => by
  refine wpIn_mono (wpIn_region_lit (list_in (Q := PostX rl d0 X (QRegX Q)) (fun a w ⟨_, _, _, _, _, h⟩ => h) hnd ?_)) (fun e a w ⟨g, s, j, q1, q2, q3⟩ => by
    cases e with
    | normal => exact ⟨g, s, j, q1, q2, q3⟩
    | _ => exact q3.elim)
  exact wpList_mono (fun e _ _ ⟨h0, g', s, j, q1, q2, q3, q4⟩ => by subst h0; exact ⟨g', s, j, q1, q2, q4⟩) (fun _ _ _ h => h.1) (h g a w hs hx)
end
end Go.Proofs.YtkfoogabijnamaaGreatDoor.Px
set_option maxHeartbeats 1000000
namespace Go.Proofs.YtkfoogabijnamaaGreatDoor.Px
open Go.RowKit

theorem Self.put {rl : Option Nat} {d0 : Nat} {g : Gh} {st : PS} {a : Act} {w : World} (h : Self rl d0 g st a w) {v : Value} {x : SV} (hx : SRep g w v x) (d : Option Nat) (hd : ∀ i, d = some i → i < st.n) : Self rl d0 g (st.put d x) (a.put d v) w := ⟨h.1, h.2.put hx d hd⟩
theorem see_not {w : World} {b o : Nat} {ob : Obj} (h : w.heap[b]? = some ob) (h1 : ∀ xs T z, ob ≠ .cells xs T z) (h2 : ∀ es c, ob ≠ .map es c) : see w b o = none := by
  unfold see
  rw [h]
  cases ob <;> first | rfl | exact absurd rfl (h1 _ _ _) | exact absurd rfl (h2 _ _)
theorem row_cells {w : World} {B E k n : Nat} {v : Value} {xs : List Value} (h : w.ownsRow B E k v n xs) {b : Nat} (hb : v.ownBlock = some b) : ∃ cur z, w.heap[b]? = some (.cells cur E z) := by
  rcases h.2 with ⟨rfl, _⟩ | ⟨gb, cap, cur, rfl, -, hg, -⟩
  · cases hb
  · cases hb; exact ⟨_, _, hg⟩

section
variable {P : Program} {ops : Array Oper} {rl : Option Nat} {d0 : Nat} {ι : Type} {X : ι → Gh → World → Prop} {K : PS → ι → Prop} {st : PS} {i : ι} {o : Oper}
theorem pl_op (hw : st.want ops o = some true) (h : ∀ g a w, Self rl d0 g st a w → X i g w → ∃ v w', ((execOp a.eval o).run P w = .ok (.value v) w' ∨ ((execOp a.eval o).run P w = .ok .skip w' ∧ v = undef)) ∧ ∃ g' s j, Self rl d0 g' s (a.put o.dst v) w' ∧ X j g' w' ∧ Kp (Fx g) w (Fx g') w' ∧ K s j) : PL P ops rl d0 X K [o] st i := fun g a w hs hx => by
  obtain ⟨v, w', hrun, h1⟩ := h g a w hs hx
  obtain ⟨hd, hr⟩ := hs
  unfold wpList
  rw [if_pos (want_spec hr hw)]
  refine .inl ?_
  unfold Oper.wp
  rcases hrun with hrun | ⟨hrun, rfl⟩
  · rw [hrun]; exact ⟨rfl, h1⟩
  · rw [hrun]; exact ⟨rfl, h1⟩
end

section
variable {P : Program} {ops : Array Oper} {rl : Option Nat} {d0 E : Nat} {p : HP} {K : PS → HI → Prop} {st : PS} {i : HI} {d : Option Nat} {ty : TypeId} {pos : String} {af : Array Edge} {gd : Option (Nat × Bool)}
theorem HX.put1 {g : Gh} {st : PS} {a : Act} {w w' : World} (hs : Self rl d0 g st a w) (hx : HX E p i g w) (r : Nat) (hos : w'.os = w.os) (ht : w'.tape = w.tape) (ho : w'.output = w.output) (hsz : w.heap.size ≤ w'.heap.size) (hne : ∀ b, b < w.heap.size → b ≠ r → w'.heap[b]? = w.heap[b]?)
    (hr1 : r < w.heap.size → ¬ Own g w r) (hr2 : p.w.heap.size ≤ r ∨ p.ex = some r) (hr3 : r < w.heap.size → ∀ o, Fx g r o → see w r o = none) (hr4 : r < w.heap.size → w.heap[r]? = some (.deferred (some [])) → ∀ d ∈ a.defers, d ≠ { target := .collected r, args := #[] }) (hr5 : r < w.heap.size → ∀ cur T z, w.heap[r]? ≠ some (.cells cur T z)) :
    Self rl d0 g st a w' ∧ Kp (Fx g) w (Fx g) w' ∧ HCo p i.fs g w' ∧ HR E p.w.heap.size i.rows g w' ∧ ((∀ r' l dn, i.it = some (r', l, dn) → r' ≠ r) → HT i.it p.w.heap.size g w') ∧ ((∀ bo l, i.mp = some (bo, l) → bo ≠ r) → HM i.mp p g w') ∧ ∀ b, Own g w' b → Own g w b := by
  have hgl : ∀ q cs, aget gs q = some cs → q ≠ r := fun q cs hq e => by
    obtain ⟨h1, h2⟩ := hx.co.gl q cs hq
    rcases hr2 with h | h
    · omega
    · exact h2 (e ▸ h)
  have hlt : ∀ q cs, aget gs q = some cs → q < w.heap.size := fun q cs hq => Nat.lt_of_lt_of_le (hx.co.gl q cs hq).1 hx.co.size
  obtain ⟨s1, kp, hown⟩ := hs.chg g.f0 hsz (fun _ _ _ h => h) (fun b o hb => hs.2.f0 b o (Nat.le_trans hsz hb)) (fun b hb hO => hne b hb fun e => hr1 (e ▸ hb) (e ▸ hO)) (fun b o hb hf hse => by
    refine see_of_block (hne b hb fun e => ?_) o
    subst e
    rw [hr3 hb o hf] at hse
    cases hse) (fun q cs hq => hne q (hlt q cs hq) (hgl q cs hq)) (fun D hD ⟨d, hd1, hd2⟩ => by
      have hlt := (Array.getElem?_eq_some_iff.1 hD).1
      exact hne D hlt fun e => by subst e; exact hr4 hlt hD d hd1 hd2)
  refine ⟨s1, kp, hx.co.keep hos ht ho hsz (fun b hb1 hb2 => hne b (Nat.lt_of_lt_of_le hb1 hx.co.size) fun e => ?_) hx.co.f0 hown kp, hx.rows.keep (fun j v xs b hj hb => ?_) hown, fun hit => hx.it.keep (fun r' l dn hi => ?_) hown kp, fun hmp => hx.mp.keep (fun bo l hi => ?_) hown, hown⟩
  · rcases hr2 with h | h
    · omega
    · exact hb2 (e ▸ h)
  · obtain ⟨h1, h2, h3⟩ := hx.rows.row j v xs hj
    obtain ⟨cur, z, h4⟩ := row_cells h2 hb
    have hlt := (h2.lt b hb).2
    exact ⟨hne b hlt fun e => hr5 (e ▸ hlt) _ _ _ (e ▸ h4), fun o h => h⟩
  · obtain ⟨bm, es, c, seen, cc, h1, -⟩ := hx.it r' l dn hi
    exact hne r' (Array.getElem?_eq_some_iff.1 h1).1 (hit r' l dn hi)
  · obtain ⟨es, c, h1, -⟩ := hx.mp bo l hi
    exact ⟨hne bo (Array.getElem?_eq_some_iff.1 h1).1 (hmp bo l hi), fun o h => h⟩

theorem row_core {T bytes n : Nat} {x y : Operand} {v : Value} {xs : List (List UInt8)} {s : List UInt8} [hA : AppOf P T E 1 bytes] {g : Gh} {a : Act} {w : World} (hs : Self rl d0 g st a w) (hx : HX E p i g w) (hn : n = xs.length) (hv : a.eval x = v) (hrow : w.ownsRow p.w.heap.size E 1 v n (xs.map vS)) (hblk : ∀ b, v.ownBlock = some b → ¬ Own g w b ∧ ∀ o, g.f0 b o → o < n)
    (hy : asSl (st.ev y) = some (1, [[dS s]])) (hb : (n + 1) * bytes ≤ 140737488351232) (hl : n + 1 ≤ 140737488351232) :
    ∃ v' w' g', (execOp a.eval ⟨d, .call { callee := .builtin .append, args := #[x, y], argTypes := #[T, T] }, ty, pos, af, gd⟩).run P w = .ok (.value v') w' ∧ Self rl d0 g' st a w' ∧ Kp (Fx g) w (Fx g') w' ∧ HCo p i.fs g' w' ∧ HT i.it p.w.heap.size g' w' ∧ HM i.mp p g' w' ∧ (∀ b, Own g' w' b → Own g w b) ∧
      w'.ownsRow p.w.heap.size E 1 v' (n + 1) ((xs ++ [s]).map vS) ∧ (∀ b, v'.ownBlock = some b → ¬ Own g' w' b ∧ ∀ o, g'.f0 b o → o < n + 1) ∧ (∀ b, b < w.heap.size → v.ownBlock ≠ some b → w'.heap[b]? = w.heap[b]?) ∧ (v'.ownBlock = v.ownBlock ∨ v'.ownBlock = some w.heap.size) ∧ (∀ b o, g'.f0 b o → g.f0 b o) ∧ v'.oneCell' = true := by
  subst hn
  have hr := hs.2
  have h3 := hr.eval y
  obtain ⟨A2, c2, news, hv2, hc2, hm2, hk2, hl2, hcell2, hone2, hrep2⟩ := DRep.row (h3.asSl hy)
  obtain ⟨ti, z, q1, q2, q3, q4, q5⟩ := hA.inf
  obtain rfl : news = [vS s] := by
    obtain ⟨u, hu, hu2⟩ := hrep2 0 0 [dS s] (dS s) rfl rfl
    match news, hl2, hu with
    | [u'], _, hu =>
      cases hu
      rw [DRep.val_eq hu2]
  obtain ⟨v', w', r1, r2, r3, r4, r5, r6, r7⟩ := run_app (P := P) w p.w.heap.size T ty E ti z 1 bytes hA.und q1 q2 q3 q4 q5 v xs.length (xs.map vS) hrow A2 1 c2 [vS s] (by simp) (fun h0 => by
    obtain ⟨b, off, rfl, hcell⟩ := hcell2 (by simp)
    exact ⟨_, rfl, fun j u hj => by rw [Addr.add_lit]; exact (hcell j u hj).1⟩) hone2 (by unfold maxLen; omega) (by omega) hx.co.size
  have hvlt : ∀ b, v.ownBlock = some b → p.w.heap.size ≤ b ∧ b < w.heap.size := hrow.lt
  have hvlt' : ∀ b, v'.ownBlock = some b → p.w.heap.size ≤ b ∧ b < w'.heap.size := r2.lt
  have hsz := r3.size
  obtain ⟨s1, kp, hown⟩ := hs.chg (fun b o => g.f0 b o ∧ (v'.ownBlock = some b → o < xs.length + 1)) hsz (fun b o hb hf => ⟨hf, fun hvb => by
      rcases r6 with h | h
      · have := (hblk b (h ▸ hvb)).2 o hf; omega
      · rw [h] at hvb; cases hvb; omega⟩) (fun b o hb => ⟨hr.f0 b o (Nat.le_trans hsz hb), fun hvb => by have := (hvlt' b hvb).2; omega⟩) (fun b hb hO => r4 b hb fun e => (hblk b e).1 hO) (fun b o hb hf hse => by
      by_cases e : v.ownBlock = some b
      · have ho := (hblk b e).2 o hf.1
        obtain ⟨cur, z', hc⟩ := row_cells hrow e
        rw [see_cells hc] at hse ⊢
        rw [Option.isSome_map] at hse
        obtain ⟨u, hu⟩ := Option.isSome_iff_exists.1 hse
        have h5 : w.cell? ⟨b, o, none⟩ = some u := see_cell.2 (by rw [see_cells hc, hu]; rfl)
        have h6 := (r5 b o hb e (by omega)).trans h5
        rw [see_cell.1 h6, hu]; rfl
      · exact see_of_block (r4 b hb e) o) (fun q cs hq => by
      have h1 := hx.co.gl q cs hq
      exact r4 q (Nat.lt_of_lt_of_le h1.1 hx.co.size) fun e => by have := (hvlt q e).1; omega) (fun D hD _ => by
      refine r4 D (Array.getElem?_eq_some_iff.1 hD).1 fun e => ?_
      obtain ⟨cur, z', hc⟩ := row_cells hrow e
      rw [hc] at hD
      cases hD)
  have hout : ∀ b, b < w.heap.size → v.ownBlock ≠ some b → w'.heap[b]? = w.heap[b]? := r4
  refine ⟨v', w', _, ?_, s1, kp, hx.co.keep r3.os r3.tape r3.output hsz (fun b hb1 hb2 => r4 b (Nat.lt_of_lt_of_le hb1 hx.co.size) fun e => by have := (hvlt b e).1; omega) (fun b o hf => hx.co.f0 b o hf.1) hown kp, hx.it.keep (fun r' l dn hi => ?_) hown kp, hx.mp.keep (fun bo l hi => ?_) hown, hown, ?_, fun b hb => ⟨fun hO => ?_, fun o ho => ho.2 hb⟩, r4, r6, fun b o h => h.1, ?_⟩
  · have e : a.eval y = .slice A2 1 c2 := hv2
    simp only [execOp, resolve, invoke, builtin, Sem.run_bind, Sem.run_pure, Result.andThen_ok, List.map_toArray, List.map_cons, List.map_nil, hv, e, r1]
  · obtain ⟨bm, es, c, seen, cc, h1, -⟩ := hx.it r' l dn hi
    refine r4 r' (Array.getElem?_eq_some_iff.1 h1).1 fun e => ?_
    obtain ⟨cur, z', hc⟩ := row_cells hrow e
    rw [hc] at h1; cases h1
  · obtain ⟨es, c, h1, -⟩ := hx.mp bo l hi
    refine ⟨r4 bo (Array.getElem?_eq_some_iff.1 h1).1 fun e => ?_, fun o ho => ho.1⟩
    obtain ⟨cur, z', hc⟩ := row_cells hrow e
    rw [hc] at h1; cases h1
  · rw [List.map_append]; exact r2
  · rcases r6 with h | h
    · exact (hblk b (h ▸ hb)).1 (hown b hO)
    · rw [h] at hb
      cases hb
      have hlt := (hvlt' _ h).2
      rcases hO with h1 | ⟨j, h1⟩ | ⟨t, T', h1, h2⟩
      · omega
      · have := (hr.blk j _ h1).2; omega
      · obtain ⟨⟨n', xs', h4⟩, -⟩ := hr.toks t T' h1
        have := (h4.lt _ h2).2
        omega
  · obtain ⟨A', c', e, -⟩ := own_form r2
    rw [e]; rfl
theorem pl_ra {T bytes j : Nat} {x y : Operand} {v : Value} {xs : List (List UInt8)} {s : List UInt8} [hA : AppOf P T E 1 bytes] (hj : i.rows[j]? = some (v, xs)) (hx : st.ev x = .d (.val v)) (hy : asSl (st.ev y) = some (1, [[dS s]])) (hb : (xs.length + 1) * bytes ≤ 140737488351232) (hl : xs.length + 1 ≤ 140737488351232)
    (h : ∀ v', K (st.put d (.d (.val v'))) { i with rows := i.rows.set j (v', xs ++ [s]) }) (hd : dstOk ⟨d, .call { callee := .builtin .append, args := #[x, y], argTypes := #[T, T] }, ty, pos, af, gd⟩ st = true := by kernel_rfl) (hw : st.want ops ⟨d, .call { callee := .builtin .append, args := #[x, y], argTypes := #[T, T] }, ty, pos, af, gd⟩ = some true := by rfl) :
    PL P ops rl d0 (HX E p) K [⟨d, .call { callee := .builtin .append, args := #[x, y], argTypes := #[T, T] }, ty, pos, af, gd⟩] st i := pl_op hw fun g a w hs hX => by
  have hv : a.eval x = v := DRep.val_eq (by have := hs.2.eval x; rw [hx] at this; exact this)
  obtain ⟨h1, h2, h3⟩ := hX.rows.row j v xs hj
  obtain ⟨v', w', g', q1, q2, q3, q4, q5, q6, q7, q8, q9, q10, q11, q12, q13⟩ := row_core (hA := hA) (x := x) (d := d) (ty := ty) (pos := pos) (af := af) (gd := gd) hs hX rfl hv h2 h3 hy hb hl
  refine ⟨v', w', .inl q1, g', _, { i with rows := i.rows.set j (v', xs ++ [s]) }, q2.put (x := .d (.val v')) (DRep.val _ q13) _ (dstOk_spec (st := st) hd), ⟨q4, ⟨fun j' u us hj' => ?_, fun j1 j2 p1 p2 b h4 h5 h6 h7 => ?_⟩, q5, q6⟩, q3, h v'⟩
  · by_cases e : j' = j
    · subst e
      rw [List.getElem?_set_self (List.getElem?_eq_some_iff.1 hj).1] at hj'
      cases hj'
      refine ⟨by simp, ?_, fun b hb' => ?_⟩
      · rw [List.length_append]; exact q8
      · rw [List.length_append]; exact q9 b hb'
    · rw [List.getElem?_set_ne (Ne.symm e)] at hj'
      obtain ⟨r1, r2, r3⟩ := hX.rows.row j' u us hj'
      refine ⟨r1, ownsRow_of_same r2 fun b hb' => q10 b (r2.lt b hb').2 fun e' => e (hX.rows.dis j' j (u, us) (v, xs) b hj' hj hb' e'), fun b hb' => ⟨fun ho => (r3 b hb').1 (q7 b ho), fun o ho => (r3 b hb').2 o (q12 b o ho)⟩⟩
  · have key : ∀ (j' : Nat) p' b, j' ≠ j → (i.rows.set j (v', xs ++ [s]))[j']? = some p' → p'.1.ownBlock = some b → v'.ownBlock ≠ some b := fun j' p' b hne h4 h6 e => by
      rw [List.getElem?_set_ne (Ne.symm hne)] at h4
      obtain ⟨u, us⟩ := p'
      have r2 := (hX.rows.row j' u us h4).2.1
      rcases q11 with h | h
      · exact hne (hX.rows.dis j' j (u, us) (v, xs) b h4 hj h6 (h ▸ e))
      · rw [h] at e; cases e; have := (r2.lt _ h6).2; omega
    by_cases e1 : j1 = j <;> by_cases e2 : j2 = j
    · rw [e1, e2]
    · subst e1
      rw [List.getElem?_set_self (List.getElem?_eq_some_iff.1 hj).1] at h4
      cases h4
      exact absurd h6 (key j2 p2 b e2 h5 h7)
    · subst e2
      rw [List.getElem?_set_self (List.getElem?_eq_some_iff.1 hj).1] at h5
      cases h5
      exact absurd h7 (key j1 p1 b e1 h4 h6)
    · rw [List.getElem?_set_ne (Ne.symm e1)] at h4
      rw [List.getElem?_set_ne (Ne.symm e2)] at h5
      exact hX.rows.dis j1 j2 p1 p2 b h4 h5 h6 h7
theorem pl_rn {T bytes : Nat} {x y : Operand} {s : List UInt8} [hA : AppOf P T E 1 bytes] (hx : st.ev x = .d (.val (.slice none 0 0))) (hy : asSl (st.ev y) = some (1, [[dS s]])) (hb : bytes ≤ 140737488351232)
    (h : ∀ v', K (st.put d (.d (.val v'))) { i with rows := i.rows ++ [(v', [s])] }) (hd : dstOk ⟨d, .call { callee := .builtin .append, args := #[x, y], argTypes := #[T, T] }, ty, pos, af, gd⟩ st = true := by kernel_rfl) (hw : st.want ops ⟨d, .call { callee := .builtin .append, args := #[x, y], argTypes := #[T, T] }, ty, pos, af, gd⟩ = some true := by rfl) :
    PL P ops rl d0 (HX E p) K [⟨d, .call { callee := .builtin .append, args := #[x, y], argTypes := #[T, T] }, ty, pos, af, gd⟩] st i := pl_op hw fun g a w hs hX => by
  have hv : a.eval x = .slice none 0 0 := DRep.val_eq (by have := hs.2.eval x; rw [hx] at this; exact this)
  obtain ⟨v', w', g', q1, q2, q3, q4, q5, q6, q7, q8, q9, q10, q11, q12, q13⟩ := row_core (hA := hA) (x := x) (d := d) (ty := ty) (pos := pos) (af := af) (gd := gd) (xs := []) hs hX rfl hv ⟨rfl, .inl ⟨rfl, rfl⟩⟩ (fun b hb => by cases hb) hy (by simpa using hb) (by simp)
  have hnew : v'.ownBlock = some w.heap.size := by
    rcases q11 with h | h
    · rcases q8.2 with ⟨-, h2⟩ | ⟨gb, cap, cur, rfl, -⟩
      · simp at h2
      · cases h
    · exact h
  refine ⟨v', w', .inl q1, g', _, { i with rows := i.rows ++ [(v', [s])] }, q2.put (x := .d (.val v')) (DRep.val _ q13) _ (dstOk_spec (st := st) hd), ⟨q4, ⟨fun j' u us hj' => ?_, fun j1 j2 p1 p2 b h4 h5 h6 h7 => ?_⟩, q5, q6⟩, q3, h v'⟩
  · rcases Nat.lt_or_ge j' i.rows.length with hlt | hge
    · rw [List.getElem?_append_left hlt] at hj'
      obtain ⟨r1, r2, r3⟩ := hX.rows.row j' u us hj'
      exact ⟨r1, ownsRow_of_same r2 fun b hb' => q10 b (r2.lt b hb').2 (by simp [Value.ownBlock]), fun b hb' => ⟨fun ho => (r3 b hb').1 (q7 b ho), fun o ho => (r3 b hb').2 o (q12 b o ho)⟩⟩
    · rw [List.getElem?_append_right hge] at hj'
      obtain ⟨hq, hq2⟩ := List.getElem?_eq_some_iff.1 hj'
      have h0 : j' - i.rows.length = 0 := by simpa using hq
      simp only [h0, List.getElem_cons_zero] at hq2
      cases hq2
      exact ⟨by simp, q8, q9⟩
  · have key : ∀ (j' : Nat) p' b, j' < i.rows.length → i.rows[j']? = some p' → p'.1.ownBlock = some b → v'.ownBlock ≠ some b := fun j' p' b hlt h4 h6 e => by
      obtain ⟨u, us⟩ := p'
      have r2 := (hX.rows.row j' u us h4).2.1
      rw [hnew] at e; cases e; have := (r2.lt _ h6).2; omega
    have last : ∀ (j' : Nat) p', i.rows.length ≤ j' → (i.rows ++ [(v', [s])])[j']? = some p' → p' = (v', [s]) ∧ j' = i.rows.length := fun j' p' hge hj' => by
      rw [List.getElem?_append_right hge] at hj'
      obtain ⟨hq, hq2⟩ := List.getElem?_eq_some_iff.1 hj'
      have h0 : j' - i.rows.length = 0 := by simpa using hq
      simp only [h0, List.getElem_cons_zero] at hq2
      exact ⟨hq2.symm, by omega⟩
    rcases Nat.lt_or_ge j1 i.rows.length with e1 | e1 <;> rcases Nat.lt_or_ge j2 i.rows.length with e2 | e2
    · rw [List.getElem?_append_left e1] at h4
      rw [List.getElem?_append_left e2] at h5
      exact hX.rows.dis j1 j2 p1 p2 b h4 h5 h6 h7
    · rw [List.getElem?_append_left e1] at h4
      obtain ⟨rfl, -⟩ := last j2 p2 e2 h5
      exact absurd h7 (key j1 p1 b e1 h4 h6)
    · rw [List.getElem?_append_left e2] at h5
      obtain ⟨rfl, -⟩ := last j1 p1 e1 h4
      exact absurd h6 (key j2 p2 b e2 h5 h7)
    · rw [(last j1 p1 e1 h4).2, (last j2 p2 e2 h5).2]
end
end Go.Proofs.YtkfoogabijnamaaGreatDoor.Px
set_option maxHeartbeats 1000000
namespace Go.Proofs.YtkfoogabijnamaaGreatDoor.Px
open Go.RowKit

def unk (p : Value × DV) : List UInt8 × DV := ((match p.1 with | .string s => s.data.toList | _ => []), p.2)
theorem unk_kmap (l : List (List UInt8 × DV)) : (kmap l).map unk = l := by
  unfold kmap
  rw [List.map_map]
  conv => rhs; rw [← List.map_id l]
  exact List.map_congr_left fun p _ => rfl
theorem Vis.perm {es : Array MapEntry} {l dn : List (List UInt8 × DV)} {seen : Array Nat} (h : Vis es (kmap l) seen (kmap dn)) (hl : es.size = (kmap l).length) : ∃ rl, (dn ++ rl).Perm l := by
  obtain ⟨D, R, h1, -, h3⟩ := h
  refine ⟨(R.map (·.2)).map unk, ?_⟩
  have h4 := (h1.map (·.2)).map unk
  rw [List.map_snd_zip (by simp [hl]), unk_kmap, List.map_append, List.map_append, ← h3, unk_kmap] at h4
  exact h4

theorem mlk_run {P : Program} {T : Nat} {x y : Operand} {d : Option Nat} {ty : TypeId} {pos : String} {af : Array Edge} {gd : Option (Nat × Bool)} {l : List (List UInt8 × DV)} {k : List UInt8} {z : DV} [hM : MapOf P T z] {a : Act} {w : World} {b c : Nat} {es : Array MapEntry} (R : Value → DV → Prop) (hz : ∀ v, (∀ F w', DRep F w' v z) → R v z) (hx : a.eval x = .map (some b)) (hy : a.eval y = vS k) (h1 : w.heap[b]? = some (.map es c)) (r3 : es.toList.length = l.length)
    (r4 : ∀ (i : Nat) e q, es.toList[i]? = some e → l[i]? = some q → e.key = vS q.1 ∧ R e.val q.2) : ∃ v, (execOp a.eval ⟨d, .lookup T x y false, ty, pos, af, gd⟩).run P w = .ok (.value v) w ∧ R v (mget z k l) := by
  obtain ⟨kt, et, m1, m2, m3⟩ := hM.und
  obtain ⟨v, m4, m5⟩ := m3 w
  have hc : ∀ e, (Instr.checkKey e 10000 kt (vS k)).run P w = .ok () w := fun e => MapKept.run_checkKey (k := vS k) m2 (by simp [MapKept.IsKey]) e 9999
  rcases find_spec k l es.toList 0 r3 (fun i e p he hp => (r4 i e p he hp).1) with ⟨j, e, d', f1, f2, f3, f4, -⟩ | ⟨f1, f2, -, -⟩
  · refine ⟨e.val, ?_, ?_⟩
    · simp [execOp, Instr.lookup, run_underlying m1, hx, hy, MapKept.run_getObj_map h1, hc, MapKept.run_findKey m2 f1, Result.andThen]
    · rw [f4]; exact (r4 j e _ f2 f3).2
  · refine ⟨v, ?_, ?_⟩
    · simp [execOp, Instr.lookup, run_underlying m1, hx, hy, MapKept.run_getObj_map h1, hc, MapKept.run_findKey m2 f1, m4, Result.andThen]
    · rw [f2]; exact hz v m5
theorem mup_run {P : Program} {T : Nat} {x y u : Operand} {d : Option Nat} {ty : TypeId} {pos : String} {af : Array Edge} {gd : Option (Nat × Bool)} {l : List (List UInt8 × DV)} {k : List UInt8} {z v : DV} [hM : MapOf P T z] {a : Act} {w : World} {b c : Nat} {es : Array MapEntry} (R : Value → DV → Prop) (hu : R (a.eval u) v) (hx : a.eval x = .map (some b)) (hy : a.eval y = vS k) (r2 : w.heap[b]? = some (.map es c)) (rs : MapKept.Stamped es c) (r3 : es.toList.length = l.length)
    (r4 : ∀ (i : Nat) e q, es.toList[i]? = some e → l[i]? = some q → e.key = vS q.1 ∧ R e.val q.2) : ∃ (es' : Array MapEntry) (c' : Nat), (execOp a.eval ⟨d, .mapUpdate T x y u, ty, pos, af, gd⟩).run P w = .ok .skip { w with heap := w.heap.setIfInBounds b (.map es' c') } ∧ es'.toList.length = (mset k v l).length ∧ MapKept.Stamped es' c' ∧ ∀ (q : Nat) e p, es'.toList[q]? = some e → (mset k v l)[q]? = some p → e.key = vS p.1 ∧ R e.val p.2 := by
  obtain ⟨kt, et, m1, m2, -⟩ := hM.und
  have hc : ∀ e, (Instr.checkKey e 10000 kt (vS k)).run P w = .ok () w := fun e => MapKept.run_checkKey (k := vS k) m2 (by simp [MapKept.IsKey]) e 9999
  rcases find_spec k l es.toList 0 r3 (fun i e p he hp => (r4 i e p he hp).1) with ⟨j, e, d', f1, f2, f3, -, f5⟩ | ⟨f1, -, f3, f6⟩
  · have hek : e.key = vS k := (r4 j e _ f2 f3).1
    have hj : es[j]? = some e := by simpa using f2
    refine ⟨es.modify j fun e => { e with key := vS k, val := a.eval u }, c, ?_, ?_, ?_, ?_⟩
    · simp [execOp, Instr.mapUpdate, run_underlying m1, hx, hy, MapKept.run_getObj_map r2, hc, MapKept.run_findKey m2 f1, hj, hek, run_keyStays, MapKept.run_setObj_map _ r2, Result.andThen]
    · rw [f5]; simpa using r3
    · exact MapKept.stamped_modify rs j _ (fun _ _ => rfl) fun e' _ he' => by
        rw [hj] at he'
        cases he'
        exact hek.symm
    · intro q en p he hp
      rw [f5] at hp
      rw [Array.toList_modify, List.getElem?_modify] at he
      by_cases hq : j = q
      · subst hq
        rw [f2] at he
        rw [List.getElem?_set_self (by rw [← r3]; exact (List.getElem?_eq_some_iff.1 f2).1)] at hp
        cases hp
        simp at he
        subst he
        exact ⟨rfl, hu⟩
      · rw [List.getElem?_set_ne hq] at hp
        simp [hq] at he
        exact r4 q en p (by simpa using he) hp
  · refine ⟨es.push { key := vS k, val := a.eval u, born := c }, c + 1, ?_, ?_, ?_, ?_⟩
    · simp [execOp, Instr.mapUpdate, run_underlying m1, hx, hy, MapKept.run_getObj_map r2, hc, MapKept.run_findKey m2 f1, MapKept.run_setObj_map _ r2, Result.andThen]
    · rw [f3]; simpa using r3
    · exact MapKept.stamped_push rs fun x hx e => by
        obtain ⟨q, hq⟩ := List.mem_iff_getElem?.1 hx
        obtain ⟨p, hp⟩ : ∃ p, l[q]? = some p := ⟨_, List.getElem?_eq_getElem (by rw [← r3]; exact (List.getElem?_eq_some_iff.1 hq).1)⟩
        have h5 := (r4 q x p hq hp).1
        rw [e] at h5
        refine f6 p (List.mem_of_getElem? hp) ?_
        have := congrArg (fun v : Value => match v with | .string s => s.data.toList | _ => []) h5
        simpa using this.symm
    · intro q en p he hp
      rw [f3] at hp
      rw [Array.toList_push] at he
      rcases Nat.lt_or_ge q l.length with hq | hq
      · rw [List.getElem?_append_left hq] at hp
        rw [List.getElem?_append_left (by omega)] at he
        exact r4 q en p he hp
      · rw [List.getElem?_append_right hq] at hp
        rw [List.getElem?_append_right (by omega), r3] at he
        obtain ⟨hq0, -⟩ := List.getElem?_eq_some_iff.1 hp
        have hq1 : q - l.length = 0 := by simpa using hq0
        rw [hq1] at he hp
        cases he
        cases hp
        exact ⟨rfl, hu⟩

section
variable {P : Program} {ops : Array Oper} {rl : Option Nat} {d0 E : Nat} {p : HP} {K : PS → HI → Prop} {st : PS} {i : HI} {d : Option Nat} {ty : TypeId} {pos : String} {af : Array Edge} {gd : Option (Nat × Bool)}
theorem Self.val {g : Gh} {a : Act} {w : World} (hs : Self rl d0 g st a w) {x : Operand} {v : Value} (hx : st.ev x = .d (.val v)) : a.eval x = v ∧ v.oneCell' = true := by
  have := hs.2.eval x
  rw [hx] at this
  generalize a.eval x = u at this
  have e := DRep.val_eq this
  subst e
  refine ⟨rfl, ?_⟩
  generalize e : DV.val u = y at this
  cases this with
  | val _ h => exact h
  | _ => cases e
theorem pl_rg {T : Nat} {x : Operand} {l : List (List UInt8 × DV)} {z : DV} [hM : MapOf P T z] (hx : st.ev x = .d (.mp (kmap l)))
    (h : ∀ r, K (st.put d (.d (.val (.pointer (some ⟨r, 0, none⟩))))) { i with it := some (r, l, []) }) (hd : dstOk ⟨d, .range T x, ty, pos, af, gd⟩ st = true := by kernel_rfl) (hw : st.want ops ⟨d, .range T x, ty, pos, af, gd⟩ = some true := by rfl) :
    PL P ops rl d0 (HX E p) K [⟨d, .range T x, ty, pos, af, gd⟩] st i := pl_op hw fun g a w hs hX => by
  have h1 := hs.2.eval x
  rw [hx] at h1
  obtain ⟨bm, es, c, q1, q2, q3, q4, q5, q6⟩ := DRep.mapd h1
  obtain ⟨kt, et, m1, -, -⟩ := hM.und
  have hlt : bm < w.heap.size := (Array.getElem?_eq_some_iff.1 q2).1
  have hb1 : Below w.heap.size w (w.alloc (.mapIter (some bm) c #[] c)) := (Below.refl _ w).alloc (Nat.le_refl _) _
  obtain ⟨s1, kp, c1, c2, c3, c4, hown⟩ := HX.put1 (w' := w.alloc (.mapIter (some bm) c #[] c)) hs hX w.heap.size hb1.os hb1.tape hb1.output hb1.size (fun b hb _ => hb1.block b hb) (fun h => by omega) (.inl hX.co.size) (fun h => by omega) (fun h => by omega) (fun h => by omega)
  refine ⟨_, _, .inl ?_, g, _, { i with it := some (w.heap.size, l, []) }, s1.put (x := .d (.val _)) (DRep.val _ rfl) _ (dstOk_spec (st := st) hd), ⟨c1, c2, fun r l' dn e => ?_, c4 fun bo l' hi => ?_⟩, kp, h _⟩
  · show (execOp a.eval ⟨d, .range T x, ty, pos, af, gd⟩).run P w = _
    simp only [execOp, q1, Sem.run_bind, run_range_map w T kt et bm es c m1 q2, Result.andThen_ok, Sem.run_pure]
  · cases e
    have hsee : see (w.alloc (.mapIter (some bm) c #[] c)) bm 0 = some (.mp es c) := by
      rw [see_of_block (hb1.block bm hlt)]
      unfold see
      rw [q2]
    refine ⟨bm, es, c, #[], c, World.alloc_heap_new w _, hsee, Nat.le_refl _, MapAt.mono ⟨q5, q4, q6⟩ kp, ?_, fun ho => ?_, (kp bm 0 q3 (by unfold see; rw [q2]; rfl)).1, hX.co.size, fun q hq => by cases hq⟩
    · exact Vis.start es _
    · obtain ⟨nb, nt⟩ := hs.2.not_tok (Nat.le_refl w.heap.size)
      rcases hown _ ho with h | ⟨j, h⟩ | ⟨t, T', h, h'⟩
      · have : (w.alloc (.mapIter (some bm) c #[] c)).heap.size = w.heap.size + 1 := by simp
        rcases ho with h2 | ⟨j, h2⟩ | ⟨t, T', h2, h3⟩
        · omega
        · exact nb j h2
        · exact nt t T' h2 h3
      · exact nb j h
      · exact nt t T' h h'
  · obtain ⟨es', c', h1, -⟩ := hX.mp bo l' hi
    have := (Array.getElem?_eq_some_iff.1 h1).1
    omega
theorem pl_nx {x : Operand} {r : Nat} {l dn : List (List UInt8 × DV)} (hi : i.it = some (r, l, dn)) (hx : st.ev x = .d (.val (.pointer (some ⟨r, 0, none⟩)))) (h0 : dn.Perm l → K (st.put d (.tup [dB false])) i)
    (h1 : ∀ k v rl, (dn ++ (k, v) :: rl).Perm l → K (st.put d (.tup [dB true, dS k, v])) { i with it := some (r, l, dn ++ [(k, v)]) }) (hd : dstOk ⟨d, .next x false, ty, pos, af, gd⟩ st = true := by kernel_rfl) (hw : st.want ops ⟨d, .next x false, ty, pos, af, gd⟩ = some true := by rfl) :
    PL P ops rl d0 (HX E p) K [⟨d, .next x false, ty, pos, af, gd⟩] st i := pl_op hw fun g a w hs hX => by
  have hv := (hs.val hx).1
  obtain ⟨bm, es, c, seen, cc, t1, t2, t3, t4, t5, t6, t7, t9, t8⟩ := hX.it r l dn hi
  have t2' := see_map t2
  have hne : bm ≠ r := fun e => by rw [e, t1] at t2'; cases t2'
  rcases run_next_at (P := P) w ty r bm c cc seen es c t1 t2' t4.2.1.1 t3 with ⟨e0, hrun⟩ | ⟨e, he, w1, hw1, hrun⟩
  · refine ⟨_, w, .inl (by
      show (execOp a.eval ⟨d, .next x false, ty, pos, af, gd⟩).run P w = _
      simp only [execOp, hv, Sem.run_bind, hrun, Result.andThen_ok, Sem.run_pure]), g, _, i, hs.put (x := .tup [dB false]) ⟨[.bool false], rfl, rfl, fun j u y hu hy => ?_⟩ _ (dstOk_spec (st := st) hd), hX, Kp.same fun _ _ h => h, h0 ?_⟩
    · match j with
      | 0 => cases hu; cases hy; exact DRep.val _ rfl
      | j + 1 => simp at hu
    · have := (t5.done t4.1 t4.2.1.2.1 e0).map unk
      rwa [unk_kmap, unk_kmap] at this
  · obtain ⟨q, hq1, hq2⟩ := t5.step t4.1 he
    obtain ⟨⟨k, v⟩, hq3, rfl⟩ : ∃ q0 ∈ l, q = (vS q0.1, q0.2) := by
      have := (List.of_mem_zip hq1).2
      obtain ⟨q0, h1, h2⟩ := List.mem_map.1 this
      exact ⟨q0, h1, h2.symm⟩
    have hq2' : Vis es (kmap l) (seen.push e.born) (kmap (dn ++ [(k, v)])) := by
      have : kmap (dn ++ [(k, v)]) = kmap dn ++ [(vS k, v)] := by simp [kmap]
      rw [this]; exact hq2
    obtain ⟨rl, hrl⟩ := hq2'.perm t4.1
    rw [List.append_assoc] at hrl
    obtain ⟨j, hj⟩ := List.mem_iff_getElem?.1 hq1
    have hjj := List.getElem?_zip_eq_some.1 hj
    have hek := t4.2.2 j e _ (by simpa using hjj.1) hjj.2
    have hh : w1.heap = w.heap := by rcases hw1 with rfl | rfl <;> rfl
    have hrlt : r < w1.heap.size := by rw [hh]; exact (Array.getElem?_eq_some_iff.1 t1).1
    have hsz : (w1.putObj r (.mapIter (some bm) c (seen.push e.born) c)).heap.size = w.heap.size := by rw [World.putObj_size, hh]
    obtain ⟨s1, kp, c1, c2, c3, c4, hown⟩ := HX.put1 (w' := w1.putObj r (.mapIter (some bm) c (seen.push e.born) c)) hs hX r (by rcases hw1 with rfl | rfl <;> rfl) (by rcases hw1 with rfl | rfl <;> rfl) (by rcases hw1 with rfl | rfl <;> rfl) (by rw [hsz]; exact Nat.le_refl _) (fun b hb hbr => (World.putObj_heap_other hbr).trans (by rw [hh])) (fun _ => t6) (.inl t9) (fun _ o _ => see_not t1 (fun _ _ _ e => by cases e) (fun _ _ e => by cases e)) (fun _ e => by rw [t1] at e; cases e) (fun _ _ _ _ e => by rw [t1] at e; cases e)
    refine ⟨_, _, .inl (by
      show (execOp a.eval ⟨d, .next x false, ty, pos, af, gd⟩).run P w = _
      simp only [execOp, hv, Sem.run_bind, hrun, Result.andThen_ok, Sem.run_pure]
      rfl), g, _, { i with it := some (r, l, dn ++ [(k, v)]) }, s1.put (x := .tup [dB true, dS k, v]) ⟨[.bool true, e.key, e.val], rfl, rfl, fun j u y hu hy => ?_⟩ _ (dstOk_spec (st := st) hd), ⟨c1, c2, fun r' l' dn' e' => ?_, c4 fun bo l' hi' => ?_⟩, kp, h1 k v rl hrl⟩
    · match j with
      | 0 => cases hu; cases hy; exact DRep.val _ rfl
      | 1 => cases hu; cases hy; rw [hek.1]; exact DRep.val _ rfl
      | 2 => cases hu; cases hy; exact hek.2.mono kp
      | j + 3 => simp at hu
    · cases e'
      obtain ⟨k1, k2⟩ := kp bm 0 t7 (by rw [t2]; rfl)
      refine ⟨bm, es, c, seen.push e.born, c, World.putObj_heap_same hrlt, k2.trans t2, Nat.le_refl _, t4.mono kp, hq2', fun ho => t6 (hown r ho), k1, t9, fun q hq => ?_⟩
      rw [List.getLast?_concat] at hq
      cases hq
      exact ⟨seen, e, rfl, rfl, (mem_leftOf.1 he).1, hek.1, hek.2.mono kp⟩
    · obtain ⟨es', c', h1', -⟩ := hX.mp bo l' hi'
      intro e'
      rw [e', t1] at h1'
      cases h1'
theorem pl_en {x : Operand} {r : Nat} {l dn : List (List UInt8 × DV)} {k : List UInt8} {v : DV} (hi : i.it = some (r, l, dn)) (hl : dn.getLast? = some (k, v)) (hx : st.ev x = .d (.val (.pointer (some ⟨r, 0, none⟩)))) (h : K (st.put d (.tup [dS k, v])) i)
    (hd : dstOk ⟨d, .entry x, ty, pos, af, gd⟩ st = true := by kernel_rfl) (hw : st.want ops ⟨d, .entry x, ty, pos, af, gd⟩ = some true := by rfl) :
    PL P ops rl d0 (HX E p) K [⟨d, .entry x, ty, pos, af, gd⟩] st i := pl_op hw fun g a w hs hX => by
  have hv := (hs.val hx).1
  obtain ⟨bm, es, c, seen, cc, t1, t2, t3, t4, t5, t6, t7, t9, t8⟩ := hX.it r l dn hi
  obtain ⟨s0, e, rfl, rfl, e3, e4, e5⟩ := t8 _ hl
  have hrun := run_entry_at (P := P) w r bm cc s0 es cc e t1 (see_map t2) e3 t4.2.1.2.1
  refine ⟨_, w, .inl (by
    show (execOp a.eval ⟨d, .entry x, ty, pos, af, gd⟩).run P w = _
    simp only [execOp, hv, Sem.run_bind, hrun, Result.andThen_ok, Sem.run_pure]), g, _, i, hs.put (x := .tup [dS k, v]) ⟨[e.key, e.val], rfl, rfl, fun j u y hu hy => ?_⟩ _ (dstOk_spec (st := st) hd), hX, Kp.same fun _ _ h => h, h⟩
  match j with
  | 0 => cases hu; cases hy; rw [e4]; exact DRep.val _ rfl
  | 1 => cases hu; cases hy; exact e5
  | j + 2 => simp at hu
theorem pl_hl {T bo : Nat} {x y : Operand} {l : List (List UInt8 × DV)} {k : List UInt8} {z v : DV} [hM : MapOf P T z] (hi : i.mp = some (bo, l)) (hx : st.ev x = .d (.val (.map (some bo)))) (hy : st.ev y = .d (dS k)) (hv : mget z k l = v) (h : K (st.put d (.d v)) i)
    (hd : dstOk ⟨d, .lookup T x y false, ty, pos, af, gd⟩ st = true := by kernel_rfl) (hw : st.want ops ⟨d, .lookup T x y false, ty, pos, af, gd⟩ = some true := by rfl) :
    PL P ops rl d0 (HX E p) K [⟨d, .lookup T x y false, ty, pos, af, gd⟩] st i := pl_op hw fun g a w hs hX => by
  obtain ⟨es, c, h1, h2, h3, h4, h5, h6, h7⟩ := hX.mp bo l hi
  obtain ⟨u, hu1, hu2⟩ := mlk_run (hM := hM) (d := d) (ty := ty) (pos := pos) (af := af) (gd := gd) (fun v q => ∀ F w', DRep F w' v q) (fun v h => h) (hs.val hx).1 (hs.val hy).1 h1 h3 h4
  exact ⟨u, w, .inl hu1, g, _, i, hs.put (x := .d v) (by rw [hv] at hu2; exact hu2 _ _) _ (dstOk_spec (st := st) hd), hX, Kp.same fun _ _ h => h, h⟩
theorem pl_hu {T bo : Nat} {x y u : Operand} {l l' : List (List UInt8 × DV)} {k : List UInt8} {z : DV} {v : Value} [hM : MapOf P T z] (hi : i.mp = some (bo, l)) (hx : st.ev x = .d (.val (.map (some bo)))) (hy : st.ev y = .d (dS k)) (hu : st.ev u = .d (.val v)) (hl : mset k (.val v) l = l') (h : K (st.put d .any) { i with mp := some (bo, l') })
    (hd : dstOk ⟨d, .mapUpdate T x y u, ty, pos, af, gd⟩ st = true := by kernel_rfl) (hw : st.want ops ⟨d, .mapUpdate T x y u, ty, pos, af, gd⟩ = some true := by rfl) :
    PL P ops rl d0 (HX E p) K [⟨d, .mapUpdate T x y u, ty, pos, af, gd⟩] st i := pl_op hw fun g a w hs hX => by
  subst hl
  obtain ⟨es, c, h1, h2, h3, h4, h5, h6, h7⟩ := hX.mp bo l hi
  obtain ⟨hu1, hu2⟩ := hs.val hu
  obtain ⟨es', c', r1, r2, r3, r4⟩ := mup_run (hM := hM) (u := u) (v := .val v) (d := d) (ty := ty) (pos := pos) (af := af) (gd := gd) (fun v q => ∀ F w', DRep F w' v q) (by rw [hu1]; exact fun F w' => DRep.val v hu2) (hs.val hx).1 (hs.val hy).1 h1 h2 h3 h4
  have hset := MapKept.heap_set (o' := .map es' c') h1
  obtain ⟨s1, kp, c1, c2, c3, c4, hown⟩ := HX.put1 (w' := { w with heap := w.heap.setIfInBounds bo (.map es' c') }) hs hX bo rfl rfl rfl (by simp) (fun b hb hbr => hset.2 b hbr) (fun _ => h5) h7 (fun _ o hf => absurd hf.1 (h6 o)) (fun _ e => by rw [h1] at e; cases e) (fun _ _ _ _ e => by rw [h1] at e; cases e)
  refine ⟨undef, _, .inr ⟨r1, rfl⟩, g, _, { i with mp := some (bo, mset k (.val v) l) }, s1.put (x := .any) trivial _ (dstOk_spec (st := st) hd), ⟨c1, c2, c3 fun r' l' dn hi' e => ?_, fun bo' l' e => ?_⟩, kp, h⟩
  · obtain ⟨bm, es', c', seen, cc, t1, -⟩ := hX.it r' l' dn hi'
    rw [e, h1] at t1
    cases t1
  · cases e
    exact ⟨es', c', hset.1, r3, r2, r4, fun ho => h5 (hown bo ho), h6, h7⟩
theorem pl_ld {T : Nat} {y : Operand} {pv : Value} {cs : List DV} {c : DV} [hT : AggOf P T false 1] (hm : (pv, DV.ref cs) ∈ i.fs) (hy : st.ev y = .d (.val pv)) (hc : cs[0]? = some c) (h : K (st.put d (.d c)) i)
    (hd : dstOk ⟨d, .load T y, ty, pos, af, gd⟩ st = true := by kernel_rfl) (hw : st.want ops ⟨d, .load T y, ty, pos, af, gd⟩ = some true := by rfl) :
    PL P ops rl d0 (HX E p) K [⟨d, .load T y, ty, pos, af, gd⟩] st i := pl_op hw fun g a w hs hX => by
  have hf := hX.co.fs _ hm
  have hv := (hs.val hy).1
  cases hf with
  | ref f hcs hrep =>
    rename_i b off
    have hlt : 0 < cs.length := (List.getElem?_eq_some_iff.1 hc).1
    obtain ⟨h1, h2, h3⟩ := hcs 0 hlt
    exact ⟨f 0, w, .inl (ex_load hv (run_loadVar1 h1)), g, _, i, hs.put (x := .d c) (hrep 0 c hc) _ (dstOk_spec (st := st) hd), hX, Kp.same fun _ _ h => h, h⟩
end
end Go.Proofs.YtkfoogabijnamaaGreatDoor.Px
set_option maxHeartbeats 1000000
namespace Go.Proofs.YtkfoogabijnamaaGreatDoor.Px
open Go.RowKit

theorem leaves_of_self {P : Program} {fn : Func} {R : Ending → World → Prop} {E : Nat} {p : HP} {i : HI} {g : Gh} {st : PS} {tmps : Array Value}
    (hR : ∀ w2, Self none p.w.heap.size g st { tmps := tmps, defers := [] } w2 → HX E p i g w2 → ∃ v, (results fn tmps).run P w2 = .ok v w2 ∧ R (.returned v) w2) :
    ∀ (ds : List Deferred) (w : World), Self none p.w.heap.size g st { tmps := tmps, defers := ds } w → HX E p i g w → LeavesInM Fence.wide 0 P fn tmps R ds .returning w := by
  intro ds
  induction ds with
  | nil => exact fun w h hx => hR w h hx
  | cons d ds ih =>
    intro w h hx
    obtain ⟨hnd, hd⟩ := h.2.defers
    obtain ⟨D, h1, h2, h3, h4⟩ := hd d (List.mem_cons_self ..)
    have hnd2 := List.nodup_cons.1 hnd
    refine ⟨fun e => (by cases e), .inl ⟨D, w.putObj D (.deferred none), by rw [h1], run_takeDeferred h2, ?_⟩⟩
    have h5 : Self none p.w.heap.size g st { tmps := tmps, defers := ds } w := ⟨h.1, h.2.mark (ds := ds) ⟨hnd2.2, fun d' hd' => hd d' (List.mem_cons_of_mem _ hd')⟩⟩
    obtain ⟨s1, kp, c1, c2, c3, c4, hown⟩ := HX.put1 (w' := w.putObj D (.deferred none)) h5 hx D rfl rfl rfl (by simp) (fun b _ hb => World.putObj_heap_other hb) (fun _ => h3) (.inl h4) (fun _ o _ => see_not h2 (fun _ _ _ e => by cases e) (fun _ _ e => by cases e)) (fun _ _ d' hd' e => hnd2.1 (by rw [h1, ← e]; exact hd')) (fun _ _ _ _ e => by rw [h2] at e; cases e)
    refine ih _ s1 ⟨c1, c2, c3 fun r l dn hi e => ?_, c4 fun bo l hi e => ?_⟩
    · obtain ⟨bm, es, c, seen, cc, t1, -⟩ := hx.it r l dn hi
      rw [e, h2] at t1; cases t1
    · obtain ⟨es, c, t1, -⟩ := hx.mp bo l hi
      rw [e, h2] at t1; cases t1
def QRx (P : Program) (rs : List ResultVar) (r : SV) (M : HI → Prop) : Exit → PS → HI → Prop := fun e s j => QRet P rs r e s ∧ M j
def QRg (P : Program) (rs : List ResultVar) (M : SV → HI → Prop) : Exit → PS → HI → Prop := fun e s j => ∃ r, QRet P rs r e s ∧ M r j
theorem calls_of_pxg {P : Program} {f : FuncId} {fn : Func} {c : Code} {n : Nat} {rs : List ResultVar} {args : List DV} {E : Nat} {M : SV → HI → Prop} (hf : P.funcs[f]? = some fn) (hb : fn.body = some c) (hn : fn.ntmps = n) (hrs : fn.results = rs.toArray) (hl : args.length ≤ n) (hlim : n ≤ 10000)
    {F : Nat → Nat → Prop} {w : World} {vals : List Value} (hvl : vals.length = args.length) (hv : ∀ (i : Nat) v x, vals[i]? = some v → args[i]? = some x → DRep F w v x) (hgo : GlobOk F w) {p : HP} (hpw : p.w = w) (hpF : p.F = fun b o => F b o ∨ w.heap.size ≤ b) {F0 : Nat → Nat → Prop} (hF0 : ∀ b o, F b o → F0 b o) (hF1 : ∀ b o, w.heap.size ≤ b → F0 b o) {i0 : HI} (hX : HX E p i0 (gF F0) w)
    (h : PX P none w.heap.size (HX E p) c (QRg P rs M) ⟨n, argS 0 args, [], []⟩ i0) : Calls P f vals.toArray w fun e w' => ∃ v g j r, e = .returned v ∧ SRep (gF p.F) w' v r ∧ HX E p j g w' ∧ M r j := by
  refine calls_of_wpM hf hb ?_
  have hrep : Rep w.heap.size ⟨w, gF F0, none, w.heap.size, Nat.le_refl _⟩ (gF F0) ⟨n, argS 0 args, [], []⟩ { tmps := vals.toArray ++ Array.replicate (fn.ntmps - vals.toArray.size) undef, defers := [] } w := by
    refine { evo := Evo.refl _ _, base := Nat.le_refl _, f0 := fun b o h => hF1 b o h, lim := hlim, size := by simp; omega, defers := Dfr.nil _ _ _, slots := fun i => ?_, boxes := fun i cs hi => (by cases hi), maps := fun i ms hi => (by cases hi), blk := fun i b hi => (by cases hi), dom := fun i b hi => (by cases hi), inj := fun i j b hi => (by cases hi), toks := fun t T hT => (by cases hT), tf0 := fun t T b o hT => (by cases hT), telt := fun t T hT => (by cases hT), tdis := fun t t' T T' b h1 => (by cases h1), tdom := fun t T hT => (by cases hT), tlen := fun t n ht => (by cases ht), glob := hgo.rep (Kp.same fun b o hF => Fx.gF (hF0 b o hF)), gown := hgo.own, ghp := fun q cs hq => (hgo q cs hq).2 }
    unfold PS.get
    simp only [aget_argS, Nat.zero_le, if_true, Nat.sub_zero]
    cases hx : args[i]? with
    | none => trivial
    | some x =>
      have hlt : i < vals.length := by rw [hvl]; exact (List.getElem?_eq_some_iff.1 hx).1
      have h1 := hv i _ x (List.getElem?_eq_getElem hlt) hx
      have h2 : (vals.toArray ++ Array.replicate (fn.ntmps - vals.toArray.size) undef).getD i undef = vals[i] := by
        simp [Array.getD, hlt]
        omega
      simp only [Option.map_some]
      show DRep _ w _ x
      rw [h2]
      exact h1.mono (Kp.same fun b o hF => Fx.gF (hF0 b o hF))
  refine wpIn_mono (h _ _ w ⟨Nat.le_refl _, hrep⟩ hX) fun e a' w' ⟨g, st, j, h1, h2, r, h3, h4⟩ => ?_
  have fin : (∃ xs, ResV P st rs xs ∧ r = resSV xs) → LeavesInM Fence.wide 0 P fn a'.tmps (fun e w' => ∃ v g j r, e = .returned v ∧ SRep (gF p.F) w' v r ∧ HX E p j g w' ∧ M r j) a'.defers .returning w' := by
    rintro ⟨xs, hres, rfl⟩
    have h1' : Self none p.w.heap.size g st a' w' := by rw [hpw]; exact h1
    refine leaves_of_self (i := j) (fun w' h1 hx' => ?_) a'.defers w' h1' h2
    obtain ⟨vs, h4', h5, h6⟩ := results_run h1.2 hres
    have hrun : (results fn a'.tmps).run P w' = .ok (if h : vs.toArray.size = 1 then vs.toArray[0] else .tuple vs.toArray) w' := by
      rw [show results fn a'.tmps = (fn.results.mapM (resF a'.tmps) >>= fun vs => pure (if h : vs.size = 1 then vs[0] else .tuple vs)) from rfl, hrs, Array.mapM_eq_mapM_toList]
      simp only [Sem.run_bind, Sem.run_map]
      rw [h4']
      rfl
    have h7 : ∀ (i : Nat) v x, vs[i]? = some v → xs[i]? = some x → DRep (Fx (gF p.F)) w' v x := fun i v x hv hx =>
      (h6 i v x hv hx).mono (Kp.same fun b o hf => Fx.gF (hx'.co.f0 b o hf.1))
    refine ⟨_, hrun, _, g, j, _, rfl, ?_, hx', h4⟩
    match vs, xs, h5, h7 with
    | [], [], _, _ => exact ⟨[], rfl, rfl, fun i y x hy => by simp at hy⟩
    | [v], [x], _, h7 => exact h7 0 v x rfl rfl
    | v :: v' :: vs, x :: x' :: xs, h5, h7 => exact ⟨v :: v' :: vs, by simp, h5, h7⟩
  cases e with
  | normal => exact fin h3
  | ret => exact fin h3
  | _ => exact h3.elim

theorem calls_of_px {P : Program} {f : FuncId} {fn : Func} {c : Code} {n : Nat} {rs : List ResultVar} {args : List DV} {r : SV} {E : Nat} {M : HI → Prop} (hf : P.funcs[f]? = some fn) (hb : fn.body = some c) (hn : fn.ntmps = n) (hrs : fn.results = rs.toArray) (hl : args.length ≤ n) (hlim : n ≤ 10000)
    {F : Nat → Nat → Prop} {w : World} {vals : List Value} (hvl : vals.length = args.length) (hv : ∀ (i : Nat) v x, vals[i]? = some v → args[i]? = some x → DRep F w v x) (hgo : GlobOk F w) {p : HP} (hpw : p.w = w) (hpF : p.F = fun b o => F b o ∨ w.heap.size ≤ b) {F0 : Nat → Nat → Prop} (hF0 : ∀ b o, F b o → F0 b o) (hF1 : ∀ b o, w.heap.size ≤ b → F0 b o) {i0 : HI} (hX : HX E p i0 (gF F0) w)
    (h : PX P none w.heap.size (HX E p) c (QRx P rs r M) ⟨n, argS 0 args, [], []⟩ i0) : Calls P f vals.toArray w fun e w' => ∃ v g j, e = .returned v ∧ SRep (gF p.F) w' v r ∧ HX E p j g w' ∧ M j :=
  (calls_of_pxg (M := fun r' j => r' = r ∧ M j) hf hb hn hrs hl hlim hvl hv hgo hpw hpF hF0 hF1 hX (px_mono h fun e s j ⟨h1, h2⟩ => ⟨r, h1, rfl, h2⟩)).mono fun e w' ⟨v, g, j, r', h1, h2, h3, h4, h5⟩ => ⟨v, g, j, h1, h4 ▸ h2, h3, h5⟩
theorem pcalls_of_px {P : Program} {f : FuncId} {fn : Func} {c : Code} {n : Nat} {rs : List ResultVar} {args : List DV} {r : SV} (E : Nat) (hf : P.funcs[f]? = some fn) (hb : fn.body = some c) (hn : fn.ntmps = n) (hrs : fn.results = rs.toArray) (hl : args.length ≤ n)
    (h : ∀ p d0, p.ex = none → PX P none d0 (HX E p) c (QRx P rs r fun _ => True) ⟨n, argS 0 args, [], []⟩ ⟨[], none, none, []⟩) (hlim : Nat.ble n 10000 = true := by rfl) : PCalls P f args r := by
  intro F w vals hvl hv hgo
  obtain ⟨p, hp⟩ : ∃ p : HP, p = ⟨w, fun b o => F b o ∨ w.heap.size ≤ b, none⟩ := ⟨_, rfl⟩
  have hX : HX E p ⟨[], none, none, []⟩ (gF fun b o => F b o ∨ w.heap.size ≤ b) w := by
    subst hp
    refine ⟨⟨rfl, rfl, rfl, Nat.le_refl _, fun _ _ _ => rfl, fun _ _ h => h, fun _ _ h => .inr h, fun b ho => ?_, fun q cs hq => ⟨?_, by simp⟩, fun q hq => by simp at hq⟩, ⟨fun j v xs hj => by simp at hj, fun j j' p p' b h => by simp at h⟩, fun r l dn e => (by cases e), fun bo l e => (by cases e)⟩
    · rcases ho with h | ⟨i, h⟩ | ⟨t, T, h, -⟩
      · exact h
      · cases h
      · cases h
    · obtain ⟨vs, -, T, z, h2⟩ := (hgo q cs hq).2
      exact (Array.getElem?_eq_some_iff.1 h2).1
  refine (calls_of_px hf hb hn hrs hl (Nat.le_of_ble_eq_true hlim) hvl hv hgo (p := p) (by rw [hp]) (by rw [hp]) (fun b o h => .inl h) (fun b o h => .inr h) hX (h p _ (by rw [hp]))).mono ?_
  rintro e w' ⟨v, g, j, rfl, h1, h2, -⟩
  refine ⟨v, rfl, ?_, ?_⟩
  · rw [hp] at h1; exact h1
  · have h3 := h2.co
    subst hp
    exact ⟨h3.os, h3.tape, h3.output, h3.size, fun b hb => h3.block b hb (by simp)⟩

theorem hx_start {E : Nat} {F : Nat → Nat → Prop} {w : World} (hgo : GlobOk F w) : HX E ⟨w, fun b o => F b o ∨ w.heap.size ≤ b, none⟩ ⟨[], none, none, []⟩ (gF fun b o => F b o ∨ w.heap.size ≤ b) w := by
  refine ⟨⟨rfl, rfl, rfl, Nat.le_refl _, fun _ _ _ => rfl, fun _ _ h => h, fun _ _ h => .inr h, fun b ho => ?_, fun q cs hq => ⟨?_, by simp⟩, fun q hq => by simp at hq⟩, ⟨fun j v xs hj => by simp at hj, fun j j' p p' b h => by simp at h⟩, fun r l dn e => (by cases e), fun bo l e => (by cases e)⟩
  · rcases ho with h | ⟨i, h⟩ | ⟨t, T, h, -⟩
    · exact h
    · cases h
    · cases h
  · obtain ⟨vs, -, T, z, h2⟩ := (hgo q cs hq).2
    exact (Array.getElem?_eq_some_iff.1 h2).1
def HMap (bo : Nat) (l : List (List UInt8 × DV)) (w : World) : Prop := ∃ (es : Array MapEntry) (c : Nat), w.heap[bo]? = some (.map es c) ∧ MapKept.Stamped es c ∧ es.toList.length = l.length ∧ ∀ (i : Nat) e q, es.toList[i]? = some e → l[i]? = some q → e.key = vS q.1 ∧ ∀ F w', DRep F w' e.val q.2
def HC (P : Program) (f : FuncId) (fs : List (Value × DV)) (args : List DV) (bo : Nat) (l l' : List (List UInt8 × DV)) (r : SV) : Prop :=
  ∀ (F : Nat → Nat → Prop) (w : World) (vals : List Value), vals.length = args.length → (∀ (i : Nat) v x, vals[i]? = some v → args[i]? = some x → DRep F w v x) → GlobOk F w → (∀ q ∈ fs, DRep F w q.1 q.2) → (∀ o, ¬ F bo o) → HMap bo l w →
    Calls P f vals.toArray w fun e w' => ∃ v, e = .returned v ∧ SRep (gF fun b o => F b o ∨ w.heap.size ≤ b) w' v r ∧ HMap bo l' w' ∧ w'.os = w.os ∧ w'.tape = w.tape ∧ w'.output = w.output ∧ w.heap.size ≤ w'.heap.size ∧ ∀ b, b < w.heap.size → b ≠ bo → w'.heap[b]? = w.heap[b]?
theorem hc_of_px {P : Program} {f : FuncId} {fn : Func} {c : Code} {n : Nat} {rs : List ResultVar} {fs : List (Value × DV)} {args : List DV} {bo : Nat} {l l' : List (List UInt8 × DV)} {r : SV} (E : Nat) (hf : P.funcs[f]? = some fn) (hb : fn.body = some c) (hn : fn.ntmps = n) (hrs : fn.results = rs.toArray) (hl : args.length ≤ n)
    (h : ∀ p d0, PX P none d0 (HX E p) c (QRx P rs r fun j => j.mp = some (bo, l')) ⟨n, argS 0 args, [], []⟩ ⟨[], none, some (bo, l), fs⟩) (hlim : Nat.ble n 10000 = true := by rfl) : HC P f fs args bo l l' r := by
  intro F w vals hvl hv hgo hfs hbo hm
  obtain ⟨p, hp⟩ : ∃ p : HP, p = ⟨w, fun b o => F b o ∨ w.heap.size ≤ b, some bo⟩ := ⟨_, rfl⟩
  obtain ⟨es, ck, m1, m2, m3, m4⟩ := hm
  have hblt : bo < w.heap.size := (Array.getElem?_eq_some_iff.1 m1).1
  have hX : HX E p ⟨[], none, some (bo, l), fs⟩ (gF fun b o => F b o ∨ w.heap.size ≤ b) w := by
    subst hp
    refine ⟨⟨rfl, rfl, rfl, Nat.le_refl _, fun _ _ _ => rfl, fun _ _ h => h, fun _ _ h => .inr h, fun b ho => ?_, fun q cs hq => ?_, fun q hq => (hfs q hq).mono (Kp.same fun b o h => Fx.gF (.inl h))⟩, ⟨fun j v xs hj => by simp at hj, fun j j' p p' b h => by simp at h⟩, fun r l dn e => (by cases e), fun bo' l1 e => ?_⟩
    · rcases ho with h | ⟨i, h⟩ | ⟨t, T, h, -⟩
      · exact h
      · cases h
      · cases h
    · obtain ⟨vs, -, T, z, h2⟩ := (hgo q cs hq).2
      refine ⟨(Array.getElem?_eq_some_iff.1 h2).1, fun e => ?_⟩
      cases e
      rw [m1] at h2
      cases h2
    · cases e
      refine ⟨es, ck, m1, m2, m3, m4, fun ho => ?_, fun o ho => ?_, .inr rfl⟩
      · rcases ho with h | ⟨i, h⟩ | ⟨t, T, h, -⟩
        · omega
        · cases h
        · cases h
      · rcases ho with h | h
        · exact hbo o h
        · omega
  refine (calls_of_px hf hb hn hrs hl (Nat.le_of_ble_eq_true hlim) hvl hv hgo (p := p) (by rw [hp]) (by rw [hp]) (fun b o h => .inl h) (fun b o h => .inr h) hX (h p _)).mono ?_
  rintro e w' ⟨v, g, j, rfl, h1, h2, h3⟩
  obtain ⟨es', ck', r1, r2, r3, r4, -⟩ := h2.mp bo l' h3
  have h4 := h2.co
  subst hp
  exact ⟨v, rfl, h1, ⟨es', ck', r1, r2, r3, r4⟩, h4.os, h4.tape, h4.output, h4.size, fun b hb hne => h4.block b hb (by simpa using Ne.symm hne)⟩

def PMap (P : Program) (f : FuncId) (args : List DV) (l : List (List UInt8 × DV)) : Prop :=
  ∀ (F : Nat → Nat → Prop) (w : World) (vals : List Value), vals.length = args.length → (∀ (i : Nat) v x, vals[i]? = some v → args[i]? = some x → DRep F w v x) → GlobOk F w →
    Calls P f vals.toArray w fun e w' => ∃ b, e = .returned (.map (some b)) ∧ w.heap.size ≤ b ∧ HMap b l w' ∧ Below w.heap.size w w'
theorem pmap_of_px {P : Program} {f : FuncId} {fn : Func} {c : Code} {n : Nat} {rs : List ResultVar} {args : List DV} {l : List (List UInt8 × DV)} (E : Nat) (hf : P.funcs[f]? = some fn) (hb : fn.body = some c) (hn : fn.ntmps = n) (hrs : fn.results = rs.toArray) (hl : args.length ≤ n)
    (h : ∀ p d0, p.ex = none → PX P none d0 (HX E p) c (QRg P rs fun r j => ∃ bo, r = .d (.val (.map (some bo))) ∧ j.mp = some (bo, l)) ⟨n, argS 0 args, [], []⟩ ⟨[], none, none, []⟩) (hlim : Nat.ble n 10000 = true := by rfl) : PMap P f args l := by
  intro F w vals hvl hv hgo
  refine (calls_of_pxg hf hb hn hrs hl (Nat.le_of_ble_eq_true hlim) hvl hv hgo (p := ⟨w, fun b o => F b o ∨ w.heap.size ≤ b, none⟩) rfl rfl (fun b o h => .inl h) (fun b o h => .inr h) (hx_start hgo) (h _ _ rfl)).mono ?_
  rintro e w' ⟨v, g, j, r, rfl, h1, h2, bo, rfl, h3⟩
  have hv : v = .map (some bo) := DRep.val_eq h1
  obtain ⟨es, ck, r1, r2, r3, r4, -, -, r7⟩ := h2.mp bo l h3
  have h4 := h2.co
  refine ⟨bo, by rw [hv], ?_, ⟨es, ck, r1, r2, r3, r4⟩, h4.os, h4.tape, h4.output, h4.size, fun b hb => h4.block b hb (by simp)⟩
  rcases r7 with h | h
  · exact h
  · cases h
theorem Rep.adoptm {B : Nat} {w0 : Cx} {g : Gh} {st : PS} {a : Act} {w w' : World} (h : Rep B w0 g st a w) (i b c : Nat) (hi : st.bget (500000 + i) = none) (hin : i < st.n) (hb : Below w.heap.size w w') (hfr : w.heap.size ≤ b) (es : Array MapEntry) (hheap : w'.heap[b]? = some (.map es c)) (ms : List (Value × DV)) (hm : ∀ g', MapAt g' w' es c ms) : Rep B w0 (g.addb (500000 + i) b) (st.bput (500000 + i) [.mc ms]) a w' := by
  have hlim := h.lim
  have hgi : g.bl (500000 + i) = none := by
    cases e : g.bl (500000 + i) with
    | none => rfl
    | some b => exact absurd hi (h.dom _ b e)
  have hbs : b < w'.heap.size := (Array.getElem?_eq_some_iff.1 hheap).1
  have ev : Evo g w (g.addb (500000 + i) b) w' := by
    refine ⟨hb.mono (Nat.zero_le _), rfl, fun b' o' hf hs => ?_, fun b' hb' => ?_, fun j b' hj => ?_, fun _ T h => .inl ⟨T, h, .inl rfl⟩, fun t T _ h h' => .inr (.inr ⟨t, T, h, h'⟩), fun j b' _ hj _ => shape_of_block (hb.block b' (h.blk j b' hj).2)⟩
    · have hlt := see_lt hs
      refine ⟨⟨hf.1, fun j hj => ?_, hf.2.2⟩, see_of_block (hb.block b' hlt) o'⟩
      simp only [Gh.addb] at hj
      split at hj
      · cases hj; omega
      · exact hf.2.1 j hj
    · rcases Nat.lt_or_ge b' w.heap.size with h1 | h1
      · exact hb.block b' h1
      · exact absurd (.inl h1) hb'
    · simp only [Gh.addb] at hj
      split at hj
      · rename_i e; cases hj; exact .inr ⟨by unfold smB; omega, .inl hfr⟩
      · exact .inl hj
  have e : Ext g w (g.addb (500000 + i) b) w' := by
    refine ⟨ev.fx, fun j b' hj => ?_, fun _ T h => ⟨T, h, .inl rfl⟩, fun j b' hj => shape_of_block (hb.block b' (h.blk j b' hj).2)⟩
    simp only [Gh.addb]
    split
    · rename_i e; subst e; rw [hgi] at hj; cases hj
    · exact hj
  refine { h with evo := h.evo.trans ev, defers := h.defers.evo ev, base := Nat.le_trans h.base hb.size, lim := h.lim, size := h.size, slots := fun j => (h.slots j).ext e, glob := fun q cs hq => (h.glob q cs hq).ext e, boxes := ?_, maps := ?_, blk := fun j b' hj => ?_, dom := fun j b' hj => ?_, inj := fun j k b' hj hk => ?_, toks := fun t T' hT => ?_, tdom := h.tdom, tlen := h.tlen, f0 := h.f0, tf0 := h.tf0, telt := h.telt, tdis := h.tdis }
  · intro j cs' hj hlt
    rw [bget_bput, if_neg (by omega)] at hj
    obtain ⟨b', ys, T', h1, h2, h3, h4, h9⟩ := h.boxes j cs' hj hlt
    refine ⟨b', ys, T', by rw [Gh.addb_ne (by omega)]; exact h1, (hb.block b' (h.blk j b' h1).2).trans h2, h3, fun q c hq => ?_, h9⟩
    obtain ⟨x, h5, h6⟩ := h4 q c hq
    exact ⟨x, h5, h6.ext e⟩
  · intro j ms' hj hge
    rw [bget_bput] at hj
    by_cases hji : j = 500000 + i
    · rw [if_pos hji] at hj
      subst hji
      obtain rfl : ms = ms' := by simpa using hj
      exact ⟨b, es, c, by simp [Gh.addb], hheap, hm _⟩
    · rw [if_neg hji] at hj
      obtain ⟨b', es', c', h1, h2, h3⟩ := h.maps j ms' hj hge
      exact ⟨b', es', c', by rw [Gh.addb_ne hji]; exact h1, (hb.block b' (h.blk j b' h1).2).trans h2, h3.mono e.fx⟩
  · simp only [Gh.addb] at hj
    split at hj
    · cases hj; exact ⟨fun o => h.f0 _ o (Nat.le_trans h.base hfr), hbs⟩
    · exact ⟨(h.blk j b' hj).1, Nat.lt_of_lt_of_le (h.blk j b' hj).2 hb.size⟩
  · simp only [Gh.addb] at hj
    rw [bget_bput]
    split at hj
    · rename_i e; simp [e]
    · rename_i e; rw [if_neg e]; exact h.dom j b' hj
  · simp only [Gh.addb] at hj hk
    split at hj <;> split at hk
    · omega
    · cases hj; have := (h.blk k _ hk).2; omega
    · cases hk; have := (h.blk j _ hj).2; omega
    · exact h.inj j k b' hj hk
  · obtain ⟨⟨n, ys, h1⟩, h2⟩ := h.toks t T' hT
    refine ⟨⟨n, ys, ownsRow_of_same h1 fun b hb' => hb.block b (h1.lt b hb').2⟩, fun j b' hb' hj => ?_⟩
    simp only [Gh.addb] at hj
    split at hj
    · cases hj; have := (h1.lt _ hb').2; omega
    · exact h2 j b' hb' hj
section
variable {P : Program} {ops : Array Oper} {K : PS → Prop} {rest : List Oper} {st : PS} {ty : TypeId} {pos : String} {af : Array Edge} {gd : Option (Nat × Bool)}
theorem yCmk {f e : Nat} {l : List Operand} {ts : Array TypeId} {ys : List DV} {ms : List (List UInt8 × DV)} [hB : HasBody P f] (hc : PMap P f ys ms) (ha : evDs st l = some ys) (hi : st.bget (500000 + e) = none)
    (h : YR P true ops K rest ((st.bput (500000 + e) [.mc (kmap ms)]).put (some e) (.mb (500000 + e)))) (hin : Nat.blt e st.n = true := by rfl) (hw : st.want ops ⟨some e, .call { callee := .value (.func f), args := l.toArray, argTypes := ts }, ty, pos, af, gd⟩ = some true := by rfl) :
    YR P true ops K (⟨some e, .call { callee := .value (.func f), args := l.toArray, argTypes := ts }, ty, pos, af, gd⟩ :: rest) st := by
  refine .any rfl fun B w0 Q hQ g a w hr => ?_
  have hlt : e < st.n := Nat.le_of_ble_eq_true hin
  obtain ⟨h1, h2⟩ := evDs_get ha
  have hcall := hc (Fx g) w (l.map a.eval) (by simpa using h1) (fun i v x hv hx => by
    rw [List.getElem?_map, Option.map_eq_some_iff] at hv
    obtain ⟨y, h3, rfl⟩ := hv
    exact (hr.eval y).toD (h2 i y x h3 hx)) hr.gok
  unfold wpList
  rw [if_pos (want_spec hr hw)]
  refine .inl ?_
  unfold Oper.wp
  rw [run_call]
  show Calls P f _ w _
  refine hcall.mono ?_
  rintro e' w' ⟨b, rfl, q1, ⟨es, c, m1, m2, m3, m4⟩, q3⟩
  have hrep := hr.adoptm e b c hi hlt q3 q1 es m1 (kmap ms) fun g' => ⟨by simpa [kmap] using m3, m2, fun j en q he hq => by
    rw [kmap, List.getElem?_map, Option.map_eq_some_iff] at hq
    obtain ⟨t, t1, rfl⟩ := hq
    obtain ⟨t2, t3⟩ := m4 j en t (by simpa using he) t1
    exact ⟨t2, t3 _ _⟩⟩
  exact h.sound hQ (hrep.put (x := .mb (500000 + e)) ⟨b, by simp [Gh.addb], rfl⟩ _ fun j hj => by cases hj; exact hlt)
end
section
variable {P : Program} {ops : Array Oper} {rl : Option Nat} {d0 E : Nat} {p : HP} {K : PS → HI → Prop} {st : PS} {i : HI} {d : Option Nat} {ty : TypeId} {pos : String} {af : Array Edge} {gd : Option (Nat × Bool)}
theorem hcall {f : Nat} {o : Oper} {fs : List (Value × DV)} {args : List DV} {bo : Nat} {l l' : List (List UInt8 × DV)} {r : SV} (hc : HC P f fs args bo l l' r) (hi : i.mp = some (bo, l)) (hfs : ∀ q ∈ fs, q ∈ i.fs) (hres : resOk r = true) (hd : dstOk o st = true) (hw : st.want ops o = some true) (h : K (st.put o.dst r) { i with mp := some (bo, l') })
    (hrun : ∀ g a w, Self rl d0 g st a w → HX E p i g w → ∃ vals : List Value, vals.length = args.length ∧ (∀ (i : Nat) v x, vals[i]? = some v → args[i]? = some x → DRep (Fx g) w v x) ∧ (execOp a.eval o).run P w = .ok (.enter f vals.toArray) w) : PL P ops rl d0 (HX E p) K [o] st i := fun g a w hs hX => by
  obtain ⟨vals, v1, v2, hrun⟩ := hrun g a w hs hX
  obtain ⟨es, c, h1, h2, h3, h4, h5, h6, h7⟩ := hX.mp bo l hi
  have hcall := hc (Fx g) w vals v1 v2 hs.2.gok (fun q hq => hX.co.fs q (hfs q hq)) (fun o ho => h6 o ho.1) ⟨es, c, h1, h2, h3, h4⟩
  unfold wpList
  rw [if_pos (want_spec hs.2 hw)]
  refine .inl ?_
  unfold Oper.wp
  rw [hrun]
  show Calls P f _ w _
  refine hcall.mono ?_
  rintro e w' ⟨v, rfl, r1, ⟨es', c', m1, m2, m3, m4⟩, r3, r4, r5, r6, r7⟩
  obtain ⟨s1, kp, c1, c2, c3, c4, hown⟩ := HX.put1 (w' := w') hs hX bo r3 r4 r5 r6 r7 (fun _ => h5) h7 (fun _ o hf => absurd hf.1 (h6 o)) (fun _ e => by rw [h1] at e; cases e) (fun _ _ _ _ e => by rw [h1] at e; cases e)
  refine ⟨rfl, g, _, { i with mp := some (bo, l') }, s1.put (SRep.of_call hs.2 r1 hres) _ (dstOk_spec (st := st) hd), ⟨c1, c2, c3 fun r' l1 dn hi' e => ?_, fun bo' l1 e => ?_⟩, kp, h⟩
  · obtain ⟨bm, es', c', seen, cc, t1, -⟩ := hX.it r' l1 dn hi'
    rw [e, h1] at t1
    cases t1
  · cases e
    exact ⟨es', c', m1, m2, m3, m4, fun ho => h5 (hown bo ho), h6, h7⟩
theorem evDs_vals {l : List Operand} {ys : List DV} (ha : evDs st l = some ys) {g : Gh} {a : Act} {w : World} (hs : Self rl d0 g st a w) : (l.map a.eval).length = ys.length ∧ ∀ (i : Nat) v x, (l.map a.eval)[i]? = some v → ys[i]? = some x → DRep (Fx g) w v x := by
  obtain ⟨h1, h2⟩ := evDs_get ha
  refine ⟨by simpa using h1, fun i v x hv hx => ?_⟩
  rw [List.getElem?_map, Option.map_eq_some_iff] at hv
  obtain ⟨y, h3, rfl⟩ := hv
  exact (hs.2.eval y).toD (h2 i y x h3 hx)
theorem pl_hs {f : Nat} {l : List Operand} {ts : Array TypeId} {fs : List (Value × DV)} {ys : List DV} {bo : Nat} {m m' : List (List UInt8 × DV)} {r : SV} [hB : HasBody P f] (hc : HC P f fs ys bo m m' r) (hi : i.mp = some (bo, m)) (hfs : ∀ q ∈ fs, q ∈ i.fs) (ha : evDs st l = some ys) (h : K (st.put d r) { i with mp := some (bo, m') }) (hres : resOk r = true := by rfl)
    (hd : dstOk ⟨d, .call { callee := .value (.func f), args := l.toArray, argTypes := ts }, ty, pos, af, gd⟩ st = true := by kernel_rfl) (hw : st.want ops ⟨d, .call { callee := .value (.func f), args := l.toArray, argTypes := ts }, ty, pos, af, gd⟩ = some true := by rfl) :
    PL P ops rl d0 (HX E p) K [⟨d, .call { callee := .value (.func f), args := l.toArray, argTypes := ts }, ty, pos, af, gd⟩] st i := hcall hc hi hfs hres hd hw h fun g a w hs hX => by
  obtain ⟨h1, h2⟩ := evDs_vals ha hs
  exact ⟨l.map a.eval, h1, h2, run_call⟩
theorem pl_hv {f : Nat} {x : Operand} {caps : List Value} {l : List Operand} {ts : Array TypeId} {fs : List (Value × DV)} {ys args : List DV} {bo : Nat} {m m' : List (List UInt8 × DV)} {r : SV} [hB : HasBody P f] (hc : HC P f fs args bo m m' r) (hx : st.ev x = .d (.val (.func (.func f) #[] caps.toArray))) (hargs : ys ++ caps.map .val = args) (hcap : ∀ v ∈ caps, v.oneCell' = true) (hi : i.mp = some (bo, m)) (hfs : ∀ q ∈ fs, q ∈ i.fs) (ha : evDs st l = some ys) (h : K (st.put d r) { i with mp := some (bo, m') }) (hres : resOk r = true := by rfl)
    (hd : dstOk ⟨d, .call { callee := .value x, args := l.toArray, argTypes := ts }, ty, pos, af, gd⟩ st = true := by kernel_rfl) (hw : st.want ops ⟨d, .call { callee := .value x, args := l.toArray, argTypes := ts }, ty, pos, af, gd⟩ = some true := by rfl) :
    PL P ops rl d0 (HX E p) K [⟨d, .call { callee := .value x, args := l.toArray, argTypes := ts }, ty, pos, af, gd⟩] st i := hcall hc hi hfs hres hd hw h fun g a w hs hX => by
  subst hargs
  obtain ⟨h1, h2⟩ := evDs_vals ha hs
  have hv := (hs.val hx).1
  refine ⟨l.map a.eval ++ caps, by rw [List.length_append, List.length_append, h1, List.length_map], fun j v y hj hy => ?_, ?_⟩
  · rcases Nat.lt_or_ge j (l.map a.eval).length with hlt | hge
    · rw [List.getElem?_append_left hlt] at hj
      rw [List.getElem?_append_left (by omega)] at hy
      exact h2 j v y hj hy
    · rw [List.getElem?_append_right hge] at hj
      rw [List.getElem?_append_right (by omega), ← h1, List.getElem?_map, hj] at hy
      cases hy
      exact DRep.val v (hcap v (List.mem_of_getElem? hj))
  · simp only [execOp, resolve, hv, Deferred.ofValue, Sem.run_bind, Sem.run_pure, Result.andThen_ok, invoke]
    rw [hB.run]
    simp
end
end Go.Proofs.YtkfoogabijnamaaGreatDoor.Px
