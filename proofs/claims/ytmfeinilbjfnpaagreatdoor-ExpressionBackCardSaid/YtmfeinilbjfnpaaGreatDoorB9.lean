/- Ranges over functions: iterators as data, rounds as code that is handed the boxes. -/
import Derived.Test.YtmfeinilbjfnpaaGreatDoorB3
import Derived.Test.YtmfeinilbjfnpaaGreatDoorB6
import Derived.Lib.IndexLaws
import Derived.RangeFuncNested
import Derived.RangeFuncBound
import Derived.RangeFuncCalls
import Derived.RangeFuncLeaves
import Derived.Shelf.Abstract
import Derived.Shelf.RegionOpen
import Derived.WalkKit
import Derived.OwnWalkIn
import Derived.TacticsInMore
import Derived.LoopNIn
import Derived.LoopIn
import Derived.Test.YtmfeinilbjfnpaaGreatDoorB7
set_option maxHeartbeats 1000000
namespace Go.Proofs.YtmfeinilbjfnpaaGreatDoor.Px
open Go.RowKit

/-- what an iterator does: it hands xs to yield, one by one, until a round says no -/
def ItSpec (P : Program) (gf : FuncId) (lb : Array Value) (xs : List (List Value)) (F : Nat → Nat → Prop) (w : World) : Prop :=
  ∀ (l : Nat) (J : Nat → World → Prop) (Jx : World → Prop),
    (∀ i A A', J i A → Below A.heap.size A A' → J i A') → (∀ A A', Jx A → Below A.heap.size A A' → Jx A') →
    (∀ i x A, xs[i]? = some x → J i A → YieldAt Fence.wide 0 P l x.toArray A fun e A' => (e = .returned (.bool true) ∧ J (i + 1) A' ∧ Kp F A F A' ∧ GlobOk F A') ∨ (e = .returned (.bool false) ∧ Jx A')) →
    GlobOk F w → J 0 w → CallsIn Fence.wide 0 P gf (#[.func (.yield l) #[] #[]] ++ lb) w fun e w' => (∃ v, e = .returned v) ∧ (J xs.length w' ∨ Jx w')
def ItR (P : Program) (xs : List (List Value)) (F : Nat → Nat → Prop) (w : World) (v : Value) : Prop :=
  ∃ gf lb, v = .func (.func gf) #[] lb ∧ (∀ args w, (callFunc gf args).run P w = .ok (.enter gf args) w) ∧ ∀ F' w', Kp F w F' w' → ItSpec P gf lb xs F' w'
/-- an iterator as data -/
def dIt (P : Program) (xs : List (List Value)) : DV := .abs (ItR P xs)
theorem DRep.of_it {P : Program} {xs : List (List Value)} {F : Nat → Nat → Prop} {w : World} {v : Value} (h : ItR P xs F w v) : DRep F w v (dIt P xs) := by
  refine .abs (fun F1 F2 w1 w2 u ⟨gf, lb, h1, h2, h3⟩ k => ⟨gf, lb, h1, h2, fun F' w' k' => h3 F' w' (k.trans k')⟩) ?_ h
  obtain ⟨gf, lb, rfl, -, -⟩ := h
  rfl
theorem DRep.it {P : Program} {xs : List (List Value)} {F : Nat → Nat → Prop} {w : World} {v : Value} (h : DRep F w v (dIt P xs)) : ItR P xs F w v := by
  cases h with
  | abs _ _ h => exact h

section
variable {P : Program} {B : Nat} {w0 : Cx} {Q : Exit → PS → Prop} {st : PS} {c : Code}
/-- a slot that holds an iterator over one box, which is written no more -/
theorem pw_it1 (s i : Nat) {f : FuncId} (xs : List (List Value)) {cs : List SV} {ds : List DV} [hB : HasBody P f] (hspec : ∀ F w p, DRep F w p (.ref ds) → ItSpec P f #[p] xs F w) (hi : st.bget i = some cs) (hds : toDs cs = some ds) (hs : st.get s = .fn f [i]) (h : PW P B w0 c Q ((st.kill i).put (some s) (.d (dIt P xs)))) (hlt : Nat.blt i 500000 = true := by rfl) : PW P B w0 c Q st := fun g a w hr => by
  have hlt5 : i < 500000 := Nat.le_of_ble_eq_true hlt
  clear hlt
  obtain ⟨ev, hr'⟩ := hr.kill i
  have hv := hr.slots s
  rw [hs] at hv
  obtain ⟨bs, h1, h2, h3⟩ := hv
  obtain ⟨b, rfl⟩ : ∃ b, bs = [b] := list_one h2
  have hb := h3 0 b i rfl rfl
  have href : DRep (Fx (g.delb i)) w (.pointer (some ⟨b, 0, none⟩)) (.ref ds) := by
    obtain ⟨b', xs, T, q1, q2, q3, q4, q5⟩ := hr.boxes i cs hi hlt5
    rw [hb] at q1
    cases q1
    obtain ⟨t1, t2⟩ := toDs_get hds
    refine .ref (fun j => (xs[j]?).getD undef) (fun j hj => ?_) fun j x hx => ?_
    · obtain ⟨u, hu⟩ : ∃ u, xs[j]? = some u := ⟨_, Array.getElem?_eq_getElem (by omega)⟩
      refine ⟨?_, ⟨(hr.blk i b hb).1 _, fun k hk => ?_, fun t T n' c' hT hTv => ?_⟩, ?_⟩
      · rw [hu, see_cell, see_cells q2, Nat.zero_add, hu]; rfl
      · obtain ⟨h5, h6⟩ := Gh.delb_bl hk
        exact h6 (hr.inj k i b h5 hb)
      · exact absurd hb ((hr.toks t T hT).2 i b (by rw [hTv]; rfl))
      · rw [hu]; exact q5 j u (by omega) hu
    · obtain ⟨c0, t3, t4⟩ := t2 j x hx
      obtain ⟨u, t5, t6⟩ := q4 j c0 t3
      rw [t5]
      exact (t6.toD t4).mono ev.fx
  have hd : DRep (Fx (g.delb i)) w (a.tmps.getD s undef) (dIt P xs) := by
    rw [h1]
    exact DRep.of_it ⟨f, #[.pointer (some ⟨b, 0, none⟩)], rfl, fun args w => hB.run w args, fun F' w' k => hspec F' w' _ (href.mono k)⟩
  refine h _ a w { hr' with lim := hr'.lim, size := hr'.size, boxes := hr'.boxes, maps := hr'.maps, dom := hr'.dom, tdom := hr'.tdom, tlen := hr'.tlen, glob := hr'.glob, slots := fun j => ?_ }
  rw [get_put]
  by_cases e : j = s
  · rw [if_pos e, e]; exact hd
  · rw [if_neg e]; exact hr'.slots j
end

theorem Rep.rl {B : Nat} {w1 : World} {g1 : Gh} {r : Option Nat} {g : Gh} {st : PS} {a : Act} {w : World} (h : Rep B ⟨w1, g1, r⟩ g st a w) (r' : Option Nat) : Rep B ⟨w1, g1, r'⟩ g st a w :=
  ⟨h.evo, h.base, h.f0, h.lim, h.size, h.defers, h.slots, h.boxes, h.maps, h.blk, h.dom, h.inj, h.toks, h.tf0, h.telt, h.tdis, h.tdom, h.tlen, h.glob, h.gown, h.ghp⟩
/-- one more mark -/
theorem Rep.mark {B : Nat} {w0 : Cx} {g : Gh} {st : PS} {a : Act} {w : World} (h : Rep B w0 g st a w) {ds : List Deferred} (hd : Dfr w0 g w ds) : Rep B w0 g st { a with defers := ds } w :=
  { h with size := h.size, slots := h.slots, defers := hd }
/-- nothing of one's own lies in a block that is no row and no map -/
theorem Rep.not_tok {B : Nat} {w0 : Cx} {g : Gh} {st : PS} {a : Act} {w : World} (h : Rep B w0 g st a w) {b : Nat} (hb : w.heap.size ≤ b) : (∀ i, g.bl i ≠ some b) ∧ ∀ t T, g.tk t = some T → T.v.ownBlock ≠ some b := by
  refine ⟨fun i hi => ?_, fun t T hT e => ?_⟩
  · have := (h.blk i b hi).2; omega
  · obtain ⟨⟨n, xs, h1⟩, -⟩ := h.toks t T hT
    have := (h1.lt b e).2
    omega

/-- the assignments of a range -/
def asgC : Code → Option (List (Nat × Nat))
  | .skip => some []
  | .region _ ops false => match ops.toList with
    | [⟨some d, .assign (.tmp t), _, _, _, none⟩] => some [(d, t)]
    | _ => none
  | .seq x y => match asgC x, asgC y with
    | some l, some l' => some (l ++ l')
    | _, _ => none
  | _ => none
def asgA (l : List (Nat × Nat)) (T : Array Value) : Array Value := l.foldl (fun T p => T.setIfInBounds p.1 (T.getD p.2 undef)) T
theorem asgA_append (l l' : List (Nat × Nat)) (T : Array Value) : asgA (l ++ l') T = asgA l' (asgA l T) := List.foldl_append ..
theorem asg_wp {P : Program} {rl : Option Nat} {n : Nat} {c : Code} : ∀ {l : List (Nat × Nat)} {T : Array Value} {W : World} {Q : Exit → Act → World → Prop}, asgC c = some l → Q .normal { tmps := asgA l T, defers := [] } W → c.wpIn (rF rl) n P Q { tmps := T, defers := [] } W := by
  induction c with
  | skip => intro l T W Q h hq; cases h; exact wpIn_skip hq
  | region id ops b =>
    intro l T W Q h hq
    cases b with
    | true => cases h
    | false =>
      unfold asgC at h
      split at h
      · rename_i d t ty pos af e
        cases h
        refine wpIn_region_list ?_
        rw [e]
        unfold wpListIn
        rw [if_pos (by unfold Region.wanted; rfl)]
        refine ⟨fun _ _ => trivial, ?_⟩
        rw [Oper.semAt_eq _ _ _ (fun c e => by cases e)]
        exact hq
      · cases h
  | seq x y ihx ihy =>
    intro l T W Q h hq
    unfold asgC at h
    split at h
    · rename_i l1 l2 e1 e2
      cases h
      rw [asgA_append] at hq
      exact wpIn_seq (ihx e1 (ihy e2 hq))
    · cases h
  | _ => intro l T W Q h; cases h

theorem getD_set2 (T : Array Value) (e j : Nat) (v : Value) (he : e < T.size) : (T.setIfInBounds e v).getD j undef = if j = e then v else T.getD j undef := getD_set _ _ _ _ _ he
/-- what the slots of a round hold -/
def zipA (ps : List Nat) (x : List Value) (T : Array Value) : Array Value := (ps.toArray.zip x.toArray).foldl (fun t (p, v) => t.setIfInBounds p v) T
theorem zipA_eq (ps : List Nat) (x : List Value) (T : Array Value) : zipA ps x T = (ps.zip x).foldl (fun t p => t.setIfInBounds p.1 p.2) T := by
  unfold zipA
  rw [List.zip_toArray, List.foldl_toArray]
theorem zipA_spec (ps : List Nat) : ∀ (x : List Value) (T : Array Value), (∀ p ∈ ps, p < T.size) → ps.Nodup → (zipA ps x T).size = T.size ∧ (∀ j, j ∉ ps → (zipA ps x T).getD j undef = T.getD j undef) ∧ ∀ (k : Nat) p v, ps[k]? = some p → x[k]? = some v → (zipA ps x T).getD p undef = v := by
  simp only [zipA_eq]
  induction ps with
  | nil => intro x T _ _; exact ⟨rfl, fun _ _ => rfl, fun k p v h => by simp at h⟩
  | cons q ps ih =>
    intro x T hb hn
    cases x with
    | nil => exact ⟨rfl, fun _ _ => rfl, fun k p v _ h => by simp at h⟩
    | cons u x =>
      obtain ⟨hn1, hn2⟩ := List.nodup_cons.1 hn
      have hq : q < T.size := hb q (List.mem_cons_self ..)
      obtain ⟨h1, h2, h3⟩ := ih x (T.setIfInBounds q u) (fun p hp => by simpa using hb p (List.mem_cons_of_mem _ hp)) hn2
      rw [List.zip_cons_cons, List.foldl_cons]
      refine ⟨by rw [h1]; simp, fun j hj => ?_, fun k p v hp hv => ?_⟩
      · rw [h2 j (fun h => hj (List.mem_cons_of_mem _ h)), getD_set2 _ _ _ _ hq, if_neg (fun e : j = q => hj (by rw [e]; exact List.mem_cons_self ..))]
      · cases k with
        | zero =>
          simp only [List.getElem?_cons_zero, Option.some.injEq] at hp hv
          subst hp hv
          rw [h2 _ hn1, getD_set2 _ _ _ _ hq, if_pos rfl]
        | succ k => exact h3 k p v (by simpa using hp) (by simpa using hv)
theorem asgA_spec : ∀ (l : List (Nat × Nat)) (T : Array Value), (∀ p ∈ l, p.1 < T.size) → (l.map (·.1)).Nodup → (∀ p ∈ l, ∀ q ∈ l, p.2 ≠ q.1) → (asgA l T).size = T.size ∧ (∀ j, j ∉ l.map (·.1) → (asgA l T).getD j undef = T.getD j undef) ∧ ∀ d t, (d, t) ∈ l → (asgA l T).getD d undef = T.getD t undef := by
  intro l
  induction l with
  | nil => intro T _ _ _; exact ⟨rfl, fun _ _ => rfl, fun d t h => by cases h⟩
  | cons p l ih =>
    intro T hb hn hd
    rw [List.map_cons, List.nodup_cons] at hn
    obtain ⟨d0, t0⟩ := p
    have h0 : d0 < T.size := hb _ (List.mem_cons_self ..)
    obtain ⟨h1, h2, h3⟩ := ih (T.setIfInBounds d0 (T.getD t0 undef)) (fun p hp => by simpa using hb p (List.mem_cons_of_mem _ hp)) hn.2 (fun p hp q hq => hd p (List.mem_cons_of_mem _ hp) q (List.mem_cons_of_mem _ hq))
    show (asgA l (T.setIfInBounds d0 (T.getD t0 undef))).size = _ ∧ _
    refine ⟨by rw [h1]; simp, fun j hj => ?_, fun d t h => ?_⟩
    · rw [List.map_cons, List.mem_cons, not_or] at hj
      show (asgA l (T.setIfInBounds d0 (T.getD t0 undef))).getD j undef = _
      rw [h2 j hj.2, getD_set2 _ _ _ _ h0, if_neg hj.1]
    · show (asgA l (T.setIfInBounds d0 (T.getD t0 undef))).getD d undef = _
      rcases List.mem_cons.1 h with e | h
      · have e1 : d = d0 := congrArg Prod.fst e
        have e2 : t = t0 := congrArg Prod.snd e
        rw [e1, e2, h2 d0 hn.1, getD_set2 _ _ _ _ h0, if_pos rfl]
      · rw [h3 d t h, getD_set2 _ _ _ _ h0, if_neg]
        exact hd _ (List.mem_cons_of_mem _ h) _ (List.mem_cons_self ..)

/-- what a round is handed, slot by slot: what the state says of slots that the range leaves alone, and the elements -/
inductive ArgR (st : PS) (no : List Nat) (nw : List (Nat × Value)) : Nat → List SV → Prop
  | nil {j : Nat} : ArgR st no nw j []
  | any {j : Nat} {l : List SV} (h : ArgR st no nw (j + 1) l) : ArgR st no nw j (.any :: l)
  | keep {j : Nat} {x : SV} {l : List SV} (hn : no.contains j = false) (hx : SVle (st.get j) x) (h : ArgR st no nw (j + 1) l) : ArgR st no nw j (x :: l)
  | new {j : Nat} {v : Value} {l : List SV} (hv : aget nw j = some v) (ho : v.oneCell' = true) (h : ArgR st no nw (j + 1) l) : ArgR st no nw j (.d (.val v) :: l)
theorem ArgR.get {st : PS} {no : List Nat} {nw : List (Nat × Value)} {j : Nat} {l : List SV} (h : ArgR st no nw j l) : ∀ (k : Nat) x, l[k]? = some x → x = .any ∨ (j + k ∉ no ∧ SVle (st.get (j + k)) x) ∨ ∃ v, aget nw (j + k) = some v ∧ v.oneCell' = true ∧ x = .d (.val v) := by
  induction h with
  | nil => intro k x h; simp at h
  | any _ ih =>
    intro k x h
    cases k with
    | zero => simp at h; exact .inl h.symm
    | succ k => have := ih k x (by simpa using h); rwa [Nat.add_assoc, Nat.add_comm 1] at this
  | keep hn hx _ ih =>
    intro k x h
    cases k with
    | zero =>
      simp at h
      subst h
      refine .inr (.inl ⟨fun hm => ?_, hx⟩)
      rw [Nat.add_zero] at hm
      rw [List.contains_iff_mem.2 hm] at hn
      cases hn
    | succ k => have := ih k x (by simpa using h); rwa [Nat.add_assoc, Nat.add_comm 1] at this
  | new hv ho _ ih =>
    intro k x h
    cases k with
    | zero => simp at h; subst h; exact .inr (.inr ⟨_, hv, ho, rfl⟩)
    | succ k => have := ih k x (by simpa using h); rwa [Nat.add_assoc, Nat.add_comm 1] at this

/-- how a round ends: on to the next one; or the loop is left -/
def QRd (N : Prop) (Q : Exit → PS → Prop) (n : Nat) (S : List (Nat × SV)) (bs : List (Nat × List SV)) (ts : List (Nat × Nat)) (bn : List (Nat × List SV)) (tn : List (Nat × Nat)) : Exit → PS → Prop
  | .normal, s => N ∧ hasB s (shB bn) ∧ hasT s (shT tn)
  | .ret, s => ∃ b' t', hasB s (shB b') ∧ hasT s (shT t') ∧ b'.map (·.1) = bs.map (·.1) ∧ t'.map (·.1) = ts.map (·.1) ∧ fitX [] bs ts b' = true ∧ Q .ret ⟨n, S, b', t'⟩
  | .exit id, s => ∃ b' t', hasB s (shB b') ∧ hasT s (shT t') ∧ b'.map (·.1) = bs.map (·.1) ∧ t'.map (·.1) = ts.map (·.1) ∧ fitX [] bs ts b' = true ∧ Q (.exit id) ⟨n, S, b', t'⟩
  | _, _ => False
theorem puts_congr {n : Nat} {S : List (Nat × SV)} {bs bn : List (Nat × List SV)} {ts tn : List (Nat × Nat)} (hb : bn.map (·.1) = bs.map (·.1)) (ht : tn.map (·.1) = ts.map (·.1)) : (∀ i, (⟨n, S, bn, tn⟩ : PS).bget i = ((⟨n, S, bs, ts⟩ : PS).puts bn tn).bget i) ∧ ∀ t, (⟨n, S, bn, tn⟩ : PS).tget t = ((⟨n, S, bs, ts⟩ : PS).puts bn tn).tget t := by
  refine ⟨fun i => ?_, fun t => ?_⟩
  · show aget bn i = aget (bn ++ bs) i
    rw [aget_append]
    by_cases h : i ∈ bn.map (·.1)
    · obtain ⟨x, hx⟩ := aget_of_mem h; rw [hx]; rfl
    · rw [aget_none h, aget_none (hb ▸ h)]; rfl
  · show aget tn t = aget (tn ++ ts) t
    rw [aget_append]
    by_cases h : t ∈ tn.map (·.1)
    · obtain ⟨x, hx⟩ := aget_of_mem h; rw [hx]; rfl
    · rw [aget_none h, aget_none (ht ▸ h)]; rfl
theorem idxOf_get {l : List Nat} {a : Nat} (h : a ∈ l) : l[l.idxOf a]? = some a := by
  induction l with
  | nil => cases h
  | cons b l ih =>
    rw [List.idxOf_cons]
    by_cases e : b = a
    · subst e; simp
    · rw [show (b == a) = false by simpa using e, cond_false, List.getElem?_cons_succ]
      exact ih (by rcases List.mem_cons.1 h with h | h; exact absurd h.symm e; exact h)
/-- the values of a round's own variables -/
def nwOf (ps : List Nat) (asg : List (Nat × Nat)) (x : List Value) : List (Nat × Value) := asg.map fun p => (p.1, (x[ps.idxOf p.2]?).getD undef)
theorem own_size {g : Gh} {w w' : World} (h : w'.heap.size = w.heap.size) {b : Nat} : Own g w' b ↔ Own g w b := by unfold Own; rw [h]
theorem aget_argX_pad (l : List SV) (k j : Nat) : (match aget (argX 0 ((l ++ List.replicate k SV.any).map SV.sh)) j with | some x => x | none => .any) = (match aget (argX 0 (l.map SV.sh)) j with | some x => x | none => .any) := by
  rw [aget_argX, aget_argX]
  simp only [Nat.zero_le, if_true, Nat.sub_zero]
  rw [List.map_append, List.map_replicate]
  by_cases h : j < (l.map SV.sh).length
  · rw [List.getElem?_append_left h]
  · rw [List.getElem?_append_right (by omega), List.getElem?_eq_none (l := l.map SV.sh) (by omega)]
    by_cases h2 : j - (l.map SV.sh).length < k
    · rw [List.getElem?_replicate, if_pos h2]; rfl
    · rw [List.getElem?_replicate, if_neg h2]

set_option maxHeartbeats 4000000 in
/-- a range over an iterator -/
theorem pw_rf {P : Program} {B : Nat} {w0 : Cx} {Q : Exit → PS → Prop} {gv : Operand} {ps : List Nat} {assign body : Code} {n : Nat} {S : List (Nat × SV)} (xs : List (List Value)) (asg : List (Nat × Nat)) (I : Nat → Prop) (bI : Nat → List (Nat × List SV)) (tI : Nat → List (Nat × Nat))
    (hI : I 0) (hrl : w0.rl = none) (hg : PS.ev ⟨n, S, bI 0, tI 0⟩ gv = .d (dIt P xs)) (hlen : ∀ x ∈ xs, x.length = ps.length) (hasg : asgC assign = some asg)
    (hbd : (ps.all (fun p => Nat.blt p n) && asg.all (fun p => Nat.blt p.1 n)) = true) (hnd : ps.Nodup ∧ (asg.map (·.1)).Nodup ∧ (∀ p ∈ asg, ∀ q ∈ asg, p.2 ≠ q.1) ∧ (∀ p ∈ asg, p.2 ∈ ps) ∧ (∀ p ∈ asg, p.1 ∉ ps))
    (hround : ∀ i x, xs[i]? = some x → I i → ∃ args : List SV, args.length ≤ n ∧ ArgR ⟨n, S, bI i, tI i⟩ (ps ++ asg.map (·.1)) (nwOf ps asg x) 0 args ∧ (bI (i + 1)).map (·.1) = (bI i).map (·.1) ∧ (tI (i + 1)).map (·.1) = (tI i).map (·.1) ∧ fitX args (bI i) (tI i) (bI (i + 1)) = true ∧
      ∀ B w0, PW P B w0 body (QRd (I (i + 1)) Q n S (bI i) (tI i) (bI (i + 1)) (tI (i + 1))) ⟨n, argX 0 (args.map SV.sh), shB (bI i), shT (tI i)⟩)
    (hdone : I xs.length → Q .normal ⟨n, S, bI xs.length, tI xs.length⟩) : PW P B w0 (.rangeFunc gv ps.toArray assign body) Q ⟨n, S, bI 0, tI 0⟩ := fun g a w hr => by
  rw [hrl]
  have hi := hr.eval gv
  rw [hg] at hi
  obtain ⟨gf, lb, hv, hrun, hspec⟩ := DRep.it hi
  rw [Bool.and_eq_true, List.all_eq_true, List.all_eq_true] at hbd
  have hbd1 : ∀ p ∈ ps, p < n := fun p hp => Nat.le_of_ble_eq_true (hbd.1 p hp)
  have hbd2 : ∀ p ∈ asg, p.1 < n := fun p hp => Nat.le_of_ble_eq_true (hbd.2 p hp)
  obtain ⟨hn1, hn2, hn3, hn4, hn5⟩ := hnd
  refine wpIn_rangeFunc ?_
  intro fn hfn
  obtain ⟨rec, hrec⟩ : ∃ rec : LoopState → Option Code → Loop, rec = fun st pe => { state := st, pending := pe, fn, tmps := a.tmps, params := ps.toArray, assign, body, defers := w.heap.size } := ⟨_, rfl⟩
  obtain ⟨W1, hW1⟩ : ∃ W1, (w.alloc (.deferred (some []))).alloc (.loop (rec .ready none)) = W1 := ⟨_, rfl⟩
  have hL1 : W1.heap[w.heap.size + 1]? = some (.loop (rec .ready none)) := by
    rw [← hW1]; have := World.alloc_heap_new (w.alloc (.deferred (some []))) (.loop (rec .ready none)); rwa [World.size_alloc] at this
  have hK1 : W1.heap[w.heap.size]? = some (.deferred (some [])) := by
    rw [← hW1]; exact (Below.heap_alloc _ _ _ (by simp)).trans (World.alloc_heap_new w _)
  have hb1 : Below w.heap.size w W1 := by
    rw [← hW1]; exact ((Below.refl _ w).alloc (Nat.le_refl _) _).alloc (by simp) _
  have hsz : W1.heap.size = w.heap.size + 2 := by rw [← hW1]; simp
  have hw0 : w0.w.heap.size ≤ w.heap.size := hr.evo.bel.size
  obtain ⟨nb, nt⟩ := hr.not_tok (Nat.le_refl w.heap.size)
  obtain ⟨nb', nt'⟩ := hr.not_tok (Nat.le_succ w.heap.size)
  have hoD : ¬ Own g W1 w.heap.size := fun ho => by
    rcases ho with q | ⟨i, q⟩ | ⟨t, T, q1, q2⟩
    · omega
    · exact nb i q
    · exact nt t T q1 q2
  have hoL : ¬ Own g W1 (w.heap.size + 1) := fun ho => by
    rcases ho with q | ⟨i, q⟩ | ⟨t, T, q1, q2⟩
    · omega
    · exact nb' i q
    · exact nt' t T q1 q2
  have hr1 := hr.grow hb1
  have hdef : Dfr w0 g W1 ({ target := .collected w.heap.size, args := #[] } :: a.defers) := by
    refine ⟨List.nodup_cons.2 ⟨fun hm => ?_, hr1.defers.1⟩, fun d hd => ?_⟩
    · obtain ⟨D, q1, q2, -, -⟩ := hr.defers.2 _ hm
      have : D = w.heap.size := by injection q1 with q1 _; injection q1 with q1; exact q1.symm
      subst this
      have := (Array.getElem?_eq_some_iff.1 q2).1
      omega
    · rcases List.mem_cons.1 hd with rfl | hd
      · exact ⟨_, rfl, hK1, hoD, hw0⟩
      · exact hr1.defers.2 d hd
  have hr2 := hr1.mark hdef
  obtain ⟨a', ha'⟩ : ∃ a' : Act, a' = { a with defers := { target := .collected w.heap.size, args := #[] } :: a.defers } := ⟨_, rfl⟩
  have hta : a'.tmps = a.tmps := by rw [ha']
  have hF' : Kp (Fx g) w (fun b o => Fx g b o ∧ (see W1 b o).isSome) W1 := fun b o hf hs => by
    have e := see_of_block (hb1.block b (see_lt hs)) o
    exact ⟨⟨hf, by rw [e]; exact hs⟩, e⟩
  have own_l : ∀ {G : Gh} {X Y : World}, ¬ Own G X (w.heap.size + 1) → w.heap.size + 1 < X.heap.size → X.heap.size ≤ Y.heap.size → ¬ Own G Y (w.heap.size + 1) := fun hn hx hy ho => by
    rcases ho with q | q | q
    · omega
    · exact hn (.inr (.inl q))
    · exact hn (.inr (.inr q))
  have lt_l : ∀ {X : World} {L : Loop}, X.heap[w.heap.size + 1]? = some (.loop L) → w.heap.size + 1 < X.heap.size := fun h => (Array.getElem?_eq_some_iff.1 h).1
  -- a block of the loop's turns
  have turn : ∀ {G : Gh} {s : PS} {X : World} {L L' : Loop}, Rep B w0 G s a' X → X.heap[w.heap.size + 1]? = some (.loop L) → ¬ Own G X (w.heap.size + 1) → Rep B w0 G s a' (X.putObj (w.heap.size + 1) (.loop L')) ∧ (X.putObj (w.heap.size + 1) (.loop L')).heap[w.heap.size + 1]? = some (.loop L') ∧ ¬ Own G (X.putObj (w.heap.size + 1) (.loop L')) (w.heap.size + 1) ∧ ∀ b o, see (X.putObj (w.heap.size + 1) (.loop L')) b o = see X b o := fun {G s X L L'} h1 h2 h3 => by
    refine ⟨h1.hide h2 (fun _ _ _ e => by cases e) (fun _ _ e => by cases e) (fun _ _ _ e => by cases e) (fun _ _ e => by cases e) h3 (by omega) ⟨h1.defers.1, fun d hd => ⟨hd, fun e => ?_⟩⟩, World.putObj_heap_same (lt_l h2), fun ho => h3 ((own_size (by simp)).1 ho), fun b o => see_put h2 (fun _ _ _ e => by cases e) (fun _ _ e => by cases e) (fun _ _ _ e => by cases e) (fun _ _ e => by cases e)⟩
    obtain ⟨D, q1, q2, -, -⟩ := h1.defers.2 d hd
    rw [q1] at e
    have : D = w.heap.size + 1 := by injection e with e _; injection e
    rw [this, h2] at q2
    cases q2
  refine ⟨w.heap.size + 1, [{ target := .collected w.heap.size, args := #[] }], W1, { target := .fn (.func gf) lb, args := #[.func (.yield (w.heap.size + 1)) #[] #[]] }, W1, gf, #[.func (.yield (w.heap.size + 1)) #[] #[]] ++ lb, W1, ?_, ?_, fun _ _ => trivial, ?_, fun h => (by cases h), ?_⟩
  · rw [← hW1, hrec]; exact run_enterLoop_outer _ _ _ _ _
  · simp only [resolve, hv]
    simp [go_sem]
  · simp [invoke, go_sem, hrun]
  have hgo1 : GlobOk (fun b o => Fx g b o ∧ (see W1 b o).isSome) W1 := hr1.gok.mono fun b o hf hs => ⟨⟨hf, hs⟩, rfl⟩
  refine callsIn_rF.2 (callsIn_wide.1 ((hspec _ W1 hF' (w.heap.size + 1)
    (fun i A => I i ∧ ∃ g', Rep B w0 g' ⟨n, S, bI i, tI i⟩ a' A ∧ Kp (Fx g) W1 (Fx g') A ∧ A.heap[w.heap.size + 1]? = some (.loop (rec .ready none)) ∧ ¬ Own g' A (w.heap.size + 1))
    (fun A => ∃ g' c e s, ((e = Exit.ret ∧ c = Code.ret) ∨ ∃ id, e = Exit.exit id ∧ c = Code.exit id) ∧ Rep B w0 g' s a' A ∧ Q e s ∧ A.heap[w.heap.size + 1]? = some (.loop (rec .done (some c))) ∧ ¬ Own g' A (w.heap.size + 1))
    ?_ ?_ ?_ ?_ ?_).mono ?_))
  · rintro i A A' ⟨hii, g', h1, h2, h3, h4⟩ hb
    exact ⟨hii, g', h1.grow hb, h2.trans (Ext.grow h1 hb).fx, (hb.block _ (lt_l h3)).trans h3, own_l h4 (lt_l h3) hb.size⟩
  · rintro A A' ⟨g', c, e, s, hm, h1, hq, h3, h4⟩ hb
    exact ⟨g', c, e, s, hm, h1.grow hb, hq, (hb.block _ (lt_l h3)).trans h3, own_l h4 (lt_l h3) hb.size⟩
  · -- one round
    rintro i x A hx ⟨hii, g', h1, h2, h3, h4⟩
    obtain ⟨args, ha1, ha2, ha3, ha4, ha5, hpw⟩ := hround i x hx hii
    have hxl := hlen x (List.mem_of_getElem? hx)
    have hsT : a.tmps.size = n := hr.size
    obtain ⟨z1, z2, z3⟩ := zipA_spec ps x a.tmps (fun p hp => by rw [hsT]; exact hbd1 p hp) hn1
    obtain ⟨y1, y2, y3⟩ := asgA_spec asg (zipA ps x a.tmps) (fun p hp => by rw [z1, hsT]; exact hbd2 p hp) hn2 hn3
    obtain ⟨T, hT⟩ : ∃ T, T = asgA asg (zipA ps x a.tmps) := ⟨_, rfl⟩
    rw [← hT] at y1 y2 y3
    have hTs : T.size = n := by rw [y1, z1, hsT]
    refine ⟨fn, zipA ps x a.tmps, assign, body, ?_, roundIn_of_wpIn hfn ?_⟩
    · have := run_yield (P := P) (args := x.toArray) h3 (by rw [hrec]; simpa using hxl)
      rw [hrec] at this
      exact this
    refine asg_wp (rl := some (w.heap.size + 1)) hasg ?_
    rw [← hT]
    obtain ⟨hr3, hl3, ho3, hs3⟩ := turn (L' := { rec .ready none with state := .busy }) h1 h3 h4
    refine ⟨_, run_beginRound h3 (by rw [hrec]), ?_⟩
    obtain ⟨A3, hA3⟩ : ∃ A3, A3 = A.putObj (w.heap.size + 1) (.loop { rec .ready none with state := .busy }) := ⟨_, rfl⟩
    rw [← hA3] at hr3 hl3 ho3 hs3 ⊢
    unfold fitX at ha5
    simp only [Bool.and_eq_true, List.all_eq_true] at ha5
    obtain ⟨⟨⟨f1, f2⟩, f3⟩, f4⟩ := ha5
    have hFit : Fit ⟨n, S, bI i, tI i⟩ (bI i) (tI i) := ⟨fun i cs hi => hi, fun t n ht => ht, fun p hp => f1 p hp, fun p hp => f2 p hp⟩
    have hpass := hr3.pass hFit (vals := T.toList) (args := args ++ List.replicate (n - args.length) .any) (n := n) (m := n) rfl (by simp; omega) hr3.lim (by simp; omega) (fun j v sx hv hsx => by
      have hjl : j < T.size := by simpa using (List.getElem?_eq_some_iff.1 hv).1
      have hvj : v = T.getD j undef := by
        rw [Array.getElem?_toList] at hv
        simp [Array.getD, hjl]
        simpa [hjl] using hv.symm
      by_cases hj : j < args.length
      · rw [List.getElem?_append_left hj] at hsx
        rcases ha2.get j sx hsx with e | ⟨e1, e2⟩ | ⟨u, e1, e2, e3⟩
        · rw [e]; trivial
        · rw [Nat.zero_add] at e1 e2
          rw [List.mem_append, not_or] at e1
          rw [hvj, y2 j e1.2, z2 j e1.1]
          have := hr3.slots j
          rw [hta] at this
          exact this.le e2
        · rw [Nat.zero_add] at e1
          obtain ⟨p, hp, q⟩ := List.mem_map.1 (aget_mem e1)
          have q1 : p.1 = j := congrArg Prod.fst q
          have q2 : (x[ps.idxOf p.2]?).getD undef = u := congrArg Prod.snd q
          rw [e3]
          have q3 := hn4 p hp
          have q4 : ps[ps.idxOf p.2]? = some p.2 := idxOf_get q3
          have q5 : ps.idxOf p.2 < x.length := by rw [hxl]; exact List.idxOf_lt_length_iff.2 q3
          have q6 : x[ps.idxOf p.2]? = some u := by
            rw [List.getElem?_eq_getElem q5] at q2 ⊢
            exact congrArg some q2
          have q7 : v = u := by rw [hvj, ← q1, y3 p.1 p.2 hp]; exact z3 _ _ _ q4 q6
          rw [q7]
          exact DRep.val u e2
      · rw [List.getElem?_append_right (by omega), List.getElem?_replicate] at hsx
        split at hsx
        · cases hsx; trivial
        · cases hsx) (fun x hx => by
      rcases List.mem_append.1 hx with h | h
      · exact f3 x h
      · rw [(List.mem_replicate.1 h).2]; rfl)
    have hact : ({ tmps := T.toList.toArray ++ Array.replicate (n - T.toList.toArray.size) undef, defers := [] } : Act) = { tmps := T, defers := [] } := by simp [hTs]
    rw [hact] at hpass
    have hcg := hpass.congr (st' := ⟨n, argX 0 (args.map SV.sh), shB (bI i), shT (tI i)⟩) rfl (fun j => (aget_argX_pad args _ j).symm) (fun _ => rfl) (fun _ => rfl)
    refine wpIn_mono (hpw _ ⟨A3, _, some (w.heap.size + 1)⟩ _ _ _ (hcg.rl _)) ?_
    rintro e a4 W4 ⟨g4, s4, h5, h6⟩
    have back : ∀ bn tn, bn.map (·.1) = (bI i).map (·.1) → tn.map (·.1) = (tI i).map (·.1) → (∀ p ∈ bn, (∀ c ∈ p.2, c.fit ((bI i).map (·.1)) ((tI i).map (·.1)) = true) ∧ (Nat.blt p.1 490000 || isMc p.2) = true) → hasB s4 (shB bn) → hasT s4 (shT tn) → ∃ G, Evo g' A3 G W4 ∧ Rep B w0 G ⟨n, S, bn, tn⟩ a' W4 := fun bn tn hbk htk hf hB hT => by
      obtain ⟨G, ev, -, hR⟩ := hr3.back hFit (h5.rl none) bn tn hbk htk (fun i cs hi => hasB_get hB (by rw [aget_shB, if_pos (by omega), Nat.add_sub_cancel, hi]; rfl)) (fun t n ht => hasT_get hT (by rw [aget_shT, if_pos (by omega), Nat.add_sub_cancel, ht])) (fun p hp => (hf p hp).1) (fun i cs hi hge => by
        have h7 := (hf _ (aget_mem hi)).2
        rw [Bool.or_eq_true] at h7
        rcases h7 with h7 | h7
        · have := Nat.le_of_ble_eq_true h7; simp only at this; omega
        · simp only at h7
          unfold isMc at h7
          split at h7
          · rename_i ms; exact ⟨ms, rfl⟩
          · cases h7)
      obtain ⟨c1, c2⟩ := puts_congr (n := n) (S := S) hbk htk
      exact ⟨G, ev, hR.congr rfl (fun _ => rfl) c1 c2⟩
    have fin : ∀ {G : Gh} {s : PS}, Evo g' A3 G W4 → Rep B w0 G s a' W4 → ∀ (jump : Option Code), ∃ W5, (Instr.endRound (w.heap.size + 1) jump).run P W4 = .ok (.bool jump.isNone) W5 ∧ Rep B w0 G s a' W5 ∧ W5.heap[w.heap.size + 1]? = some (.loop (rec (if jump.isNone then .ready else .done) jump)) ∧ ¬ Own G W5 (w.heap.size + 1) ∧ ∀ b o, see W5 b o = see W4 b o := fun ev hR jump => by
      have hl4 := (ev.heap _ ho3).trans hl3
      obtain ⟨k1, k2, k3, k4⟩ := turn (L' := rec (if jump.isNone then .ready else .done) jump) hR hl4 (fun ho => ho3 (ev.own ho))
      refine ⟨_, ?_, k1, k2, k3, k4⟩
      have := run_endRound (P := P) jump hl4
      rw [hrec] at this ⊢
      exact this
    have kpa : ∀ {G : Gh} {W5 : World}, Evo g' A3 G W4 → (∀ b o, see W5 b o = see W4 b o) → Kp (Fx g') A (Fx G) W5 := fun {G W5} ev hs b o hf hso => by
      obtain ⟨k1, k2⟩ := ev.fx b o hf (by rw [hs3]; exact hso)
      exact ⟨k1, (hs b o).trans (k2.trans (hs3 b o))⟩
    cases e with
    | normal =>
      obtain ⟨q0, q1, q2⟩ := h6
      obtain ⟨G, ev, hR⟩ := back _ _ ha3 ha4 (fun p hp => f4 p hp) q1 q2
      obtain ⟨W5, e1, e2, e3, e4, e5⟩ := fin ev hR none
      have kp5 := h2.trans (kpa ev e5)
      refine ⟨_, W5, e1, .inl ⟨rfl, ⟨q0, G, e2, kp5, e3, e4⟩, fun b o hf hsA => ⟨hf, (kp5 b o hf.1 hf.2).2.trans (h2 b o hf.1 hf.2).2.symm⟩, fun q cs hq => ⟨?_, (e2.gok q cs hq).2⟩⟩⟩
      exact ((hgo1 q cs hq).1).mono fun b o hf hs => ⟨hf, (kp5 b o hf.1 hf.2).2⟩
    | ret =>
      obtain ⟨b', t', q1, q2, q3, q4, q5, q6⟩ := h6
      unfold fitX at q5
      simp only [Bool.and_eq_true, List.all_eq_true] at q5
      obtain ⟨G, ev, hR⟩ := back b' t' q3 q4 (fun p hp => q5.2 p hp) q1 q2
      obtain ⟨W5, e1, e2, e3, e4, e5⟩ := fin ev hR (some .ret)
      exact ⟨_, W5, e1, .inr ⟨rfl, G, .ret, .ret, _, .inl ⟨rfl, rfl⟩, e2, q6, e3, e4⟩⟩
    | exit id =>
      obtain ⟨b', t', q1, q2, q3, q4, q5, q6⟩ := h6
      unfold fitX at q5
      simp only [Bool.and_eq_true, List.all_eq_true] at q5
      obtain ⟨G, ev, hR⟩ := back b' t' q3 q4 (fun p hp => q5.2 p hp) q1 q2
      obtain ⟨W5, e1, e2, e3, e4, e5⟩ := fin ev hR (some (.exit id))
      exact ⟨_, W5, e1, .inr ⟨rfl, G, .exit id, .exit id, _, .inr ⟨id, rfl, rfl⟩, e2, q6, e3, e4⟩⟩
    | goto l => exact h6.elim
    | panic ch => exact h6.elim
    | outgrown => exact h6.elim
  · exact hgo1
  · exact ⟨hI, g, by rw [ha']; exact hr2, Kp.same fun _ _ h => h, hL1, hoL⟩
  · -- behind the iterator
    rintro e W2 ⟨⟨v, rfl⟩, (⟨hii, g', h1, h2, h3, h4⟩ | ⟨g', c, e, s, hm, h1, hq, h3, h4⟩)⟩
    · obtain ⟨k1, -, -, -⟩ := turn (L' := { rec .ready none with state := .exhausted }) h1 h3 h4
      have e := run_endLoop (P := P) h3 (by rw [hrec]; simp)
      rw [ha'] at k1
      subst hrec
      exact ⟨none, _, e, ⟨g', _, k1, hdone hii⟩⟩
    · obtain ⟨k1, -, -, -⟩ := turn (L' := { rec .done (some c) with state := .exhausted }) h1 h3 h4
      have e := run_endLoop (P := P) h3 (by rw [hrec]; simp)
      rw [ha'] at k1
      subst hrec
      refine ⟨some c, _, e, ?_⟩
      rcases hm with ⟨rfl, rfl⟩ | ⟨id, rfl, rfl⟩
      · exact wpIn_ret ⟨g', s, k1, hq⟩
      · exact wpIn_exit ⟨g', s, k1, hq⟩
end Go.Proofs.YtmfeinilbjfnpaaGreatDoor.Px
set_option maxHeartbeats 1000000
namespace Go.Proofs.YtmfeinilbjfnpaaGreatDoor.Px
open Go.RowKit
section
variable {P : Program} {sq : Bool} {ops : Array Oper} {K : PS → Prop} {rest : List Oper} {st : PS} {d : Option Nat} {ty : TypeId} {pos : String} {af : Array Edge} {gd : Option (Nat × Bool)}
theorem ls_ext (f : FuncId) (l : List Operand) (ts : Array TypeId) {vs : List Value} {u : Value} (hf : ∀ w, (callFunc f vs.toArray).run P w = .ok (.value u) w) (hx : evVals st l = some vs) (hu : u.oneCell' = true) (hd : dstOk ⟨d, .call { callee := .value (.func f), args := l.toArray, argTypes := ts }, ty, pos, af, gd⟩ st = true) :
    LocS P ⟨d, .call { callee := .value (.func f), args := l.toArray, argTypes := ts }, ty, pos, af, gd⟩ st (.d (.val u)) .no := fun st2 ha =>
  OpS.value (ha.dst hd) fun _ _ _ a w h => by
    have h1 : evVals st2 l = some vs := by rw [evVals_congr fun x hx => ha.ev x (by simp [Op.operands, Call.operands, hx])]; exact hx
    have h2 := evVals_get h1 h
    refine ⟨u, w, ?_, Below.refl _ _, DRep.val _ hu⟩
    have h3 : (execOp a.eval ⟨d, .call { callee := .value (.func f), args := l.toArray, argTypes := ts }, ty, pos, af, gd⟩).run P w = (callFunc f (l.map a.eval).toArray).run P w := by
      simp only [execOp, resolve, Act.eval, Deferred.ofValue, Sem.run_bind, Sem.run_pure, Result.andThen_ok, invoke, List.map_toArray]
      simp
    rw [h3, h2, hf]
theorem yEx {f : Nat} {l : List Operand} {ts : Array TypeId} {vs : List Value} {u : Value} (hf : ∀ w, (callFunc f vs.toArray).run P w = .ok (.value u) w) (hx : evVals st l = some vs) (hu : u.oneCell' = true) (h : YR P sq ops K rest (st.put d (.d (.val u)))) (hd : dstOk ⟨d, .call { callee := .value (.func f), args := l.toArray, argTypes := ts }, ty, pos, af, gd⟩ st = true := by kernel_rfl) (hk : opOk ⟨d, .call { callee := .value (.func f), args := l.toArray, argTypes := ts }, ty, pos, af, gd⟩ st .no = true := by kernel_rfl) (hw : st.want ops ⟨d, .call { callee := .value (.func f), args := l.toArray, argTypes := ts }, ty, pos, af, gd⟩ = some true := by rfl) :
    YR P sq ops K (⟨d, .call { callee := .value (.func f), args := l.toArray, argTypes := ts }, ty, pos, af, gd⟩ :: rest) st := yr_v (ls_ext f l ts hf hx hu hd) hk hw h
end
end Go.Proofs.YtmfeinilbjfnpaaGreatDoor.Px
namespace Go.Proofs.YtmfeinilbjfnpaaGreatDoor
open Go.RowKit Px Go.Lib

/-- cut at the first byte c -/
def cutB (c : UInt8) : Str → Option (Str × Str)
  | [] => none
  | b :: l => if b = c then some ([], l) else (cutB c l).map fun p => (b :: p.1, p.2)
theorem cutB_eq {c : UInt8} {s : Str} {p : Str × Str} (h : cutB c s = some p) : s = p.1 ++ c :: p.2 := by
  induction s generalizing p with
  | nil => cases h
  | cons b l ih =>
    rw [cutB] at h
    split at h
    · rename_i e; cases h; rw [e]; rfl
    · rw [Option.map_eq_some_iff] at h
      obtain ⟨q, h1, rfl⟩ := h
      rw [ih h1]; rfl
theorem cutB_index (c : UInt8) (s : Str) : indexByte s c = match cutB c s with | none => -1 | some p => (p.1.length : Int) := by
  induction s with
  | nil => rfl
  | cons b l ih =>
    rw [cutB, indexByte]
    by_cases h : b = c
    · rw [if_pos (by simpa using h), if_pos h]; rfl
    · rw [if_neg (by simpa using h), if_neg h, ih]
      cases cutB c l with
      | none => rfl
      | some p =>
        show (if ((p.1.length : Int) == -1) = true then (-1 : Int) else (p.1.length : Int) + 1) = ((b :: p.1).length : Int)
        rw [if_neg (by simp)]
        rfl
def ctT (c : UInt8) (s : Str) : Str := match cutB c s with | none => s | some p => p.1
def ctR (c : UInt8) (s : Str) : Str := match cutB c s with | none => [] | some p => p.2
def ctB (c : UInt8) (s : Str) : Bool := (cutB c s).isSome
theorem ct_len (c : UInt8) (s : Str) : (ctT c s).length ≤ s.length ∧ (ctR c s).length ≤ s.length ∧ (ctB c s = true → (ctR c s).length < s.length) := by
  unfold ctT ctR ctB
  cases h : cutB c s with
  | none => simp
  | some p =>
    have := congrArg List.length (cutB_eq h)
    simp at this
    simp
    omega
theorem hIB (s : Str) (c : UInt8) (w : World) : (callFunc 184 #[vS s, .int .u8 c.toNat]).run Tryz.prog w = .ok (.value (.int .i64 (indexByte s c))) w := by
  rw [run_callFunc_indexByte Tryz.func184 (by kernel_rfl) (by kernel_rfl) (by kernel_rfl) (by kernel_rfl), run_indexByteString]
  simp [Result.andThen]
set_option maxRecDepth 20000 in
theorem wIdxB (s : Str) (c : UInt8) : PCalls Tryz.prog 168 [dS s, .val (.int .u8 c.toNat)] (.d (dI (indexByte s c))) := by
  refine pcalls_of_pw Tryz.func168 rfl Tryz.ntmps168 Tryz.results168 (by simp) fun B w0 => ?_
  refine pw_seq ?_; refine pw_region ?_; refine yAd rfl ?_; refine yQ ?_; refine pw_seq ?_; refine pw_region ?_; refine yMd rfl ?_; refine yMd rfl ?_; refine yEx (vs := [vS s, .int .u8 c.toNat]) (fun w => hIB s c w) rfl rfl ?_
  refine yAd rfl ?_; refine yQ ?_; refine pw_ret ?_
  exact q_ret _ (.tmp rfl .nil) rfl
set_option maxRecDepth 20000 in
theorem wIdx1 (s : Str) (c : UInt8) : PCalls Tryz.prog 144 [dS s, dS [c]] (.d (dI (indexByte s c))) := by
  have k1 := wIdxB s c
  have hx : ([c] : Str)[(0 : Int).toNat]? = some c := rfl
  cases h : ([c] == s) with
  | true =>
    have e : s = [c] := by simpa using (beq_iff_eq.1 h).symm
    subst e
    have e0 : indexByte [c] c = 0 := by simp [indexByte]
    rw [e0]
    refine pcalls_of_pw Tryz.func144 rfl Tryz.ntmps144 Tryz.results144 (by simp) fun B w0 => ?_
    refine pw_seq ?_; refine pw_region ?_; refine yAd rfl ?_; refine yQ ?_; refine pw_seq ?_; refine pw_region ?_; refine yMd rfl ?_; refine yNs rfl ?_; refine yAd rfl ?_; refine yQ ?_; refine pw_seq ?_; refine pw_block ?_
    refine pw_seq ?_; refine pw_region ?_; refine yMd rfl ?_; refine yB rfl rfl rfl rfl ?_; refine yMd rfl ?_; refine yMd rfl ?_; refine yMd rfl ?_; refine yBse rfl rfl ?_; refine yVd rfl rfl ?_; refine yAd rfl ?_; refine yQ ?_
    refine q_then ?_; rw [h]; refine pw_ct rfl ?_; refine pw_seq ?_; refine pw_region ?_; refine yAd rfl ?_; refine yQ ?_; refine pw_ret ?_; refine q_blk_ret ?_; refine q_then_ret ?_
    exact q_ret _ (.tmp rfl .nil) rfl
  | false =>
    obtain ⟨r, hr⟩ : ∃ r, r = indexByte s c := ⟨_, rfl⟩
    rw [← hr] at k1 ⊢
    refine pcalls_of_pw Tryz.func144 rfl Tryz.ntmps144 Tryz.results144 (by simp) fun B w0 => ?_
    refine pw_seq ?_; refine pw_region ?_; refine yAd rfl ?_; refine yQ ?_; refine pw_seq ?_; refine pw_region ?_; refine yMd rfl ?_; refine yNs rfl ?_; refine yAd rfl ?_; refine yQ ?_; refine pw_seq ?_; refine pw_block ?_
    refine pw_seq ?_; refine pw_region ?_; refine yMd rfl ?_; refine yB rfl rfl rfl rfl ?_; refine yMd rfl ?_; refine yMd rfl ?_; refine yMd rfl ?_; refine yBse rfl rfl ?_; refine yVd rfl rfl ?_; refine yAd rfl ?_; refine yQ ?_
    refine q_then ?_; rw [h]; refine pw_cf rfl ?_; refine pw_seq ?_; refine pw_region ?_; refine yMd rfl ?_; refine yB rfl rfl rfl rfl ?_; refine yAd rfl ?_; refine yQ ?_; refine pw_ct rfl ?_; refine pw_seq ?_; refine pw_region ?_
    refine yMd rfl ?_; refine yMd rfl ?_; refine yIs hx (by omega) rfl rfl ?_; refine yC (k1) rfl rfl ?_; refine yAd rfl ?_; refine yQ ?_; refine pw_ret ?_; refine q_blk_ret ?_; refine q_then_ret ?_
    exact q_ret _ (.tmp rfl .nil) rfl
set_option maxRecDepth 20000 in
theorem wCutI (s : Str) (c : UInt8) (hl : s.length ≤ 1000000) : PCalls Tryz.prog 119 [dS s, dS [c]] (.tup [dS (ctT c s), dS (ctR c s), dB (ctB c s)]) := by
  have k1 := wIdx1 s c
  rw [cutB_index] at k1
  unfold ctT ctR ctB
  cases h : cutB c s with
  | none =>
    rw [h] at k1
    refine pcalls_of_pw Tryz.func119 rfl Tryz.ntmps119 Tryz.results119 (by simp) fun B w0 => ?_
    refine pw_seq ?_; refine pw_region ?_; refine yAd rfl ?_; refine yAd rfl ?_; refine yAd rfl ?_; refine yQ ?_; refine pw_seq ?_; refine pw_seq ?_; refine pw_region ?_; refine yMd rfl ?_; refine yMd rfl ?_; refine yC (k1) rfl rfl ?_
    refine yAd rfl ?_; refine yQ ?_; refine pw_seq ?_; refine pw_region ?_; refine yMd rfl ?_; refine yB rfl rfl rfl rfl ?_; refine yQ ?_; refine pw_cf rfl ?_; refine pw_skip ?_; refine pw_seq ?_; refine pw_region ?_; refine yMd rfl ?_
    refine yAd rfl ?_; refine yAd rfl ?_; refine yAd rfl ?_; refine yQ ?_; refine pw_ret ?_
    exact q_ret _ (.tmp rfl (.tmp rfl (.tmp rfl .nil))) rfl
  | some p =>
    rw [h] at k1
    obtain ⟨t, r⟩ := p
    have he := cutB_eq h
    simp only at k1 he ⊢
    have hle : t.length ≤ s.length := by rw [he]; simp
    have hw : IntKind.i64.wrap ((t.length : Int) + (([c] : Str).length : Int)) = (t.length : Int) + 1 := wrapI ((t.length : Int) + 1) (by omega)
    have h1 : s.take ((t.length : Int)).toNat = t := by rw [Int.toNat_natCast, he]; simp
    have h2 : s.drop (((t.length : Int) + 1)).toNat = r := by
      rw [show ((t.length : Int) + 1).toNat = t.length + 1 by omega, he]
      simp
    have h3 : (t.length : Int) + 1 ≤ s.length := by rw [he]; simp; omega
    have t1 : decide ((t.length : Int) ≥ 0) = true := decide_eq_true (by omega)
    obtain ⟨n, hn⟩ : ∃ n : Int, n = (t.length : Int) := ⟨_, rfl⟩
    rw [← hn] at k1 hw h1 h2 h3 t1
    have hn0 : 0 ≤ n := by omega
    clear he hn h
    refine pcalls_of_pw Tryz.func119 rfl Tryz.ntmps119 Tryz.results119 (by simp) fun B w0 => ?_
    refine pw_seq ?_; refine pw_region ?_; refine yAd rfl ?_; refine yAd rfl ?_; refine yAd rfl ?_; refine yQ ?_; refine pw_seq ?_; refine pw_seq ?_; refine pw_region ?_; refine yMd rfl ?_; refine yMd rfl ?_; refine yC (k1) rfl rfl ?_
    refine yAd rfl ?_; refine yQ ?_; refine pw_seq ?_; refine pw_region ?_; refine yMd rfl ?_; refine yB rfl rfl rfl rfl ?_; refine yQ ?_; refine q_then ?_; rw [t1]; refine pw_ct rfl ?_; refine pw_seq ?_
    refine pw_draw Tryz.mixed (by kernel_rfl) ?_; refine yMd rfl ?_; refine yMd rfl ?_; refine yS0h hn0 (by omega) h1 rfl rfl ?_; refine yMd rfl ?_; refine yMd rfl ?_; refine yMd rfl ?_; refine yNs rfl ?_; refine yB rfl rfl rfl rfl ?_
    rw [hw]; refine ySl0 (by omega) h3 h2 rfl rfl ?_; refine yAd rfl ?_; refine yAd rfl ?_; refine yAd rfl ?_; refine yQ ?_; refine pw_ret ?_; refine q_then_ret ?_
    exact q_ret _ (.tmp rfl (.tmp rfl (.tmp rfl .nil))) rfl
set_option maxRecDepth 20000 in
theorem wCut1 (s : Str) (c : UInt8) (hl : s.length ≤ 1000000) : PCalls Tryz.prog 95 [dS s, dS [c]] (.tup [dS (ctT c s), dS (ctR c s), dB (ctB c s)]) := by
  have k1 := wCutI s c hl
  refine pcalls_of_pw Tryz.func95 rfl Tryz.ntmps95 Tryz.results95 (by simp) fun B w0 => ?_
  refine pw_seq ?_; refine pw_region ?_; refine yAd rfl ?_; refine yAd rfl ?_; refine yAd rfl ?_; refine yQ ?_; refine pw_seq ?_; refine pw_region ?_; refine yMd rfl ?_; refine yMd rfl ?_; refine yC (k1) rfl rfl ?_
  refine yX rfl rfl ?_; refine yX rfl rfl ?_; refine yX rfl rfl ?_; refine yAd rfl ?_; refine yAd rfl ?_; refine yAd rfl ?_; refine yQ ?_; refine pw_ret ?_
  exact q_ret _ (.tmp rfl (.tmp rfl (.tmp rfl .nil))) rfl
/-- a prefix of one byte is cut off -/
def cpS (c : UInt8) : Str → Str
  | [] => []
  | b :: l => if b = c then l else b :: l
def cpB (c : UInt8) : Str → Bool
  | [] => false
  | b :: _ => b == c
set_option maxRecDepth 20000 in
theorem wHasP1 (s : Str) (c : UInt8) (hl : s.length ≤ 1000000) : PCalls Tryz.prog 142 [dS s, dS [c]] (.d (dB (cpB c s))) := by
  cases s with
  | nil =>
    refine pcalls_of_pw Tryz.func142 rfl Tryz.ntmps142 Tryz.results142 (by simp) fun B w0 => ?_
    refine pw_seq ?_; refine pw_region ?_; refine yAd rfl ?_; refine yQ ?_; refine pw_seq ?_; refine pw_region ?_; refine yMd rfl ?_; refine yNs rfl ?_; refine yMd rfl ?_; refine yNs rfl ?_; refine yB rfl rfl rfl rfl ?_
    refine yMd rfl ?_; refine yO rfl ?_; refine yO rfl ?_; refine yO rfl ?_; refine yO rfl ?_; refine yO rfl ?_; refine yO rfl ?_; refine yVd rfl rfl ?_; refine yAd rfl ?_; refine yQ ?_; refine pw_ret ?_
    exact q_ret _ (.tmp rfl .nil) rfl
  | cons b l =>
    have t1 : decide ((((b :: l : Str).length : Nat) : Int) ≥ (([c] : Str).length : Int)) = true := decide_eq_true (by simp; omega)
    have h1 : (b :: l : Str).take ((([c] : Str).length : Int)).toNat = [b] := rfl
    have e : cpB c (b :: l) = (([b] : Str) == [c]) := by simp [cpB]
    rw [e]
    obtain ⟨s, hs⟩ : ∃ s, s = (b :: l : Str) := ⟨_, rfl⟩
    rw [← hs] at t1 h1 ⊢
    have h2 : ((([c] : Str).length : Nat) : Int) ≤ s.length := of_decide_eq_true t1
    refine pcalls_of_pw Tryz.func142 rfl Tryz.ntmps142 Tryz.results142 (by simp) fun B w0 => ?_
    refine pw_seq ?_; refine pw_region ?_; refine yAd rfl ?_; refine yQ ?_; refine pw_seq ?_; refine pw_region ?_; refine yMd rfl ?_; refine yNs rfl ?_; refine yMd rfl ?_; refine yNs rfl ?_; refine yB rfl rfl rfl rfl ?_
    refine yMd rfl ?_; rw [t1]; refine yMd rfl ?_; refine yMd rfl ?_; refine yNs rfl ?_; refine yS0h (by omega) h2 h1 rfl rfl ?_; refine yMd rfl ?_; refine yBse rfl rfl ?_; refine yPd rfl rfl ?_; refine yAd rfl ?_; refine yQ ?_
    refine pw_ret ?_
    exact q_ret _ (.tmp rfl .nil) rfl
set_option maxRecDepth 20000 in
theorem wCutPI (s : Str) (c : UInt8) (hl : s.length ≤ 1000000) : PCalls Tryz.prog 118 [dS s, dS [c]] (.tup [dS (cpS c s), dB (cpB c s)]) := by
  have k1 := wHasP1 s c hl
  cases h : cpB c s with
  | false =>
    rw [h] at k1
    have e : cpS c s = s := by
      cases s with
      | nil => rfl
      | cons b l => have : ¬ b = c := by simpa [cpB] using h
                    rw [cpS, if_neg this]
    rw [e]
    refine pcalls_of_pw Tryz.func118 rfl Tryz.ntmps118 Tryz.results118 (by simp) fun B w0 => ?_
    refine pw_seq ?_; refine pw_region ?_; refine yAd rfl ?_; refine yAd rfl ?_; refine yQ ?_; refine pw_seq ?_; refine pw_seq ?_; refine pw_region ?_; refine yMd rfl ?_; refine yMd rfl ?_; refine yC (k1) rfl rfl ?_
    refine yU rfl rfl rfl ?_; refine yQ ?_; refine pw_ct rfl ?_; refine pw_seq ?_; refine pw_region ?_; refine yMd rfl ?_; refine yAd rfl ?_; refine yAd rfl ?_; refine yQ ?_; refine pw_ret ?_; refine q_then_ret ?_
    exact q_ret _ (.tmp rfl (.tmp rfl .nil)) rfl
  | true =>
    rw [h] at k1
    obtain ⟨l, rfl⟩ : ∃ l, s = c :: l := by
      cases s with
      | nil => cases h
      | cons b l => exact ⟨l, by rw [show b = c by simpa [cpB] using h]⟩
    have e : cpS c (c :: l) = l := by rw [cpS, if_pos rfl]
    have h1 : (c :: l : Str).drop ((([c] : Str).length : Int)).toNat = l := rfl
    have h2 : ((([c] : Str).length : Nat) : Int) ≤ ((c :: l : Str).length : Int) := by simp; omega
    rw [e]
    obtain ⟨s, hs⟩ : ∃ s, s = (c :: l : Str) := ⟨_, rfl⟩
    rw [← hs] at k1 h1 h2 ⊢
    refine pcalls_of_pw Tryz.func118 rfl Tryz.ntmps118 Tryz.results118 (by simp) fun B w0 => ?_
    refine pw_seq ?_; refine pw_region ?_; refine yAd rfl ?_; refine yAd rfl ?_; refine yQ ?_; refine pw_seq ?_; refine pw_seq ?_; refine pw_region ?_; refine yMd rfl ?_; refine yMd rfl ?_; refine yC (k1) rfl rfl ?_
    refine yU rfl rfl rfl ?_; refine yQ ?_; refine pw_cf rfl ?_; refine pw_skip ?_; refine pw_seq ?_; refine pw_region ?_; refine yMd rfl ?_; refine yMd rfl ?_; refine yNs rfl ?_; refine ySl0 (by omega) h2 h1 rfl rfl ?_
    refine yAd rfl ?_; refine yAd rfl ?_; refine yQ ?_; refine pw_ret ?_
    exact q_ret _ (.tmp rfl (.tmp rfl .nil)) rfl
set_option maxRecDepth 20000 in
theorem wCutP1 (s : Str) (c : UInt8) (hl : s.length ≤ 1000000) : PCalls Tryz.prog 94 [dS s, dS [c]] (.tup [dS (cpS c s), dB (cpB c s)]) := by
  have k1 := wCutPI s c hl
  refine pcalls_of_pw Tryz.func94 rfl Tryz.ntmps94 Tryz.results94 (by simp) fun B w0 => ?_
  refine pw_seq ?_; refine pw_region ?_; refine yAd rfl ?_; refine yAd rfl ?_; refine yQ ?_; refine pw_seq ?_; refine pw_region ?_; refine yMd rfl ?_; refine yMd rfl ?_; refine yC (k1) rfl rfl ?_; refine yX rfl rfl ?_
  refine yX rfl rfl ?_; refine yAd rfl ?_; refine yAd rfl ?_; refine yQ ?_; refine pw_ret ?_
  exact q_ret _ (.tmp rfl (.tmp rfl .nil)) rfl
end Go.Proofs.YtmfeinilbjfnpaaGreatDoor
namespace Go.Proofs.YtmfeinilbjfnpaaGreatDoor
open Go.RowKit Go.Shelf Px
attribute [local go_sem] Oper.semAt_some

/-- the terms of a text, with their signs; a term that is none at a sign that is none -/
def parF : Nat → Bool → Str → List (Bool × Str)
  | 0, _, _ => []
  | n + 1, neg, s => (neg, ctT 32 s) :: if ctB 32 s then (if ctT 32 (ctR 32 s) = [43] ∨ ctT 32 (ctR 32 s) = [45] then parF n (ctT 32 (ctR 32 s) == [45]) (ctR 32 (ctR 32 s)) else [(false, [])]) else []
def parL (neg : Bool) (s : Str) : List (Bool × Str) := parF (s.length + 1) neg s
theorem parF_fuel : ∀ (n m : Nat) (neg : Bool) (s : Str), s.length < n → s.length < m → parF n neg s = parF m neg s
  | n + 1, m + 1, neg, s, h1, h2 => by
    rw [parF, parF]
    by_cases hb : ctB 32 s = true
    · have l1 := (ct_len 32 s).2.2 hb
      have l2 := (ct_len 32 (ctR 32 s)).2.1
      rw [parF_fuel n m _ _ (by omega) (by omega)]
    · rw [if_neg hb, if_neg hb]
theorem parL_eq (neg : Bool) (s : Str) : parL neg s = (neg, ctT 32 s) :: if ctB 32 s then (if ctT 32 (ctR 32 s) = [43] ∨ ctT 32 (ctR 32 s) = [45] then parL (ctT 32 (ctR 32 s) == [45]) (ctR 32 (ctR 32 s)) else [(false, [])]) else [] := by
  unfold parL
  rw [parF]
  by_cases hb : ctB 32 s = true
  · have l1 := (ct_len 32 s).2.2 hb
    have l2 := (ct_len 32 (ctR 32 s)).2.1
    rw [parF_fuel s.length ((ctR 32 (ctR 32 s)).length + 1) _ _ (by omega) (by omega)]
  · rw [if_neg hb, if_neg hb]
abbrev vPt (p : Bool × Str) : List Value := [.bool p.1, vS p.2]
def ptsL (s : Str) : List (Bool × Str) := parL (cpB 45 s) (cpS 45 s)

theorem pc_plain {P : Program} {f : FuncId} {vs us : List Value} (h : PCalls P f (vs.map .val) (.tup (us.map .val))) (h1 : ∀ v ∈ vs, v.oneCell' = true) {F : Nat → Nat → Prop} {W : World} (hg : GlobOk F W) : Calls P f vs.toArray W fun e W' => e = .returned (.tuple us.toArray) ∧ Below W.heap.size W W' := by
  refine (h F W vs (by simp) (fun i v x hv hx => ?_) hg).mono ?_
  · rw [List.getElem?_map, hv] at hx
    cases hx
    exact DRep.val v (h1 v (List.mem_of_getElem? hv))
  · rintro e W' ⟨v, rfl, ⟨ws, rfl, h3, h4⟩, h5⟩
    have : ws = us := by
      refine List.ext_getElem (by simpa using h3) fun i h6 h7 => ?_
      exact DRep.val_eq (h4 i _ _ (List.getElem?_eq_getElem h6) (by rw [List.getElem?_map, List.getElem?_eq_getElem h7]; rfl))
    rw [this]
    exact ⟨rfl, h5⟩
theorem glob_grow {F : Nat → Nat → Prop} {W W' : World} (h : GlobOk F W) (hb : Below W.heap.size W W') : GlobOk F W' := fun q cs hq => by
  obtain ⟨h1, vs, h2, T, z, h3⟩ := h q cs hq
  exact ⟨h1.mono fun b o hf hs => ⟨hf, see_of_block (hb.block b (see_lt hs)) o⟩, vs, h2, T, z, (hb.block q (Array.getElem?_eq_some_iff.1 h3).1).trans h3⟩
theorem cpS_len {c : UInt8} (s : Str) {n : Nat} (h : s.length ≤ n) : (cpS c s).length ≤ n := by
  cases s with
  | nil => exact h
  | cons x t =>
    rw [cpS]
    split
    · rw [List.length_cons] at h; omega
    · exact h
/-- the length of a string -/
def lenV : Value → Nat
  | .string b => b.size
  | _ => 0
theorem lenV_vS (s : Str) : lenV (vS s) = s.length := by simp [lenV, ByteArray.size]

set_option maxHeartbeats 2000000 in
set_option maxRecDepth 20000 in
theorem parts1_spec (s : Str) (hs : s.length ≤ 1000000) (F : Nat → Nat → Prop) (w : World) (p : Value) (hp : DRep F w p (.ref [dS s])) : ItSpec Tryz.prog 93 #[p] ((ptsL s).map vPt) F w := by
  intro l J Jx hJ hJx hY hgo h0
  obtain ⟨b, off, rfl, hc⟩ : ∃ b off, p = .pointer (some ⟨b, off, none⟩) ∧ w.cell? ⟨b, off, none⟩ = some (vS s) := by
    cases hp with
    | @ref b off _ f hc h =>
      refine ⟨b, off, rfl, ?_⟩
      have := (hc 0 (by simp)).1
      rw [DRep.val_eq (h 0 (dS s) rfl)] at this
      exact this
  refine callsIn_of_wp Tryz.func93 rfl trivial ?_ rfl
  simp only [Tryz.ntmps93, List.size_toArray, List.length_cons, List.length_nil, Nat.reduceAdd, Nat.reduceSub, Array.replicate_succ, Array.replicate_zero, List.push_toArray, List.append_toArray, List.nil_append, List.cons_append]
  have HJ := Lib.hid hJ
  have HJX := Lib.hid hJx
  have HY := Lib.hid hY
  have HG := Lib.hid hgo
  have C1 : Hid (∀ W, GlobOk F W → Calls Tryz.prog 94 #[vS s, vS [45]] W fun e W' => e = .returned (.tuple #[vS (cpS 45 s), .bool (cpB 45 s)]) ∧ Below W.heap.size W W') :=
    Lib.hid fun W hg => pc_plain (vs := [vS s, vS [45]]) (us := [vS (cpS 45 s), .bool (cpB 45 s)]) (wCutP1 s 45 hs) (fun v hv => by simp at hv; rcases hv with rfl | rfl <;> rfl) hg
  have C2 : Hid (∀ t, t.length ≤ 1000000 → ∀ W, GlobOk F W → Calls Tryz.prog 95 #[vS t, vS [32]] W fun e W' => e = .returned (.tuple #[vS (ctT 32 t), vS (ctR 32 t), .bool (ctB 32 t)]) ∧ Below W.heap.size W W') :=
    Lib.hid fun t ht W hg => pc_plain (vs := [vS t, vS [32]]) (us := [vS (ctT 32 t), vS (ctR 32 t), .bool (ctB 32 t)]) (wCut1 t 32 ht) (fun v hv => by simp at hv; rcases hv with rfl | rfl <;> rfl) hg
  clear hJ hJx hY hgo
  have hpl : Hid ((cpS 45 s).length ≤ 1000000) := Lib.hid (cpS_len s hs)
  gi_wp2_with (refine ⟨trivial, rfl, ?_⟩; gi_at_call 94; refine (callsIn_wide.2 (C1.out _ HG.out)).mono ?_; rintro e w' ⟨rfl, hb1⟩)
  have HG1 := Lib.hid (glob_grow HG.out hb1)
  have J1 := HJ.out 0 _ _ h0 hb1
  clear hb1 HG h0
  gi_loopw [3, 4] (fun v3 v4 wr => ∃ (i : Nat) (neg : Bool) (s' : Str), v3 = vS s' ∧ v4 = .bool neg ∧ J i wr ∧ Hid (((ptsL s).map vPt).drop i = (parL neg s').map vPt ∧ s'.length ≤ 1000000 ∧ GlobOk F wr))
    (fun v3 _ _ => lenV v3)
  case atStart => exact ⟨0, _, _, rfl, rfl, J1, Lib.hid ⟨rfl, hpl.out, HG1.out⟩⟩
  case round =>
    obtain ⟨i, neg, s', rfl, rfl, hJi, HR⟩ := hrel
    have K2 := Lib.hid (C2.out s' HR.out.2.1 wr HR.out.2.2)
    have hcons := HR.out.1
    rw [parL_eq, List.map_cons] at hcons
    have HX : Hid (((ptsL s).map vPt)[i]? = some (vPt (neg, ctT 32 s')) ∧ ((ptsL s).map vPt).drop (i + 1) = (if ctB 32 s' then (if ctT 32 (ctR 32 s') = [43] ∨ ctT 32 (ctR 32 s') = [45] then parL (ctT 32 (ctR 32 s') == [45]) (ctR 32 (ctR 32 s')) else [(false, [])]) else []).map vPt) := Lib.hid ⟨by
      have := congrArg (fun l => l[0]?) hcons
      simpa using this, by
      have := congrArg (List.drop 1) hcons
      simpa using this⟩
    clear hcons
    gi_wp2_with (refine ⟨trivial, rfl, ?_⟩; gi_at_call 95; refine (callsIn_wide.2 K2.out).mono ?_; rintro e w' ⟨rfl, hb2⟩; obtain ⟨fn, tmps, assign, body, hy, hR⟩ := HY.out i _ w' HX.out.1 (HJ.out i _ _ hJi hb2); have HR2 := Lib.hid hR; have HG2 := Lib.hid (glob_grow HR.out.2.2 hb2); clear hR hb2)
    refine ⟨rfl, ?_⟩
    refine HR2.out.mono ?_
    rintro e W3 (⟨rfl, hJ3, -, hg3⟩ | ⟨rfl, hJx3⟩)
    · have HG3 := Lib.hid hg3
      have HD := Lib.hid HX.out.2
      clear hg3
      cases hb : ctB 32 s' with
      | false =>
        have HL : Hid (i + 1 = ((ptsL s).map vPt).length) := Lib.hid (by
          have h1 := HD.out
          rw [hb, if_neg (by simp), List.map_nil, List.drop_eq_nil_iff] at h1
          have h2 := (List.getElem?_eq_some_iff.1 HX.out.1).1
          omega)
        gi_wp2
        refine bodyPost_ret (results_none rfl _ _ _) rfl ?_
        exact ⟨⟨_, rfl⟩, .inl (by rw [← HL.out]; exact hJ3)⟩
      | true =>
        have l1 := ct_len 32 s'
        have l2 := ct_len 32 (ctR 32 s')
        have HB : Hid ((ctR 32 s').length ≤ 1000000 ∧ (ctR 32 (ctR 32 s')).length ≤ 1000000 ∧ (ctR 32 (ctR 32 s')).length < s'.length) := Lib.hid ⟨by have := HR.out.2.1; omega, by have := HR.out.2.1; omega, by have := l1.2.2 hb; omega⟩
        have K3 := Lib.hid (C2.out (ctR 32 s') HB.out.1 W3 HG3.out)
        clear l1 l2
        have HD2 : Hid (((ptsL s).map vPt).drop (i + 1) = (if ctT 32 (ctR 32 s') = [43] ∨ ctT 32 (ctR 32 s') = [45] then parL (ctT 32 (ctR 32 s') == [45]) (ctR 32 (ctR 32 s')) else [(false, [])]).map vPt) := Lib.hid (by have := HD.out; rwa [hb, if_pos rfl] at this)
        clear HD
        obtain ⟨sg, hsg⟩ : ∃ x, x = ctT 32 (ctR 32 s') := ⟨_, rfl⟩
        obtain ⟨nx, hnx⟩ : ∃ x, x = ctR 32 (ctR 32 s') := ⟨_, rfl⟩
        obtain ⟨mo, hmo⟩ : ∃ x, x = ctB 32 (ctR 32 s') := ⟨_, rfl⟩
        rw [← hsg, ← hnx, ← hmo] at K3
        rw [← hsg, ← hnx] at HD2
        rw [← hnx] at HB
        clear hsg hnx hmo
        by_cases h3 : sg = [43] ∨ sg = [45]
        · have HD3 := Lib.hid (show ((ptsL s).map vPt).drop (i + 1) = (parL (sg == [45]) nx).map vPt by have := HD2.out; rwa [if_pos h3] at this)
          clear HD2
          rcases h3 with rfl | rfl
          · gi_wp2_with (refine ⟨trivial, rfl, ?_⟩; gi_at_call 95; refine (callsIn_wide.2 K3.out).mono ?_; rintro e w4 ⟨rfl, hb4⟩)
            have HG4 := Lib.hid (glob_grow HG3.out hb4)
            have J4 := HJ.out _ _ _ hJ3 hb4
            go_roundw
            case rel => exact ⟨i + 1, false, nx, rfl, rfl, J4, Lib.hid ⟨HD3.out, HB.out.2.1, HG4.out⟩⟩
            case measure => rw [lenV_vS, lenV_vS]; exact HB.out.2.2
          · gi_wp2_with (refine ⟨trivial, rfl, ?_⟩; gi_at_call 95; refine (callsIn_wide.2 K3.out).mono ?_; rintro e w4 ⟨rfl, hb4⟩)
            have HG4 := Lib.hid (glob_grow HG3.out hb4)
            have J4 := HJ.out _ _ _ hJ3 hb4
            go_roundw
            case rel => exact ⟨i + 1, true, nx, rfl, rfl, J4, Lib.hid ⟨HD3.out, HB.out.2.1, HG4.out⟩⟩
            case measure => rw [lenV_vS, lenV_vS]; exact HB.out.2.2
        · have HD3 := Lib.hid (show ((ptsL s).map vPt).drop (i + 1) = [vPt (false, [])] by have := HD2.out; rwa [if_neg h3] at this)
          have HX3 : Hid (((ptsL s).map vPt)[i + 1]? = some (vPt (false, [])) ∧ i + 1 + 1 = ((ptsL s).map vPt).length) := Lib.hid ⟨by
            have := congrArg (fun l => l[0]?) HD3.out
            simpa using this, by
            have := congrArg List.length HD3.out
            simp at this
            simp
            omega⟩
          have b1 : (!sg == [43]) = true := by have : ¬ sg = [43] := fun e => h3 (.inl e); simp [this]
          have b2 : (!sg == [45]) = true := by have : ¬ sg = [45] := fun e => h3 (.inr e); simp [this]
          clear HD2 HD3 h3
          gi_wp2_with (refine ⟨trivial, rfl, ?_⟩; gi_at_call 95; refine (callsIn_wide.2 K3.out).mono ?_; rintro e w4 ⟨rfl, hb4⟩; obtain ⟨fn5, tmps5, assign5, body5, hy5, hR5⟩ := HY.out (i + 1) _ w4 HX3.out.1 (HJ.out _ _ _ hJ3 hb4); have HR5 := Lib.hid hR5; clear hR5 hb4)
          refine ⟨rfl, ?_⟩
          refine HR5.out.mono ?_
          rintro e W5 (⟨rfl, hJ5, -, -⟩ | ⟨rfl, hJx5⟩)
          · gi_wp2
            refine bodyPost_ret (results_none rfl _ _ _) rfl ?_
            exact ⟨⟨_, rfl⟩, .inl (by rw [← HX3.out.2]; exact hJ5)⟩
          · gi_wp2
            refine bodyPost_ret (results_none rfl _ _ _) rfl ?_
            exact ⟨⟨_, rfl⟩, .inr hJx5⟩
    · gi_wp2
      refine bodyPost_ret (results_none rfl _ _ _) rfl ?_
      exact ⟨⟨_, rfl⟩, .inr hJx3⟩
end Go.Proofs.YtmfeinilbjfnpaaGreatDoor
namespace Go.Proofs.YtmfeinilbjfnpaaGreatDoor
open Go.RowKit Px

theorem prT_ne (d : Str) : prT d ≠ [] := by
  unfold prT
  split
  · simp
  · assumption
set_option maxRecDepth 20000 in
theorem wIParse (d : Str) (hd : d.length ≤ 65536) : PCalls Tryz.prog 96 [dS d] (.tup [dS (if prT d = d then canon (val d) else []), dI (if prT d = d then 0 else 3)]) := by
  have k1 := wPrintT d (by omega)
  have k2 := wCanonical d (by omega)
  have t0 : decide ((d.length : Int) > 65536) = false := decide_eq_false (by omega)
  obtain ⟨p, hp⟩ : ∃ p, p = prT d := ⟨_, rfl⟩
  obtain ⟨q, hq⟩ : ∃ p, p = canon (val d) := ⟨_, rfl⟩
  rw [← hp] at k1 ⊢
  rw [← hq] at k2 ⊢
  by_cases h : p = d
  · have t1 : (!(p == d)) = false := by simp [h]
    rw [if_pos h, if_pos h]
    refine pcalls_of_pw Tryz.func96 rfl Tryz.ntmps96 Tryz.results96 (by simp) fun B w0 => ?_
    refine pw_seq ?_; refine pw_region ?_; refine yAd rfl ?_; refine yAd rfl ?_; refine yQ ?_; refine pw_seq ?_; refine pw_seq ?_; refine pw_region ?_; refine yMd rfl ?_; refine yNs rfl ?_; refine yB rfl rfl rfl rfl ?_; refine yQ ?_
    refine q_then ?_; rw [t0]; refine pw_cf rfl ?_; refine pw_skip ?_; refine pw_seq ?_; refine pw_seq ?_; refine pw_region ?_; refine yMd rfl ?_; refine yC (k1) rfl rfl ?_; refine yMd rfl ?_; refine yBsn rfl rfl ?_; refine yQ ?_
    refine q_then ?_; rw [t1]; refine pw_cf rfl ?_; refine pw_skip ?_; refine pw_seq ?_; refine pw_region ?_; refine yMd rfl ?_; refine yC (k2) rfl rfl ?_; refine yAd rfl ?_; refine yAd rfl ?_; refine yQ ?_; refine pw_ret ?_
    exact q_ret _ (.tmp rfl (.tmp rfl .nil)) rfl
  · have t1 : (!(p == d)) = true := by simp [h]
    rw [if_neg h, if_neg h]
    refine pcalls_of_pw Tryz.func96 rfl Tryz.ntmps96 Tryz.results96 (by simp) fun B w0 => ?_
    refine pw_seq ?_; refine pw_region ?_; refine yAd rfl ?_; refine yAd rfl ?_; refine yQ ?_; refine pw_seq ?_; refine pw_seq ?_; refine pw_region ?_; refine yMd rfl ?_; refine yNs rfl ?_; refine yB rfl rfl rfl rfl ?_; refine yQ ?_
    refine q_then ?_; rw [t0]; refine pw_cf rfl ?_; refine pw_skip ?_; refine pw_seq ?_; refine pw_seq ?_; refine pw_region ?_; refine yMd rfl ?_; refine yC (k1) rfl rfl ?_; refine yMd rfl ?_; refine yBsn rfl rfl ?_; refine yQ ?_
    refine q_then ?_; rw [t1]; refine pw_ct rfl ?_; refine pw_seq ?_; refine pw_region ?_; refine yAd rfl ?_; refine yAd rfl ?_; refine yQ ?_; refine pw_ret ?_; refine q_then_ret ?_
    exact q_ret _ (.tmp rfl (.tmp rfl .nil)) rfl

/-- the term with digits d and name nm -/
def tmR (d nm : Str) : Option Cf := if prT d = d ∧ d.head? ≠ some 45 ∧ nmB nm = true then some (nm, canon (val d)) else none
/-- the term with a text -/
def tmP (t : Str) : Option Cf := if ctB 42 t then tmR (ctT 42 t) (ctR 42 t) else tmR [49] t
abbrev oCf (o : Option Cf) : Cf := o.getD ([], [])
set_option maxRecDepth 20000 in
set_option maxHeartbeats 1000000 in
theorem wParseTerm (t : Str) (ht : t.length ≤ 60000) : PCalls Tryz.prog 65 [dS t] (.tup [.agg (dCf (oCf (tmP t))), dB (tmP t).isSome]) := by
  have k1 := wCut1 t 42 (by omega)
  obtain ⟨hl1, hl2, -⟩ := ct_len 42 t
  unfold tmP
  cases hb : ctB 42 t with
  | true =>
    rw [hb] at k1
    rw [if_pos rfl]
    obtain ⟨d, hd⟩ : ∃ d, d = ctT 42 t := ⟨_, rfl⟩
    obtain ⟨nm, hnm⟩ : ∃ d, d = ctR 42 t := ⟨_, rfl⟩
    rw [← hd] at hl1
    rw [← hd, ← hnm] at k1 ⊢
    have k2 := wIParse d (by omega)
    have k3 := wIsName nm
    clear hd hnm hb
    unfold tmR
    by_cases h1 : prT d = d
    rotate_left
    · rw [if_neg h1, if_neg h1] at k2
      rw [if_neg (fun h => h1 h.1)]
      refine pcalls_of_pw Tryz.func65 rfl Tryz.ntmps65 Tryz.results65 (by simp) fun B w0 => ?_
      refine pw_seq ?_; refine pw_region ?_; refine yZ (cs := [_, _]) rfl rfl ?_; refine yAd rfl ?_; refine yQ ?_; refine pw_seq ?_; refine pw_region ?_; refine yMd rfl ?_; refine yC (k1) rfl rfl ?_; refine yMp rfl ?_
      refine yX rfl rfl ?_; refine yX rfl rfl ?_; refine yX rfl rfl ?_; refine yAd rfl ?_; refine yAd rfl ?_; refine yAd rfl ?_; refine yQ ?_; refine pw_seq ?_; refine pw_seq ?_; refine pw_region ?_; refine yMd rfl ?_
      refine yU rfl rfl rfl ?_; refine yQ ?_; refine pw_cf rfl ?_; refine pw_skip ?_; refine pw_seq ?_; refine pw_region ?_; refine yMd rfl ?_; refine yC (k2) rfl rfl ?_; refine yMp rfl ?_; refine yX rfl rfl ?_; refine yX rfl rfl ?_
      refine yAd rfl ?_; refine yAd rfl ?_; refine yQ ?_; refine pw_seq ?_; refine pw_seq ?_; refine pw_region ?_; refine yMd rfl ?_; refine yB rfl rfl rfl rfl ?_; refine yMd rfl ?_; refine yO rfl ?_; refine yO rfl ?_; refine yO rfl ?_
      refine yPd rfl rfl ?_; refine yMd rfl ?_; refine yO rfl ?_; refine yO rfl ?_; refine yO rfl ?_; refine yPd rfl rfl ?_; refine yQ ?_; refine pw_ct rfl ?_; refine pw_seq ?_; refine pw_region ?_; refine yG (ys := [_, _]) rfl rfl ?_
      refine yS (cs' := [_, _]) rfl rfl rfl rfl rfl ?_; refine yAd rfl ?_; refine yQ ?_; refine pw_ret ?_; refine q_then_ret ?_
      exact q_ret _ (.agg inferInstance rfl rfl rfl rfl (.tmp rfl .nil)) rfl
    rw [if_pos h1, if_pos h1] at k2
    obtain ⟨x, d, rfl⟩ : ∃ x l, d = x :: l := by
      cases d with
      | nil => exact absurd h1 (prT_ne _)
      | cons x l => exact ⟨x, l, rfl⟩
    have hx : (x :: d : Str)[(0 : Int).toNat]? = some x := rfl
    obtain ⟨q, hq⟩ : ∃ q, q = canon (val (x :: d)) := ⟨_, rfl⟩
    rw [← hq] at k2 ⊢
    by_cases h2 : x = 45
    · have t2 : ((x.toNat : Int) == 45) = true := by rw [h2]; rfl
      rw [if_neg (fun h => h.2.1 (by rw [h2]; rfl))]
      refine pcalls_of_pw Tryz.func65 rfl Tryz.ntmps65 Tryz.results65 (by simp) fun B w0 => ?_
      refine pw_seq ?_; refine pw_region ?_; refine yZ (cs := [_, _]) rfl rfl ?_; refine yAd rfl ?_; refine yQ ?_; refine pw_seq ?_; refine pw_region ?_; refine yMd rfl ?_; refine yC (k1) rfl rfl ?_; refine yMp rfl ?_
      refine yX rfl rfl ?_; refine yX rfl rfl ?_; refine yX rfl rfl ?_; refine yAd rfl ?_; refine yAd rfl ?_; refine yAd rfl ?_; refine yQ ?_; refine pw_seq ?_; refine pw_seq ?_; refine pw_region ?_; refine yMd rfl ?_
      refine yU rfl rfl rfl ?_; refine yQ ?_; refine pw_cf rfl ?_; refine pw_skip ?_; refine pw_seq ?_; refine pw_region ?_; refine yMd rfl ?_; refine yC (k2) rfl rfl ?_; refine yMp rfl ?_; refine yX rfl rfl ?_; refine yX rfl rfl ?_
      refine yAd rfl ?_; refine yAd rfl ?_; refine yQ ?_; refine pw_seq ?_; refine pw_seq ?_; refine pw_region ?_; refine yMd rfl ?_; refine yB rfl rfl rfl rfl ?_; refine yMd rfl ?_; refine yMd rfl ?_; refine yIs hx (by omega) rfl rfl ?_
      refine yB rfl rfl rfl rfl ?_; refine yVd rfl rfl ?_; refine yMd rfl ?_; rw [t2]; refine yO rfl ?_; refine yO rfl ?_; refine yO rfl ?_; refine yPd rfl rfl ?_; refine yQ ?_; refine pw_ct rfl ?_; refine pw_seq ?_; refine pw_region ?_
      refine yG (ys := [_, _]) rfl rfl ?_; refine yS (cs' := [_, _]) rfl rfl rfl rfl rfl ?_; refine yAd rfl ?_; refine yQ ?_; refine pw_ret ?_; refine q_then_ret ?_
      exact q_ret _ (.agg inferInstance rfl rfl rfl rfl (.tmp rfl .nil)) rfl
    have t2 : ((x.toNat : Int) == 45) = false := beq_false_of_ne fun h => h2 (UInt8.toNat_inj.1 (by have : (45 : UInt8).toNat = 45 := rfl; omega))
    cases h3 : nmB nm with
    | false =>
      rw [h3] at k3
      rw [if_neg (fun h => by simp at h)]
      refine pcalls_of_pw Tryz.func65 rfl Tryz.ntmps65 Tryz.results65 (by simp) fun B w0 => ?_
      refine pw_seq ?_; refine pw_region ?_; refine yZ (cs := [_, _]) rfl rfl ?_; refine yAd rfl ?_; refine yQ ?_; refine pw_seq ?_; refine pw_region ?_; refine yMd rfl ?_; refine yC (k1) rfl rfl ?_; refine yMp rfl ?_
      refine yX rfl rfl ?_; refine yX rfl rfl ?_; refine yX rfl rfl ?_; refine yAd rfl ?_; refine yAd rfl ?_; refine yAd rfl ?_; refine yQ ?_; refine pw_seq ?_; refine pw_seq ?_; refine pw_region ?_; refine yMd rfl ?_
      refine yU rfl rfl rfl ?_; refine yQ ?_; refine pw_cf rfl ?_; refine pw_skip ?_; refine pw_seq ?_; refine pw_region ?_; refine yMd rfl ?_; refine yC (k2) rfl rfl ?_; refine yMp rfl ?_; refine yX rfl rfl ?_; refine yX rfl rfl ?_
      refine yAd rfl ?_; refine yAd rfl ?_; refine yQ ?_; refine pw_seq ?_; refine pw_seq ?_; refine pw_region ?_; refine yMd rfl ?_; refine yB rfl rfl rfl rfl ?_; refine yMd rfl ?_; refine yMd rfl ?_; refine yIs hx (by omega) rfl rfl ?_
      refine yB rfl rfl rfl rfl ?_; refine yVd rfl rfl ?_; refine yMd rfl ?_; rw [t2]; refine yMd rfl ?_; refine yC (k3) rfl rfl ?_; refine yU rfl rfl rfl ?_; refine yVd rfl rfl ?_; refine yQ ?_; refine pw_ct rfl ?_; refine pw_seq ?_
      refine pw_region ?_; refine yG (ys := [_, _]) rfl rfl ?_; refine yS (cs' := [_, _]) rfl rfl rfl rfl rfl ?_; refine yAd rfl ?_; refine yQ ?_; refine pw_ret ?_; refine q_then_ret ?_
      exact q_ret _ (.agg inferInstance rfl rfl rfl rfl (.tmp rfl .nil)) rfl
    | true =>
      rw [h3] at k3
      rw [if_pos ⟨h1, fun h => h2 (by simpa using h), rfl⟩]
      refine pcalls_of_pw Tryz.func65 rfl Tryz.ntmps65 Tryz.results65 (by simp) fun B w0 => ?_
      refine pw_seq ?_; refine pw_region ?_; refine yZ (cs := [_, _]) rfl rfl ?_; refine yAd rfl ?_; refine yQ ?_; refine pw_seq ?_; refine pw_region ?_; refine yMd rfl ?_; refine yC (k1) rfl rfl ?_; refine yMp rfl ?_
      refine yX rfl rfl ?_; refine yX rfl rfl ?_; refine yX rfl rfl ?_; refine yAd rfl ?_; refine yAd rfl ?_; refine yAd rfl ?_; refine yQ ?_; refine pw_seq ?_; refine pw_seq ?_; refine pw_region ?_; refine yMd rfl ?_
      refine yU rfl rfl rfl ?_; refine yQ ?_; refine pw_cf rfl ?_; refine pw_skip ?_; refine pw_seq ?_; refine pw_region ?_; refine yMd rfl ?_; refine yC (k2) rfl rfl ?_; refine yMp rfl ?_; refine yX rfl rfl ?_; refine yX rfl rfl ?_
      refine yAd rfl ?_; refine yAd rfl ?_; refine yQ ?_; refine pw_seq ?_; refine pw_seq ?_; refine pw_region ?_; refine yMd rfl ?_; refine yB rfl rfl rfl rfl ?_; refine yMd rfl ?_; refine yMd rfl ?_; refine yIs hx (by omega) rfl rfl ?_
      refine yB rfl rfl rfl rfl ?_; refine yVd rfl rfl ?_; refine yMd rfl ?_; rw [t2]; refine yMd rfl ?_; refine yC (k3) rfl rfl ?_; refine yU rfl rfl rfl ?_; refine yVd rfl rfl ?_; refine yQ ?_; refine pw_cf rfl ?_; refine pw_skip ?_
      refine pw_seq ?_; refine pw_region ?_; refine yMd rfl ?_; refine yMd rfl ?_; refine yG (ys := [_, _]) rfl rfl ?_; refine yS (cs' := [_, _]) rfl rfl rfl rfl rfl ?_; refine yAd rfl ?_; refine yQ ?_; refine pw_ret ?_
      exact q_ret _ (.agg inferInstance rfl rfl rfl rfl (.tmp rfl .nil)) rfl
  | false =>
    rw [hb] at k1
    rw [if_neg (by simp)]
    have e1 : prT [49] = [49] := by kernel_rfl
    have e2 : canon (val [49]) = [49] := by kernel_rfl
    have k2 := wIParse [49] (by simp)
    rw [if_pos e1, if_pos e1, e2] at k2
    have k3 := wIsName t
    obtain ⟨d, hd⟩ : ∃ d, d = ctT 42 t := ⟨_, rfl⟩
    obtain ⟨nm, hnm⟩ : ∃ d, d = ctR 42 t := ⟨_, rfl⟩
    rw [← hd, ← hnm] at k1
    clear hd hnm hb
    have hx : ([49] : Str)[(0 : Int).toNat]? = some 49 := rfl
    unfold tmR
    cases h3 : nmB t with
    | false =>
      rw [h3] at k3
      rw [if_neg (fun h => by simp at h)]
      refine pcalls_of_pw Tryz.func65 rfl Tryz.ntmps65 Tryz.results65 (by simp) fun B w0 => ?_
      refine pw_seq ?_; refine pw_region ?_; refine yZ (cs := [_, _]) rfl rfl ?_; refine yAd rfl ?_; refine yQ ?_; refine pw_seq ?_; refine pw_region ?_; refine yMd rfl ?_; refine yC (k1) rfl rfl ?_; refine yMp rfl ?_
      refine yX rfl rfl ?_; refine yX rfl rfl ?_; refine yX rfl rfl ?_; refine yAd rfl ?_; refine yAd rfl ?_; refine yAd rfl ?_; refine yQ ?_; refine pw_seq ?_; refine pw_seq ?_; refine pw_region ?_; refine yMd rfl ?_
      refine yU rfl rfl rfl ?_; refine yQ ?_; refine pw_ct rfl ?_; refine pw_region ?_; refine yMd rfl ?_; refine yAd rfl ?_; refine yAd rfl ?_; refine yQ ?_; refine pw_seq ?_; refine pw_region ?_; refine yMd rfl ?_
      refine yC (k2) rfl rfl ?_; refine yMp rfl ?_; refine yX rfl rfl ?_; refine yX rfl rfl ?_; refine yAd rfl ?_; refine yAd rfl ?_; refine yQ ?_; refine pw_seq ?_; refine pw_seq ?_; refine pw_region ?_; refine yMd rfl ?_
      refine yB rfl rfl rfl rfl ?_; refine yMd rfl ?_; refine yMd rfl ?_; refine yIs hx (by omega) rfl rfl ?_; refine yB rfl rfl rfl rfl ?_; refine yVd rfl rfl ?_; refine yMd rfl ?_; refine yMd rfl ?_; refine yC (k3) rfl rfl ?_
      refine yU rfl rfl rfl ?_; refine yVd rfl rfl ?_; refine yQ ?_; refine pw_ct rfl ?_; refine pw_seq ?_; refine pw_region ?_; refine yG (ys := [_, _]) rfl rfl ?_; refine yS (cs' := [_, _]) rfl rfl rfl rfl rfl ?_; refine yAd rfl ?_
      refine yQ ?_; refine pw_ret ?_; refine q_then_ret ?_
      exact q_ret _ (.agg inferInstance rfl rfl rfl rfl (.tmp rfl .nil)) rfl
    | true =>
      rw [h3] at k3
      rw [if_pos ⟨e1, by simp, rfl⟩, e2]
      refine pcalls_of_pw Tryz.func65 rfl Tryz.ntmps65 Tryz.results65 (by simp) fun B w0 => ?_
      refine pw_seq ?_; refine pw_region ?_; refine yZ (cs := [_, _]) rfl rfl ?_; refine yAd rfl ?_; refine yQ ?_; refine pw_seq ?_; refine pw_region ?_; refine yMd rfl ?_; refine yC (k1) rfl rfl ?_; refine yMp rfl ?_
      refine yX rfl rfl ?_; refine yX rfl rfl ?_; refine yX rfl rfl ?_; refine yAd rfl ?_; refine yAd rfl ?_; refine yAd rfl ?_; refine yQ ?_; refine pw_seq ?_; refine pw_seq ?_; refine pw_region ?_; refine yMd rfl ?_
      refine yU rfl rfl rfl ?_; refine yQ ?_; refine pw_ct rfl ?_; refine pw_region ?_; refine yMd rfl ?_; refine yAd rfl ?_; refine yAd rfl ?_; refine yQ ?_; refine pw_seq ?_; refine pw_region ?_; refine yMd rfl ?_
      refine yC (k2) rfl rfl ?_; refine yMp rfl ?_; refine yX rfl rfl ?_; refine yX rfl rfl ?_; refine yAd rfl ?_; refine yAd rfl ?_; refine yQ ?_; refine pw_seq ?_; refine pw_seq ?_; refine pw_region ?_; refine yMd rfl ?_
      refine yB rfl rfl rfl rfl ?_; refine yMd rfl ?_; refine yMd rfl ?_; refine yIs hx (by omega) rfl rfl ?_; refine yB rfl rfl rfl rfl ?_; refine yVd rfl rfl ?_; refine yMd rfl ?_; refine yMd rfl ?_; refine yC (k3) rfl rfl ?_
      refine yU rfl rfl rfl ?_; refine yVd rfl rfl ?_; refine yQ ?_; refine pw_cf rfl ?_; refine pw_skip ?_; refine pw_seq ?_; refine pw_region ?_; refine yMd rfl ?_; refine yMd rfl ?_; refine yG (ys := [_, _]) rfl rfl ?_
      refine yS (cs' := [_, _]) rfl rfl rfl rfl rfl ?_; refine yAd rfl ?_; refine yQ ?_; refine pw_ret ?_
      exact q_ret _ (.agg inferInstance rfl rfl rfl rfl (.tmp rfl .nil)) rfl
end Go.Proofs.YtmfeinilbjfnpaaGreatDoor
namespace Go.Proofs.YtmfeinilbjfnpaaGreatDoor
open Go.RowKit Px

/-- a term with its sign -/
def tmS (p : Bool × Str) : Option Cf := (tmP p.2).map fun c => if p.1 then (c.1, canon (- val c.2)) else c
def okT (s : Str) : Bool := (ptsL s).all fun p => (tmS p).isSome
def lsT (s : Str) : List Cf := (ptsL s).filterMap tmS
/-- what Parse returns -/
def paE (s : Str) : Int := if s = [48] then 0 else if okT s then (if 16 < (lsT s).length then 4 else 0) else 3
def paR (s : Str) : List Cf := if s = [48] then [] else if okT s then (if 16 < (lsT s).length then [] else nf (lsT s)) else []
theorem parF_len : ∀ (n : Nat) (neg : Bool) (s : Str), s.length < n → (parF n neg s).length ≤ s.length + 1 ∧ ∀ p ∈ parF n neg s, p.2.length ≤ s.length
  | 0, _, _, h => by omega
  | n + 1, neg, s, h => by
    rw [parF]
    have l0 := ct_len 32 s
    by_cases hb : ctB 32 s = true
    · have l1 := l0.2.2 hb
      have l2 := (ct_len 32 (ctR 32 s)).2.1
      rw [if_pos hb]
      by_cases hc : ctT 32 (ctR 32 s) = [43] ∨ ctT 32 (ctR 32 s) = [45]
      · rw [if_pos hc]
        obtain ⟨h1, h2⟩ := parF_len n (ctT 32 (ctR 32 s) == [45]) (ctR 32 (ctR 32 s)) (by omega)
        refine ⟨by rw [List.length_cons]; omega, fun p hp => ?_⟩
        rcases List.mem_cons.1 hp with rfl | hp
        · exact l0.1
        · have := h2 p hp; omega
      · rw [if_neg hc]
        refine ⟨by simp; omega, fun p hp => ?_⟩
        simp at hp
        rcases hp with rfl | rfl
        · exact l0.1
        · simp
    · rw [if_neg hb]
      refine ⟨by simp, fun p hp => ?_⟩
      simp at hp
      rw [hp]
      exact l0.1
theorem ptsL_len (s : Str) : (ptsL s).length ≤ s.length + 1 ∧ ∀ p ∈ ptsL s, p.2.length ≤ s.length := by
  have h := cpS_len (c := 45) s (Nat.le_refl _)
  obtain ⟨h1, h2⟩ := parF_len ((cpS 45 s).length + 1) (cpB 45 s) (cpS 45 s) (Nat.lt_succ_self _)
  exact ⟨Nat.le_trans h1 (by omega), fun p hp => Nat.le_trans (h2 p hp) h⟩
theorem tmP_len {t : Str} {c : Cf} (h : tmP t = some c) : nmB c.1 = true ∧ c.2.length ≤ t.length + 1 := by
  have hl := (ct_len 42 t).1
  have hR : ∀ d nm, tmR d nm = some c → nmB c.1 = true ∧ c.2.length ≤ d.length := fun d nm h => by
    unfold tmR at h
    split at h
    · rename_i h1
      cases h
      exact ⟨h1.2.2, canon_len d⟩
    · cases h
  unfold tmP at h
  split at h
  · have := hR _ _ h
    exact ⟨this.1, by omega⟩
  · have := hR _ _ h
    exact ⟨this.1, by have := this.2; simp at this; omega⟩
theorem tmS_len {p : Bool × Str} {c : Cf} (h : tmS p = some c) : nmB c.1 = true ∧ c.2.length ≤ p.2.length + 2 := by
  unfold tmS at h
  rw [Option.map_eq_some_iff] at h
  obtain ⟨d, h1, h2⟩ := h
  obtain ⟨h3, h4⟩ := tmP_len h1
  split at h2
  · rw [← h2]
    exact ⟨h3, Nat.le_trans (canon_le (k := p.2.length + 1) (by rw [Int.natAbs_neg]; exact val_lt h4)) (by omega)⟩
  · rw [← h2]
    exact ⟨h3, by omega⟩
abbrev pT : Nat := 36 * 100000 + 4
theorem itParts (s : Str) (hs : s.length ≤ 1000000) : PCalls Tryz.prog 64 [dS s] (.d (dIt Tryz.prog ((ptsL s).map vPt))) := by
  refine pcalls_of_pw Tryz.func64 rfl Tryz.ntmps64 Tryz.results64 (by simp) fun B w0 => ?_
  refine pw_seq ?_; refine pw_region ?_; refine yK (cs := [_]) rfl rfl ?_; refine yAd rfl ?_; refine yQ ?_; refine pw_seq ?_; refine pw_region ?_; refine yCm rfl ?_; refine yAf rfl ?_; refine yQ ?_
  refine pw_it1 2 1 ((ptsL s).map vPt) (ds := [dS s]) (parts1_spec s hs) rfl rfl rfl ?_; refine pw_ret ?_
  exact q_ret _ (.tmp rfl .nil) rfl
set_option maxRecDepth 20000 in
set_option maxHeartbeats 4000000 in
theorem wParseG (s : Str) (hs : s.length ≤ 60000) (hpl : (ptsL s).length ≤ 901) (hpt : ∀ p ∈ ptsL s, p.2.length ≤ 900) : PCalls Tryz.prog 34 [dS s] (.tup [.sl 2 ((paR s).map dCf), dI (paE s)]) := by
  have t0 : decide ((s.length : Int) > 65536) = false := decide_eq_false (by omega)
  by_cases h0 : s = [48]
  · have t1 : (s == [48]) = true := by simp [h0]
    rw [paR, paE, if_pos h0, if_pos h0]
    refine pcalls_of_pw Tryz.func34 rfl Tryz.ntmps34 Tryz.results34 (by simp) fun B w0 => ?_
    refine pw_seq ?_; refine pw_region ?_; refine yZ (cs := [_]) rfl rfl ?_; refine yZ (cs := [_]) rfl rfl ?_; refine yQ ?_; refine pw_seq ?_; refine pw_seq ?_; refine pw_region ?_; refine yMd rfl ?_; refine yNs rfl ?_
    refine yB rfl rfl rfl rfl ?_; refine yQ ?_; refine q_then ?_; rw [t0]; refine pw_cf rfl ?_; refine pw_skip ?_; refine pw_seq ?_; refine pw_seq ?_; refine pw_region ?_; refine yMd rfl ?_; refine yBse rfl rfl ?_; refine yQ ?_
    refine q_then ?_; rw [t1]; refine pw_ct rfl ?_; refine pw_seq ?_; refine pw_region ?_; refine ySd (cs' := [_]) rfl rfl rfl rfl ?_; refine ySd (cs' := [_]) rfl rfl rfl rfl ?_; refine yQ ?_; refine pw_ret ?_; refine q_then_ret ?_
    exact q_ret _ (.onil 2 inferInstance rfl rfl (.one inferInstance rfl rfl rfl .nil)) rfl
  have t1 : (s == [48]) = false := by simp [h0]
  rw [paR, paE, if_neg h0, if_neg h0]
  have k1 := itParts s (by omega)
  obtain ⟨R, hR⟩ : ∃ R, R = (if okT s = true then (if 16 < (lsT s).length then [] else nf (lsT s)) else []) := ⟨_, rfl⟩
  obtain ⟨E, hE⟩ : ∃ E : Int, E = (if okT s = true then (if 16 < (lsT s).length then 4 else 0) else 3) := ⟨_, rfl⟩
  rw [← hR, ← hE]
  have hLl : ∀ i, (((ptsL s).take i).filterMap tmS).length ≤ 901 := fun i => Nat.le_trans (List.length_filterMap_le _ _) (by rw [List.length_take]; omega)
  refine pcalls_of_pwN Tryz.func34 rfl Tryz.ntmps34 Tryz.results34 (by simp) fun B w0 hrl => ?_
  refine pw_seq ?_; refine pw_region ?_; refine yZ (cs := [_]) rfl rfl ?_; refine yZ (cs := [_]) rfl rfl ?_; refine yQ ?_; refine pw_seq ?_; refine pw_seq ?_; refine pw_region ?_; refine yMd rfl ?_; refine yNs rfl ?_
  refine yB rfl rfl rfl rfl ?_; refine yQ ?_; refine q_then ?_; rw [t0]; refine pw_cf rfl ?_; refine pw_skip ?_; refine pw_seq ?_; refine pw_seq ?_; refine pw_region ?_; refine yMd rfl ?_; refine yBse rfl rfl ?_; refine yQ ?_
  refine q_then ?_; rw [t1]; refine pw_cf rfl ?_; refine pw_skip ?_; refine pw_seq ?_; refine pw_region ?_; refine yZ (cs := [_]) rfl rfl ?_; refine yQ ?_; refine pw_tokb 4 0 pT 2 rfl rfl rfl rfl ?_; refine pw_seq ?_; refine pw_seq ?_
  refine pw_region ?_; refine yMd rfl ?_; refine yC (k1) rfl rfl ?_; refine yQ ?_; refine pw_block ?_
  refine pw_le (st' := ⟨39, [(2, .bx 2 0), (3, .bx 3 0), (4, .bx 4 0), (15, .d (dIt Tryz.prog ((ptsL s).map vPt)))], [(2, [.d (.val (.slice none 0 0))]), (3, [.d (dI 0)]), (4, [.ts pT 2 ((((ptsL s).take 0).filterMap tmS).map dCf)])], [(pT, ((((ptsL s).take 0).filterMap tmS).map dCf).length)]⟩) ⟨rfl, ⟨.refl _, .refl _, .refl _, .refl _, trivial⟩, ⟨⟨_, rfl, lesC_refl _⟩, ⟨_, rfl, lesC_refl _⟩, ⟨_, rfl, lesC_refl _⟩, trivial⟩, ⟨rfl, trivial⟩, rfl⟩ ?_
  refine pw_rf ((ptsL s).map vPt) [(5, 16), (6, 17)] (fun i => ∀ p ∈ (ptsL s).take i, (tmS p).isSome = true)
    (fun i => [(2, [.d (.val (.slice none 0 0))]), (3, [.d (dI 0)]), (4, [.ts pT 2 ((((ptsL s).take i).filterMap tmS).map dCf)])])
    (fun i => [(pT, ((((ptsL s).take i).filterMap tmS).map dCf).length)]) (fun p hp => by simp at hp) hrl rfl (fun x hx => by obtain ⟨p, -, rfl⟩ := List.mem_map.1 hx; rfl) rfl rfl (by decide) ?_ ?_
  · intro i x hx hI
    rw [List.getElem?_map, Option.map_eq_some_iff] at hx
    obtain ⟨⟨neg, t⟩, hp, rfl⟩ := hx
    refine ⟨[.any, .any, .bx 2 0, .bx 3 0, .bx 4 0, .d (dB neg), .d (dS t)], of_decide_eq_true rfl, .any (.any (.keep rfl (.refl _) (.keep rfl (.refl _) (.keep rfl (.refl _) (.new rfl rfl (.new rfl rfl .nil)))))), rfl, rfl, by kernel_rfl, fun B w0 => ?_⟩
    have htl := hpt _ (List.mem_of_getElem? hp)
    simp only at htl
    have k2 := wParseTerm t (by omega)
    have hli := hLl i
    have htk : (ptsL s).take (i + 1) = (ptsL s).take i ++ [(neg, t)] := by rw [List.take_add_one, hp]; rfl
    cases ht : tmP t with
    | none =>
      rw [ht] at k2
      have hok : okT s = false := by
        rw [okT, List.all_eq_false]
        exact ⟨(neg, t), List.mem_of_getElem? hp, by simp [tmS, ht]⟩
      rw [hok, if_neg (by simp)] at hR hE
      subst hR hE
      obtain ⟨l, hl⟩ : ∃ l, l = (((ptsL s).take i).filterMap tmS).map dCf := ⟨_, rfl⟩
      rw [← hl]
      refine pw_block ?_; refine pw_seq ?_; refine pw_region ?_; refine yMd rfl ?_; refine yC (k2) rfl rfl ?_; refine yMp rfl ?_; refine yX rfl rfl ?_; refine yX rfl rfl ?_; refine yZ (cs := [_, _]) rfl rfl ?_
      refine yS (cs' := [_, _]) rfl rfl rfl rfl rfl ?_; refine yAd rfl ?_; refine yQ ?_; refine pw_seq ?_; refine pw_seq ?_; refine pw_region ?_; refine yMd rfl ?_; refine yU rfl rfl rfl ?_; refine yQ ?_; refine pw_ct rfl ?_
      refine pw_seq ?_; refine pw_region ?_; refine ySd (cs' := [_]) rfl rfl rfl rfl ?_; refine ySd (cs' := [_]) rfl rfl rfl rfl ?_; refine yQ ?_; refine pw_ret ?_; refine q_then_ret ?_; refine q_blk_ret ?_
      exact ⟨[(2, [.d (.val (.slice none 0 0))]), (3, [.d (dI 3)]), (4, [.ts pT 2 l])], [(pT, l.length)], ⟨rfl, rfl, rfl, trivial⟩, ⟨rfl, trivial⟩, rfl, rfl, by kernel_rfl, q_ret _ (.onil 2 inferInstance rfl rfl (.one inferInstance rfl rfl rfl .nil)) rfl⟩
    | some c =>
      obtain ⟨c0, c1⟩ := c
      rw [ht] at k2
      have hcl := tmP_len ht
      simp only at hcl
      cases neg with
      | false =>
        have hnx : ((ptsL s).take (i + 1)).filterMap tmS = ((ptsL s).take i).filterMap tmS ++ [(c0, c1)] := by rw [htk, List.filterMap_append]; simp [tmS, ht]
        have hI2 : ∀ p ∈ (ptsL s).take (i + 1), (tmS p).isSome = true := fun p hp2 => by
          rw [htk] at hp2
          rcases List.mem_append.1 hp2 with h | h
          · exact hI p h
          · rw [List.mem_singleton.1 h]; simp [tmS, ht]
        obtain ⟨zs, hz⟩ : ∃ z, z = ((ptsL s).take i).filterMap tmS := ⟨_, rfl⟩
        rw [← hz] at hnx hli ⊢
        clear hz
        refine pw_block ?_; refine pw_seq ?_; refine pw_region ?_; refine yMd rfl ?_; refine yC (k2) rfl rfl ?_; refine yMp rfl ?_; refine yX rfl rfl ?_; refine yX rfl rfl ?_; refine yZ (cs := [_, _]) rfl rfl ?_
        refine yS (cs' := [_, _]) rfl rfl rfl rfl rfl ?_; refine yAd rfl ?_; refine yQ ?_; refine pw_seq ?_; refine pw_seq ?_; refine pw_region ?_; refine yMd rfl ?_; refine yU rfl rfl rfl ?_; refine yQ ?_; refine pw_cf rfl ?_
        refine pw_skip ?_; refine pw_seq ?_; refine pw_seq ?_; refine pw_region ?_; refine yMd rfl ?_; refine yQ ?_; refine pw_cf rfl ?_; refine pw_skip ?_; refine pw_region ?_; refine yLt rfl rfl rfl ?_
        refine yLa (ys := [_, _]) rfl rfl rfl rfl ?_; refine yR (es := [[_, _]]) rfl rfl rfl rfl rfl ?_
        refine yT (es' := (zs ++ [(c0, c1)]).map dCf) (m := ((zs ++ [(c0, c1)]).map dCf).length) (by simp; omega) (by simp; omega) rfl rfl rfl rfl rfl (by simp) (by simp) ?_; refine ySt (cs' := [_]) rfl rfl rfl rfl ?_; refine yQ ?_
        refine q_blk ?_
        exact ⟨hI2, ⟨rfl, rfl, (by rw [hnx]; rfl), trivial⟩, ⟨(by rw [hnx]; rfl), trivial⟩⟩
      | true =>
        have hnx : ((ptsL s).take (i + 1)).filterMap tmS = ((ptsL s).take i).filterMap tmS ++ [(c0, canon (- val c1))] := by rw [htk, List.filterMap_append]; simp [tmS, ht]
        have hI2 : ∀ p ∈ (ptsL s).take (i + 1), (tmS p).isSome = true := fun p hp2 => by
          rw [htk] at hp2
          rcases List.mem_append.1 hp2 with h | h
          · exact hI p h
          · rw [List.mem_singleton.1 h]; simp [tmS, ht]
        have k3 := wNegT c1 (by omega)
        obtain ⟨zs, hz⟩ : ∃ z, z = ((ptsL s).take i).filterMap tmS := ⟨_, rfl⟩
        obtain ⟨q, hq⟩ : ∃ z, z = canon (- val c1) := ⟨_, rfl⟩
        rw [← hz, ← hq] at hnx
        rw [← hz] at hli ⊢
        rw [← hq] at k3
        clear hz hq
        refine pw_block ?_; refine pw_seq ?_; refine pw_region ?_; refine yMd rfl ?_; refine yC (k2) rfl rfl ?_; refine yMp rfl ?_; refine yX rfl rfl ?_; refine yX rfl rfl ?_; refine yZ (cs := [_, _]) rfl rfl ?_
        refine yS (cs' := [_, _]) rfl rfl rfl rfl rfl ?_; refine yAd rfl ?_; refine yQ ?_; refine pw_seq ?_; refine pw_seq ?_; refine pw_region ?_; refine yMd rfl ?_; refine yU rfl rfl rfl ?_; refine yQ ?_; refine pw_cf rfl ?_
        refine pw_skip ?_; refine pw_seq ?_; refine pw_seq ?_; refine pw_region ?_; refine yMd rfl ?_; refine yQ ?_; refine pw_ct rfl ?_; refine pw_region ?_; refine yFb rfl ?_; refine yLd rfl rfl rfl ?_; refine yC (k3) rfl rfl ?_
        refine yFb rfl ?_; refine ySd (cs' := [_, _]) rfl rfl rfl rfl ?_; refine yQ ?_; refine pw_region ?_; refine yLt rfl rfl rfl ?_; refine yLa (ys := [_, _]) rfl rfl rfl rfl ?_; refine yR (es := [[_, _]]) rfl rfl rfl rfl rfl ?_
        refine yT (es' := (zs ++ [(c0, q)]).map dCf) (m := ((zs ++ [(c0, q)]).map dCf).length) (by simp; omega) (by simp; omega) rfl rfl rfl rfl rfl (by simp) (by simp) ?_; refine ySt (cs' := [_]) rfl rfl rfl rfl ?_; refine yQ ?_
        refine q_blk ?_
        exact ⟨hI2, ⟨rfl, rfl, (by rw [hnx]; rfl), trivial⟩, ⟨(by rw [hnx]; rfl), trivial⟩⟩
  · intro hI
    rw [List.length_map, List.take_length] at hI
    have hok : okT s = true := List.all_eq_true.2 hI
    rw [hok, if_pos rfl] at hR hE
    rw [List.length_map, List.take_length]
    show QBlock 0 _ .normal ⟨39, _, [(2, [.d (.val (.slice none 0 0))]), (3, [.d (dI 0)]), (4, [.ts pT 2 ((lsT s).map dCf)])], [(pT, ((lsT s).map dCf).length)]⟩
    have hll : (lsT s).length ≤ 901 := by have := hLl (ptsL s).length; rwa [List.take_length] at this
    by_cases h3 : 16 < (lsT s).length
    · have t2 : decide ((((lsT s).map dCf).length : Int) > 16) = true := decide_eq_true (by rw [List.length_map]; omega)
      rw [if_pos h3] at hR hE
      subst hR hE
      obtain ⟨l, hl⟩ : ∃ l, l = (lsT s).map dCf := ⟨_, rfl⟩
      rw [← hl] at t2 ⊢
      refine pw_seq ?_; refine pw_seq ?_; refine pw_region ?_; refine yLt rfl rfl rfl ?_; refine yN rfl ?_; refine yB rfl rfl rfl rfl ?_; refine yQ ?_; refine q_then ?_; rw [t2]; refine pw_ct rfl ?_; refine pw_seq ?_; refine pw_region ?_
      refine ySd (cs' := [_]) rfl rfl rfl rfl ?_; refine ySd (cs' := [_]) rfl rfl rfl rfl ?_; refine yQ ?_; refine pw_ret ?_; refine q_then_ret ?_
      exact q_ret _ (.onil 2 inferInstance rfl rfl (.one inferInstance rfl rfl rfl .nil)) rfl
    · have t2 : decide ((((lsT s).map dCf).length : Int) > 16) = false := decide_eq_false (by rw [List.length_map]; omega)
      rw [if_neg h3] at hR hE
      subst hE
      have hm : ∀ c ∈ lsT s, nmB c.1 = true ∧ c.2.length ≤ 1000 := fun c hc => by
        obtain ⟨p, hp, h4⟩ := List.mem_filterMap.1 hc
        have h5 := tmS_len h4
        have h6 := hpt p hp
        exact ⟨h5.1, by omega⟩
      have k4 := wNormalI (lsT s) (by omega) (fun c hc => by have := nmB_len (hm c hc).1; omega) (fun c hc => (hm c hc).2)
      rw [← hR] at k4
      obtain ⟨l, hl⟩ : ∃ l, l = (lsT s).map dCf := ⟨_, rfl⟩
      rw [← hl] at t2 k4 ⊢
      refine pw_seq ?_; refine pw_seq ?_; refine pw_region ?_; refine yLt rfl rfl rfl ?_; refine yN rfl ?_; refine yB rfl rfl rfl rfl ?_; refine yQ ?_; refine q_then ?_; rw [t2]; refine pw_cf rfl ?_; refine pw_skip ?_; refine pw_seq ?_
      refine pw_region ?_; refine yLt rfl rfl rfl ?_; refine yC (k4) rfl rfl ?_; refine ySl (cs' := [_]) rfl rfl rfl rfl ?_; refine ySd (cs' := [_]) rfl rfl rfl rfl ?_; refine yQ ?_; refine pw_ret ?_
      exact q_ret _ (.one inferInstance rfl rfl rfl (.one inferInstance rfl rfl rfl .nil)) rfl
theorem wParse (s : Str) (hs : s.length ≤ 900) : PCalls Tryz.prog 34 [dS s] (.tup [.sl 2 ((paR s).map dCf), dI (paE s)]) := by
  obtain ⟨hpl, hpt⟩ := ptsL_len s
  exact wParseG s (by omega) (by omega) fun p hp => Nat.le_trans (hpt p hp) hs
end Go.Proofs.YtmfeinilbjfnpaaGreatDoor
namespace Go.Proofs.YtmfeinilbjfnpaaGreatDoor
open Go.RowKit Px

def okD (d : Str) : Bool := d.all isD && (!(d == []) && !(decide (d.head? = some 48) && !(d == [48])))
/-- what the reference's term returns -/
def rtm (t : Str) : Cf × Bool := if ctB 42 t then (if okD (ctT 42 t) then ((ctR 42 t, canon (val (ctT 42 t))), nmB (ctR 42 t)) else ((t, [49]), false)) else ((t, [49]), nmB t)
theorem cutB_none {c : UInt8} {s : Str} (h : ∀ x ∈ s, x ≠ c) : cutB c s = none := by
  induction s with
  | nil => rfl
  | cons b l ih => rw [cutB, if_neg (h b (List.mem_cons_self ..)), ih fun x hx => h x (List.mem_cons_of_mem _ hx)]; rfl
theorem cutB_at {c : UInt8} {s : Str} {i : Nat} (h : ∀ x ∈ s.take i, x ≠ c) (hi : s[i]? = some c) : cutB c s = some (s.take i, s.drop (i + 1)) := by
  induction i generalizing s with
  | zero =>
    cases s with
    | nil => cases hi
    | cons b l =>
      have : b = c := by simpa using hi
      rw [cutB, if_pos this]; rfl
  | succ i ih =>
    cases s with
    | nil => cases hi
    | cons b l =>
      rw [cutB, if_neg (h b (by simp)), ih (fun x hx => h x (by simp [hx])) (by simpa using hi)]
      rfl
end Go.Proofs.YtmfeinilbjfnpaaGreatDoor
namespace Go.Proofs.YtmfeinilbjfnpaaGreatDoor
open Go.RowKit Px

theorem prT_okD {d : Str} : okD d = true ↔ prT d = d ∧ d.head? ≠ some 45 := by
  constructor
  · intro h
    unfold okD at h
    simp only [Bool.and_eq_true] at h
    obtain ⟨h1, h2, h3⟩ := h
    cases d with
    | nil => simp at h2
    | cons x l =>
    have hx : isD x = true := by rw [List.all_cons, Bool.and_eq_true] at h1; exact h1.1
    have hx45 : (x :: l).head? ≠ some 45 := fun e => by
      have e : x = 45 := by simpa using e
      rw [e] at hx
      cases hx
    refine ⟨?_, hx45⟩
    by_cases h48 : x :: l = [48]
    · rw [h48]; kernel_rfl
    have hx48 : x ≠ 48 := fun e => by
      rw [e] at h3 h48
      rw [show ((48 :: l : Str) == [48]) = false by simpa using h48] at h3
      simp at h3
    have hb : bod (x :: l) = x :: l := by rw [bod, if_neg hx45]
    have hg : dgs (x :: l) = (x :: l, false) := by
      unfold dgs
      rw [hb, if_pos h1, List.dropWhile_cons, if_neg (by simpa using hx48), decide_eq_false hx45]
      rfl
    have hc : canon (val (x :: l)) = x :: l := by rw [canon_val, hg]; rfl
    unfold prT
    rw [hc, if_neg (by simp)]
  · rintro ⟨h1, h2⟩
    unfold prT at h1
    split at h1
    · rw [← h1]; rfl
    · rename_i hne
      rw [canon_val] at h1
      split at h1
      · rw [← h1] at h2; simp at h2
      · have ha := dgs_all d
        have hh := dgs_head d
        rw [h1] at ha hh
        have hne2 : d ≠ [] := fun e => hne (by rw [e]; kernel_rfl)
        unfold okD
        rw [ha, decide_eq_false hh]
        simpa using hne2
/-- what remains of a text: what comes of it -/
def finP (l : List (Bool × Str)) (zs : List Cf) : Int × List Cf := if l.all (fun p => (tmS p).isSome) then (if 16 < (zs ++ l.filterMap tmS).length then (4, []) else (0, nf (zs ++ l.filterMap tmS))) else (3, [])
theorem finP_paE (s : Str) (h0 : s ≠ [48]) : finP (ptsL s) [] = (paE s, paR s) := by
  rw [paE, paR, if_neg h0, if_neg h0]
  show (if okT s = true then (if 16 < ([] ++ lsT s).length then ((4 : Int), ([] : List Cf)) else (0, nf ([] ++ lsT s))) else (3, [])) = _
  rw [List.nil_append]
  by_cases h : okT s = true
  · rw [if_pos h, if_pos h, if_pos h]
    by_cases h2 : 16 < (lsT s).length
    · rw [if_pos h2, if_pos h2, if_pos h2]
    · rw [if_neg h2, if_neg h2, if_neg h2]
  · rw [if_neg h, if_neg h, if_neg h]
theorem ct_cons2 {a : UInt8} {X : Str} (h : a ≠ 32) : ctT 32 (a :: 32 :: X) = [a] ∧ ctR 32 (a :: 32 :: X) = X := by
  have : cutB 32 (a :: 32 :: X) = some ([a], X) := by rw [cutB, if_neg h, cutB, if_pos rfl]; rfl
  rw [ctT, ctR, this]
  exact ⟨rfl, rfl⟩
end Go.Proofs.YtmfeinilbjfnpaaGreatDoor
namespace Go.Proofs.YtmfeinilbjfnpaaGreatDoor
open Go.RowKit Px

theorem nf_ne {e : List Cf} {p : Cf} (h : p ∈ nf e) : p.2 ≠ [] := fun h0 => ((nf_mem e p).1 h).1 (by
  have h1 := ((nf_mem e p).1 h).2
  rw [h0] at h1
  have h2 := congrArg val h1
  rw [val_canon] at h2
  have h3 : val [] = (0 : Int) := by kernel_rfl
  exact h2.symm.trans h3)
theorem prT_abs {f : Str} (h : isC f = true) (h0 : f ≠ []) : prT (absS f) = absS f := by
  have hc := (isC_eq h)
  have hv : val f ≠ 0 := fun e => h0 (by rw [← hc, e]; exact canon_zero)
  have h1 : canon (val (absS f)) = absS f := by
    unfold absS
    split
    · rw [val_canon]
    · exact hc
  have h2 : absS f ≠ [] := fun e => by
    unfold absS at e
    split at e
    · have := congrArg val e
      rw [val_canon, show val [] = 0 by kernel_rfl] at this
      omega
    · exact h0 e
  unfold prT
  rw [h1, if_neg h2]
end Go.Proofs.YtmfeinilbjfnpaaGreatDoor
namespace Go.Proofs.YtmfeinilbjfnpaaGreatDoor
open Go.RowKit Px

/-- a factor without its sign: the digits of a number -/
theorem absS_dec {f : Str} (h : isC f = true) (h0 : f ≠ []) : absS f = dec (val f).natAbs ∧ absS f ≠ [] := by
  have hc := isC_eq h
  have hv : val f ≠ 0 := fun e => h0 (by rw [← hc, e]; exact canon_zero)
  have h1 : absS f = dec (val f).natAbs := by
    unfold absS
    split
    · rename_i h2
      rw [canon, if_neg (by omega), Int.natAbs_neg]
    · rename_i h2
      rw [← hc, val_canon, canon, if_neg h2]
  refine ⟨h1, fun e => ?_⟩
  rw [h1] at e
  have h2 := natOf_dec (val f).natAbs
  rw [e] at h2
  have h3 : natOf [] = 0 := rfl
  omega
theorem absS_isD {f : Str} (h : isC f = true) (h0 : f ≠ []) : ∀ x ∈ absS f, isD x = true := by
  rw [(absS_dec h h0).1]
  exact List.all_eq_true.1 (dec_all _)
theorem absS_ok {f : Str} (h : isC f = true) (h0 : f ≠ []) : okD (absS f) = true := by
  obtain ⟨h1, h2⟩ := absS_dec h h0
  unfold okD
  have h3 : (absS f).head? ≠ some 48 := by rw [h1]; exact dec_head _
  have h4 : (absS f).all isD = true := List.all_eq_true.2 (absS_isD h h0)
  rw [h4, decide_eq_false h3]
  simpa using h2
theorem absS_val {f : Str} (h : isC f = true) : (if val f < 0 then canon (- val (absS f)) else absS f) = f := by
  have hc := isC_eq h
  unfold absS
  split
  · rw [val_canon, Int.neg_neg]; exact hc
  · rfl
/-- the text of a term without its sign -/
def pcT (c : Cf) : Str := facS (absS c.2) ++ c.1
abbrev pcS (c : Cf) : Bool × Str := (decide (val c.2 < 0), pcT c)
def tlT : List Cf → Str
  | [] => []
  | c :: l => (if val c.2 < 0 then [32, 45, 32] else [32, 43, 32]) ++ (pcT c ++ tlT l)
theorem tlT_app (l : List Cf) (c : Cf) : tlT (l ++ [c]) = tlT l ++ ((if val c.2 < 0 then [32, 45, 32] else [32, 43, 32]) ++ pcT c) := by
  induction l with
  | nil => simp [tlT]
  | cons d l ih => rw [List.cons_append, tlT, ih, tlT]; simp
theorem prI_tl (c : Cf) (l : List Cf) : ∀ i, i ≤ l.length → prI (c :: l) (i + 1) = (if val c.2 < 0 then [45] else []) ++ (pcT c ++ tlT (l.take i))
  | 0, _ => by
    rw [prI]
    show prI (c :: l) 0 ++ prS 0 c = _
    rw [prI, prS, sepS, if_pos rfl]
    simp [tlT, pcT]
  | i + 1, h => by
    obtain ⟨d, hd⟩ : ∃ d, l[i]? = some d := ⟨_, List.getElem?_eq_getElem (by omega)⟩
    have hd2 : (c :: l)[i + 1]? = some d := by simpa using hd
    rw [prI, hd2]
    show prI (c :: l) (i + 1) ++ prS (i + 1) d = _
    rw [prI_tl c l i (by omega), List.take_add_one, hd, Option.toList, tlT_app, prS, sepS, if_neg (Nat.succ_ne_zero i)]
    simp [pcT]
theorem prI_all (c : Cf) (l : List Cf) : prI (c :: l) (c :: l).length = (if val c.2 < 0 then [45] else []) ++ (pcT c ++ tlT l) := by
  rw [List.length_cons, prI_tl c l l.length (Nat.le_refl _), List.take_length]

/-- a good term -/
def gdC (c : Cf) : Prop := nmB c.1 = true ∧ isC c.2 = true ∧ c.2 ≠ []
theorem nmB_no {s : Str} (h : nmB s = true) : ∀ x ∈ s, isN x = true := by
  unfold nmB nameB at h
  simp only [Bool.and_eq_true, List.all_eq_true] at h
  exact h.1.2
theorem isN_ne {x : UInt8} (h : isN x = true) : x ≠ 32 ∧ x ≠ 42 ∧ x ≠ 45 := by
  refine ⟨?_, ?_, ?_⟩ <;> rintro rfl <;> simp [isN, isD] at h
theorem isD_ne {x : UInt8} (h : isD x = true) : x ≠ 32 ∧ x ≠ 42 ∧ x ≠ 45 := by
  refine ⟨?_, ?_, ?_⟩ <;> rintro rfl <;> simp [isD] at h
theorem pcT_eq {c : Cf} (h : gdC c) : pcT c = (if absS c.2 = [49] then [] else absS c.2 ++ [42]) ++ c.1 := by
  rw [pcT, facS, prT_abs h.2.1 h.2.2]
theorem pcT_no32 {c : Cf} (h : gdC c) : ∀ x ∈ pcT c, x ≠ 32 := by
  rw [pcT_eq h]
  intro x hx
  rcases List.mem_append.1 hx with h1 | h1
  · split at h1
    · cases h1
    · rcases List.mem_append.1 h1 with h2 | h2
      · exact (isD_ne (absS_isD h.2.1 h.2.2 x h2)).1
      · rw [List.mem_singleton.1 h2]; decide
  · exact (isN_ne (nmB_no h.1 x h1)).1
theorem nmB_cons {s : Str} (h : nmB s = true) : ∃ x l, s = x :: l := by
  cases s with
  | nil => simp [nmB, nameB] at h
  | cons x l => exact ⟨x, l, rfl⟩
theorem pcT_head {c : Cf} (h : gdC c) : ∃ x l, pcT c = x :: l ∧ x ≠ 45 := by
  rw [pcT_eq h]
  split
  · obtain ⟨x, l, e⟩ := nmB_cons h.1
    exact ⟨x, l, by rw [e]; rfl, (isN_ne (nmB_no h.1 x (by rw [e]; exact List.mem_cons_self ..))).2.2⟩
  · cases e : absS c.2 with
    | nil => exact absurd e (absS_dec h.2.1 h.2.2).2
    | cons x l => exact ⟨x, _, rfl, (isD_ne (absS_isD h.2.1 h.2.2 x (by rw [e]; exact List.mem_cons_self ..))).2.2⟩
theorem tmP_pcT {c : Cf} (h : gdC c) : tmP (pcT c) = some (c.1, absS c.2) := by
  rw [pcT_eq h]
  have hn42 : ∀ x ∈ c.1, x ≠ 42 := fun x hx => (isN_ne (nmB_no h.1 x hx)).2.1
  by_cases h1 : absS c.2 = [49]
  · rw [if_pos h1, List.nil_append, h1, tmP, ctB, cutB_none hn42]
    show tmR [49] c.1 = _
    have e1 : prT [49] = [49] := by kernel_rfl
    have e2 : canon (val [49]) = [49] := by kernel_rfl
    rw [tmR, if_pos ⟨e1, by simp, h.1⟩, e2]
  · rw [if_neg h1]
    obtain ⟨q1, q2⟩ := prT_okD.1 (absS_ok h.2.1 h.2.2)
    have hd : ∀ x ∈ absS c.2, x ≠ 42 := fun x hx => (isD_ne (absS_isD h.2.1 h.2.2 x hx)).2.1
    have hcut : cutB 42 (absS c.2 ++ [42] ++ c.1) = some (absS c.2, c.1) := by
      have := cutB_at (c := 42) (s := absS c.2 ++ [42] ++ c.1) (i := (absS c.2).length) (by simpa using hd) (by simp)
      rw [this]
      simp
    have hc : canon (val (absS c.2)) = absS c.2 := by
      have h3 : isC (absS c.2) = true := by
        unfold absS
        split
        · exact isC_canon _
        · exact h.2.1
      exact isC_eq h3
    rw [tmP, ctB, ctT, ctR, hcut]
    show tmR (absS c.2) c.1 = _
    rw [tmR, if_pos ⟨q1, q2, h.1⟩, hc]
theorem tmS_pcS {c : Cf} (h : gdC c) : tmS (pcS c) = some c := by
  unfold tmS
  rw [tmP_pcT h]
  have h1 := absS_val h.2.1
  show some (if decide (val c.2 < 0) = true then (c.1, canon (- val (absS c.2))) else (c.1, absS c.2)) = _
  by_cases h2 : val c.2 < 0
  · rw [if_pos h2] at h1
    rw [if_pos (by simpa using h2), h1]
  · rw [if_neg h2] at h1
    rw [if_neg (by simpa using h2), h1]
theorem ct_app {p : Str} (h : ∀ x ∈ p, x ≠ 32) (R : Str) : ctB 32 (p ++ 32 :: R) = true ∧ ctT 32 (p ++ 32 :: R) = p ∧ ctR 32 (p ++ 32 :: R) = R := by
  have : cutB 32 (p ++ 32 :: R) = some (p, R) := by
    have := cutB_at (c := 32) (s := p ++ 32 :: R) (i := p.length) (by simpa using h) (by simp)
    rw [this]
    simp
  rw [ctB, ctT, ctR, this]
  exact ⟨rfl, rfl, rfl⟩
theorem parL_tl : ∀ (l : List Cf) (c : Cf), (∀ d ∈ c :: l, gdC d) → ∀ b, parL b (pcT c ++ tlT l) = (b, pcT c) :: l.map pcS
  | [], c, h, b => by
    have h1 := pcT_no32 (h c (List.mem_cons_self ..))
    rw [tlT, List.append_nil, parL_eq, ctB, ctT, cutB_none h1]
    rfl
  | d :: l, c, h, b => by
    have h1 := pcT_no32 (h c (List.mem_cons_self ..))
    have ih := parL_tl l d fun x hx => h x (List.mem_cons_of_mem _ hx)
    by_cases h2 : val d.2 < 0
    · have e : pcT c ++ tlT (d :: l) = pcT c ++ 32 :: (45 :: 32 :: (pcT d ++ tlT l)) := by rw [tlT, if_pos h2]; rfl
      obtain ⟨e1, e2, e3⟩ := ct_app h1 (45 :: 32 :: (pcT d ++ tlT l))
      obtain ⟨e4, e5⟩ := ct_cons2 (a := 45) (X := pcT d ++ tlT l) (by decide)
      rw [e, parL_eq, e1, e2, e3, e4, e5, if_pos rfl, if_pos (.inr rfl), ih, List.map_cons]
      show _ :: (true, pcT d) :: _ = _ :: (decide (val d.2 < 0), pcT d) :: _
      rw [decide_eq_true h2]
    · have e : pcT c ++ tlT (d :: l) = pcT c ++ 32 :: (43 :: 32 :: (pcT d ++ tlT l)) := by rw [tlT, if_neg h2]; rfl
      obtain ⟨e1, e2, e3⟩ := ct_app h1 (43 :: 32 :: (pcT d ++ tlT l))
      obtain ⟨e4, e5⟩ := ct_cons2 (a := 43) (X := pcT d ++ tlT l) (by decide)
      rw [e, parL_eq, e1, e2, e3, e4, e5, if_pos rfl, if_pos (.inl rfl), ih, List.map_cons]
      show _ :: (false, pcT d) :: _ = _ :: (decide (val d.2 < 0), pcT d) :: _
      rw [decide_eq_false h2]
/-- the terms of a text -/
theorem ptsL_pr {n : List Cf} (h : ∀ c ∈ n, gdC c) (h0 : n ≠ []) : ptsL (prI n n.length) = n.map pcS := by
  cases n with
  | nil => exact absurd rfl h0
  | cons c l =>
    obtain ⟨x, t, e, hx⟩ := pcT_head (h c (List.mem_cons_self ..))
    rw [prI_all, ptsL, List.map_cons]
    have hp := parL_tl l c h
    by_cases h2 : val c.2 < 0
    · rw [if_pos h2]
      show parL true (pcT c ++ tlT l) = _
      rw [hp]
      show _ = (decide (val c.2 < 0), pcT c) :: _
      rw [decide_eq_true h2]
    · rw [if_neg h2, List.nil_append]
      have e1 : cpB 45 (pcT c ++ tlT l) = false := by rw [e]; simpa [cpB] using hx
      have e2 : cpS 45 (pcT c ++ tlT l) = pcT c ++ tlT l := by rw [e, List.cons_append, cpS, if_neg hx]
      rw [e1, e2, hp]
      show _ = (decide (val c.2 < 0), pcT c) :: _
      rw [decide_eq_false h2]
theorem ls_map {n : List Cf} (h : ∀ c ∈ n, gdC c) : (n.map pcS).all (fun p => (tmS p).isSome) = true ∧ (n.map pcS).filterMap tmS = n := by
  induction n with
  | nil => exact ⟨rfl, rfl⟩
  | cons c l ih =>
    obtain ⟨h1, h2⟩ := ih fun d hd => h d (List.mem_cons_of_mem _ hd)
    have h3 := tmS_pcS (h c (List.mem_cons_self ..))
    rw [List.map_cons, List.all_cons, List.filterMap_cons, h3, h1, h2]
    exact ⟨rfl, rfl⟩
theorem gd_nf {e : List Cf} (h : ∀ c ∈ e, nmB c.1 = true) : ∀ c ∈ nf e, gdC c := fun p hp => by
  obtain ⟨c, hc, q⟩ := nf_name hp
  exact ⟨by rw [← q]; exact h c hc, nf_isC hp, nf_ne hp⟩
theorem pr_no48 {n : List Cf} (h : ∀ c ∈ n, gdC c) (h0 : n ≠ []) : prI n n.length ≠ [48] := fun e => by
  have h1 := ptsL_pr h h0
  rw [e] at h1
  cases n with
  | nil => exact h0 rfl
  | cons c l =>
    have h2 := tmS_pcS (h c (List.mem_cons_self ..))
    have h3 : ptsL [48] = [(false, [48])] := by kernel_rfl
    rw [h3, List.map_cons] at h1
    have h4 : (false, [48]) = pcS c := (List.cons.inj h1).1
    rw [← h4] at h2
    have h5 : tmS (false, [48]) = none := by kernel_rfl
    rw [h5] at h2
    cases h2
/-- the text of a normal form is read as that normal form -/
theorem pa_pr {e : List Cf} (h : ∀ c ∈ e, nmB c.1 = true) (hl : (nf e).length ≤ 16) (h0 : nf e ≠ []) : paE (prI (nf e) (nf e).length) = 0 ∧ paR (prI (nf e) (nf e).length) = nf e := by
  have hg := gd_nf h
  have h1 := ptsL_pr hg h0
  have h2 := pr_no48 hg h0
  obtain ⟨h3, h4⟩ := ls_map hg
  have h5 := finP_paE _ h2
  rw [h1] at h5
  unfold finP at h5
  rw [h3, if_pos rfl, List.nil_append, h4, if_neg (by omega), nf_nf] at h5
  exact ⟨(congrArg Prod.fst h5).symm, (congrArg Prod.snd h5).symm⟩
theorem paV {e : List Cf} (h : chE e = 0) : paE (prV e) = 0 ∧ paR (prV e) = nf e := by
  obtain ⟨h1, h2⟩ := chE_zero.1 h
  rw [prV, if_pos h]
  by_cases h0 : nf e = []
  · rw [if_pos h0, h0, paE, paR, if_pos rfl, if_pos rfl]
    exact ⟨rfl, rfl⟩
  · rw [if_neg h0]
    exact pa_pr (fun c hc => (h2 c hc).1) (Nat.le_trans (nf_len e) h1) h0
theorem pcT_len {c : Cf} (h : gdC c) {B : Nat} (hB : c.2.length ≤ B) : (pcT c).length ≤ B + 18 := by
  have h1 := nmB_len h.1
  have h2 := absS_len hB
  rw [pcT_eq h]
  split
  · rw [List.length_append]; simp; omega
  · rw [List.length_append, List.length_append]; simp; omega
/-- what the walk of Parse asks of a printed text -/
theorem pts_prV {e : List Cf} (h : chE e = 0) {B : Nat} (hB : ∀ c ∈ nf e, c.2.length ≤ B) (hB2 : B ≤ 800) : (prV e).length ≤ 60000 ∧ (ptsL (prV e)).length ≤ 901 ∧ ∀ p ∈ ptsL (prV e), p.2.length ≤ 900 := by
  obtain ⟨h1, h2⟩ := chE_zero.1 h
  have h3 := nf_len e
  have hg := gd_nf fun c hc => (h2 c hc).1
  rw [prV, if_pos h]
  by_cases h0 : nf e = []
  · rw [if_pos h0]
    have h3 : ptsL [48] = [(false, [48])] := by kernel_rfl
    rw [h3]
    exact ⟨by simp, by simp, fun p hp => by rw [List.mem_singleton.1 hp]; simp⟩
  · rw [if_neg h0]
    refine ⟨?_, ?_, ?_⟩
    · have := prI_len (n := nf e) (fun c hc => ⟨by have := hB c hc; omega, nmB_len (hg c hc).1⟩) (nf e).length
      omega
    · rw [ptsL_pr hg h0, List.length_map]; omega
    · rw [ptsL_pr hg h0]
      intro p hp
      obtain ⟨c, hc, rfl⟩ := List.mem_map.1 hp
      have := pcT_len (hg c hc) (hB c hc)
      show (pcT c).length ≤ 900
      omega
/-- what can be read -/
theorem pa_ok {s : Str} (h : paE s = 0) : chE (paR s) = 0 ∧ nf (paR s) = paR s := by
  unfold paE at h
  unfold paR
  split
  · exact ⟨rfl, by kernel_rfl⟩
  · rename_i h0
    rw [if_neg h0] at h
    by_cases h1 : okT s = true
    · rw [if_pos h1] at h ⊢
      by_cases h2 : 16 < (lsT s).length
      · rw [if_pos h2] at h; omega
      · rw [if_neg h2]
        refine ⟨chE_zero.2 ⟨Nat.le_trans (nf_len _) (by omega), fun c hc => ⟨?_, nf_isC hc⟩⟩, nf_nf _⟩
        obtain ⟨d, hd, q⟩ := nf_name hc
        obtain ⟨p, -, h4⟩ := List.mem_filterMap.1 hd
        rw [← q]
        exact (tmS_len h4).1
    · rw [if_neg h1] at h; omega
theorem pa_len {s : Str} (hs : s.length ≤ 300) : (paR s).length ≤ 16 ∧ ∀ c ∈ paR s, c.2.length ≤ 340 := by
  unfold paR
  split
  · exact ⟨by simp, fun c hc => by cases hc⟩
  · split
    · split
      · exact ⟨by simp, fun c hc => by cases hc⟩
      · rename_i h2
        have h3 : (lsT s).length ≤ 16 := by omega
        refine ⟨Nat.le_trans (nf_len _) h3, fun c hc => ?_⟩
        have := nf_flen (e := lsT s) (B := 302) (fun d hd => by
          obtain ⟨p, hp, h4⟩ := List.mem_filterMap.1 hd
          have h5 := (tmS_len h4).2
          have h6 := (ptsL_len s).2 p hp
          omega) hc
        omega
    · exact ⟨by simp, fun c hc => by cases hc⟩
theorem pa_bad {s : Str} (h : paE s ≠ 0) : paR s = [] := by
  unfold paE at h
  unfold paR
  split
  · rfl
  · rename_i h0
    rw [if_neg h0] at h
    split
    · rename_i h1
      rw [if_pos h1] at h
      split
      · rfl
      · rename_i h2
        rw [if_neg h2] at h
        exact absurd rfl h
    · rfl
end Go.Proofs.YtmfeinilbjfnpaaGreatDoor
namespace Go.Proofs.YtmfeinilbjfnpaaGreatDoor
open Go.RowKit Px

set_option maxRecDepth 20000 in
set_option maxHeartbeats 8000000 in
theorem lawBack (e : List Cf) (s : Str) : PCalls Tryz.prog 10 [.sl 2 (e.map dCf), dS s] (.d (dB true)) := by
  have k0 := wAwake
  have k1 := wGreatE [e] (by simp)
  simp only [List.map_cons, List.map_nil] at k1
  cases hg : [e].any bigE with
  | true =>
    rw [hg] at k1
    refine pcalls_of_pw Tryz.func10 rfl Tryz.ntmps10 Tryz.results10 (by simp) fun B w0 => ?_
    refine pw_seq ?_; refine pw_region ?_; refine yAd rfl ?_; refine yQ ?_; refine pw_seq ?_; refine pw_seq ?_; refine pw_region ?_; refine yMd rfl ?_; refine yR (es := [[_]]) rfl rfl rfl rfl rfl ?_; refine yC (k1) rfl rfl ?_
    refine yMd rfl ?_; refine yO rfl ?_; refine yO rfl ?_; refine yO rfl ?_; refine yPd rfl rfl ?_; refine yQ ?_; refine pw_ct rfl ?_; refine pw_seq ?_; refine pw_region ?_; refine yC (k0) rfl rfl ?_; refine yAd rfl ?_; refine yQ ?_
    refine pw_ret ?_; refine q_then_ret ?_
    exact q_ret _ (.tmp rfl .nil) rfl
  | false =>
  rw [hg] at k1
  simp only [List.any_cons, List.any_nil, Bool.or_eq_false_iff] at hg
  obtain ⟨g1, -⟩ := hg
  obtain ⟨a1, -, a2⟩ := bigE_small g1
  by_cases hn : 300 < s.length
  · have t0 : decide ((s.length : Int) > 300) = true := decide_eq_true (by omega)
    refine pcalls_of_pw Tryz.func10 rfl Tryz.ntmps10 Tryz.results10 (by simp) fun B w0 => ?_
    refine pw_seq ?_; refine pw_region ?_; refine yAd rfl ?_; refine yQ ?_; refine pw_seq ?_; refine pw_seq ?_; refine pw_region ?_; refine yMd rfl ?_; refine yR (es := [[_]]) rfl rfl rfl rfl rfl ?_; refine yC (k1) rfl rfl ?_
    refine yMd rfl ?_; refine yMd rfl ?_; refine yNs rfl ?_; refine yB rfl rfl rfl rfl ?_; refine yVd rfl rfl ?_; refine yQ ?_; refine q_then ?_; rw [t0]; refine pw_ct rfl ?_; refine pw_seq ?_; refine pw_region ?_
    refine yC (k0) rfl rfl ?_; refine yAd rfl ?_; refine yQ ?_; refine pw_ret ?_; refine q_then_ret ?_
    exact q_ret _ (.tmp rfl .nil) rfl
  have t0 : decide ((s.length : Int) > 300) = false := decide_eq_false (by omega)
  have hf : ∀ c ∈ e, c.2.length ≤ 20 := fun c hc => (a2 c hc).2
  have m1 := wPrintE e (by omega) fun c hc => by have := hf c hc; omega
  have m2 := wNormalE e (by omega) fun c hc => by have := hf c hc; omega
  have m4 := wParse s (by omega)
  -- what is read of s
  have hl : paE s = 0 → chE (paR s) = 0 ∧ nf (paR s) = paR s := pa_ok
  obtain ⟨l1, l2⟩ := pa_len (s := s) (by omega)
  have hbad : paE s ≠ 0 → paR s = [] := pa_bad
  obtain ⟨L, hL⟩ : ∃ L, L = paR s := ⟨_, rfl⟩
  obtain ⟨h, hh⟩ : ∃ h, h = paE s := ⟨_, rfl⟩
  rw [← hL, ← hh] at hl hbad m4
  rw [← hL] at l1 l2
  clear hL hh
  have m5 := wPrintE L (by omega) fun c hc => by have := l2 c hc; omega
  have m6 := wNormalE L (by omega) fun c hc => by have := l2 c hc; omega
  have q2 := wEqC L L (by omega) (by omega)
  rw [decide_eq_true rfl] at q2
  by_cases hc : chE e = 0
  · obtain ⟨p1, p2⟩ := paV hc
    have hel := (chE_zero.1 hc).1
    obtain ⟨b1, b2, b3⟩ := pts_prV hc (B := 60) (fun c hcc => by have := nf_flen hf hcc; omega) (by omega)
    have m3 := wParseG (prV e) b1 b2 b3
    rw [p1, p2] at m3
    rw [nmE, if_pos hc, hc] at m2
    rw [hc] at m1
    have hnl := nf_len e
    have q1 := wEqC (nf e) (nf e) (by omega) (by omega)
    rw [decide_eq_true rfl] at q1
    clear b1 b2 b3 p1 p2
    obtain ⟨n, hn⟩ : ∃ n, n = (nf e).map dCf := ⟨_, rfl⟩
    obtain ⟨t, ht⟩ : ∃ n, n = prV e := ⟨_, rfl⟩
    rw [← hn] at m2 m3 q1
    rw [← ht] at m1 m3
    clear hn ht hnl
    by_cases hh : h = 0
    · subst hh
      obtain ⟨c1, c2⟩ := hl rfl
      obtain ⟨p1, p2⟩ := paV c1
      obtain ⟨b1, b2, b3⟩ := pts_prV c1 (B := 340) (fun c hcc => by rw [c2] at hcc; exact l2 c hcc) (by omega)
      have m7 := wParseG (prV L) b1 b2 b3
      rw [p1, p2, c2] at m7
      rw [nmE, if_pos c1, c1, c2] at m6
      rw [c1] at m5
      clear b1 b2 b3 p1 p2
      obtain ⟨t2, ht⟩ : ∃ n, n = prV L := ⟨_, rfl⟩
      rw [← ht] at m5 m7
      clear ht c1 c2 hl hbad
      obtain ⟨l, hL⟩ : ∃ n, n = L.map dCf := ⟨_, rfl⟩
      rw [← hL] at m4 m5 m6 m7 q2
      clear hL
      refine pcalls_of_pw Tryz.func10 rfl Tryz.ntmps10 Tryz.results10 (by simp) fun B w0 => ?_
      refine pw_seq ?_; refine pw_region ?_; refine yAd rfl ?_; refine yQ ?_; refine pw_seq ?_; refine pw_seq ?_; refine pw_region ?_; refine yMd rfl ?_; refine yR (es := [[_]]) rfl rfl rfl rfl rfl ?_; refine yC (k1) rfl rfl ?_
      refine yMd rfl ?_; refine yMd rfl ?_; refine yNs rfl ?_; refine yB rfl rfl rfl rfl ?_; refine yVd rfl rfl ?_; refine yQ ?_; refine q_then ?_; rw [t0]; refine pw_cf rfl ?_; refine pw_skip ?_; refine pw_seq ?_; refine pw_region ?_
      refine yMd rfl ?_; refine yC (m1) rfl rfl ?_; refine yMp rfl ?_; refine yX rfl rfl ?_; refine yX rfl rfl ?_; refine yAd rfl ?_; refine yAd rfl ?_; refine yQ ?_; refine pw_seq ?_; refine pw_region ?_; refine yMd rfl ?_
      refine yC (m2) rfl rfl ?_; refine yMp rfl ?_; refine yX rfl rfl ?_; refine yX rfl rfl ?_; refine yAd rfl ?_; refine yAd rfl ?_; refine yQ ?_; refine pw_seq ?_; refine pw_seq ?_; refine pw_region ?_; refine yMd rfl ?_
      refine yMd rfl ?_; refine yB rfl rfl rfl rfl ?_; refine yQ ?_; refine pw_cf rfl ?_; refine pw_skip ?_; refine pw_seq ?_; refine pw_seq ?_; refine pw_region ?_; refine yMd rfl ?_; refine yB rfl rfl rfl rfl ?_; refine yQ ?_
      refine pw_ct rfl ?_; refine pw_seq ?_; refine pw_region ?_; refine yMd rfl ?_; refine yC (m3) rfl rfl ?_; refine yMp rfl ?_; refine yX rfl rfl ?_; refine yX rfl rfl ?_; refine yAd rfl ?_; refine yAd rfl ?_; refine yQ ?_
      refine pw_seq ?_; refine pw_region ?_; refine yMd rfl ?_; refine yB rfl rfl rfl rfl ?_; refine yMd rfl ?_; refine yMd rfl ?_; refine yMd rfl ?_; refine yC (q1) rfl rfl ?_; refine yU rfl rfl rfl ?_; refine yVd rfl rfl ?_
      refine yQ ?_; refine pw_cf rfl ?_; refine pw_skip ?_; refine pw_seq ?_; refine pw_region ?_; refine yMd rfl ?_; refine yC (m4) rfl rfl ?_; refine yMp rfl ?_; refine yX rfl rfl ?_; refine yX rfl rfl ?_; refine yAd rfl ?_
      refine yAd rfl ?_; refine yQ ?_; refine pw_seq ?_; refine pw_seq ?_; refine pw_region ?_; refine yMd rfl ?_; refine yB rfl rfl rfl rfl ?_; refine yQ ?_; refine pw_cf rfl ?_; refine pw_skip ?_; refine pw_seq ?_; refine pw_region ?_
      refine yMd rfl ?_; refine yC (m6) rfl rfl ?_; refine yMp rfl ?_; refine yX rfl rfl ?_; refine yX rfl rfl ?_; refine yAd rfl ?_; refine yAd rfl ?_; refine yQ ?_; refine pw_seq ?_; refine pw_region ?_; refine yMd rfl ?_
      refine yC (m5) rfl rfl ?_; refine yMp rfl ?_; refine yX rfl rfl ?_; refine yX rfl rfl ?_; refine yAd rfl ?_; refine yAd rfl ?_; refine yQ ?_; refine pw_seq ?_; refine pw_region ?_; refine yMd rfl ?_; refine yC (m7) rfl rfl ?_
      refine yMp rfl ?_; refine yX rfl rfl ?_; refine yX rfl rfl ?_; refine yAd rfl ?_; refine yAd rfl ?_; refine yQ ?_; refine pw_seq ?_; refine pw_region ?_; refine yMd rfl ?_; refine yMd rfl ?_; refine yMd rfl ?_
      refine yI rfl rfl rfl ?_; refine yB rfl rfl rfl rfl ?_; refine yMd rfl ?_; refine yMd rfl ?_; refine yMd rfl ?_; refine yC (q2) rfl rfl ?_; refine yPd rfl rfl ?_; refine yMd rfl ?_; refine yMd rfl ?_; refine yMd rfl ?_
      refine yC (q2) rfl rfl ?_; refine yPd rfl rfl ?_; refine yMd rfl ?_; refine yC (k0) rfl rfl ?_; refine yPd rfl rfl ?_; refine yAd rfl ?_; refine yQ ?_; refine pw_ret ?_
      exact q_ret _ (.tmp rfl .nil) rfl
    · have hb := hbad hh
      subst hb
      have t3 : (h != 0) = true := by simpa using hh
      have t4 : (((([] : List Cf).map dCf).length : Int) == 0) = true := rfl
      clear hh hl hbad
      refine pcalls_of_pw Tryz.func10 rfl Tryz.ntmps10 Tryz.results10 (by simp) fun B w0 => ?_
      refine pw_seq ?_; refine pw_region ?_; refine yAd rfl ?_; refine yQ ?_; refine pw_seq ?_; refine pw_seq ?_; refine pw_region ?_; refine yMd rfl ?_; refine yR (es := [[_]]) rfl rfl rfl rfl rfl ?_; refine yC (k1) rfl rfl ?_
      refine yMd rfl ?_; refine yMd rfl ?_; refine yNs rfl ?_; refine yB rfl rfl rfl rfl ?_; refine yVd rfl rfl ?_; refine yQ ?_; refine q_then ?_; rw [t0]; refine pw_cf rfl ?_; refine pw_skip ?_; refine pw_seq ?_; refine pw_region ?_
      refine yMd rfl ?_; refine yC (m1) rfl rfl ?_; refine yMp rfl ?_; refine yX rfl rfl ?_; refine yX rfl rfl ?_; refine yAd rfl ?_; refine yAd rfl ?_; refine yQ ?_; refine pw_seq ?_; refine pw_region ?_; refine yMd rfl ?_
      refine yC (m2) rfl rfl ?_; refine yMp rfl ?_; refine yX rfl rfl ?_; refine yX rfl rfl ?_; refine yAd rfl ?_; refine yAd rfl ?_; refine yQ ?_; refine pw_seq ?_; refine pw_seq ?_; refine pw_region ?_; refine yMd rfl ?_
      refine yMd rfl ?_; refine yB rfl rfl rfl rfl ?_; refine yQ ?_; refine pw_cf rfl ?_; refine pw_skip ?_; refine pw_seq ?_; refine pw_seq ?_; refine pw_region ?_; refine yMd rfl ?_; refine yB rfl rfl rfl rfl ?_; refine yQ ?_
      refine pw_ct rfl ?_; refine pw_seq ?_; refine pw_region ?_; refine yMd rfl ?_; refine yC (m3) rfl rfl ?_; refine yMp rfl ?_; refine yX rfl rfl ?_; refine yX rfl rfl ?_; refine yAd rfl ?_; refine yAd rfl ?_; refine yQ ?_
      refine pw_seq ?_; refine pw_region ?_; refine yMd rfl ?_; refine yB rfl rfl rfl rfl ?_; refine yMd rfl ?_; refine yMd rfl ?_; refine yMd rfl ?_; refine yC (q1) rfl rfl ?_; refine yU rfl rfl rfl ?_; refine yVd rfl rfl ?_
      refine yQ ?_; refine pw_cf rfl ?_; refine pw_skip ?_; refine pw_seq ?_; refine pw_region ?_; refine yMd rfl ?_; refine yC (m4) rfl rfl ?_; refine yMp rfl ?_; refine yX rfl rfl ?_; refine yX rfl rfl ?_; refine yAd rfl ?_
      refine yAd rfl ?_; refine yQ ?_; refine pw_seq ?_; refine pw_seq ?_; refine pw_region ?_; refine yMd rfl ?_; refine yB rfl rfl rfl rfl ?_; refine yQ ?_; refine q_then ?_; rw [t3]; refine pw_ct rfl ?_; refine pw_seq ?_
      refine pw_region ?_; refine yMd rfl ?_; refine yN rfl ?_; refine yB rfl rfl rfl rfl ?_; refine yMd rfl ?_; refine yC (k0) rfl rfl ?_; refine yPd rfl rfl ?_; refine yAd rfl ?_; refine yQ ?_; refine pw_ret ?_; refine q_then_ret ?_
      rw [t4]
      exact q_ret _ (.tmp rfl .nil) rfl
  · have u1 : (chE e != chE e) = false := by simp
    have u2 : (chE e == 0) = false := by simpa using hc
    obtain ⟨x, hx⟩ : ∃ x, x = chE e := ⟨_, rfl⟩
    obtain ⟨n, hn⟩ : ∃ n, n = (nmE e).map dCf := ⟨_, rfl⟩
    obtain ⟨t, ht⟩ : ∃ n, n = prV e := ⟨_, rfl⟩
    rw [← hx, ← hn] at m2
    rw [← hx, ← ht] at m1
    rw [← hx] at u1 u2
    clear hx hn ht hc
    by_cases hh : h = 0
    · subst hh
      obtain ⟨c1, c2⟩ := hl rfl
      obtain ⟨p1, p2⟩ := paV c1
      obtain ⟨b1, b2, b3⟩ := pts_prV c1 (B := 340) (fun c hcc => by rw [c2] at hcc; exact l2 c hcc) (by omega)
      have m7 := wParseG (prV L) b1 b2 b3
      rw [p1, p2, c2] at m7
      rw [nmE, if_pos c1, c1, c2] at m6
      rw [c1] at m5
      clear b1 b2 b3 p1 p2
      obtain ⟨t2, ht⟩ : ∃ n, n = prV L := ⟨_, rfl⟩
      rw [← ht] at m5 m7
      clear ht c1 c2 hl hbad
      obtain ⟨l, hL⟩ : ∃ n, n = L.map dCf := ⟨_, rfl⟩
      rw [← hL] at m4 m5 m6 m7 q2
      clear hL
      refine pcalls_of_pw Tryz.func10 rfl Tryz.ntmps10 Tryz.results10 (by simp) fun B w0 => ?_
      refine pw_seq ?_; refine pw_region ?_; refine yAd rfl ?_; refine yQ ?_; refine pw_seq ?_; refine pw_seq ?_; refine pw_region ?_; refine yMd rfl ?_; refine yR (es := [[_]]) rfl rfl rfl rfl rfl ?_; refine yC (k1) rfl rfl ?_
      refine yMd rfl ?_; refine yMd rfl ?_; refine yNs rfl ?_; refine yB rfl rfl rfl rfl ?_; refine yVd rfl rfl ?_; refine yQ ?_; refine q_then ?_; rw [t0]; refine pw_cf rfl ?_; refine pw_skip ?_; refine pw_seq ?_; refine pw_region ?_
      refine yMd rfl ?_; refine yC (m1) rfl rfl ?_; refine yMp rfl ?_; refine yX rfl rfl ?_; refine yX rfl rfl ?_; refine yAd rfl ?_; refine yAd rfl ?_; refine yQ ?_; refine pw_seq ?_; refine pw_region ?_; refine yMd rfl ?_
      refine yC (m2) rfl rfl ?_; refine yMp rfl ?_; refine yX rfl rfl ?_; refine yX rfl rfl ?_; refine yAd rfl ?_; refine yAd rfl ?_; refine yQ ?_; refine pw_seq ?_; refine pw_seq ?_; refine pw_region ?_; refine yMd rfl ?_
      refine yMd rfl ?_; refine yB rfl rfl rfl rfl ?_; refine yQ ?_; refine q_then ?_; rw [u1]; refine pw_cf rfl ?_; refine pw_skip ?_; refine pw_seq ?_; refine pw_seq ?_; refine pw_region ?_; refine yMd rfl ?_
      refine yB rfl rfl rfl rfl ?_; refine yQ ?_; refine q_then ?_; rw [u2]; refine pw_cf rfl ?_; refine pw_skip ?_; refine pw_seq ?_; refine pw_region ?_; refine yMd rfl ?_; refine yC (m4) rfl rfl ?_; refine yMp rfl ?_
      refine yX rfl rfl ?_; refine yX rfl rfl ?_; refine yAd rfl ?_; refine yAd rfl ?_; refine yQ ?_; refine pw_seq ?_; refine pw_seq ?_; refine pw_region ?_; refine yMd rfl ?_; refine yB rfl rfl rfl rfl ?_; refine yQ ?_
      refine pw_cf rfl ?_; refine pw_skip ?_; refine pw_seq ?_; refine pw_region ?_; refine yMd rfl ?_; refine yC (m6) rfl rfl ?_; refine yMp rfl ?_; refine yX rfl rfl ?_; refine yX rfl rfl ?_; refine yAd rfl ?_; refine yAd rfl ?_
      refine yQ ?_; refine pw_seq ?_; refine pw_region ?_; refine yMd rfl ?_; refine yC (m5) rfl rfl ?_; refine yMp rfl ?_; refine yX rfl rfl ?_; refine yX rfl rfl ?_; refine yAd rfl ?_; refine yAd rfl ?_; refine yQ ?_; refine pw_seq ?_
      refine pw_region ?_; refine yMd rfl ?_; refine yC (m7) rfl rfl ?_; refine yMp rfl ?_; refine yX rfl rfl ?_; refine yX rfl rfl ?_; refine yAd rfl ?_; refine yAd rfl ?_; refine yQ ?_; refine pw_seq ?_; refine pw_region ?_
      refine yMd rfl ?_; refine yMd rfl ?_; refine yMd rfl ?_; refine yI rfl rfl rfl ?_; refine yB rfl rfl rfl rfl ?_; refine yMd rfl ?_; refine yMd rfl ?_; refine yMd rfl ?_; refine yC (q2) rfl rfl ?_; refine yPd rfl rfl ?_
      refine yMd rfl ?_; refine yMd rfl ?_; refine yMd rfl ?_; refine yC (q2) rfl rfl ?_; refine yPd rfl rfl ?_; refine yMd rfl ?_; refine yC (k0) rfl rfl ?_; refine yPd rfl rfl ?_; refine yAd rfl ?_; refine yQ ?_; refine pw_ret ?_
      exact q_ret _ (.tmp rfl .nil) rfl
    · have hb := hbad hh
      subst hb
      have t3 : (h != 0) = true := by simpa using hh
      have t4 : (((([] : List Cf).map dCf).length : Int) == 0) = true := rfl
      clear hh hl hbad
      refine pcalls_of_pw Tryz.func10 rfl Tryz.ntmps10 Tryz.results10 (by simp) fun B w0 => ?_
      refine pw_seq ?_; refine pw_region ?_; refine yAd rfl ?_; refine yQ ?_; refine pw_seq ?_; refine pw_seq ?_; refine pw_region ?_; refine yMd rfl ?_; refine yR (es := [[_]]) rfl rfl rfl rfl rfl ?_; refine yC (k1) rfl rfl ?_
      refine yMd rfl ?_; refine yMd rfl ?_; refine yNs rfl ?_; refine yB rfl rfl rfl rfl ?_; refine yVd rfl rfl ?_; refine yQ ?_; refine q_then ?_; rw [t0]; refine pw_cf rfl ?_; refine pw_skip ?_; refine pw_seq ?_; refine pw_region ?_
      refine yMd rfl ?_; refine yC (m1) rfl rfl ?_; refine yMp rfl ?_; refine yX rfl rfl ?_; refine yX rfl rfl ?_; refine yAd rfl ?_; refine yAd rfl ?_; refine yQ ?_; refine pw_seq ?_; refine pw_region ?_; refine yMd rfl ?_
      refine yC (m2) rfl rfl ?_; refine yMp rfl ?_; refine yX rfl rfl ?_; refine yX rfl rfl ?_; refine yAd rfl ?_; refine yAd rfl ?_; refine yQ ?_; refine pw_seq ?_; refine pw_seq ?_; refine pw_region ?_; refine yMd rfl ?_
      refine yMd rfl ?_; refine yB rfl rfl rfl rfl ?_; refine yQ ?_; refine q_then ?_; rw [u1]; refine pw_cf rfl ?_; refine pw_skip ?_; refine pw_seq ?_; refine pw_seq ?_; refine pw_region ?_; refine yMd rfl ?_
      refine yB rfl rfl rfl rfl ?_; refine yQ ?_; refine q_then ?_; rw [u2]; refine pw_cf rfl ?_; refine pw_skip ?_; refine pw_seq ?_; refine pw_region ?_; refine yMd rfl ?_; refine yC (m4) rfl rfl ?_; refine yMp rfl ?_
      refine yX rfl rfl ?_; refine yX rfl rfl ?_; refine yAd rfl ?_; refine yAd rfl ?_; refine yQ ?_; refine pw_seq ?_; refine pw_seq ?_; refine pw_region ?_; refine yMd rfl ?_; refine yB rfl rfl rfl rfl ?_; refine yQ ?_; refine q_then ?_
      rw [t3]; refine pw_ct rfl ?_; refine pw_seq ?_; refine pw_region ?_; refine yMd rfl ?_; refine yN rfl ?_; refine yB rfl rfl rfl rfl ?_; refine yMd rfl ?_; refine yC (k0) rfl rfl ?_; refine yPd rfl rfl ?_; refine yAd rfl ?_
      refine yQ ?_; refine pw_ret ?_; refine q_then_ret ?_; rw [t4]
      exact q_ret _ (.tmp rfl .nil) rfl
end Go.Proofs.YtmfeinilbjfnpaaGreatDoor
