/- Contracts of the elder walks in the words of the logic of pure states. -/
import Derived.Test.YtilbolgncpfmmaaPxT
import Derived.Test.YtilbolgncpfmmaaEq
namespace Go.Proofs.Ytilbolgncpfmmaa
open Go.RowKit Px

abbrev dI (n : Int) : DV := .val (.int .i64 n)
abbrev dB (b : Bool) : DV := .val (.bool b)
abbrev dP (p : Int × Int) : List DV := [dI p.1, dI p.2]
abbrev dPs (ps : List (Int × Int)) : DV := .sl 2 (ps.map dP)
abbrev dZ (n : Int) : List DV := [dI n]
abbrev dIs (zs : List Int) : DV := .sl 1 (zs.map dZ)

theorem ix {α : Type} (f : α → List DV) (l : List α) (n : Int) (i : Nat) (x : α) (h : n = i) (hx : l[i]? = some x) : (l.map f)[n.toNat]? = some (f x) := by
  subst h
  rw [Int.toNat_natCast, List.getElem?_map, hx]; rfl
theorem wrapI (n : Int) (h : -9223372036854775808 ≤ n ∧ n ≤ 9223372036854775807) : IntKind.i64.wrap n = n := IntWalk.i64_in n h
theorem getP_at {ps : List (Int × Int)} {i : Nat} (h : i < ps.length) : ps[i]? = some (getP ps i) := by
  unfold getP; rw [List.getElem?_eq_getElem h]; rfl

theorem DRep.agg2 {F : Nat → Nat → Prop} {w : World} {v a b : Value} (h : DRep F w v (.agg [.val a, .val b])) : v = .agg #[a, b] := by
  generalize e : DV.agg [.val a, .val b] = x at h
  cases h with
  | val => cases e
  | sl => cases e
  | ref => cases e
  | abs => cases e
  | @agg xs cs hl h1 h2 =>
    cases e
    match xs, hl with
    | [x, y], _ =>
      have e1 := DRep.val_eq (h2 0 x _ rfl rfl)
      have e2 := DRep.val_eq (h2 1 y _ rfl rfl)
      rw [e1, e2]
theorem ints_of {F : Nat → Nat → Prop} {w : World} {v : Value} {zs : List Int} (h : DRep F w v (dIs zs)) : IntsAt w w.heap.size v zs := by
  obtain ⟨A, c, news, hv, hc, hm, hk, hl, hcell, -, hrep⟩ := DRep.row h
  rw [List.length_map] at hv hc hm hl hcell
  refine ⟨A, c, hv, by omega, fun h0 => ?_⟩
  obtain ⟨b, off, hA, hc2⟩ := hcell h0
  have key : ∀ i, i < zs.length → w.cell? ⟨b, off + i, none⟩ = some (.int .i64 (zs[i]?.getD 0)) := fun i hi => by
    obtain ⟨u, h1, h2⟩ := hrep i 0 (dZ zs[i]) (dI zs[i]) (by rw [List.getElem?_map, List.getElem?_eq_getElem hi]; rfl) rfl
    have h3 := (hc2 _ u h1).1
    rw [DRep.val_eq h2] at h3
    rw [List.getElem?_eq_getElem hi]
    simpa using h3
  exact ⟨b, off, hA, cell_lt (o := off + 0) (by rw [key 0 h0]; rfl), key⟩
theorem pers_of {F : Nat → Nat → Prop} {w : World} {v : Value} {ps : List (Int × Int)} (h : DRep F w v (dPs ps)) : PersAt w w.heap.size v ps := by
  obtain ⟨A, c, news, hv, hc, hm, hk, hl, hcell, -, hrep⟩ := DRep.row h
  rw [List.length_map] at hv hc hm hl hcell
  refine ⟨A, c, hv, hc, hm, fun h0 => ?_⟩
  obtain ⟨b, off, hA, hc2⟩ := hcell h0
  have key : ∀ i, i < ps.length → w.cell? ⟨b, off + i * 2, none⟩ = some (.int .i64 (ps[i]?.getD (0, 0)).1) ∧ w.cell? ⟨b, off + i * 2 + 1, none⟩ = some (.int .i64 (ps[i]?.getD (0, 0)).2) := fun i hi => by
    have he : (ps.map dP)[i]? = some (dP ps[i]) := by rw [List.getElem?_map, List.getElem?_eq_getElem hi]; rfl
    obtain ⟨u, h1, h2⟩ := hrep i 0 _ (dI ps[i].1) he rfl
    obtain ⟨u', h1', h2'⟩ := hrep i 1 _ (dI ps[i].2) he rfl
    have h3 := (hc2 _ u h1).1
    have h3' := (hc2 _ u' h1').1
    rw [DRep.val_eq h2] at h3
    rw [DRep.val_eq h2'] at h3'
    rw [List.getElem?_eq_getElem hi]
    exact ⟨by simpa using h3, by rw [Nat.add_assoc]; simpa using h3'⟩
  exact ⟨b, off, hA, cell_lt (o := off + 0 * 2) (by rw [(key 0 h0).1]; rfl), key⟩

/-- a contract of the walk's, of any arguments and a plain result -/
theorem PCalls.of_any {P : Program} {f : FuncId} {args : List DV} {us : List Value} {v : Value} (hv : v = (match us with | [u] => u | us => .tuple us.toArray)) (hu : ∀ u ∈ us, u.oneCell' = true)
    (h : ∀ (F : Nat → Nat → Prop) (w : World) (vals : List Value), vals.length = args.length → (∀ (i : Nat) v x, vals[i]? = some v → args[i]? = some x → DRep F w v x) → Calls P f vals.toArray w fun e w' => e = .returned v ∧ Below w.heap.size w w') : PCalls P f args (resSV (us.map .val)) := by
  intro F w vals hl hr
  refine (h F w vals hl hr).mono ?_
  rintro e w' ⟨rfl, hb⟩
  refine ⟨_, rfl, ?_, hb⟩
  subst hv
  match us, hu with
  | [], _ => exact ⟨[], rfl, rfl, fun i y x hy => by simp at hy⟩
  | [u], hu => exact DRep.val u (hu u (by simp))
  | u :: u' :: us, hu =>
    refine ⟨u :: u' :: us, rfl, by simp, fun i y x hy hx => ?_⟩
    simp only [← List.map_cons, List.getElem?_map] at hx
    rw [hy] at hx
    cases hx
    exact DRep.val y (hu y (List.mem_of_getElem? hy))
theorem args1 {vals : List Value} (h : vals.length = 1) : ∃ a, vals = [a] := match vals, h with | [a], _ => ⟨a, rfl⟩
theorem args2 {vals : List Value} (h : vals.length = 2) : ∃ a b, vals = [a, b] := match vals, h with | [a, b], _ => ⟨a, b, rfl⟩
theorem args3 {vals : List Value} (h : vals.length = 3) : ∃ a b c, vals = [a, b, c] := match vals, h with | [a, b, c], _ => ⟨a, b, c, rfl⟩

theorem p115 (d : Int) : PCalls Try.prog 115 [dI d] (.d (dI (dayE d))) :=
  PCalls.of_plain (vs := [.int .i64 d]) (us := [.int .i64 (dayE d)]) rfl (by simp [Value.oneCell']) fun w => (rdayCheck_any d w).mono fun e w' ⟨h1, h2⟩ => ⟨h1, h2 ▸ Below.refl _ _⟩
theorem p83 (zs : List Int) : PCalls Try.prog 83 [dIs zs] (.d (dB (zs.all vB))) :=
  PCalls.of_any (us := [.bool (zs.all vB)]) rfl (by simp [Value.oneCell']) fun F w vals hl hr => by
    obtain ⟨a, rfl⟩ := args1 hl
    exact (svalid_any a zs w (ints_of (hr 0 _ _ rfl rfl))).mono fun e w' ⟨h1, h2⟩ => ⟨h1, h2 ▸ Below.refl _ _⟩
theorem p82 (r : Bool) (m s : Int) : PCalls Try.prog 82 [dB r, dI m, dI s] (.d (dI (sck r m s))) :=
  PCalls.of_plain (vs := [.bool r, .int .i64 m, .int .i64 s]) (us := [.int .i64 (sck r m s)]) rfl (by simp [Value.oneCell']) fun w => (scheck_any r m s w).mono fun e w' ⟨h1, h2⟩ => ⟨h1, h2 ▸ Below.refl _ _⟩
theorem p46 (d n : Int) (hn : -9223372036854775808 ≤ n) (hn' : n ≤ 9223372036854775807) : PCalls Try.prog 46 [dI d, dI n] (.tup [dI (amV d n), dI (amE d n)]) :=
  PCalls.of_plain (vs := [.int .i64 d, .int .i64 n]) (us := [.int .i64 (amV d n), .int .i64 (amE d n)]) rfl (by simp [Value.oneCell']) fun w => AddMonths_any d n w hn hn'
theorem p88 (d n : Int) (hn : -9223372036854775808 ≤ n) (hn' : n ≤ 9223372036854775807) : PCalls Try.prog 88 [dI d, dI n] (.tup [dI (amV d n), dI (amE d n)]) :=
  PCalls.of_plain (vs := [.int .i64 d, .int .i64 n]) (us := [.int .i64 (amV d n), .int .i64 (amE d n)]) rfl (by simp [Value.oneCell']) fun w => (rAddMonths_any d n w hn hn').mono fun e w' ⟨h1, h2⟩ => ⟨h1, h2 ▸ Below.refl _ _⟩
theorem p90 (a b m : Int) (hm : -4800 ≤ m) (hm' : m ≤ 4800) : PCalls Try.prog 90 [.agg (dP (a, b)), dI m] (.d (dB (sReg a b m))) :=
  PCalls.of_any (us := [.bool (sReg a b m)]) rfl (by simp [Value.oneCell']) fun F w vals hl hr => by
    obtain ⟨x, y, rfl⟩ := args2 hl
    rw [DRep.agg2 (hr 0 _ _ rfl rfl), DRep.val_eq (hr 1 _ _ rfl rfl)]
    exact regular_any a b m w hm hm'
theorem p44 (ps : List (Int × Int)) : PCalls Try.prog 44 [dPs ps] (.d (dI (sChk ps))) :=
  PCalls.of_any (us := [.int .i64 (sChk ps)]) rfl (by simp [Value.oneCell']) fun F w vals hl hr => by
    obtain ⟨a, rfl⟩ := args1 hl
    exact sCheck_any a ps w (pers_of (hr 0 _ _ rfl rfl))
theorem p42 (ps qs : List (Int × Int)) : PCalls Try.prog 42 [dPs ps, dPs qs] (.d (dB (ps == qs))) :=
  PCalls.of_any (us := [.bool (ps == qs)]) rfl (by simp [Value.oneCell']) fun F w vals hl hr => by
    obtain ⟨x, y, rfl⟩ := args2 hl
    exact (eqPer_any x y ps qs w (pers_of (hr 0 _ _ rfl rfl)) (pers_of (hr 1 _ _ rfl rfl))).mono fun e w' ⟨h1, n, h2⟩ => ⟨h1, h2 ▸ below_drewN (Below.refl _ _) n⟩
theorem p38 (y m d : Int) : PCalls Try.prog 38 [dI y, dI m, dI d] (.tup [dI (ofV y m d), dI (ofE y m d)]) :=
  PCalls.of_plain (vs := [.int .i64 y, .int .i64 m, .int .i64 d]) (us := [.int .i64 (ofV y m d), .int .i64 (ofE y m d)]) rfl (by simp [Value.oneCell']) fun w => Of_any y m d w

/-- equality of periods -/
theorem eqlR (o1 o2 : Operand) (x y x' y' : Int) (w : World) : (eqGuard .eql 28 o1 o2 (.agg #[.int .i64 x, .int .i64 y]) (.agg #[.int .i64 x', .int .i64 y']) >>= fun _ => binOp .eql 28 (.agg #[.int .i64 x, .int .i64 y]) (.agg #[.int .i64 x', .int .i64 y'])).run Try.prog w = .ok (.bool (x == x' && y == y')) w := by
  have h : (eqGuard .eql 28 o1 o2 (.agg #[.int .i64 x, .int .i64 y]) (.agg #[.int .i64 x', .int .i64 y'])).run Try.prog w = .ok () w := by simp [eqGuard, go_sem]
  rw [Sem.run_bind, h, Result.andThen_ok, eqlPer]
/-- periods that were made anew -/
theorem drep_pers {F : Nat → Nat → Prop} {w : World} {N B : Nat} {v : Value} {ps : List (Int × Int)} (h : PersAt w B v ps) (hn : ∀ q, v.ownBlock = some q → N ≤ q) : DRep (fun b o => F b o ∨ N ≤ b) w v (dPs ps) := by
  obtain ⟨A, c, rfl, hc, hl, hcell⟩ := h
  have e : ps.length = (ps.map dP).length := by simp
  rw [e]
  refine DRep.of_row (xs := flat ps) (by rw [← e]; exact hc) (by rw [← e]; exact hl) (fun x hx => by obtain ⟨p, -, rfl⟩ := List.mem_map.1 hx; rfl) (fun h0 => ?_) (fun u hu => ?_) fun i j x y hx hy => ?_
  · rw [← e] at h0
    obtain ⟨b, off, rfl, hb, h1⟩ := hcell h0
    refine ⟨b, off, rfl, fun j u hj => ⟨?_, .inr (hn b rfl)⟩⟩
    have hlt := (List.getElem?_eq_some_iff.1 hj).1
    rw [flat_length] at hlt
    have h2 := flat_get ps (j / 2) (by omega)
    rcases Nat.mod_two_eq_zero_or_one j with h3 | h3
    · have h4 : 2 * (j / 2) = j := by omega
      rw [h4] at h2
      rw [h2.1] at hj
      cases hj
      have h5 := (h1 (j / 2) (by omega)).1
      rw [show off + j / 2 * 2 = off + j by omega] at h5
      exact h5
    · have h4 : 2 * (j / 2) + 1 = j := by omega
      rw [h4] at h2
      rw [h2.2] at hj
      cases hj
      have h5 := (h1 (j / 2) (by omega)).2
      rw [show off + j / 2 * 2 + 1 = off + j by omega] at h5
      exact h5
  · unfold flat at hu
    obtain ⟨p, -, hp⟩ := List.mem_flatMap.1 hu
    simp at hp
    rcases hp with rfl | rfl <;> rfl
  · rw [List.getElem?_map, Option.map_eq_some_iff] at hx
    obtain ⟨p, hp, rfl⟩ := hx
    have hi := (List.getElem?_eq_some_iff.1 hp).1
    have h2 := flat_get ps i hi
    rw [hp] at h2
    match j, hy with
    | 0, hy => cases hy; exact ⟨_, by rw [show i * 2 + 0 = 2 * i by omega]; exact h2.1, DRep.val _ rfl⟩
    | 1, hy => cases hy; exact ⟨_, by rw [show i * 2 + 1 = 2 * i + 1 by omega]; exact h2.2, DRep.val _ rfl⟩
    | j + 2, hy => simp at hy
theorem p40 (a b m s : Int) : PCalls Try.prog 40 [.agg (dP (a, b)), dI m, dI s] (.tup [dPs (bL a b m s), dI (bE a b m s)]) := by
  intro F w vals hl hr
  obtain ⟨x, y, z, rfl⟩ := args3 hl
  have e1 := DRep.agg2 (hr 0 _ _ rfl rfl)
  have e2 := DRep.val_eq (hr 1 _ _ rfl rfl)
  have e3 := DRep.val_eq (hr 2 _ _ rfl rfl)
  subst e1 e2 e3
  refine (Build_any a b m s w).mono ?_
  rintro e w' ⟨v, rfl, h1, h2, h3⟩
  refine ⟨_, rfl, ⟨[v, .int .i64 (bE a b m s)], rfl, rfl, fun i y x hy hx => ?_⟩, h3⟩
  match i, hy, hx with
  | 0, hy, hx =>
    cases hy; cases hx
    exact (drep_pers (F := F) h1 h2).mono fun b o hf _ => ⟨Fx.gF hf, rfl⟩
  | 1, hy, hx => cases hy; cases hx; exact DRep.val _ rfl
  | i + 2, hy, hx => simp at hy
end Go.Proofs.Ytilbolgncpfmmaa
