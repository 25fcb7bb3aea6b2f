/- The law ReconcileMovements returns true for every input, and each argument reads afterwards as before; the tied card of it. Conditions: none, but that the listed package variables hold what the program's text lays. -/
import Derived.Test.YtdkpmnefoobipaaGreatDoorB4
import Derived.Test.YtdkpmnefoobipaaGreatDoorB7
import Derived.Test.YtdkpmnefoobipaaGreatDoorCards
import Derived.Test.YtdkpmnefoobipaaGreatDoorTie
import Derived.SevenTiedAt
namespace Go.Proofs.YtdkpmnefoobipaaGreatDoor
open Go.ChangeShapes Go.WideShapes Go.ChangeAt Go.RowKit Px

theorem reconcileMovements_reads : ∀ t ∈ Tryz.f3.params.toList, Tryz.prog.readableRec t = true ∧ t < Tryz.prog.types.size := by
  rw [Tryz.params3]
  intro t ht
  have : t = 26 ∨ t = 3 := by simp at ht; omega
  rcases this with rfl | rfl
  · exact ⟨by kernel_rfl, of_decide_eq_true (by kernel_rfl)⟩
  · exact ⟨by kernel_rfl, of_decide_eq_true (by kernel_rfl)⟩

set_option maxRecDepth 100000 in
theorem reconcileMovements_lifted (os : Os) (started : os.Started) (H : Type) (enc : TypeId × Value → H) :
    ReturnsInHanded {} Tryz.checked os 3 .any (fun w args => (Rows.reconcileMovementsSpec.pre enc Tryz.prog Tryz.f3 Rows.reconcileMovementsRow.domain false w args ∧ laidMetH Tryz.prog Rows.reconcileMovementsRow.laid w) ∧ sizedMet enc Tryz.prog Tryz.f3 (OpenSpec.ofChange Rows.reconcileMovementsSpec) false w args)
      (Rows.reconcileMovementsSpec.post enc Tryz.prog Tryz.f3 false true false false) := by
  refine returnsInHanded_of_change_and (C := Tryz.checked) (X := fun w _ => laidMetH Tryz.prog Rows.reconcileMovementsRow.laid w) (fun _ _ _ hh h => h.of_heap hh) own started (by kernel_rfl) Tryz.func3
    (ChangeSpec.witness_shaped (enc := enc) (C := Tryz.checked) (os := os) (X := fun w _ => laidMetH Tryz.prog Rows.reconcileMovementsRow.laid w) false (World.laidAll Tryz.prog os Rows.reconcileMovementsRow.laid) #[.agg #[.int .i64 0, .slice none 0 0, .slice none 0 0], .agg #[.int .i64 0, .slice none 0 0, .slice none 0 0], .int .i64 0] 8 (World.laidAll_os _ _ _)
      (World.shaped_of_ZipB (by kernel_rfl) (by kernel_rfl)) (by kernel_rfl) (by kernel_rfl) (by kernel_rfl)
      (by rw [MakeChecks.laidMetH_plain _ _ _ (by kernel_rfl)]; exact laidMet_laidAll _ (by kernel_rfl) (by kernel_rfl))) ?_
  intro W base args ds gs before hval0 hW hcnd _ hL _
  have hG : GlobOk (fun _ _ => True) W := by
    rw [MakeChecks.laidMetH_plain _ _ _ (by kernel_rfl)] at hL
    obtain ⟨ps, ⟨g0, t0, cs0, f0, p0, q0, hg0, ht0, hv0, hd0, ⟨g1, t1, cs1, f1, p1, q1, hg1, ht1, hv1, hd1, ⟨g2, t2, cs2, f2, p2, q2, hg2, ht2, hv2, hd2, _, _⟩, _⟩, _⟩, _, _⟩ := hL
    obtain rfl := Option.some.inj ((show Tryz.prog.globalNamed "internal/strconv.uint64pow10" = some 2 by kernel_rfl).symm.trans hg2)
    obtain rfl := Option.some.inj ((show (Tryz.prog.globals[2]?).map (·.type) = some 229 by kernel_rfl).symm.trans ht2)
    exact glob_of_var hv2 rfl hd2
  have hval : ∀ (j : Nat) t v, Tryz.f3.params[j]? = some t → args[j]? = some v → Value.okWide Tryz.prog W .any base t v := hval0
  have hW' := hW
  obtain ⟨p, q, hA0, hV, rfl, hfz, hnd⟩ := hW
  have hA : DataW.TrodAll enc Tryz.prog W 0 (fun _ => true) true Tryz.f3.params.toList args.toList ds p := hA0
  rw [Tryz.params3] at hA hval
  obtain ⟨v0, vs0, d0, ds0, p0, q0, hargs, rfl, rfl, h0, r0⟩ := trodAll_cons hA
  obtain ⟨v1, vs1, d1, ds1, p1, q1, rfl, rfl, rfl, h1, r1⟩ := trodAll_cons r0
  obtain ⟨v2, vs2, d2, ds2, p2, q2, rfl, rfl, rfl, h2, r2⟩ := trodAll_cons r1
  obtain ⟨rfl, rfl, rfl⟩ := trodAll_nil r2
  obtain rfl : args = #[v0, v1, v2] := by cases args; simp_all
  obtain ⟨rfl, rfl⟩ := trodVars_none hV
  obtain ⟨x0, wx0, e0⟩ := open_sh (sh := shS) (by kernel_rfl) (hval 0 26 v0 rfl rfl) h0
  obtain ⟨s0, hs0⟩ := stm_dv x0
  rw [hs0] at e0
  obtain ⟨x1, wx1, e1⟩ := open_sh (sh := shS) (by kernel_rfl) (hval 1 26 v1 rfl rfl) h1
  obtain ⟨s1, hs1⟩ := stm_dv x1
  rw [hs1] at e1
  obtain ⟨x2, wx2, e2⟩ := open_sh (sh := .i .i64) (by kernel_rfl) (hval 2 3 v2 rfl rfl) h2
  refine (calls_of_true (law3 s0 s1 x2) W [v0, v1, v2] rfl (fun j v x hv hx => ?_) hG).mono fun e W' ⟨he, bel⟩ => ?_
  · match j, hv, hx with
    | 0, hv, hx => cases hv; cases hx; exact e0
    | 1, hv, hx => cases hv; cases hx; exact e1
    | 2, hv, hx => cases hv; cases hx; exact e2
    | j + 3, hv, _ => simp at hv
  · subst he
    exact ⟨_, rfl, law_post hW' rfl rfl rfl reconcileMovements_reads bel⟩

theorem reconcileMovementsfact0 : Rows.reconcileMovementsRow.wf (OpenSpec.ofChange Rows.reconcileMovementsSpec) = true := by kernel_rfl
theorem reconcileMovementsfact3 : Tryz.f3.params.all (Tryz.prog.readableRec ·) = true := by kernel_rfl
theorem reconcileMovementsfact4 : namedTie Tryz.prog Rows.reconcileMovementsRow.named Rows.reconcileMovementsSpec.vars = true := by kernel_rfl
theorem reconcileMovementsfact5 : (Rows.reconcileMovementsRow.stops == []) = true := by kernel_rfl
theorem reconcileMovementsfact7 : (Rows.reconcileMovementsRow.knobs == []) = true := by kernel_rfl
theorem reconcileMovementsfact9 : (Rows.reconcileMovementsRow.inPlace == Tryz.prog.inPlace 3) = true := by kernel_rfl
theorem reconcileMovementsfact10 : (Rows.reconcileMovementsRow.unfollowed == Tryz.prog.unfollowed 3) = true := by kernel_rfl
theorem reconcileMovementsfact11 : (Rows.reconcileMovementsRow.recurses == Tryz.prog.recurses 3) = true := by kernel_rfl
theorem reconcileMovementsfact12 : (Rows.reconcileMovementsRow.named == Tryz.prog.varsNamed 3) = true := by kernel_rfl
theorem reconcileMovementsfact13 : (Rows.reconcileMovementsRow.maps == (Tryz.f3.params.toList ++ Rows.reconcileMovementsSpec.plain.varTypes Tryz.prog).any (Tryz.prog.mapsRec ·)) = true := by kernel_rfl
theorem reconcileMovementsfact14 : (Rows.reconcileMovementsRow.ifaces == (Tryz.f3.params.toList ++ Rows.reconcileMovementsSpec.plain.varTypes Tryz.prog).any (Tryz.prog.ifacesRec ·)) = true := by kernel_rfl
theorem reconcileMovementsfact15 : (Rows.reconcileMovementsRow.mapsOut == Tryz.prog.mapsAmong Tryz.f3.resultTypes.toList) = true := by kernel_rfl
theorem reconcileMovementsfact16 : (Rows.reconcileMovementsRow.loops == (Tryz.f3.params.toList ++ Rows.reconcileMovementsSpec.plain.varTypes Tryz.prog).any (Tryz.prog.loopsFrom ·)) = true := by kernel_rfl
theorem reconcileMovementsfact17 : (Rows.reconcileMovementsRow.wideKeys == (Tryz.f3.params.toList ++ Rows.reconcileMovementsSpec.plain.varTypes Tryz.prog ++ Tryz.f3.resultTypes.toList).any (Tryz.prog.wideKeysFrom ·)) = true := by kernel_rfl
theorem reconcileMovementsfact18 : Rows.reconcileMovementsSpec.vars.all (Tryz.prog.varReadable ·) = true := by kernel_rfl
theorem reconcileMovementsfact19 : Tryz.f3.resultTypes.all (fun t => Tryz.prog.readableRec t && decide (t < Tryz.prog.types.size)) = true := by kernel_rfl
theorem reconcileMovementsfact20 : (Rows.reconcileMovementsRow.ifacesOut == Tryz.f3.resultTypes.toList.any (Tryz.prog.ifacesRec ·)) = true := by kernel_rfl
theorem reconcileMovementsfact21 : (Rows.reconcileMovementsRow.loopsOut == Tryz.f3.resultTypes.toList.any (Tryz.prog.loopsFrom ·)) = true := by kernel_rfl
theorem reconcileMovementsfact22 : (Rows.reconcileMovementsRow.plainKeys == Tryz.prog.plainKeys) = true := by rw [sharedplainKeys]; rfl
theorem reconcileMovementsfact23 : Rows.reconcileMovementsRow.shortTexts.isNone = true := by kernel_rfl
theorem reconcileMovementsfact26 : (Rows.reconcileMovementsRow.lifted == Tryz.prog.liftsFinal) = true := by rw [sharedliftsFinal]; rfl
theorem reconcileMovementsfact27 : (Tryz.prog.make == some Rows.reconcileMovementsRow.make) = true := by kernel_rfl
theorem reconcileMovementsfact28 : (Rows.reconcileMovementsRow.kinds == (if Rows.reconcileMovementsRow.domain.isEmpty then [] else Tryz.f3.params.toList.map fun t => match Tryz.prog.underlying t with | some (.int k) => some k | _ => none)) = true := by kernel_rfl
theorem reconcileMovementsfact29 : (Rows.reconcileMovementsRow.pinned == Rows.reconcileMovementsRow.pinnedBy) = true := by kernel_rfl
theorem reconcileMovementsfact30 : (Rows.reconcileMovementsRow.veiled == (Tryz.f3.params.toList ++ Rows.reconcileMovementsSpec.plain.varTypes Tryz.prog ++ Tryz.f3.resultTypes.toList).any (Tryz.prog.veiledRec ·)) = true := by kernel_rfl
theorem reconcileMovementsfact31 : Rows.reconcileMovementsRow.veiledFits Tryz.prog Tryz.f3.params.toList (Tryz.f3.params.toList ++ Rows.reconcileMovementsSpec.plain.varTypes Tryz.prog ++ Tryz.f3.resultTypes.toList) = true := by kernel_rfl
set_option maxRecDepth 100000 in
theorem reconcileMovementsclosed : joinedFacts Tryz.prog 3 Tryz.f3 Rows.reconcileMovementsSpec Rows.reconcileMovementsRow = true := (and_mk (and_mk (and_mk (and_mk (and_mk (and_mk (and_mk (and_mk (and_mk (and_mk (and_mk (and_mk (and_mk (and_mk (and_mk (and_mk (and_mk (and_mk (and_mk (and_mk (and_mk (and_mk (and_mk (and_mk (and_mk (and_mk (and_mk (and_mk (and_mk (and_mk (and_mk reconcileMovementsfact0 sharedfact1) sharedfact2) reconcileMovementsfact3) reconcileMovementsfact4) reconcileMovementsfact5) sharedfact6) reconcileMovementsfact7) sharedfact8) reconcileMovementsfact9) reconcileMovementsfact10) reconcileMovementsfact11) reconcileMovementsfact12) reconcileMovementsfact13) reconcileMovementsfact14) reconcileMovementsfact15) reconcileMovementsfact16) reconcileMovementsfact17) reconcileMovementsfact18) reconcileMovementsfact19) reconcileMovementsfact20) reconcileMovementsfact21) reconcileMovementsfact22) reconcileMovementsfact23) sharedfact24) sharedfact25) reconcileMovementsfact26) reconcileMovementsfact27) reconcileMovementsfact28) reconcileMovementsfact29) reconcileMovementsfact30) reconcileMovementsfact31)

theorem reconcileMovements_named : Tryz.prog.funcNamed Rows.reconcileMovementsRow.func = some 3 := by kernel_rfl
theorem reconcileMovements_wrap : Tryz.f3.isWrapper Tryz.prog Rows.reconcileMovementsRow.wrapper Rows.reconcileMovementsRow.mainSum := by
  unfold Func.isWrapper
  first | (rw [if_pos (by decide +kernel)]; kernel_rfl) | (rw [if_neg (by decide +kernel)]; exact ⟨rfl, rfl⟩)
theorem reconcileMovements_inst : Tryz.f3.isInstance Tryz.prog Rows.reconcileMovementsRow.origin Rows.reconcileMovementsRow.targs := of_decide_eq_true (by kernel_rfl)
theorem reconcileMovements_over : Rows.reconcileMovementsRow.holds Tryz.pinned (OpenSpec.ofChange Rows.reconcileMovementsSpec) :=
  OpenClaim.holds_of_wide 3 Tryz.f3 rfl rfl rfl rfl rfl rfl rfl ⟨rfl, rfl, rfl, rfl, rfl⟩ rfl rfl rfl rfl rfl reconcileMovements_named Tryz.func3 reconcileMovementsclosed reconcileMovements_inst reconcileMovements_wrap
    (fun os started H enc _ => reconcileMovements_lifted os started H enc)
theorem ReconcileMovements_card : Rows.ReconcileMovementsCardSaid :=
  Claim7.holds_tied_plain_at .later [] [.data, .data, .data, .data, .pinned] true (true, "e35ac5b408a18c2e1d6eae73f8f4c2b49f81947261df319c7eaeffe52850a4dd") true reconcileMovements_over (fun _ h => by cases h) (by kernel_rfl) (fun _ h => by cases h) reconcileMovements_row_tie rfl ⟨rfl, rfl⟩ (by kernel_rfl) rfl
    (fun f fn hf hfn => by
      obtain rfl : f = 3 := Option.some.inj (reconcileMovements_named.symm.trans hf) |>.symm
      obtain rfl : fn = Tryz.f3 := (Option.some.inj (Tryz.func3.symm.trans hfn)).symm
      exact ⟨by kernel_rfl, fun j t ht => by
        rw [Tryz.params3] at ht
        have hm : t ∈ [26, 26, 3] := by simpa using Array.mem_of_getElem? ht
        have hall : ([26, 26, 3].all fun u => !Tryz.prog.wantsStandIn u) = true := by kernel_rfl
        exact (show Tryz.prog.wantsStandIn t = false by simpa using List.all_eq_true.1 hall t hm)⟩)
    (by kernel_rfl)
#print axioms ReconcileMovements_card
end Go.Proofs.YtdkpmnefoobipaaGreatDoor
