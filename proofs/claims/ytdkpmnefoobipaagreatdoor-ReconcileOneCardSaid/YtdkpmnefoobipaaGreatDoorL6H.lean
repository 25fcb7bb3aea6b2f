/- The law ReconcileOne returns true for every input, and each argument reads afterwards as before; the tied card of it. Conditions: none, but that the listed package variables hold what the program's text lays. -/
import Derived.Test.YtdkpmnefoobipaaGreatDoorB4
import Derived.Test.YtdkpmnefoobipaaGreatDoorB12
import Derived.Test.YtdkpmnefoobipaaGreatDoorB7
import Derived.Test.YtdkpmnefoobipaaGreatDoorCards
import Derived.Test.YtdkpmnefoobipaaGreatDoorTie
import Derived.SevenTiedAt
namespace Go.Proofs.YtdkpmnefoobipaaGreatDoor
open Go.ChangeShapes Go.WideShapes Go.ChangeAt Go.RowKit Px

theorem reconcileOne_reads : ∀ t ∈ Tryz.f6.params.toList, Tryz.prog.readableRec t = true ∧ t < Tryz.prog.types.size := by
  rw [Tryz.params6]
  intro t ht
  have : t = 26 ∨ t = 5 ∨ t = 39 := by simp at ht; omega
  rcases this with rfl | rfl | rfl
  · exact ⟨by kernel_rfl, of_decide_eq_true (by kernel_rfl)⟩
  · exact ⟨by kernel_rfl, of_decide_eq_true (by kernel_rfl)⟩
  · exact ⟨by kernel_rfl, of_decide_eq_true (by kernel_rfl)⟩

set_option maxRecDepth 100000 in
theorem reconcileOne_lifted (os : Os) (started : os.Started) (H : Type) (enc : TypeId × Value → H) :
    ReturnsInHanded {} Tryz.checked os 6 .any (fun w args => (Rows.reconcileOneSpec.pre enc Tryz.prog Tryz.f6 Rows.reconcileOneRow.domain false w args ∧ laidMetH Tryz.prog Rows.reconcileOneRow.laid w) ∧ sizedMet enc Tryz.prog Tryz.f6 (OpenSpec.ofChange Rows.reconcileOneSpec) false w args)
      (Rows.reconcileOneSpec.post enc Tryz.prog Tryz.f6 false true false false) := by
  refine returnsInHanded_of_change_and (C := Tryz.checked) (X := fun w _ => laidMetH Tryz.prog Rows.reconcileOneRow.laid w) (fun _ _ _ hh h => h.of_heap hh) own started (by kernel_rfl) Tryz.func6
    (ChangeSpec.witness_shaped (enc := enc) (C := Tryz.checked) (os := os) (X := fun w _ => laidMetH Tryz.prog Rows.reconcileOneRow.laid w) false (World.laidAll Tryz.prog os Rows.reconcileOneRow.laid) #[.agg #[.int .i64 0, .slice none 0 0, .slice none 0 0], .int .u8 0, .string ⟨#[]⟩] 8 (World.laidAll_os _ _ _)
      (World.shaped_of_ZipB (by kernel_rfl) (by kernel_rfl)) (by kernel_rfl) (by kernel_rfl) (by kernel_rfl)
      (by rw [MakeChecks.laidMetH_plain _ _ _ (by kernel_rfl)]; exact laidMet_laidAll _ (by kernel_rfl) (by kernel_rfl))) ?_
  intro W base args ds gs before hval0 hW hcnd _ hL _
  have hG : GlobOk (fun _ _ => True) W := by
    rw [MakeChecks.laidMetH_plain _ _ _ (by kernel_rfl)] at hL
    obtain ⟨ps, ⟨g0, t0, cs0, f0, p0, q0, hg0, ht0, hv0, hd0, ⟨g1, t1, cs1, f1, p1, q1, hg1, ht1, hv1, hd1, ⟨g2, t2, cs2, f2, p2, q2, hg2, ht2, hv2, hd2, _, _⟩, _⟩, _⟩, _, _⟩ := hL
    obtain rfl := Option.some.inj ((show Tryz.prog.globalNamed "internal/strconv.uint64pow10" = some 2 by kernel_rfl).symm.trans hg2)
    obtain rfl := Option.some.inj ((show (Tryz.prog.globals[2]?).map (·.type) = some 229 by kernel_rfl).symm.trans ht2)
    exact glob_of_var hv2 rfl hd2
  have hval : ∀ (j : Nat) t v, Tryz.f6.params[j]? = some t → args[j]? = some v → Value.okWide Tryz.prog W .any base t v := hval0
  have hW' := hW
  obtain ⟨p, q, hA0, hV, rfl, hfz, hnd⟩ := hW
  have hA : DataW.TrodAll enc Tryz.prog W 0 (fun _ => true) true Tryz.f6.params.toList args.toList ds p := hA0
  rw [Tryz.params6] at hA hval
  obtain ⟨v0, vs0, d0, ds0, p0, q0, hargs, rfl, rfl, h0, r0⟩ := trodAll_cons hA
  obtain ⟨v1, vs1, d1, ds1, p1, q1, rfl, rfl, rfl, h1, r1⟩ := trodAll_cons r0
  obtain ⟨v2, vs2, d2, ds2, p2, q2, rfl, rfl, rfl, h2, r2⟩ := trodAll_cons r1
  obtain ⟨rfl, rfl, rfl⟩ := trodAll_nil r2
  obtain rfl : args = #[v0, v1, v2] := by cases args; simp_all
  obtain ⟨rfl, rfl⟩ := trodVars_none hV
  obtain ⟨x0, wx0, e0⟩ := open_sh (sh := shS) (by kernel_rfl) (hval 0 26 v0 rfl rfl) h0
  obtain ⟨s0, hs0⟩ := stm_dv x0
  rw [hs0] at e0
  obtain ⟨x1, wx1, e1⟩ := open_sh (sh := .i .u8) (by kernel_rfl) (hval 1 5 v1 rfl rfl) h1
  have bu1 : 0 ≤ (x1 : Int) ∧ (x1 : Int) ≤ 255 := by simpa [Dat.ok, Lit.wf, IntKind.min, IntKind.max, IntKind.signed, IntKind.bits] using wx1
  obtain ⟨x2, wx2, e2⟩ := open_sh (sh := .s) (by kernel_rfl) (hval 2 39 v2 rfl rfl) h2
  refine (calls_of_true (law6 s0 x1 bu1.1 bu1.2 x2) W [v0, v1, v2] rfl (fun j v x hv hx => ?_) hG).mono fun e W' ⟨he, bel⟩ => ?_
  · match j, hv, hx with
    | 0, hv, hx => cases hv; cases hx; exact e0
    | 1, hv, hx => cases hv; cases hx; exact e1
    | 2, hv, hx => cases hv; cases hx; exact e2
    | j + 3, hv, _ => simp at hv
  · subst he
    exact ⟨_, rfl, law_post hW' rfl rfl rfl reconcileOne_reads bel⟩

theorem reconcileOnefact0 : Rows.reconcileOneRow.wf (OpenSpec.ofChange Rows.reconcileOneSpec) = true := by kernel_rfl
theorem reconcileOnefact3 : Tryz.f6.params.all (Tryz.prog.readableRec ·) = true := by kernel_rfl
theorem reconcileOnefact4 : namedTie Tryz.prog Rows.reconcileOneRow.named Rows.reconcileOneSpec.vars = true := by kernel_rfl
theorem reconcileOnefact5 : (Rows.reconcileOneRow.stops == []) = true := by kernel_rfl
theorem reconcileOnefact7 : (Rows.reconcileOneRow.knobs == []) = true := by kernel_rfl
theorem reconcileOnefact9 : (Rows.reconcileOneRow.inPlace == Tryz.prog.inPlace 6) = true := by kernel_rfl
theorem reconcileOnefact10 : (Rows.reconcileOneRow.unfollowed == Tryz.prog.unfollowed 6) = true := by kernel_rfl
theorem reconcileOnefact11 : (Rows.reconcileOneRow.recurses == Tryz.prog.recurses 6) = true := by kernel_rfl
theorem reconcileOnefact12 : (Rows.reconcileOneRow.named == Tryz.prog.varsNamed 6) = true := by kernel_rfl
theorem reconcileOnefact13 : (Rows.reconcileOneRow.maps == (Tryz.f6.params.toList ++ Rows.reconcileOneSpec.plain.varTypes Tryz.prog).any (Tryz.prog.mapsRec ·)) = true := by kernel_rfl
theorem reconcileOnefact14 : (Rows.reconcileOneRow.ifaces == (Tryz.f6.params.toList ++ Rows.reconcileOneSpec.plain.varTypes Tryz.prog).any (Tryz.prog.ifacesRec ·)) = true := by kernel_rfl
theorem reconcileOnefact15 : (Rows.reconcileOneRow.mapsOut == Tryz.prog.mapsAmong Tryz.f6.resultTypes.toList) = true := by kernel_rfl
theorem reconcileOnefact16 : (Rows.reconcileOneRow.loops == (Tryz.f6.params.toList ++ Rows.reconcileOneSpec.plain.varTypes Tryz.prog).any (Tryz.prog.loopsFrom ·)) = true := by kernel_rfl
theorem reconcileOnefact17 : (Rows.reconcileOneRow.wideKeys == (Tryz.f6.params.toList ++ Rows.reconcileOneSpec.plain.varTypes Tryz.prog ++ Tryz.f6.resultTypes.toList).any (Tryz.prog.wideKeysFrom ·)) = true := by kernel_rfl
theorem reconcileOnefact18 : Rows.reconcileOneSpec.vars.all (Tryz.prog.varReadable ·) = true := by kernel_rfl
theorem reconcileOnefact19 : Tryz.f6.resultTypes.all (fun t => Tryz.prog.readableRec t && decide (t < Tryz.prog.types.size)) = true := by kernel_rfl
theorem reconcileOnefact20 : (Rows.reconcileOneRow.ifacesOut == Tryz.f6.resultTypes.toList.any (Tryz.prog.ifacesRec ·)) = true := by kernel_rfl
theorem reconcileOnefact21 : (Rows.reconcileOneRow.loopsOut == Tryz.f6.resultTypes.toList.any (Tryz.prog.loopsFrom ·)) = true := by kernel_rfl
theorem reconcileOnefact22 : (Rows.reconcileOneRow.plainKeys == Tryz.prog.plainKeys) = true := by rw [sharedplainKeys]; rfl
theorem reconcileOnefact23 : Rows.reconcileOneRow.shortTexts.isNone = true := by kernel_rfl
theorem reconcileOnefact26 : (Rows.reconcileOneRow.lifted == Tryz.prog.liftsFinal) = true := by rw [sharedliftsFinal]; rfl
theorem reconcileOnefact27 : (Tryz.prog.make == some Rows.reconcileOneRow.make) = true := by kernel_rfl
theorem reconcileOnefact28 : (Rows.reconcileOneRow.kinds == (if Rows.reconcileOneRow.domain.isEmpty then [] else Tryz.f6.params.toList.map fun t => match Tryz.prog.underlying t with | some (.int k) => some k | _ => none)) = true := by kernel_rfl
theorem reconcileOnefact29 : (Rows.reconcileOneRow.pinned == Rows.reconcileOneRow.pinnedBy) = true := by kernel_rfl
theorem reconcileOnefact30 : (Rows.reconcileOneRow.veiled == (Tryz.f6.params.toList ++ Rows.reconcileOneSpec.plain.varTypes Tryz.prog ++ Tryz.f6.resultTypes.toList).any (Tryz.prog.veiledRec ·)) = true := by kernel_rfl
theorem reconcileOnefact31 : Rows.reconcileOneRow.veiledFits Tryz.prog Tryz.f6.params.toList (Tryz.f6.params.toList ++ Rows.reconcileOneSpec.plain.varTypes Tryz.prog ++ Tryz.f6.resultTypes.toList) = true := by kernel_rfl
set_option maxRecDepth 100000 in
theorem reconcileOneclosed : joinedFacts Tryz.prog 6 Tryz.f6 Rows.reconcileOneSpec Rows.reconcileOneRow = true := (and_mk (and_mk (and_mk (and_mk (and_mk (and_mk (and_mk (and_mk (and_mk (and_mk (and_mk (and_mk (and_mk (and_mk (and_mk (and_mk (and_mk (and_mk (and_mk (and_mk (and_mk (and_mk (and_mk (and_mk (and_mk (and_mk (and_mk (and_mk (and_mk (and_mk (and_mk reconcileOnefact0 sharedfact1) sharedfact2) reconcileOnefact3) reconcileOnefact4) reconcileOnefact5) sharedfact6) reconcileOnefact7) sharedfact8) reconcileOnefact9) reconcileOnefact10) reconcileOnefact11) reconcileOnefact12) reconcileOnefact13) reconcileOnefact14) reconcileOnefact15) reconcileOnefact16) reconcileOnefact17) reconcileOnefact18) reconcileOnefact19) reconcileOnefact20) reconcileOnefact21) reconcileOnefact22) reconcileOnefact23) sharedfact24) sharedfact25) reconcileOnefact26) reconcileOnefact27) reconcileOnefact28) reconcileOnefact29) reconcileOnefact30) reconcileOnefact31)

theorem reconcileOne_named : Tryz.prog.funcNamed Rows.reconcileOneRow.func = some 6 := by kernel_rfl
theorem reconcileOne_wrap : Tryz.f6.isWrapper Tryz.prog Rows.reconcileOneRow.wrapper Rows.reconcileOneRow.mainSum := by
  unfold Func.isWrapper
  first | (rw [if_pos (by decide +kernel)]; kernel_rfl) | (rw [if_neg (by decide +kernel)]; exact ⟨rfl, rfl⟩)
theorem reconcileOne_inst : Tryz.f6.isInstance Tryz.prog Rows.reconcileOneRow.origin Rows.reconcileOneRow.targs := of_decide_eq_true (by kernel_rfl)
theorem reconcileOne_over : Rows.reconcileOneRow.holds Tryz.pinned (OpenSpec.ofChange Rows.reconcileOneSpec) :=
  OpenClaim.holds_of_wide 6 Tryz.f6 rfl rfl rfl rfl rfl rfl rfl ⟨rfl, rfl, rfl, rfl, rfl⟩ rfl rfl rfl rfl rfl reconcileOne_named Tryz.func6 reconcileOneclosed reconcileOne_inst reconcileOne_wrap
    (fun os started H enc _ => reconcileOne_lifted os started H enc)
theorem ReconcileOne_card : Rows.ReconcileOneCardSaid :=
  Claim7.holds_tied_plain_at .later [] [.data, .data, .data, .data, .sentinel, .sentinel, .pinned] true (true, "e35ac5b408a18c2e1d6eae73f8f4c2b49f81947261df319c7eaeffe52850a4dd") true reconcileOne_over (fun _ h => by cases h) (by kernel_rfl) (fun _ h => by cases h) reconcileOne_row_tie rfl ⟨rfl, rfl⟩ (by kernel_rfl) rfl
    (fun f fn hf hfn => by
      obtain rfl : f = 6 := Option.some.inj (reconcileOne_named.symm.trans hf) |>.symm
      obtain rfl : fn = Tryz.f6 := (Option.some.inj (Tryz.func6.symm.trans hfn)).symm
      exact ⟨by kernel_rfl, fun j t ht => by
        rw [Tryz.params6] at ht
        have hm : t ∈ [26, 5, 39] := by simpa using Array.mem_of_getElem? ht
        have hall : ([26, 5, 39].all fun u => !Tryz.prog.wantsStandIn u) = true := by kernel_rfl
        exact (show Tryz.prog.wantsStandIn t = false by simpa using List.all_eq_true.1 hall t hm)⟩)
    (by kernel_rfl)
#print axioms ReconcileOne_card
end Go.Proofs.YtdkpmnefoobipaaGreatDoor
