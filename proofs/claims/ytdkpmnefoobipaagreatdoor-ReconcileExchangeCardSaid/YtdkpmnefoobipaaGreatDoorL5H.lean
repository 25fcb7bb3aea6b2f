/- The law ReconcileExchange returns true for every input, and each argument reads afterwards as before; the tied card of it. Conditions: none, but that the listed package variables hold what the program's text lays. -/
import Derived.Test.YtdkpmnefoobipaaGreatDoorB4
import Derived.Test.YtdkpmnefoobipaaGreatDoorB9
import Derived.Test.YtdkpmnefoobipaaGreatDoorB7
import Derived.Test.YtdkpmnefoobipaaGreatDoorCards
import Derived.Test.YtdkpmnefoobipaaGreatDoorTie
import Derived.SevenTiedAt
namespace Go.Proofs.YtdkpmnefoobipaaGreatDoor
open Go.ChangeShapes Go.WideShapes Go.ChangeAt Go.RowKit Px

theorem reconcileExchange_reads : ∀ t ∈ Tryz.f5.params.toList, Tryz.prog.readableRec t = true ∧ t < Tryz.prog.types.size := by
  rw [Tryz.params5]
  intro t ht
  have : t = 26 ∨ t = 5 := by simp at ht; omega
  rcases this with rfl | rfl
  · exact ⟨by kernel_rfl, of_decide_eq_true (by kernel_rfl)⟩
  · exact ⟨by kernel_rfl, of_decide_eq_true (by kernel_rfl)⟩

set_option maxRecDepth 100000 in
theorem reconcileExchange_lifted (os : Os) (started : os.Started) (H : Type) (enc : TypeId × Value → H) :
    ReturnsInHanded {} Tryz.checked os 5 .any (fun w args => (Rows.reconcileExchangeSpec.pre enc Tryz.prog Tryz.f5 Rows.reconcileExchangeRow.domain false w args ∧ laidMetH Tryz.prog Rows.reconcileExchangeRow.laid w) ∧ sizedMet enc Tryz.prog Tryz.f5 (OpenSpec.ofChange Rows.reconcileExchangeSpec) false w args)
      (Rows.reconcileExchangeSpec.post enc Tryz.prog Tryz.f5 false true false false) := by
  refine returnsInHanded_of_change_and (C := Tryz.checked) (X := fun w _ => laidMetH Tryz.prog Rows.reconcileExchangeRow.laid w) (fun _ _ _ hh h => h.of_heap hh) own started (by kernel_rfl) Tryz.func5
    (ChangeSpec.witness_shaped (enc := enc) (C := Tryz.checked) (os := os) (X := fun w _ => laidMetH Tryz.prog Rows.reconcileExchangeRow.laid w) false (World.laidAll Tryz.prog os Rows.reconcileExchangeRow.laid) #[.agg #[.int .i64 0, .slice none 0 0, .slice none 0 0], .agg #[.int .i64 0, .slice none 0 0, .slice none 0 0], .int .u8 0] 8 (World.laidAll_os _ _ _)
      (World.shaped_of_ZipB (by kernel_rfl) (by kernel_rfl)) (by kernel_rfl) (by kernel_rfl) (by kernel_rfl)
      (by rw [MakeChecks.laidMetH_plain _ _ _ (by kernel_rfl)]; exact laidMet_laidAll _ (by kernel_rfl) (by kernel_rfl))) ?_
  intro W base args ds gs before hval0 hW hcnd _ hL _
  have hG : GlobOk (fun _ _ => True) W := by
    rw [MakeChecks.laidMetH_plain _ _ _ (by kernel_rfl)] at hL
    obtain ⟨ps, ⟨g0, t0, cs0, f0, p0, q0, hg0, ht0, hv0, hd0, ⟨g1, t1, cs1, f1, p1, q1, hg1, ht1, hv1, hd1, ⟨g2, t2, cs2, f2, p2, q2, hg2, ht2, hv2, hd2, _, _⟩, _⟩, _⟩, _, _⟩ := hL
    obtain rfl := Option.some.inj ((show Tryz.prog.globalNamed "internal/strconv.uint64pow10" = some 2 by kernel_rfl).symm.trans hg2)
    obtain rfl := Option.some.inj ((show (Tryz.prog.globals[2]?).map (·.type) = some 229 by kernel_rfl).symm.trans ht2)
    exact glob_of_var hv2 rfl hd2
  have hval : ∀ (j : Nat) t v, Tryz.f5.params[j]? = some t → args[j]? = some v → Value.okWide Tryz.prog W .any base t v := hval0
  have hW' := hW
  obtain ⟨p, q, hA0, hV, rfl, hfz, hnd⟩ := hW
  have hA : DataW.TrodAll enc Tryz.prog W 0 (fun _ => true) true Tryz.f5.params.toList args.toList ds p := hA0
  rw [Tryz.params5] at hA hval
  obtain ⟨v0, vs0, d0, ds0, p0, q0, hargs, rfl, rfl, h0, r0⟩ := trodAll_cons hA
  obtain ⟨v1, vs1, d1, ds1, p1, q1, rfl, rfl, rfl, h1, r1⟩ := trodAll_cons r0
  obtain ⟨v2, vs2, d2, ds2, p2, q2, rfl, rfl, rfl, h2, r2⟩ := trodAll_cons r1
  obtain ⟨rfl, rfl, rfl⟩ := trodAll_nil r2
  obtain rfl : args = #[v0, v1, v2] := by cases args; simp_all
  obtain ⟨rfl, rfl⟩ := trodVars_none hV
  obtain ⟨x0, wx0, e0⟩ := open_sh (sh := shS) (by kernel_rfl) (hval 0 26 v0 rfl rfl) h0
  obtain ⟨s0, hs0⟩ := stm_dv x0
  rw [hs0] at e0
  obtain ⟨x1, wx1, e1⟩ := open_sh (sh := shS) (by kernel_rfl) (hval 1 26 v1 rfl rfl) h1
  obtain ⟨s1, hs1⟩ := stm_dv x1
  rw [hs1] at e1
  obtain ⟨x2, wx2, e2⟩ := open_sh (sh := .i .u8) (by kernel_rfl) (hval 2 5 v2 rfl rfl) h2
  have bu2 : 0 ≤ (x2 : Int) ∧ (x2 : Int) ≤ 255 := by simpa [Dat.ok, Lit.wf, IntKind.min, IntKind.max, IntKind.signed, IntKind.bits] using wx2
  refine (calls_of_true (law5 s0 s1 x2 bu2.1 bu2.2) W [v0, v1, v2] rfl (fun j v x hv hx => ?_) hG).mono fun e W' ⟨he, bel⟩ => ?_
  · match j, hv, hx with
    | 0, hv, hx => cases hv; cases hx; exact e0
    | 1, hv, hx => cases hv; cases hx; exact e1
    | 2, hv, hx => cases hv; cases hx; exact e2
    | j + 3, hv, _ => simp at hv
  · subst he
    exact ⟨_, rfl, law_post hW' rfl rfl rfl reconcileExchange_reads bel⟩

theorem reconcileExchangefact0 : Rows.reconcileExchangeRow.wf (OpenSpec.ofChange Rows.reconcileExchangeSpec) = true := by kernel_rfl
theorem reconcileExchangefact3 : Tryz.f5.params.all (Tryz.prog.readableRec ·) = true := by kernel_rfl
theorem reconcileExchangefact4 : namedTie Tryz.prog Rows.reconcileExchangeRow.named Rows.reconcileExchangeSpec.vars = true := by kernel_rfl
theorem reconcileExchangefact5 : (Rows.reconcileExchangeRow.stops == []) = true := by kernel_rfl
theorem reconcileExchangefact7 : (Rows.reconcileExchangeRow.knobs == []) = true := by kernel_rfl
theorem reconcileExchangefact9 : (Rows.reconcileExchangeRow.inPlace == Tryz.prog.inPlace 5) = true := by kernel_rfl
theorem reconcileExchangefact10 : (Rows.reconcileExchangeRow.unfollowed == Tryz.prog.unfollowed 5) = true := by kernel_rfl
theorem reconcileExchangefact11 : (Rows.reconcileExchangeRow.recurses == Tryz.prog.recurses 5) = true := by kernel_rfl
theorem reconcileExchangefact12 : (Rows.reconcileExchangeRow.named == Tryz.prog.varsNamed 5) = true := by kernel_rfl
theorem reconcileExchangefact13 : (Rows.reconcileExchangeRow.maps == (Tryz.f5.params.toList ++ Rows.reconcileExchangeSpec.plain.varTypes Tryz.prog).any (Tryz.prog.mapsRec ·)) = true := by kernel_rfl
theorem reconcileExchangefact14 : (Rows.reconcileExchangeRow.ifaces == (Tryz.f5.params.toList ++ Rows.reconcileExchangeSpec.plain.varTypes Tryz.prog).any (Tryz.prog.ifacesRec ·)) = true := by kernel_rfl
theorem reconcileExchangefact15 : (Rows.reconcileExchangeRow.mapsOut == Tryz.prog.mapsAmong Tryz.f5.resultTypes.toList) = true := by kernel_rfl
theorem reconcileExchangefact16 : (Rows.reconcileExchangeRow.loops == (Tryz.f5.params.toList ++ Rows.reconcileExchangeSpec.plain.varTypes Tryz.prog).any (Tryz.prog.loopsFrom ·)) = true := by kernel_rfl
theorem reconcileExchangefact17 : (Rows.reconcileExchangeRow.wideKeys == (Tryz.f5.params.toList ++ Rows.reconcileExchangeSpec.plain.varTypes Tryz.prog ++ Tryz.f5.resultTypes.toList).any (Tryz.prog.wideKeysFrom ·)) = true := by kernel_rfl
theorem reconcileExchangefact18 : Rows.reconcileExchangeSpec.vars.all (Tryz.prog.varReadable ·) = true := by kernel_rfl
theorem reconcileExchangefact19 : Tryz.f5.resultTypes.all (fun t => Tryz.prog.readableRec t && decide (t < Tryz.prog.types.size)) = true := by kernel_rfl
theorem reconcileExchangefact20 : (Rows.reconcileExchangeRow.ifacesOut == Tryz.f5.resultTypes.toList.any (Tryz.prog.ifacesRec ·)) = true := by kernel_rfl
theorem reconcileExchangefact21 : (Rows.reconcileExchangeRow.loopsOut == Tryz.f5.resultTypes.toList.any (Tryz.prog.loopsFrom ·)) = true := by kernel_rfl
theorem reconcileExchangefact22 : (Rows.reconcileExchangeRow.plainKeys == Tryz.prog.plainKeys) = true := by rw [sharedplainKeys]; rfl
theorem reconcileExchangefact23 : Rows.reconcileExchangeRow.shortTexts.isNone = true := by kernel_rfl
theorem reconcileExchangefact26 : (Rows.reconcileExchangeRow.lifted == Tryz.prog.liftsFinal) = true := by rw [sharedliftsFinal]; rfl
theorem reconcileExchangefact27 : (Tryz.prog.make == some Rows.reconcileExchangeRow.make) = true := by kernel_rfl
theorem reconcileExchangefact28 : (Rows.reconcileExchangeRow.kinds == (if Rows.reconcileExchangeRow.domain.isEmpty then [] else Tryz.f5.params.toList.map fun t => match Tryz.prog.underlying t with | some (.int k) => some k | _ => none)) = true := by kernel_rfl
theorem reconcileExchangefact29 : (Rows.reconcileExchangeRow.pinned == Rows.reconcileExchangeRow.pinnedBy) = true := by kernel_rfl
theorem reconcileExchangefact30 : (Rows.reconcileExchangeRow.veiled == (Tryz.f5.params.toList ++ Rows.reconcileExchangeSpec.plain.varTypes Tryz.prog ++ Tryz.f5.resultTypes.toList).any (Tryz.prog.veiledRec ·)) = true := by kernel_rfl
theorem reconcileExchangefact31 : Rows.reconcileExchangeRow.veiledFits Tryz.prog Tryz.f5.params.toList (Tryz.f5.params.toList ++ Rows.reconcileExchangeSpec.plain.varTypes Tryz.prog ++ Tryz.f5.resultTypes.toList) = true := by kernel_rfl
set_option maxRecDepth 100000 in
theorem reconcileExchangeclosed : joinedFacts Tryz.prog 5 Tryz.f5 Rows.reconcileExchangeSpec Rows.reconcileExchangeRow = true := (and_mk (and_mk (and_mk (and_mk (and_mk (and_mk (and_mk (and_mk (and_mk (and_mk (and_mk (and_mk (and_mk (and_mk (and_mk (and_mk (and_mk (and_mk (and_mk (and_mk (and_mk (and_mk (and_mk (and_mk (and_mk (and_mk (and_mk (and_mk (and_mk (and_mk (and_mk reconcileExchangefact0 sharedfact1) sharedfact2) reconcileExchangefact3) reconcileExchangefact4) reconcileExchangefact5) sharedfact6) reconcileExchangefact7) sharedfact8) reconcileExchangefact9) reconcileExchangefact10) reconcileExchangefact11) reconcileExchangefact12) reconcileExchangefact13) reconcileExchangefact14) reconcileExchangefact15) reconcileExchangefact16) reconcileExchangefact17) reconcileExchangefact18) reconcileExchangefact19) reconcileExchangefact20) reconcileExchangefact21) reconcileExchangefact22) reconcileExchangefact23) sharedfact24) sharedfact25) reconcileExchangefact26) reconcileExchangefact27) reconcileExchangefact28) reconcileExchangefact29) reconcileExchangefact30) reconcileExchangefact31)

theorem reconcileExchange_named : Tryz.prog.funcNamed Rows.reconcileExchangeRow.func = some 5 := by kernel_rfl
theorem reconcileExchange_wrap : Tryz.f5.isWrapper Tryz.prog Rows.reconcileExchangeRow.wrapper Rows.reconcileExchangeRow.mainSum := by
  unfold Func.isWrapper
  first | (rw [if_pos (by decide +kernel)]; kernel_rfl) | (rw [if_neg (by decide +kernel)]; exact ⟨rfl, rfl⟩)
theorem reconcileExchange_inst : Tryz.f5.isInstance Tryz.prog Rows.reconcileExchangeRow.origin Rows.reconcileExchangeRow.targs := of_decide_eq_true (by kernel_rfl)
theorem reconcileExchange_over : Rows.reconcileExchangeRow.holds Tryz.pinned (OpenSpec.ofChange Rows.reconcileExchangeSpec) :=
  OpenClaim.holds_of_wide 5 Tryz.f5 rfl rfl rfl rfl rfl rfl rfl ⟨rfl, rfl, rfl, rfl, rfl⟩ rfl rfl rfl rfl rfl reconcileExchange_named Tryz.func5 reconcileExchangeclosed reconcileExchange_inst reconcileExchange_wrap
    (fun os started H enc _ => reconcileExchange_lifted os started H enc)
theorem ReconcileExchange_card : Rows.ReconcileExchangeCardSaid :=
  Claim7.holds_tied_plain_at .later [] [.data, .data, .data, .data, .pinned] true (true, "e35ac5b408a18c2e1d6eae73f8f4c2b49f81947261df319c7eaeffe52850a4dd") true reconcileExchange_over (fun _ h => by cases h) (by kernel_rfl) (fun _ h => by cases h) reconcileExchange_row_tie rfl ⟨rfl, rfl⟩ (by kernel_rfl) rfl
    (fun f fn hf hfn => by
      obtain rfl : f = 5 := Option.some.inj (reconcileExchange_named.symm.trans hf) |>.symm
      obtain rfl : fn = Tryz.f5 := (Option.some.inj (Tryz.func5.symm.trans hfn)).symm
      exact ⟨by kernel_rfl, fun j t ht => by
        rw [Tryz.params5] at ht
        have hm : t ∈ [26, 26, 5] := by simpa using Array.mem_of_getElem? ht
        have hall : ([26, 26, 5].all fun u => !Tryz.prog.wantsStandIn u) = true := by kernel_rfl
        exact (show Tryz.prog.wantsStandIn t = false by simpa using List.all_eq_true.1 hall t hm)⟩)
    (by kernel_rfl)
#print axioms ReconcileExchange_card
end Go.Proofs.YtdkpmnefoobipaaGreatDoor
