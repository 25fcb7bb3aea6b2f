/- The law ReconcilePairs returns true for every input, and each argument reads afterwards as before; the tied card of it. Conditions: none, but that the listed package variables hold what the program's text lays. -/
import Derived.Test.YtdkpmnefoobipaaGreatDoorB4
import Derived.Test.YtdkpmnefoobipaaGreatDoorB8
import Derived.Test.YtdkpmnefoobipaaGreatDoorB7
import Derived.Test.YtdkpmnefoobipaaGreatDoorCards
import Derived.Test.YtdkpmnefoobipaaGreatDoorTie
import Derived.SevenTiedAt
namespace Go.Proofs.YtdkpmnefoobipaaGreatDoor
open Go.ChangeShapes Go.WideShapes Go.ChangeAt Go.RowKit Px

theorem reconcilePairs_reads : ∀ t ∈ Tryz.f4.params.toList, Tryz.prog.readableRec t = true ∧ t < Tryz.prog.types.size := by
  rw [Tryz.params4]
  intro t ht
  have : t = 26 ∨ t = 5 := by simp at ht; omega
  rcases this with rfl | rfl
  · exact ⟨by kernel_rfl, of_decide_eq_true (by kernel_rfl)⟩
  · exact ⟨by kernel_rfl, of_decide_eq_true (by kernel_rfl)⟩

set_option maxRecDepth 100000 in
theorem reconcilePairs_lifted (os : Os) (started : os.Started) (H : Type) (enc : TypeId × Value → H) :
    ReturnsInHanded {} Tryz.checked os 4 .any (fun w args => (Rows.reconcilePairsSpec.pre enc Tryz.prog Tryz.f4 Rows.reconcilePairsRow.domain false w args ∧ laidMetH Tryz.prog Rows.reconcilePairsRow.laid w) ∧ sizedMet enc Tryz.prog Tryz.f4 (OpenSpec.ofChange Rows.reconcilePairsSpec) false w args)
      (Rows.reconcilePairsSpec.post enc Tryz.prog Tryz.f4 false true false false) := by
  refine returnsInHanded_of_change_and (C := Tryz.checked) (X := fun w _ => laidMetH Tryz.prog Rows.reconcilePairsRow.laid w) (fun _ _ _ hh h => h.of_heap hh) own started (by kernel_rfl) Tryz.func4
    (ChangeSpec.witness_shaped (enc := enc) (C := Tryz.checked) (os := os) (X := fun w _ => laidMetH Tryz.prog Rows.reconcilePairsRow.laid w) false (World.laidAll Tryz.prog os Rows.reconcilePairsRow.laid) #[.agg #[.int .i64 0, .slice none 0 0, .slice none 0 0], .agg #[.int .i64 0, .slice none 0 0, .slice none 0 0], .int .u8 0] 8 (World.laidAll_os _ _ _)
      (World.shaped_of_ZipB (by kernel_rfl) (by kernel_rfl)) (by kernel_rfl) (by kernel_rfl) (by kernel_rfl)
      (by rw [MakeChecks.laidMetH_plain _ _ _ (by kernel_rfl)]; exact laidMet_laidAll _ (by kernel_rfl) (by kernel_rfl))) ?_
  intro W base args ds gs before hval0 hW hcnd _ hL _
  have hG : GlobOk (fun _ _ => True) W := by
    rw [MakeChecks.laidMetH_plain _ _ _ (by kernel_rfl)] at hL
    obtain ⟨ps, ⟨g0, t0, cs0, f0, p0, q0, hg0, ht0, hv0, hd0, ⟨g1, t1, cs1, f1, p1, q1, hg1, ht1, hv1, hd1, ⟨g2, t2, cs2, f2, p2, q2, hg2, ht2, hv2, hd2, _, _⟩, _⟩, _⟩, _, _⟩ := hL
    obtain rfl := Option.some.inj ((show Tryz.prog.globalNamed "internal/strconv.uint64pow10" = some 2 by kernel_rfl).symm.trans hg2)
    obtain rfl := Option.some.inj ((show (Tryz.prog.globals[2]?).map (·.type) = some 229 by kernel_rfl).symm.trans ht2)
    exact glob_of_var hv2 rfl hd2
  have hval : ∀ (j : Nat) t v, Tryz.f4.params[j]? = some t → args[j]? = some v → Value.okWide Tryz.prog W .any base t v := hval0
  have hW' := hW
  obtain ⟨p, q, hA0, hV, rfl, hfz, hnd⟩ := hW
  have hA : DataW.TrodAll enc Tryz.prog W 0 (fun _ => true) true Tryz.f4.params.toList args.toList ds p := hA0
  rw [Tryz.params4] at hA hval
  obtain ⟨v0, vs0, d0, ds0, p0, q0, hargs, rfl, rfl, h0, r0⟩ := trodAll_cons hA
  obtain ⟨v1, vs1, d1, ds1, p1, q1, rfl, rfl, rfl, h1, r1⟩ := trodAll_cons r0
  obtain ⟨v2, vs2, d2, ds2, p2, q2, rfl, rfl, rfl, h2, r2⟩ := trodAll_cons r1
  obtain ⟨rfl, rfl, rfl⟩ := trodAll_nil r2
  obtain rfl : args = #[v0, v1, v2] := by cases args; simp_all
  obtain ⟨rfl, rfl⟩ := trodVars_none hV
  obtain ⟨x0, wx0, e0⟩ := open_sh (sh := shS) (by kernel_rfl) (hval 0 26 v0 rfl rfl) h0
  obtain ⟨s0, hs0⟩ := stm_dv x0
  rw [hs0] at e0
  obtain ⟨x1, wx1, e1⟩ := open_sh (sh := shS) (by kernel_rfl) (hval 1 26 v1 rfl rfl) h1
  obtain ⟨s1, hs1⟩ := stm_dv x1
  rw [hs1] at e1
  obtain ⟨x2, wx2, e2⟩ := open_sh (sh := .i .u8) (by kernel_rfl) (hval 2 5 v2 rfl rfl) h2
  have bu2 : 0 ≤ (x2 : Int) ∧ (x2 : Int) ≤ 255 := by simpa [Dat.ok, Lit.wf, IntKind.min, IntKind.max, IntKind.signed, IntKind.bits] using wx2
  refine (calls_of_true (law4 s0 s1 x2 bu2.1 bu2.2) W [v0, v1, v2] rfl (fun j v x hv hx => ?_) hG).mono fun e W' ⟨he, bel⟩ => ?_
  · match j, hv, hx with
    | 0, hv, hx => cases hv; cases hx; exact e0
    | 1, hv, hx => cases hv; cases hx; exact e1
    | 2, hv, hx => cases hv; cases hx; exact e2
    | j + 3, hv, _ => simp at hv
  · subst he
    exact ⟨_, rfl, law_post hW' rfl rfl rfl reconcilePairs_reads bel⟩

theorem reconcilePairsfact0 : Rows.reconcilePairsRow.wf (OpenSpec.ofChange Rows.reconcilePairsSpec) = true := by kernel_rfl
theorem reconcilePairsfact3 : Tryz.f4.params.all (Tryz.prog.readableRec ·) = true := by kernel_rfl
theorem reconcilePairsfact4 : namedTie Tryz.prog Rows.reconcilePairsRow.named Rows.reconcilePairsSpec.vars = true := by kernel_rfl
theorem reconcilePairsfact5 : (Rows.reconcilePairsRow.stops == []) = true := by kernel_rfl
theorem reconcilePairsfact7 : (Rows.reconcilePairsRow.knobs == []) = true := by kernel_rfl
theorem reconcilePairsfact9 : (Rows.reconcilePairsRow.inPlace == Tryz.prog.inPlace 4) = true := by kernel_rfl
theorem reconcilePairsfact10 : (Rows.reconcilePairsRow.unfollowed == Tryz.prog.unfollowed 4) = true := by kernel_rfl
theorem reconcilePairsfact11 : (Rows.reconcilePairsRow.recurses == Tryz.prog.recurses 4) = true := by kernel_rfl
theorem reconcilePairsfact12 : (Rows.reconcilePairsRow.named == Tryz.prog.varsNamed 4) = true := by kernel_rfl
theorem reconcilePairsfact13 : (Rows.reconcilePairsRow.maps == (Tryz.f4.params.toList ++ Rows.reconcilePairsSpec.plain.varTypes Tryz.prog).any (Tryz.prog.mapsRec ·)) = true := by kernel_rfl
theorem reconcilePairsfact14 : (Rows.reconcilePairsRow.ifaces == (Tryz.f4.params.toList ++ Rows.reconcilePairsSpec.plain.varTypes Tryz.prog).any (Tryz.prog.ifacesRec ·)) = true := by kernel_rfl
theorem reconcilePairsfact15 : (Rows.reconcilePairsRow.mapsOut == Tryz.prog.mapsAmong Tryz.f4.resultTypes.toList) = true := by kernel_rfl
theorem reconcilePairsfact16 : (Rows.reconcilePairsRow.loops == (Tryz.f4.params.toList ++ Rows.reconcilePairsSpec.plain.varTypes Tryz.prog).any (Tryz.prog.loopsFrom ·)) = true := by kernel_rfl
theorem reconcilePairsfact17 : (Rows.reconcilePairsRow.wideKeys == (Tryz.f4.params.toList ++ Rows.reconcilePairsSpec.plain.varTypes Tryz.prog ++ Tryz.f4.resultTypes.toList).any (Tryz.prog.wideKeysFrom ·)) = true := by kernel_rfl
theorem reconcilePairsfact18 : Rows.reconcilePairsSpec.vars.all (Tryz.prog.varReadable ·) = true := by kernel_rfl
theorem reconcilePairsfact19 : Tryz.f4.resultTypes.all (fun t => Tryz.prog.readableRec t && decide (t < Tryz.prog.types.size)) = true := by kernel_rfl
theorem reconcilePairsfact20 : (Rows.reconcilePairsRow.ifacesOut == Tryz.f4.resultTypes.toList.any (Tryz.prog.ifacesRec ·)) = true := by kernel_rfl
theorem reconcilePairsfact21 : (Rows.reconcilePairsRow.loopsOut == Tryz.f4.resultTypes.toList.any (Tryz.prog.loopsFrom ·)) = true := by kernel_rfl
theorem reconcilePairsfact22 : (Rows.reconcilePairsRow.plainKeys == Tryz.prog.plainKeys) = true := by rw [sharedplainKeys]; rfl
theorem reconcilePairsfact23 : Rows.reconcilePairsRow.shortTexts.isNone = true := by kernel_rfl
theorem reconcilePairsfact26 : (Rows.reconcilePairsRow.lifted == Tryz.prog.liftsFinal) = true := by rw [sharedliftsFinal]; rfl
theorem reconcilePairsfact27 : (Tryz.prog.make == some Rows.reconcilePairsRow.make) = true := by kernel_rfl
theorem reconcilePairsfact28 : (Rows.reconcilePairsRow.kinds == (if Rows.reconcilePairsRow.domain.isEmpty then [] else Tryz.f4.params.toList.map fun t => match Tryz.prog.underlying t with | some (.int k) => some k | _ => none)) = true := by kernel_rfl
theorem reconcilePairsfact29 : (Rows.reconcilePairsRow.pinned == Rows.reconcilePairsRow.pinnedBy) = true := by kernel_rfl
theorem reconcilePairsfact30 : (Rows.reconcilePairsRow.veiled == (Tryz.f4.params.toList ++ Rows.reconcilePairsSpec.plain.varTypes Tryz.prog ++ Tryz.f4.resultTypes.toList).any (Tryz.prog.veiledRec ·)) = true := by kernel_rfl
theorem reconcilePairsfact31 : Rows.reconcilePairsRow.veiledFits Tryz.prog Tryz.f4.params.toList (Tryz.f4.params.toList ++ Rows.reconcilePairsSpec.plain.varTypes Tryz.prog ++ Tryz.f4.resultTypes.toList) = true := by kernel_rfl
set_option maxRecDepth 100000 in
theorem reconcilePairsclosed : joinedFacts Tryz.prog 4 Tryz.f4 Rows.reconcilePairsSpec Rows.reconcilePairsRow = true := (and_mk (and_mk (and_mk (and_mk (and_mk (and_mk (and_mk (and_mk (and_mk (and_mk (and_mk (and_mk (and_mk (and_mk (and_mk (and_mk (and_mk (and_mk (and_mk (and_mk (and_mk (and_mk (and_mk (and_mk (and_mk (and_mk (and_mk (and_mk (and_mk (and_mk (and_mk reconcilePairsfact0 sharedfact1) sharedfact2) reconcilePairsfact3) reconcilePairsfact4) reconcilePairsfact5) sharedfact6) reconcilePairsfact7) sharedfact8) reconcilePairsfact9) reconcilePairsfact10) reconcilePairsfact11) reconcilePairsfact12) reconcilePairsfact13) reconcilePairsfact14) reconcilePairsfact15) reconcilePairsfact16) reconcilePairsfact17) reconcilePairsfact18) reconcilePairsfact19) reconcilePairsfact20) reconcilePairsfact21) reconcilePairsfact22) reconcilePairsfact23) sharedfact24) sharedfact25) reconcilePairsfact26) reconcilePairsfact27) reconcilePairsfact28) reconcilePairsfact29) reconcilePairsfact30) reconcilePairsfact31)

theorem reconcilePairs_named : Tryz.prog.funcNamed Rows.reconcilePairsRow.func = some 4 := by kernel_rfl
theorem reconcilePairs_wrap : Tryz.f4.isWrapper Tryz.prog Rows.reconcilePairsRow.wrapper Rows.reconcilePairsRow.mainSum := by
  unfold Func.isWrapper
  first | (rw [if_pos (by decide +kernel)]; kernel_rfl) | (rw [if_neg (by decide +kernel)]; exact ⟨rfl, rfl⟩)
theorem reconcilePairs_inst : Tryz.f4.isInstance Tryz.prog Rows.reconcilePairsRow.origin Rows.reconcilePairsRow.targs := of_decide_eq_true (by kernel_rfl)
theorem reconcilePairs_over : Rows.reconcilePairsRow.holds Tryz.pinned (OpenSpec.ofChange Rows.reconcilePairsSpec) :=
  OpenClaim.holds_of_wide 4 Tryz.f4 rfl rfl rfl rfl rfl rfl rfl ⟨rfl, rfl, rfl, rfl, rfl⟩ rfl rfl rfl rfl rfl reconcilePairs_named Tryz.func4 reconcilePairsclosed reconcilePairs_inst reconcilePairs_wrap
    (fun os started H enc _ => reconcilePairs_lifted os started H enc)
theorem ReconcilePairs_card : Rows.ReconcilePairsCardSaid :=
  Claim7.holds_tied_plain_at .later [] [.data, .data, .data, .data, .pinned] true (true, "e35ac5b408a18c2e1d6eae73f8f4c2b49f81947261df319c7eaeffe52850a4dd") true reconcilePairs_over (fun _ h => by cases h) (by kernel_rfl) (fun _ h => by cases h) reconcilePairs_row_tie rfl ⟨rfl, rfl⟩ (by kernel_rfl) rfl
    (fun f fn hf hfn => by
      obtain rfl : f = 4 := Option.some.inj (reconcilePairs_named.symm.trans hf) |>.symm
      obtain rfl : fn = Tryz.f4 := (Option.some.inj (Tryz.func4.symm.trans hfn)).symm
      exact ⟨by kernel_rfl, fun j t ht => by
        rw [Tryz.params4] at ht
        have hm : t ∈ [26, 26, 5] := by simpa using Array.mem_of_getElem? ht
        have hall : ([26, 26, 5].all fun u => !Tryz.prog.wantsStandIn u) = true := by kernel_rfl
        exact (show Tryz.prog.wantsStandIn t = false by simpa using List.all_eq_true.1 hall t hm)⟩)
    (by kernel_rfl)
#print axioms ReconcilePairs_card
end Go.Proofs.YtdkpmnefoobipaaGreatDoor
