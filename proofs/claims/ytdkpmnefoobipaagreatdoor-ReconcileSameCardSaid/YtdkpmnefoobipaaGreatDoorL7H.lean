/- The law ReconcileSame returns true for every input, and each argument reads afterwards as before; the tied card of it. Conditions: none, but that the listed package variables hold what the program's text lays. -/
import Derived.Test.YtdkpmnefoobipaaGreatDoorB4
import Derived.Test.YtdkpmnefoobipaaGreatDoorB11
import Derived.Test.YtdkpmnefoobipaaGreatDoorB7
import Derived.Test.YtdkpmnefoobipaaGreatDoorCards
import Derived.Test.YtdkpmnefoobipaaGreatDoorTie
import Derived.SevenTiedAt
namespace Go.Proofs.YtdkpmnefoobipaaGreatDoor
open Go.ChangeShapes Go.WideShapes Go.ChangeAt Go.RowKit Px

theorem reconcileSame_reads : ∀ t ∈ Tryz.f7.params.toList, Tryz.prog.readableRec t = true ∧ t < Tryz.prog.types.size := by
  rw [Tryz.params7]
  intro t ht
  have : t = 26 ∨ t = 5 := by simp at ht; omega
  rcases this with rfl | rfl
  · exact ⟨by kernel_rfl, of_decide_eq_true (by kernel_rfl)⟩
  · exact ⟨by kernel_rfl, of_decide_eq_true (by kernel_rfl)⟩

set_option maxRecDepth 100000 in
theorem reconcileSame_lifted (os : Os) (started : os.Started) (H : Type) (enc : TypeId × Value → H) :
    ReturnsInHanded {} Tryz.checked os 7 .any (fun w args => (Rows.reconcileSameSpec.pre enc Tryz.prog Tryz.f7 Rows.reconcileSameRow.domain false w args ∧ laidMetH Tryz.prog Rows.reconcileSameRow.laid w) ∧ sizedMet enc Tryz.prog Tryz.f7 (OpenSpec.ofChange Rows.reconcileSameSpec) false w args)
      (Rows.reconcileSameSpec.post enc Tryz.prog Tryz.f7 false true false false) := by
  refine returnsInHanded_of_change_and (C := Tryz.checked) (X := fun w _ => laidMetH Tryz.prog Rows.reconcileSameRow.laid w) (fun _ _ _ hh h => h.of_heap hh) own started (by kernel_rfl) Tryz.func7
    (ChangeSpec.witness_shaped (enc := enc) (C := Tryz.checked) (os := os) (X := fun w _ => laidMetH Tryz.prog Rows.reconcileSameRow.laid w) false (World.laidAll Tryz.prog os Rows.reconcileSameRow.laid) #[.agg #[.int .i64 0, .slice none 0 0, .slice none 0 0], .int .u8 0] 8 (World.laidAll_os _ _ _)
      (World.shaped_of_ZipB (by kernel_rfl) (by kernel_rfl)) (by kernel_rfl) (by kernel_rfl) (by kernel_rfl)
      (by rw [MakeChecks.laidMetH_plain _ _ _ (by kernel_rfl)]; exact laidMet_laidAll _ (by kernel_rfl) (by kernel_rfl))) ?_
  intro W base args ds gs before hval0 hW hcnd _ hL _
  have hG : GlobOk (fun _ _ => True) W := by
    rw [MakeChecks.laidMetH_plain _ _ _ (by kernel_rfl)] at hL
    obtain ⟨ps, ⟨g0, t0, cs0, f0, p0, q0, hg0, ht0, hv0, hd0, ⟨g1, t1, cs1, f1, p1, q1, hg1, ht1, hv1, hd1, ⟨g2, t2, cs2, f2, p2, q2, hg2, ht2, hv2, hd2, _, _⟩, _⟩, _⟩, _, _⟩ := hL
    obtain rfl := Option.some.inj ((show Tryz.prog.globalNamed "internal/strconv.uint64pow10" = some 2 by kernel_rfl).symm.trans hg2)
    obtain rfl := Option.some.inj ((show (Tryz.prog.globals[2]?).map (·.type) = some 229 by kernel_rfl).symm.trans ht2)
    exact glob_of_var hv2 rfl hd2
  have hval : ∀ (j : Nat) t v, Tryz.f7.params[j]? = some t → args[j]? = some v → Value.okWide Tryz.prog W .any base t v := hval0
  have hW' := hW
  obtain ⟨p, q, hA0, hV, rfl, hfz, hnd⟩ := hW
  have hA : DataW.TrodAll enc Tryz.prog W 0 (fun _ => true) true Tryz.f7.params.toList args.toList ds p := hA0
  rw [Tryz.params7] at hA hval
  obtain ⟨v0, vs0, d0, ds0, p0, q0, hargs, rfl, rfl, h0, r0⟩ := trodAll_cons hA
  obtain ⟨v1, vs1, d1, ds1, p1, q1, rfl, rfl, rfl, h1, r1⟩ := trodAll_cons r0
  obtain ⟨rfl, rfl, rfl⟩ := trodAll_nil r1
  obtain rfl : args = #[v0, v1] := by cases args; simp_all
  obtain ⟨rfl, rfl⟩ := trodVars_none hV
  obtain ⟨x0, wx0, e0⟩ := open_sh (sh := shS) (by kernel_rfl) (hval 0 26 v0 rfl rfl) h0
  obtain ⟨s0, hs0⟩ := stm_dv x0
  rw [hs0] at e0
  obtain ⟨x1, wx1, e1⟩ := open_sh (sh := .i .u8) (by kernel_rfl) (hval 1 5 v1 rfl rfl) h1
  have bu1 : 0 ≤ (x1 : Int) ∧ (x1 : Int) ≤ 255 := by simpa [Dat.ok, Lit.wf, IntKind.min, IntKind.max, IntKind.signed, IntKind.bits] using wx1
  refine (calls_of_true (law7 s0 x1 bu1.1 bu1.2) W [v0, v1] rfl (fun j v x hv hx => ?_) hG).mono fun e W' ⟨he, bel⟩ => ?_
  · match j, hv, hx with
    | 0, hv, hx => cases hv; cases hx; exact e0
    | 1, hv, hx => cases hv; cases hx; exact e1
    | j + 2, hv, _ => simp at hv
  · subst he
    exact ⟨_, rfl, law_post hW' rfl rfl rfl reconcileSame_reads bel⟩

theorem reconcileSamefact0 : Rows.reconcileSameRow.wf (OpenSpec.ofChange Rows.reconcileSameSpec) = true := by kernel_rfl
theorem reconcileSamefact3 : Tryz.f7.params.all (Tryz.prog.readableRec ·) = true := by kernel_rfl
theorem reconcileSamefact4 : namedTie Tryz.prog Rows.reconcileSameRow.named Rows.reconcileSameSpec.vars = true := by kernel_rfl
theorem reconcileSamefact5 : (Rows.reconcileSameRow.stops == []) = true := by kernel_rfl
theorem reconcileSamefact7 : (Rows.reconcileSameRow.knobs == []) = true := by kernel_rfl
theorem reconcileSamefact9 : (Rows.reconcileSameRow.inPlace == Tryz.prog.inPlace 7) = true := by kernel_rfl
theorem reconcileSamefact10 : (Rows.reconcileSameRow.unfollowed == Tryz.prog.unfollowed 7) = true := by kernel_rfl
theorem reconcileSamefact11 : (Rows.reconcileSameRow.recurses == Tryz.prog.recurses 7) = true := by kernel_rfl
theorem reconcileSamefact12 : (Rows.reconcileSameRow.named == Tryz.prog.varsNamed 7) = true := by kernel_rfl
theorem reconcileSamefact13 : (Rows.reconcileSameRow.maps == (Tryz.f7.params.toList ++ Rows.reconcileSameSpec.plain.varTypes Tryz.prog).any (Tryz.prog.mapsRec ·)) = true := by kernel_rfl
theorem reconcileSamefact14 : (Rows.reconcileSameRow.ifaces == (Tryz.f7.params.toList ++ Rows.reconcileSameSpec.plain.varTypes Tryz.prog).any (Tryz.prog.ifacesRec ·)) = true := by kernel_rfl
theorem reconcileSamefact15 : (Rows.reconcileSameRow.mapsOut == Tryz.prog.mapsAmong Tryz.f7.resultTypes.toList) = true := by kernel_rfl
theorem reconcileSamefact16 : (Rows.reconcileSameRow.loops == (Tryz.f7.params.toList ++ Rows.reconcileSameSpec.plain.varTypes Tryz.prog).any (Tryz.prog.loopsFrom ·)) = true := by kernel_rfl
theorem reconcileSamefact17 : (Rows.reconcileSameRow.wideKeys == (Tryz.f7.params.toList ++ Rows.reconcileSameSpec.plain.varTypes Tryz.prog ++ Tryz.f7.resultTypes.toList).any (Tryz.prog.wideKeysFrom ·)) = true := by kernel_rfl
theorem reconcileSamefact18 : Rows.reconcileSameSpec.vars.all (Tryz.prog.varReadable ·) = true := by kernel_rfl
theorem reconcileSamefact19 : Tryz.f7.resultTypes.all (fun t => Tryz.prog.readableRec t && decide (t < Tryz.prog.types.size)) = true := by kernel_rfl
theorem reconcileSamefact20 : (Rows.reconcileSameRow.ifacesOut == Tryz.f7.resultTypes.toList.any (Tryz.prog.ifacesRec ·)) = true := by kernel_rfl
theorem reconcileSamefact21 : (Rows.reconcileSameRow.loopsOut == Tryz.f7.resultTypes.toList.any (Tryz.prog.loopsFrom ·)) = true := by kernel_rfl
theorem reconcileSamefact22 : (Rows.reconcileSameRow.plainKeys == Tryz.prog.plainKeys) = true := by rw [sharedplainKeys]; rfl
theorem reconcileSamefact23 : Rows.reconcileSameRow.shortTexts.isNone = true := by kernel_rfl
theorem reconcileSamefact26 : (Rows.reconcileSameRow.lifted == Tryz.prog.liftsFinal) = true := by rw [sharedliftsFinal]; rfl
theorem reconcileSamefact27 : (Tryz.prog.make == some Rows.reconcileSameRow.make) = true := by kernel_rfl
theorem reconcileSamefact28 : (Rows.reconcileSameRow.kinds == (if Rows.reconcileSameRow.domain.isEmpty then [] else Tryz.f7.params.toList.map fun t => match Tryz.prog.underlying t with | some (.int k) => some k | _ => none)) = true := by kernel_rfl
theorem reconcileSamefact29 : (Rows.reconcileSameRow.pinned == Rows.reconcileSameRow.pinnedBy) = true := by kernel_rfl
theorem reconcileSamefact30 : (Rows.reconcileSameRow.veiled == (Tryz.f7.params.toList ++ Rows.reconcileSameSpec.plain.varTypes Tryz.prog ++ Tryz.f7.resultTypes.toList).any (Tryz.prog.veiledRec ·)) = true := by kernel_rfl
theorem reconcileSamefact31 : Rows.reconcileSameRow.veiledFits Tryz.prog Tryz.f7.params.toList (Tryz.f7.params.toList ++ Rows.reconcileSameSpec.plain.varTypes Tryz.prog ++ Tryz.f7.resultTypes.toList) = true := by kernel_rfl
set_option maxRecDepth 100000 in
theorem reconcileSameclosed : joinedFacts Tryz.prog 7 Tryz.f7 Rows.reconcileSameSpec Rows.reconcileSameRow = true := (and_mk (and_mk (and_mk (and_mk (and_mk (and_mk (and_mk (and_mk (and_mk (and_mk (and_mk (and_mk (and_mk (and_mk (and_mk (and_mk (and_mk (and_mk (and_mk (and_mk (and_mk (and_mk (and_mk (and_mk (and_mk (and_mk (and_mk (and_mk (and_mk (and_mk (and_mk reconcileSamefact0 sharedfact1) sharedfact2) reconcileSamefact3) reconcileSamefact4) reconcileSamefact5) sharedfact6) reconcileSamefact7) sharedfact8) reconcileSamefact9) reconcileSamefact10) reconcileSamefact11) reconcileSamefact12) reconcileSamefact13) reconcileSamefact14) reconcileSamefact15) reconcileSamefact16) reconcileSamefact17) reconcileSamefact18) reconcileSamefact19) reconcileSamefact20) reconcileSamefact21) reconcileSamefact22) reconcileSamefact23) sharedfact24) sharedfact25) reconcileSamefact26) reconcileSamefact27) reconcileSamefact28) reconcileSamefact29) reconcileSamefact30) reconcileSamefact31)

theorem reconcileSame_named : Tryz.prog.funcNamed Rows.reconcileSameRow.func = some 7 := by kernel_rfl
theorem reconcileSame_wrap : Tryz.f7.isWrapper Tryz.prog Rows.reconcileSameRow.wrapper Rows.reconcileSameRow.mainSum := by
  unfold Func.isWrapper
  first | (rw [if_pos (by decide +kernel)]; kernel_rfl) | (rw [if_neg (by decide +kernel)]; exact ⟨rfl, rfl⟩)
theorem reconcileSame_inst : Tryz.f7.isInstance Tryz.prog Rows.reconcileSameRow.origin Rows.reconcileSameRow.targs := of_decide_eq_true (by kernel_rfl)
theorem reconcileSame_over : Rows.reconcileSameRow.holds Tryz.pinned (OpenSpec.ofChange Rows.reconcileSameSpec) :=
  OpenClaim.holds_of_wide 7 Tryz.f7 rfl rfl rfl rfl rfl rfl rfl ⟨rfl, rfl, rfl, rfl, rfl⟩ rfl rfl rfl rfl rfl reconcileSame_named Tryz.func7 reconcileSameclosed reconcileSame_inst reconcileSame_wrap
    (fun os started H enc _ => reconcileSame_lifted os started H enc)
theorem ReconcileSame_card : Rows.ReconcileSameCardSaid :=
  Claim7.holds_tied_plain_at .later [] [.data, .data, .data, .data, .sentinel, .sentinel, .pinned] true (true, "e35ac5b408a18c2e1d6eae73f8f4c2b49f81947261df319c7eaeffe52850a4dd") true reconcileSame_over (fun _ h => by cases h) (by kernel_rfl) (fun _ h => by cases h) reconcileSame_row_tie rfl ⟨rfl, rfl⟩ (by kernel_rfl) rfl
    (fun f fn hf hfn => by
      obtain rfl : f = 7 := Option.some.inj (reconcileSame_named.symm.trans hf) |>.symm
      obtain rfl : fn = Tryz.f7 := (Option.some.inj (Tryz.func7.symm.trans hfn)).symm
      exact ⟨by kernel_rfl, fun j t ht => by
        rw [Tryz.params7] at ht
        have hm : t ∈ [26, 5] := by simpa using Array.mem_of_getElem? ht
        have hall : ([26, 5].all fun u => !Tryz.prog.wantsStandIn u) = true := by kernel_rfl
        exact (show Tryz.prog.wantsStandIn t = false by simpa using List.all_eq_true.1 hall t hm)⟩)
    (by kernel_rfl)
#print axioms ReconcileSame_card
end Go.Proofs.YtdkpmnefoobipaaGreatDoor
