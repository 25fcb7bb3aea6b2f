/- The law ExpressionTexts returns true for every input, and each argument reads afterwards as before; the tied card of it. Conditions: none, but that the listed package variables hold what the program's text lays. -/
import Derived.Test.YtmfeinilbjfnpaaGreatDoorB5
import Derived.Test.YtmfeinilbjfnpaaGreatDoorB10
import Derived.Test.YtmfeinilbjfnpaaGreatDoorB6
import Derived.Test.YtmfeinilbjfnpaaGreatDoorCards
import Derived.Test.YtmfeinilbjfnpaaGreatDoorTie
import Derived.SevenTiedAt
namespace Go.Proofs.YtmfeinilbjfnpaaGreatDoor
open Go.ChangeShapes Go.WideShapes Go.ChangeAt Go.RowKit Px

theorem expressionTexts_reads : ∀ t ∈ Tryz.f9.params.toList, Tryz.prog.readableRec t = true ∧ t < Tryz.prog.types.size := by
  rw [Tryz.params9]
  intro t ht
  have : t = 9 ∨ t = 22 := by simp at ht; omega
  rcases this with rfl | rfl
  · exact ⟨by kernel_rfl, of_decide_eq_true (by kernel_rfl)⟩
  · exact ⟨by kernel_rfl, of_decide_eq_true (by kernel_rfl)⟩

set_option maxRecDepth 100000 in
theorem expressionTexts_lifted (os : Os) (started : os.Started) (H : Type) (enc : TypeId × Value → H) :
    ReturnsInHanded {} Tryz.checked os 9 .any (fun w args => (Rows.expressionTextsSpec.pre enc Tryz.prog Tryz.f9 Rows.expressionTextsRow.domain false w args ∧ laidMetH Tryz.prog Rows.expressionTextsRow.laid w) ∧ sizedMet enc Tryz.prog Tryz.f9 (OpenSpec.ofChange Rows.expressionTextsSpec) false w args)
      (Rows.expressionTextsSpec.post enc Tryz.prog Tryz.f9 false true false false) := by
  refine returnsInHanded_of_change_and (C := Tryz.checked) (X := fun w _ => laidMetH Tryz.prog Rows.expressionTextsRow.laid w) (fun _ _ _ hh h => h.of_heap hh) own started (by kernel_rfl) Tryz.func9
    (ChangeSpec.witness_shaped (enc := enc) (C := Tryz.checked) (os := os) (X := fun w _ => laidMetH Tryz.prog Rows.expressionTextsRow.laid w) false (World.laidAll Tryz.prog os Rows.expressionTextsRow.laid) #[.string ⟨#[]⟩, .slice none 0 0] 8 (World.laidAll_os _ _ _)
      (World.shaped_of_ZipB (by kernel_rfl) (by kernel_rfl)) (by kernel_rfl) (by kernel_rfl) (by kernel_rfl)
      (by rw [MakeChecks.laidMetH_plain _ _ _ (by kernel_rfl)]; exact laidMet_laidAll _ (by kernel_rfl) (by kernel_rfl))) ?_
  intro W base args ds gs before hval0 hW hcnd _ hL _
  have hG : GlobOk (fun _ _ => True) W := by
    rw [MakeChecks.laidMetH_plain _ _ _ (by kernel_rfl)] at hL
    obtain ⟨ps, ⟨g0, t0, cs0, f0, p0, q0, hg0, ht0, hv0, hd0, ⟨g1, t1, cs1, f1, p1, q1, hg1, ht1, hv1, hd1, ⟨g2, t2, cs2, f2, p2, q2, hg2, ht2, hv2, hd2, _, _⟩, _⟩, _⟩, _, _⟩ := hL
    obtain rfl := Option.some.inj ((show Tryz.prog.globalNamed "internal/strconv.uint64pow10" = some 2 by kernel_rfl).symm.trans hg2)
    obtain rfl := Option.some.inj ((show (Tryz.prog.globals[2]?).map (·.type) = some 194 by kernel_rfl).symm.trans ht2)
    exact glob_of_var hv2 rfl hd2
  have hval : ∀ (j : Nat) t v, Tryz.f9.params[j]? = some t → args[j]? = some v → Value.okWide Tryz.prog W .any base t v := hval0
  have hW' := hW
  obtain ⟨p, q, hA0, hV, rfl, hfz, hnd⟩ := hW
  have hA : DataW.TrodAll enc Tryz.prog W 0 (fun _ => true) true Tryz.f9.params.toList args.toList ds p := hA0
  rw [Tryz.params9] at hA hval
  obtain ⟨v0, vs0, d0, ds0, p0, q0, hargs, rfl, rfl, h0, r0⟩ := trodAll_cons hA
  obtain ⟨v1, vs1, d1, ds1, p1, q1, rfl, rfl, rfl, h1, r1⟩ := trodAll_cons r0
  obtain ⟨rfl, rfl, rfl⟩ := trodAll_nil r1
  obtain rfl : args = #[v0, v1] := by cases args; simp_all
  obtain ⟨rfl, rfl⟩ := trodVars_none hV
  obtain ⟨x0, wx0, e0⟩ := open_sh (sh := .s) (by kernel_rfl) (hval 0 9 v0 rfl rfl) h0
  obtain ⟨x1, wx1, e1⟩ := open_sh (sh := shE) (by kernel_rfl) (hval 1 22 v1 rfl rfl) h1
  obtain ⟨l1, hl1⟩ := cfs_dv x1
  rw [hl1] at e1
  refine (calls_of_true (lawText x0 l1) W [v0, v1] rfl (fun j v x hv hx => ?_) hG).mono fun e W' ⟨he, bel⟩ => ?_
  · match j, hv, hx with
    | 0, hv, hx => cases hv; cases hx; exact e0
    | 1, hv, hx => cases hv; cases hx; exact e1
    | j + 2, hv, _ => simp at hv
  · subst he
    exact ⟨_, rfl, law_post hW' rfl rfl rfl expressionTexts_reads bel⟩

theorem expressionTextsfact0 : Rows.expressionTextsRow.wf (OpenSpec.ofChange Rows.expressionTextsSpec) = true := by kernel_rfl
theorem expressionTextsfact3 : Tryz.f9.params.all (Tryz.prog.readableRec ·) = true := by kernel_rfl
theorem expressionTextsfact4 : namedTie Tryz.prog Rows.expressionTextsRow.named Rows.expressionTextsSpec.vars = true := by kernel_rfl
theorem expressionTextsfact5 : (Rows.expressionTextsRow.stops == []) = true := by kernel_rfl
theorem expressionTextsfact7 : (Rows.expressionTextsRow.knobs == []) = true := by kernel_rfl
theorem expressionTextsfact9 : (Rows.expressionTextsRow.inPlace == Tryz.prog.inPlace 9) = true := by kernel_rfl
theorem expressionTextsfact10 : (Rows.expressionTextsRow.unfollowed == Tryz.prog.unfollowed 9) = true := by kernel_rfl
theorem expressionTextsfact11 : (Rows.expressionTextsRow.recurses == Tryz.prog.recurses 9) = true := by kernel_rfl
theorem expressionTextsfact12 : (Rows.expressionTextsRow.named == Tryz.prog.varsNamed 9) = true := by kernel_rfl
theorem expressionTextsfact13 : (Rows.expressionTextsRow.maps == (Tryz.f9.params.toList ++ Rows.expressionTextsSpec.plain.varTypes Tryz.prog).any (Tryz.prog.mapsRec ·)) = true := by kernel_rfl
theorem expressionTextsfact14 : (Rows.expressionTextsRow.ifaces == (Tryz.f9.params.toList ++ Rows.expressionTextsSpec.plain.varTypes Tryz.prog).any (Tryz.prog.ifacesRec ·)) = true := by kernel_rfl
theorem expressionTextsfact15 : (Rows.expressionTextsRow.mapsOut == Tryz.prog.mapsAmong Tryz.f9.resultTypes.toList) = true := by kernel_rfl
theorem expressionTextsfact16 : (Rows.expressionTextsRow.loops == (Tryz.f9.params.toList ++ Rows.expressionTextsSpec.plain.varTypes Tryz.prog).any (Tryz.prog.loopsFrom ·)) = true := by kernel_rfl
theorem expressionTextsfact17 : (Rows.expressionTextsRow.wideKeys == (Tryz.f9.params.toList ++ Rows.expressionTextsSpec.plain.varTypes Tryz.prog ++ Tryz.f9.resultTypes.toList).any (Tryz.prog.wideKeysFrom ·)) = true := by kernel_rfl
theorem expressionTextsfact18 : Rows.expressionTextsSpec.vars.all (Tryz.prog.varReadable ·) = true := by kernel_rfl
theorem expressionTextsfact19 : Tryz.f9.resultTypes.all (fun t => Tryz.prog.readableRec t && decide (t < Tryz.prog.types.size)) = true := by kernel_rfl
theorem expressionTextsfact20 : (Rows.expressionTextsRow.ifacesOut == Tryz.f9.resultTypes.toList.any (Tryz.prog.ifacesRec ·)) = true := by kernel_rfl
theorem expressionTextsfact21 : (Rows.expressionTextsRow.loopsOut == Tryz.f9.resultTypes.toList.any (Tryz.prog.loopsFrom ·)) = true := by kernel_rfl
theorem expressionTextsfact22 : (Rows.expressionTextsRow.plainKeys == Tryz.prog.plainKeys) = true := by rw [sharedplainKeys]; rfl
theorem expressionTextsfact23 : Rows.expressionTextsRow.shortTexts.isNone = true := by kernel_rfl
theorem expressionTextsfact26 : (Rows.expressionTextsRow.lifted == Tryz.prog.liftsFinal) = true := by rw [sharedliftsFinal]; rfl
theorem expressionTextsfact27 : (Tryz.prog.make == some Rows.expressionTextsRow.make) = true := by kernel_rfl
theorem expressionTextsfact28 : (Rows.expressionTextsRow.kinds == (if Rows.expressionTextsRow.domain.isEmpty then [] else Tryz.f9.params.toList.map fun t => match Tryz.prog.underlying t with | some (.int k) => some k | _ => none)) = true := by kernel_rfl
theorem expressionTextsfact29 : (Rows.expressionTextsRow.pinned == Rows.expressionTextsRow.pinnedBy) = true := by kernel_rfl
theorem expressionTextsfact30 : (Rows.expressionTextsRow.veiled == (Tryz.f9.params.toList ++ Rows.expressionTextsSpec.plain.varTypes Tryz.prog ++ Tryz.f9.resultTypes.toList).any (Tryz.prog.veiledRec ·)) = true := by kernel_rfl
theorem expressionTextsfact31 : Rows.expressionTextsRow.veiledFits Tryz.prog Tryz.f9.params.toList (Tryz.f9.params.toList ++ Rows.expressionTextsSpec.plain.varTypes Tryz.prog ++ Tryz.f9.resultTypes.toList) = true := by kernel_rfl
set_option maxRecDepth 100000 in
theorem expressionTextsclosed : joinedFacts Tryz.prog 9 Tryz.f9 Rows.expressionTextsSpec Rows.expressionTextsRow = true := (and_mk (and_mk (and_mk (and_mk (and_mk (and_mk (and_mk (and_mk (and_mk (and_mk (and_mk (and_mk (and_mk (and_mk (and_mk (and_mk (and_mk (and_mk (and_mk (and_mk (and_mk (and_mk (and_mk (and_mk (and_mk (and_mk (and_mk (and_mk (and_mk (and_mk (and_mk expressionTextsfact0 sharedfact1) sharedfact2) expressionTextsfact3) expressionTextsfact4) expressionTextsfact5) sharedfact6) expressionTextsfact7) sharedfact8) expressionTextsfact9) expressionTextsfact10) expressionTextsfact11) expressionTextsfact12) expressionTextsfact13) expressionTextsfact14) expressionTextsfact15) expressionTextsfact16) expressionTextsfact17) expressionTextsfact18) expressionTextsfact19) expressionTextsfact20) expressionTextsfact21) expressionTextsfact22) expressionTextsfact23) sharedfact24) sharedfact25) expressionTextsfact26) expressionTextsfact27) expressionTextsfact28) expressionTextsfact29) expressionTextsfact30) expressionTextsfact31)

theorem expressionTexts_named : Tryz.prog.funcNamed Rows.expressionTextsRow.func = some 9 := by kernel_rfl
theorem expressionTexts_wrap : Tryz.f9.isWrapper Tryz.prog Rows.expressionTextsRow.wrapper Rows.expressionTextsRow.mainSum := by
  unfold Func.isWrapper
  first | (rw [if_pos (by decide +kernel)]; kernel_rfl) | (rw [if_neg (by decide +kernel)]; exact ⟨rfl, rfl⟩)
theorem expressionTexts_inst : Tryz.f9.isInstance Tryz.prog Rows.expressionTextsRow.origin Rows.expressionTextsRow.targs := of_decide_eq_true (by kernel_rfl)
theorem expressionTexts_over : Rows.expressionTextsRow.holds Tryz.pinned (OpenSpec.ofChange Rows.expressionTextsSpec) :=
  OpenClaim.holds_of_wide 9 Tryz.f9 rfl rfl rfl rfl rfl rfl rfl ⟨rfl, rfl, rfl, rfl, rfl⟩ rfl rfl rfl rfl rfl expressionTexts_named Tryz.func9 expressionTextsclosed expressionTexts_inst expressionTexts_wrap
    (fun os started H enc _ => expressionTexts_lifted os started H enc)
theorem ExpressionTexts_card : Rows.ExpressionTextsCardSaid :=
  Claim7.holds_tied_plain_at .later [] [.data, .data, .data, .data, .sentinel, .sentinel, .pinned] true (true, "d761a78bd2b14ca02b9ebb070528750c74a4774c998cbef14576fe307859d78b") true expressionTexts_over (fun _ h => by cases h) (by kernel_rfl) (fun _ h => by cases h) expressionTexts_row_tie rfl ⟨rfl, rfl⟩ (by kernel_rfl) rfl
    (fun f fn hf hfn => by
      obtain rfl : f = 9 := Option.some.inj (expressionTexts_named.symm.trans hf) |>.symm
      obtain rfl : fn = Tryz.f9 := (Option.some.inj (Tryz.func9.symm.trans hfn)).symm
      exact ⟨by kernel_rfl, fun j t ht => by
        rw [Tryz.params9] at ht
        have hm : t ∈ [9, 22] := by simpa using Array.mem_of_getElem? ht
        have hall : ([9, 22].all fun u => !Tryz.prog.wantsStandIn u) = true := by kernel_rfl
        exact (show Tryz.prog.wantsStandIn t = false by simpa using List.all_eq_true.1 hall t hm)⟩)
    (by kernel_rfl)
#print axioms ExpressionTexts_card
end Go.Proofs.YtmfeinilbjfnpaaGreatDoor
