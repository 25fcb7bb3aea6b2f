/- The law ExpressionValues returns true for every input, and each argument reads afterwards as before; the tied card of it. Conditions: none, but that the listed package variables hold what the program's text lays. -/
import Derived.Test.YtmfeinilbjfnpaaGreatDoorB5
import Derived.Test.YtmfeinilbjfnpaaGreatDoorB8
import Derived.Test.YtmfeinilbjfnpaaGreatDoorB6
import Derived.Test.YtmfeinilbjfnpaaGreatDoorCards
import Derived.Test.YtmfeinilbjfnpaaGreatDoorTie
import Derived.SevenTiedAt
namespace Go.Proofs.YtmfeinilbjfnpaaGreatDoor
open Go.ChangeShapes Go.WideShapes Go.ChangeAt Go.RowKit Px

theorem expressionValues_reads : ∀ t ∈ Tryz.f3.params.toList, Tryz.prog.readableRec t = true ∧ t < Tryz.prog.types.size := by
  rw [Tryz.params3]
  intro t ht
  have : t = 22 ∨ t = 23 := by simp at ht; omega
  rcases this with rfl | rfl
  · exact ⟨by kernel_rfl, of_decide_eq_true (by kernel_rfl)⟩
  · exact ⟨by kernel_rfl, of_decide_eq_true (by kernel_rfl)⟩

set_option maxRecDepth 100000 in
theorem expressionValues_lifted (os : Os) (started : os.Started) (H : Type) (enc : TypeId × Value → H) :
    ReturnsInHanded {} Tryz.checked os 3 .any (fun w args => (Rows.expressionValuesSpec.pre enc Tryz.prog Tryz.f3 Rows.expressionValuesRow.domain false w args ∧ laidMetH Tryz.prog Rows.expressionValuesRow.laid w) ∧ sizedMet enc Tryz.prog Tryz.f3 (OpenSpec.ofChange Rows.expressionValuesSpec) false w args)
      (Rows.expressionValuesSpec.post enc Tryz.prog Tryz.f3 false true false false) := by
  refine returnsInHanded_of_change_and (C := Tryz.checked) (X := fun w _ => laidMetH Tryz.prog Rows.expressionValuesRow.laid w) (fun _ _ _ hh h => h.of_heap hh) own started (by kernel_rfl) Tryz.func3
    (ChangeSpec.witness_shaped (enc := enc) (C := Tryz.checked) (os := os) (X := fun w _ => laidMetH Tryz.prog Rows.expressionValuesRow.laid w) false (World.laidAll Tryz.prog os Rows.expressionValuesRow.laid) #[.slice none 0 0, .slice none 0 0] 8 (World.laidAll_os _ _ _)
      (World.shaped_of_ZipB (by kernel_rfl) (by kernel_rfl)) (by kernel_rfl) (by kernel_rfl) (by kernel_rfl)
      (by rw [MakeChecks.laidMetH_plain _ _ _ (by kernel_rfl)]; exact laidMet_laidAll _ (by kernel_rfl) (by kernel_rfl))) ?_
  intro W base args ds gs before hval0 hW hcnd _ hL _
  have hG : GlobOk (fun _ _ => True) W := by
    rw [MakeChecks.laidMetH_plain _ _ _ (by kernel_rfl)] at hL
    obtain ⟨ps, ⟨g0, t0, cs0, f0, p0, q0, hg0, ht0, hv0, hd0, ⟨g1, t1, cs1, f1, p1, q1, hg1, ht1, hv1, hd1, ⟨g2, t2, cs2, f2, p2, q2, hg2, ht2, hv2, hd2, _, _⟩, _⟩, _⟩, _, _⟩ := hL
    obtain rfl := Option.some.inj ((show Tryz.prog.globalNamed "internal/strconv.uint64pow10" = some 2 by kernel_rfl).symm.trans hg2)
    obtain rfl := Option.some.inj ((show (Tryz.prog.globals[2]?).map (·.type) = some 194 by kernel_rfl).symm.trans ht2)
    exact glob_of_var hv2 rfl hd2
  have hval : ∀ (j : Nat) t v, Tryz.f3.params[j]? = some t → args[j]? = some v → Value.okWide Tryz.prog W .any base t v := hval0
  have hW' := hW
  obtain ⟨p, q, hA0, hV, rfl, hfz, hnd⟩ := hW
  have hA : DataW.TrodAll enc Tryz.prog W 0 (fun _ => true) true Tryz.f3.params.toList args.toList ds p := hA0
  rw [Tryz.params3] at hA hval
  obtain ⟨v0, vs0, d0, ds0, p0, q0, hargs, rfl, rfl, h0, r0⟩ := trodAll_cons hA
  obtain ⟨v1, vs1, d1, ds1, p1, q1, rfl, rfl, rfl, h1, r1⟩ := trodAll_cons r0
  obtain ⟨rfl, rfl, rfl⟩ := trodAll_nil r1
  obtain rfl : args = #[v0, v1] := by cases args; simp_all
  obtain ⟨rfl, rfl⟩ := trodVars_none hV
  obtain ⟨x0, wx0, e0⟩ := open_sh (sh := shE) (by kernel_rfl) (hval 0 22 v0 rfl rfl) h0
  obtain ⟨l0, hl0⟩ := cfs_dv x0
  rw [hl0] at e0
  obtain ⟨x1, wx1, e1⟩ := open_sh (sh := shE) (by kernel_rfl) (hval 1 23 v1 rfl rfl) h1
  obtain ⟨l1, hl1⟩ := cfs_dv x1
  rw [hl1] at e1
  refine (calls_of_true (lawVal l0 l1) W [v0, v1] rfl (fun j v x hv hx => ?_) hG).mono fun e W' ⟨he, bel⟩ => ?_
  · match j, hv, hx with
    | 0, hv, hx => cases hv; cases hx; exact e0
    | 1, hv, hx => cases hv; cases hx; exact e1
    | j + 2, hv, _ => simp at hv
  · subst he
    exact ⟨_, rfl, law_post hW' rfl rfl rfl expressionValues_reads bel⟩

theorem expressionValuesfact0 : Rows.expressionValuesRow.wf (OpenSpec.ofChange Rows.expressionValuesSpec) = true := by kernel_rfl
theorem expressionValuesfact3 : Tryz.f3.params.all (Tryz.prog.readableRec ·) = true := by kernel_rfl
theorem expressionValuesfact4 : namedTie Tryz.prog Rows.expressionValuesRow.named Rows.expressionValuesSpec.vars = true := by kernel_rfl
theorem expressionValuesfact5 : (Rows.expressionValuesRow.stops == []) = true := by kernel_rfl
theorem expressionValuesfact7 : (Rows.expressionValuesRow.knobs == []) = true := by kernel_rfl
theorem expressionValuesfact9 : (Rows.expressionValuesRow.inPlace == Tryz.prog.inPlace 3) = true := by kernel_rfl
theorem expressionValuesfact10 : (Rows.expressionValuesRow.unfollowed == Tryz.prog.unfollowed 3) = true := by kernel_rfl
theorem expressionValuesfact11 : (Rows.expressionValuesRow.recurses == Tryz.prog.recurses 3) = true := by kernel_rfl
theorem expressionValuesfact12 : (Rows.expressionValuesRow.named == Tryz.prog.varsNamed 3) = true := by kernel_rfl
theorem expressionValuesfact13 : (Rows.expressionValuesRow.maps == (Tryz.f3.params.toList ++ Rows.expressionValuesSpec.plain.varTypes Tryz.prog).any (Tryz.prog.mapsRec ·)) = true := by kernel_rfl
theorem expressionValuesfact14 : (Rows.expressionValuesRow.ifaces == (Tryz.f3.params.toList ++ Rows.expressionValuesSpec.plain.varTypes Tryz.prog).any (Tryz.prog.ifacesRec ·)) = true := by kernel_rfl
theorem expressionValuesfact15 : (Rows.expressionValuesRow.mapsOut == Tryz.prog.mapsAmong Tryz.f3.resultTypes.toList) = true := by kernel_rfl
theorem expressionValuesfact16 : (Rows.expressionValuesRow.loops == (Tryz.f3.params.toList ++ Rows.expressionValuesSpec.plain.varTypes Tryz.prog).any (Tryz.prog.loopsFrom ·)) = true := by kernel_rfl
theorem expressionValuesfact17 : (Rows.expressionValuesRow.wideKeys == (Tryz.f3.params.toList ++ Rows.expressionValuesSpec.plain.varTypes Tryz.prog ++ Tryz.f3.resultTypes.toList).any (Tryz.prog.wideKeysFrom ·)) = true := by kernel_rfl
theorem expressionValuesfact18 : Rows.expressionValuesSpec.vars.all (Tryz.prog.varReadable ·) = true := by kernel_rfl
theorem expressionValuesfact19 : Tryz.f3.resultTypes.all (fun t => Tryz.prog.readableRec t && decide (t < Tryz.prog.types.size)) = true := by kernel_rfl
theorem expressionValuesfact20 : (Rows.expressionValuesRow.ifacesOut == Tryz.f3.resultTypes.toList.any (Tryz.prog.ifacesRec ·)) = true := by kernel_rfl
theorem expressionValuesfact21 : (Rows.expressionValuesRow.loopsOut == Tryz.f3.resultTypes.toList.any (Tryz.prog.loopsFrom ·)) = true := by kernel_rfl
theorem expressionValuesfact22 : (Rows.expressionValuesRow.plainKeys == Tryz.prog.plainKeys) = true := by rw [sharedplainKeys]; rfl
theorem expressionValuesfact23 : Rows.expressionValuesRow.shortTexts.isNone = true := by kernel_rfl
theorem expressionValuesfact26 : (Rows.expressionValuesRow.lifted == Tryz.prog.liftsFinal) = true := by rw [sharedliftsFinal]; rfl
theorem expressionValuesfact27 : (Tryz.prog.make == some Rows.expressionValuesRow.make) = true := by kernel_rfl
theorem expressionValuesfact28 : (Rows.expressionValuesRow.kinds == (if Rows.expressionValuesRow.domain.isEmpty then [] else Tryz.f3.params.toList.map fun t => match Tryz.prog.underlying t with | some (.int k) => some k | _ => none)) = true := by kernel_rfl
theorem expressionValuesfact29 : (Rows.expressionValuesRow.pinned == Rows.expressionValuesRow.pinnedBy) = true := by kernel_rfl
theorem expressionValuesfact30 : (Rows.expressionValuesRow.veiled == (Tryz.f3.params.toList ++ Rows.expressionValuesSpec.plain.varTypes Tryz.prog ++ Tryz.f3.resultTypes.toList).any (Tryz.prog.veiledRec ·)) = true := by kernel_rfl
theorem expressionValuesfact31 : Rows.expressionValuesRow.veiledFits Tryz.prog Tryz.f3.params.toList (Tryz.f3.params.toList ++ Rows.expressionValuesSpec.plain.varTypes Tryz.prog ++ Tryz.f3.resultTypes.toList) = true := by kernel_rfl
set_option maxRecDepth 100000 in
theorem expressionValuesclosed : joinedFacts Tryz.prog 3 Tryz.f3 Rows.expressionValuesSpec Rows.expressionValuesRow = true := (and_mk (and_mk (and_mk (and_mk (and_mk (and_mk (and_mk (and_mk (and_mk (and_mk (and_mk (and_mk (and_mk (and_mk (and_mk (and_mk (and_mk (and_mk (and_mk (and_mk (and_mk (and_mk (and_mk (and_mk (and_mk (and_mk (and_mk (and_mk (and_mk (and_mk (and_mk expressionValuesfact0 sharedfact1) sharedfact2) expressionValuesfact3) expressionValuesfact4) expressionValuesfact5) sharedfact6) expressionValuesfact7) sharedfact8) expressionValuesfact9) expressionValuesfact10) expressionValuesfact11) expressionValuesfact12) expressionValuesfact13) expressionValuesfact14) expressionValuesfact15) expressionValuesfact16) expressionValuesfact17) expressionValuesfact18) expressionValuesfact19) expressionValuesfact20) expressionValuesfact21) expressionValuesfact22) expressionValuesfact23) sharedfact24) sharedfact25) expressionValuesfact26) expressionValuesfact27) expressionValuesfact28) expressionValuesfact29) expressionValuesfact30) expressionValuesfact31)

theorem expressionValues_named : Tryz.prog.funcNamed Rows.expressionValuesRow.func = some 3 := by kernel_rfl
theorem expressionValues_wrap : Tryz.f3.isWrapper Tryz.prog Rows.expressionValuesRow.wrapper Rows.expressionValuesRow.mainSum := by
  unfold Func.isWrapper
  first | (rw [if_pos (by decide +kernel)]; kernel_rfl) | (rw [if_neg (by decide +kernel)]; exact ⟨rfl, rfl⟩)
theorem expressionValues_inst : Tryz.f3.isInstance Tryz.prog Rows.expressionValuesRow.origin Rows.expressionValuesRow.targs := of_decide_eq_true (by kernel_rfl)
theorem expressionValues_over : Rows.expressionValuesRow.holds Tryz.pinned (OpenSpec.ofChange Rows.expressionValuesSpec) :=
  OpenClaim.holds_of_wide 3 Tryz.f3 rfl rfl rfl rfl rfl rfl rfl ⟨rfl, rfl, rfl, rfl, rfl⟩ rfl rfl rfl rfl rfl expressionValues_named Tryz.func3 expressionValuesclosed expressionValues_inst expressionValues_wrap
    (fun os started H enc _ => expressionValues_lifted os started H enc)
theorem ExpressionValues_card : Rows.ExpressionValuesCardSaid :=
  Claim7.holds_tied_plain_at .later [] [.data, .data, .data, .data, .sentinel, .sentinel, .pinned] true (true, "d761a78bd2b14ca02b9ebb070528750c74a4774c998cbef14576fe307859d78b") true expressionValues_over (fun _ h => by cases h) (by kernel_rfl) (fun _ h => by cases h) expressionValues_row_tie rfl ⟨rfl, rfl⟩ (by kernel_rfl) rfl
    (fun f fn hf hfn => by
      obtain rfl : f = 3 := Option.some.inj (expressionValues_named.symm.trans hf) |>.symm
      obtain rfl : fn = Tryz.f3 := (Option.some.inj (Tryz.func3.symm.trans hfn)).symm
      exact ⟨by kernel_rfl, fun j t ht => by
        rw [Tryz.params3] at ht
        have hm : t ∈ [22, 23] := by simpa using Array.mem_of_getElem? ht
        have hall : ([22, 23].all fun u => !Tryz.prog.wantsStandIn u) = true := by kernel_rfl
        exact (show Tryz.prog.wantsStandIn t = false by simpa using List.all_eq_true.1 hall t hm)⟩)
    (by kernel_rfl)
#print axioms ExpressionValues_card
end Go.Proofs.YtmfeinilbjfnpaaGreatDoor
