/- The law RuleStandard returns true for every input, and each argument reads afterwards as before; the tied card of it. Conditions: none, but that the listed package variables hold what the program's text lays. -/
import Derived.Test.YtddfimjiihggmaaGreatDoorB7
import Derived.Test.YtddfimjiihggmaaGreatDoorB12
import Derived.Test.YtddfimjiihggmaaGreatDoorB11
import Derived.Test.YtddfimjiihggmaaGreatDoorCards
import Derived.Test.YtddfimjiihggmaaGreatDoorTie
import Derived.SevenTiedAt
namespace Go.Proofs.YtddfimjiihggmaaGreatDoor
open Go.ChangeShapes Go.WideShapes Go.ChangeAt Go.RowKit Px

theorem ruleStandard_reads : ∀ t ∈ Tryz.f6.params.toList, Tryz.prog.readableRec t = true ∧ t < Tryz.prog.types.size := by
  rw [Tryz.params6]
  intro t ht
  have : t = 3 := by simpa using ht
  subst this
  exact ⟨by kernel_rfl, of_decide_eq_true (by kernel_rfl)⟩

set_option maxRecDepth 100000 in
theorem ruleStandard_lifted (os : Os) (started : os.Started) (H : Type) (enc : TypeId × Value → H) :
    ReturnsInHanded {} Tryz.checked os 6 .any (fun w args => (Rows.ruleStandardSpec.pre enc Tryz.prog Tryz.f6 Rows.ruleStandardRow.domain false w args ∧ laidMetH Tryz.prog Rows.ruleStandardRow.laid w) ∧ sizedMet enc Tryz.prog Tryz.f6 (OpenSpec.ofChange Rows.ruleStandardSpec) false w args)
      (Rows.ruleStandardSpec.post enc Tryz.prog Tryz.f6 false true false false) := by
  refine returnsInHanded_of_change_and (C := Tryz.checked) (X := fun w _ => laidMetH Tryz.prog Rows.ruleStandardRow.laid w) (fun _ _ _ hh h => h.of_heap hh) own started (by kernel_rfl) Tryz.func6
    (ChangeSpec.witness_shaped (enc := enc) (C := Tryz.checked) (os := os) (X := fun w _ => laidMetH Tryz.prog Rows.ruleStandardRow.laid w) false (World.laidAll Tryz.prog os Rows.ruleStandardRow.laid) #[.int .i64 0] 8 (World.laidAll_os _ _ _)
      (World.shaped_of_ZipB (by kernel_rfl) (by kernel_rfl)) (by kernel_rfl) (by kernel_rfl) (by kernel_rfl)
      (by rw [MakeChecks.laidMetH_plain _ _ _ (by kernel_rfl)]; exact laidMet_laidAll _ (by kernel_rfl) (by kernel_rfl))) ?_
  intro W base args ds gs before hval0 hW hcnd hwt hL _
  have hG : GlobOk (fun _ _ => True) W := by
    rw [MakeChecks.laidMetH_plain _ _ _ (by kernel_rfl)] at hL
    obtain ⟨ps, ⟨g0, t0, cs0, f0, p0, q0, hg0, ht0, hv0, hd0, ⟨g1, t1, cs1, f1, p1, q1, hg1, ht1, hv1, hd1, ⟨g2, t2, cs2, f2, p2, q2, hg2, ht2, hv2, hd2, _, _⟩, _⟩, _⟩, _, _⟩ := hL
    obtain rfl := Option.some.inj ((show Tryz.prog.globalNamed "internal/strconv.uint64pow10" = some 5 by kernel_rfl).symm.trans hg2)
    obtain rfl := Option.some.inj ((show (Tryz.prog.globals[5]?).map (·.type) = some 293 by kernel_rfl).symm.trans ht2)
    exact glob_of_var hv2 rfl hd2
  have hval : ∀ (j : Nat) t v, Tryz.f6.params[j]? = some t → args[j]? = some v → Value.okWide Tryz.prog W .any base t v := hval0
  have hW' := hW
  obtain ⟨p, q, hA0, hV, rfl, hfz, hnd⟩ := hW
  have hA : DataW.TrodAll enc Tryz.prog W 0 (fun _ => true) true Tryz.f6.params.toList args.toList ds p := hA0
  rw [Tryz.params6] at hA hval
  obtain ⟨v0, vs0, d0, ds0, p0, q0, hargs, rfl, rfl, h0, r0⟩ := trodAll_cons hA
  obtain ⟨rfl, rfl, rfl⟩ := trodAll_nil r0
  obtain rfl : args = #[v0] := by cases args; simp_all
  obtain ⟨rfl, rfl⟩ := trodVars_none hV
  obtain ⟨x0, wx0, e0⟩ := open_sh (sh := .i .i64) (by kernel_rfl) (hval 0 3 v0 rfl rfl) h0
  refine (calls_of_true (lawStandard x0) W [v0] rfl (fun j v x hv hx => ?_) hG).mono fun e W' ⟨he, bel⟩ => ?_
  · match j, hv, hx with
    | 0, hv, hx => cases hv; cases hx; exact e0
    | j + 1, hv, _ => simp at hv
  · subst he
    exact ⟨_, rfl, law_post hW' rfl rfl rfl ruleStandard_reads bel⟩

theorem ruleStandardfact0 : Rows.ruleStandardRow.wf (OpenSpec.ofChange Rows.ruleStandardSpec) = true := by kernel_rfl
theorem ruleStandardfact3 : Tryz.f6.params.all (Tryz.prog.readableRec ·) = true := by kernel_rfl
theorem ruleStandardfact4 : namedTie Tryz.prog Rows.ruleStandardRow.named Rows.ruleStandardSpec.vars = true := by kernel_rfl
theorem ruleStandardfact5 : (Rows.ruleStandardRow.stops == []) = true := by kernel_rfl
theorem ruleStandardfact7 : (Rows.ruleStandardRow.knobs == []) = true := by kernel_rfl
theorem ruleStandardfact9 : (Rows.ruleStandardRow.inPlace == Tryz.prog.inPlace 6) = true := by kernel_rfl
theorem ruleStandardfact10 : (Rows.ruleStandardRow.unfollowed == Tryz.prog.unfollowed 6) = true := by kernel_rfl
theorem ruleStandardfact11 : (Rows.ruleStandardRow.recurses == Tryz.prog.recurses 6) = true := by kernel_rfl
theorem ruleStandardfact12 : (Rows.ruleStandardRow.named == Tryz.prog.varsNamed 6) = true := by kernel_rfl
theorem ruleStandardfact13 : (Rows.ruleStandardRow.maps == (Tryz.f6.params.toList ++ Rows.ruleStandardSpec.plain.varTypes Tryz.prog).any (Tryz.prog.mapsRec ·)) = true := by kernel_rfl
theorem ruleStandardfact14 : (Rows.ruleStandardRow.ifaces == (Tryz.f6.params.toList ++ Rows.ruleStandardSpec.plain.varTypes Tryz.prog).any (Tryz.prog.ifacesRec ·)) = true := by kernel_rfl
theorem ruleStandardfact15 : (Rows.ruleStandardRow.mapsOut == Tryz.prog.mapsAmong Tryz.f6.resultTypes.toList) = true := by kernel_rfl
theorem ruleStandardfact16 : (Rows.ruleStandardRow.loops == (Tryz.f6.params.toList ++ Rows.ruleStandardSpec.plain.varTypes Tryz.prog).any (Tryz.prog.loopsFrom ·)) = true := by kernel_rfl
theorem ruleStandardfact17 : (Rows.ruleStandardRow.wideKeys == (Tryz.f6.params.toList ++ Rows.ruleStandardSpec.plain.varTypes Tryz.prog ++ Tryz.f6.resultTypes.toList).any (Tryz.prog.wideKeysFrom ·)) = true := by kernel_rfl
theorem ruleStandardfact18 : Rows.ruleStandardSpec.vars.all (Tryz.prog.varReadable ·) = true := by kernel_rfl
theorem ruleStandardfact19 : Tryz.f6.resultTypes.all (fun t => Tryz.prog.readableRec t && decide (t < Tryz.prog.types.size)) = true := by kernel_rfl
theorem ruleStandardfact20 : (Rows.ruleStandardRow.ifacesOut == Tryz.f6.resultTypes.toList.any (Tryz.prog.ifacesRec ·)) = true := by kernel_rfl
theorem ruleStandardfact21 : (Rows.ruleStandardRow.loopsOut == Tryz.f6.resultTypes.toList.any (Tryz.prog.loopsFrom ·)) = true := by kernel_rfl
theorem ruleStandardfact22 : (Rows.ruleStandardRow.plainKeys == Tryz.prog.plainKeys) = true := by rw [sharedplainKeys]; rfl
theorem ruleStandardfact23 : Rows.ruleStandardRow.shortTexts.isNone = true := by kernel_rfl
theorem ruleStandardfact26 : (Rows.ruleStandardRow.lifted == Tryz.prog.liftsFinal) = true := by rw [sharedliftsFinal]; rfl
theorem ruleStandardfact27 : (Tryz.prog.make == some Rows.ruleStandardRow.make) = true := by kernel_rfl
theorem ruleStandardfact28 : (Rows.ruleStandardRow.kinds == (if Rows.ruleStandardRow.domain.isEmpty then [] else Tryz.f6.params.toList.map fun t => match Tryz.prog.underlying t with | some (.int k) => some k | _ => none)) = true := by kernel_rfl
theorem ruleStandardfact29 : (Rows.ruleStandardRow.pinned == Rows.ruleStandardRow.pinnedBy) = true := by kernel_rfl
theorem ruleStandardfact30 : (Rows.ruleStandardRow.veiled == (Tryz.f6.params.toList ++ Rows.ruleStandardSpec.plain.varTypes Tryz.prog ++ Tryz.f6.resultTypes.toList).any (Tryz.prog.veiledRec ·)) = true := by kernel_rfl
theorem ruleStandardfact31 : Rows.ruleStandardRow.veiledFits Tryz.prog Tryz.f6.params.toList (Tryz.f6.params.toList ++ Rows.ruleStandardSpec.plain.varTypes Tryz.prog ++ Tryz.f6.resultTypes.toList) = true := by kernel_rfl
set_option maxRecDepth 100000 in
theorem ruleStandardclosed : joinedFacts Tryz.prog 6 Tryz.f6 Rows.ruleStandardSpec Rows.ruleStandardRow = true := (and_mk (and_mk (and_mk (and_mk (and_mk (and_mk (and_mk (and_mk (and_mk (and_mk (and_mk (and_mk (and_mk (and_mk (and_mk (and_mk (and_mk (and_mk (and_mk (and_mk (and_mk (and_mk (and_mk (and_mk (and_mk (and_mk (and_mk (and_mk (and_mk (and_mk (and_mk ruleStandardfact0 sharedfact1) sharedfact2) ruleStandardfact3) ruleStandardfact4) ruleStandardfact5) sharedfact6) ruleStandardfact7) sharedfact8) ruleStandardfact9) ruleStandardfact10) ruleStandardfact11) ruleStandardfact12) ruleStandardfact13) ruleStandardfact14) ruleStandardfact15) ruleStandardfact16) ruleStandardfact17) ruleStandardfact18) ruleStandardfact19) ruleStandardfact20) ruleStandardfact21) ruleStandardfact22) ruleStandardfact23) sharedfact24) sharedfact25) ruleStandardfact26) ruleStandardfact27) ruleStandardfact28) ruleStandardfact29) ruleStandardfact30) ruleStandardfact31)

theorem ruleStandard_named : Tryz.prog.funcNamed Rows.ruleStandardRow.func = some 6 := by kernel_rfl
theorem ruleStandard_wrap : Tryz.f6.isWrapper Tryz.prog Rows.ruleStandardRow.wrapper Rows.ruleStandardRow.mainSum := by
  unfold Func.isWrapper
  first | (rw [if_pos (by decide +kernel)]; kernel_rfl) | (rw [if_neg (by decide +kernel)]; exact ⟨rfl, rfl⟩)
theorem ruleStandard_inst : Tryz.f6.isInstance Tryz.prog Rows.ruleStandardRow.origin Rows.ruleStandardRow.targs := of_decide_eq_true (by kernel_rfl)
theorem ruleStandard_over : Rows.ruleStandardRow.holds Tryz.pinned (OpenSpec.ofChange Rows.ruleStandardSpec) :=
  OpenClaim.holds_of_wide 6 Tryz.f6 rfl rfl rfl rfl rfl rfl rfl ⟨rfl, rfl, rfl, rfl, rfl⟩ rfl rfl rfl rfl rfl ruleStandard_named Tryz.func6 ruleStandardclosed ruleStandard_inst ruleStandard_wrap
    (fun os started H enc _ => ruleStandard_lifted os started H enc)
theorem RuleStandard_card : Rows.RuleStandardCardSaid :=
  Claim7.holds_tied_plain_at .later [] [.data, .data, .data, .data, .sentinel, .sentinel, .pinned] true (true, "8e18a1714f7751f504d649e6490be771b7277452e1c4c66a7d7170bf3153b3c9") true ruleStandard_over (fun _ h => by cases h) (by kernel_rfl) (fun _ h => by cases h) ruleStandard_row_tie rfl ⟨rfl, rfl⟩ (by kernel_rfl) rfl
    (fun f fn hf hfn => by
      obtain rfl : f = 6 := Option.some.inj (ruleStandard_named.symm.trans hf) |>.symm
      obtain rfl : fn = Tryz.f6 := (Option.some.inj (Tryz.func6.symm.trans hfn)).symm
      exact ⟨by kernel_rfl, fun j t ht => by
        rw [Tryz.params6] at ht
        have hm : t ∈ [3] := by simpa using Array.mem_of_getElem? ht
        have hall : ([3].all fun u => !Tryz.prog.wantsStandIn u) = true := by kernel_rfl
        exact (show Tryz.prog.wantsStandIn t = false by simpa using List.all_eq_true.1 hall t hm)⟩)
    (by kernel_rfl)
#print axioms RuleStandard_card
end Go.Proofs.YtddfimjiihggmaaGreatDoor
