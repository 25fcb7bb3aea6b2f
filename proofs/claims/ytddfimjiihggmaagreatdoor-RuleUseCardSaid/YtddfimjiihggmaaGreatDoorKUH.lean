/- The law RuleUse returns true for every input, and each argument reads afterwards as before; the tied card of it. Conditions: none, but that the listed package variables hold what the program's text lays. -/
import Derived.Test.YtddfimjiihggmaaGreatDoorB12
import Derived.Test.YtddfimjiihggmaaGreatDoorCards
import Derived.Test.YtddfimjiihggmaaGreatDoorTie
namespace Go.Proofs.YtddfimjiihggmaaGreatDoor
open Go.ChangeShapes Go.WideShapes Go.ChangeAt Go.RowKit Px

theorem ruleUse_reads : ∀ t ∈ Tryz.f10.params.toList, Tryz.prog.readableRec t = true ∧ t < Tryz.prog.types.size := by
  rw [Tryz.params10]
  intro t ht
  have : t = 22 ∨ t = 23 := by simp at ht; omega
  rcases this with rfl | rfl
  · exact ⟨by kernel_rfl, of_decide_eq_true (by kernel_rfl)⟩
  · exact ⟨by kernel_rfl, of_decide_eq_true (by kernel_rfl)⟩

set_option maxRecDepth 100000 in
theorem ruleUse_lifted (os : Os) (started : os.Started) (H : Type) (enc : TypeId × Value → H) :
    ReturnsInHanded {} Tryz.checked os 10 .any (fun w args => (Rows.ruleUseSpec.pre enc Tryz.prog Tryz.f10 Rows.ruleUseRow.domain false w args ∧ laidMetH Tryz.prog Rows.ruleUseRow.laid w) ∧ sizedMet enc Tryz.prog Tryz.f10 (OpenSpec.ofChange Rows.ruleUseSpec) false w args)
      (Rows.ruleUseSpec.post enc Tryz.prog Tryz.f10 false true false false) := by
  refine returnsInHanded_of_change_and (C := Tryz.checked) (X := fun w _ => laidMetH Tryz.prog Rows.ruleUseRow.laid w) (fun _ _ _ hh h => h.of_heap hh) own started (by kernel_rfl) Tryz.func10
    (ChangeSpec.witness_shaped (enc := enc) (C := Tryz.checked) (os := os) (X := fun w _ => laidMetH Tryz.prog Rows.ruleUseRow.laid w) false (World.laidAll Tryz.prog os Rows.ruleUseRow.laid) #[.slice none 0 0, .slice none 0 0, .slice none 0 0] 8 (World.laidAll_os _ _ _)
      (World.shaped_of_ZipB (by kernel_rfl) (by kernel_rfl)) (by kernel_rfl) (by kernel_rfl) (by kernel_rfl)
      (by rw [MakeChecks.laidMetH_plain _ _ _ (by kernel_rfl)]; exact laidMet_laidAll _ (by kernel_rfl) (by kernel_rfl))) ?_
  intro W base args ds gs before hval0 hW hcnd hwt hL _
  have hG : GlobOk (fun _ _ => True) W := by
    rw [MakeChecks.laidMetH_plain _ _ _ (by kernel_rfl)] at hL
    obtain ⟨ps, ⟨g0, t0, cs0, f0, p0, q0, hg0, ht0, hv0, hd0, ⟨g1, t1, cs1, f1, p1, q1, hg1, ht1, hv1, hd1, ⟨g2, t2, cs2, f2, p2, q2, hg2, ht2, hv2, hd2, _, _⟩, _⟩, _⟩, _, _⟩ := hL
    obtain rfl := Option.some.inj ((show Tryz.prog.globalNamed "internal/strconv.uint64pow10" = some 5 by kernel_rfl).symm.trans hg2)
    obtain rfl := Option.some.inj ((show (Tryz.prog.globals[5]?).map (·.type) = some 293 by kernel_rfl).symm.trans ht2)
    exact glob_of_var hv2 rfl hd2
  have hval : ∀ (j : Nat) t v, Tryz.f10.params[j]? = some t → args[j]? = some v → Value.okWide Tryz.prog W .any base t v := hval0
  have hW' := hW
  obtain ⟨p, q, hA0, hV, rfl, hfz, hnd⟩ := hW
  have hA : DataW.TrodAll enc Tryz.prog W 0 (fun _ => true) true Tryz.f10.params.toList args.toList ds p := hA0
  rw [Tryz.params10] at hA hval
  obtain ⟨v0, vs0, d0, ds0, p0, q0, hargs, rfl, rfl, h0, r0⟩ := trodAll_cons hA
  obtain ⟨v1, vs1, d1, ds1, p1, q1, rfl, rfl, rfl, h1, r1⟩ := trodAll_cons r0
  obtain ⟨v2, vs2, d2, ds2, p2, q2, rfl, rfl, rfl, h2, r2⟩ := trodAll_cons r1
  obtain ⟨rfl, rfl, rfl⟩ := trodAll_nil r2
  obtain rfl : args = #[v0, v1, v2] := by cases args; simp_all
  obtain ⟨rfl, rfl⟩ := trodVars_none hV
  obtain ⟨x0, wx0, e0⟩ := open_sh (sh := shR) (by kernel_rfl) (hval 0 22 v0 rfl rfl) h0
  obtain ⟨l0, hl0⟩ := rus_dv x0
  rw [hl0] at e0
  obtain ⟨x1, wx1, e1⟩ := open_sh (sh := shA) (by kernel_rfl) (hval 1 23 v1 rfl rfl) h1
  obtain ⟨l1, hl1, hb1, hbb1⟩ := acs_bd x1 wx1
  rw [hl1] at e1
  obtain ⟨x2, wx2, e2⟩ := open_sh (sh := shA) (by kernel_rfl) (hval 2 23 v2 rfl rfl) h2
  obtain ⟨l2, hl2, hb2, hbb2⟩ := acs_bd x2 wx2
  rw [hl2] at e2
  refine (calls_of_true (lawUse l0 l1 l2 hb1 hb2 hbb1) W [v0, v1, v2] rfl (fun j v x hv hx => ?_) hG).mono fun e W' ⟨he, bel⟩ => ?_
  · match j, hv, hx with
    | 0, hv, hx => cases hv; cases hx; exact e0
    | 1, hv, hx => cases hv; cases hx; exact e1
    | 2, hv, hx => cases hv; cases hx; exact e2
    | j + 3, hv, _ => simp at hv
  · subst he
    exact ⟨_, rfl, law_post hW' rfl rfl rfl ruleUse_reads bel⟩

theorem ruleUsefact0 : Rows.ruleUseRow.wf (OpenSpec.ofChange Rows.ruleUseSpec) = true := by kernel_rfl
theorem ruleUsefact3 : Tryz.f10.params.all (Tryz.prog.readableRec ·) = true := by kernel_rfl
theorem ruleUsefact4 : namedTie Tryz.prog Rows.ruleUseRow.named Rows.ruleUseSpec.vars = true := by kernel_rfl
theorem ruleUsefact5 : (Rows.ruleUseRow.stops == []) = true := by kernel_rfl
theorem ruleUsefact7 : (Rows.ruleUseRow.knobs == []) = true := by kernel_rfl
theorem ruleUsefact9 : (Rows.ruleUseRow.inPlace == Tryz.prog.inPlace 10) = true := by kernel_rfl
theorem ruleUsefact10 : (Rows.ruleUseRow.unfollowed == Tryz.prog.unfollowed 10) = true := by kernel_rfl
theorem ruleUsefact11 : (Rows.ruleUseRow.recurses == Tryz.prog.recurses 10) = true := by kernel_rfl
theorem ruleUsefact12 : (Rows.ruleUseRow.named == Tryz.prog.varsNamed 10) = true := by kernel_rfl
theorem ruleUsefact13 : (Rows.ruleUseRow.maps == (Tryz.f10.params.toList ++ Rows.ruleUseSpec.plain.varTypes Tryz.prog).any (Tryz.prog.mapsRec ·)) = true := by kernel_rfl
theorem ruleUsefact14 : (Rows.ruleUseRow.ifaces == (Tryz.f10.params.toList ++ Rows.ruleUseSpec.plain.varTypes Tryz.prog).any (Tryz.prog.ifacesRec ·)) = true := by kernel_rfl
theorem ruleUsefact15 : (Rows.ruleUseRow.mapsOut == Tryz.prog.mapsAmong Tryz.f10.resultTypes.toList) = true := by kernel_rfl
theorem ruleUsefact16 : (Rows.ruleUseRow.loops == (Tryz.f10.params.toList ++ Rows.ruleUseSpec.plain.varTypes Tryz.prog).any (Tryz.prog.loopsFrom ·)) = true := by kernel_rfl
theorem ruleUsefact17 : (Rows.ruleUseRow.wideKeys == (Tryz.f10.params.toList ++ Rows.ruleUseSpec.plain.varTypes Tryz.prog ++ Tryz.f10.resultTypes.toList).any (Tryz.prog.wideKeysFrom ·)) = true := by kernel_rfl
theorem ruleUsefact18 : Rows.ruleUseSpec.vars.all (Tryz.prog.varReadable ·) = true := by kernel_rfl
theorem ruleUsefact19 : Tryz.f10.resultTypes.all (fun t => Tryz.prog.readableRec t && decide (t < Tryz.prog.types.size)) = true := by kernel_rfl
theorem ruleUsefact20 : (Rows.ruleUseRow.ifacesOut == Tryz.f10.resultTypes.toList.any (Tryz.prog.ifacesRec ·)) = true := by kernel_rfl
theorem ruleUsefact21 : (Rows.ruleUseRow.loopsOut == Tryz.f10.resultTypes.toList.any (Tryz.prog.loopsFrom ·)) = true := by kernel_rfl
theorem ruleUsefact22 : (Rows.ruleUseRow.plainKeys == Tryz.prog.plainKeys) = true := by rw [sharedplainKeys]; rfl
theorem ruleUsefact23 : Rows.ruleUseRow.shortTexts.isNone = true := by kernel_rfl
theorem ruleUsefact26 : (Rows.ruleUseRow.lifted == Tryz.prog.liftsFinal) = true := by rw [sharedliftsFinal]; rfl
theorem ruleUsefact27 : (Tryz.prog.make == some Rows.ruleUseRow.make) = true := by kernel_rfl
theorem ruleUsefact28 : (Rows.ruleUseRow.kinds == (if Rows.ruleUseRow.domain.isEmpty then [] else Tryz.f10.params.toList.map fun t => match Tryz.prog.underlying t with | some (.int k) => some k | _ => none)) = true := by kernel_rfl
theorem ruleUsefact29 : (Rows.ruleUseRow.pinned == Rows.ruleUseRow.pinnedBy) = true := by kernel_rfl
theorem ruleUsefact30 : (Rows.ruleUseRow.veiled == (Tryz.f10.params.toList ++ Rows.ruleUseSpec.plain.varTypes Tryz.prog ++ Tryz.f10.resultTypes.toList).any (Tryz.prog.veiledRec ·)) = true := by kernel_rfl
theorem ruleUsefact31 : Rows.ruleUseRow.veiledFits Tryz.prog Tryz.f10.params.toList (Tryz.f10.params.toList ++ Rows.ruleUseSpec.plain.varTypes Tryz.prog ++ Tryz.f10.resultTypes.toList) = true := by kernel_rfl
set_option maxRecDepth 100000 in
theorem ruleUseclosed : joinedFacts Tryz.prog 10 Tryz.f10 Rows.ruleUseSpec Rows.ruleUseRow = true := (and_mk (and_mk (and_mk (and_mk (and_mk (and_mk (and_mk (and_mk (and_mk (and_mk (and_mk (and_mk (and_mk (and_mk (and_mk (and_mk (and_mk (and_mk (and_mk (and_mk (and_mk (and_mk (and_mk (and_mk (and_mk (and_mk (and_mk (and_mk (and_mk (and_mk (and_mk ruleUsefact0 sharedfact1) sharedfact2) ruleUsefact3) ruleUsefact4) ruleUsefact5) sharedfact6) ruleUsefact7) sharedfact8) ruleUsefact9) ruleUsefact10) ruleUsefact11) ruleUsefact12) ruleUsefact13) ruleUsefact14) ruleUsefact15) ruleUsefact16) ruleUsefact17) ruleUsefact18) ruleUsefact19) ruleUsefact20) ruleUsefact21) ruleUsefact22) ruleUsefact23) sharedfact24) sharedfact25) ruleUsefact26) ruleUsefact27) ruleUsefact28) ruleUsefact29) ruleUsefact30) ruleUsefact31)

theorem ruleUse_named : Tryz.prog.funcNamed Rows.ruleUseRow.func = some 10 := by kernel_rfl
theorem ruleUse_wrap : Tryz.f10.isWrapper Tryz.prog Rows.ruleUseRow.wrapper Rows.ruleUseRow.mainSum := by
  unfold Func.isWrapper
  first | (rw [if_pos (by decide +kernel)]; kernel_rfl) | (rw [if_neg (by decide +kernel)]; exact ⟨rfl, rfl⟩)
theorem ruleUse_inst : Tryz.f10.isInstance Tryz.prog Rows.ruleUseRow.origin Rows.ruleUseRow.targs := of_decide_eq_true (by kernel_rfl)
theorem ruleUse_over : Rows.ruleUseRow.holds Tryz.pinned (OpenSpec.ofChange Rows.ruleUseSpec) :=
  OpenClaim.holds_of_wide 10 Tryz.f10 rfl rfl rfl rfl rfl rfl rfl ⟨rfl, rfl, rfl, rfl, rfl⟩ rfl rfl rfl rfl rfl ruleUse_named Tryz.func10 ruleUseclosed ruleUse_inst ruleUse_wrap
    (fun os started H enc _ => ruleUse_lifted os started H enc)
theorem RuleUse_card : Rows.RuleUseCardSaid :=
  Claim7.holds_tied_plain_at .later [] [.data, .data, .data, .data, .sentinel, .sentinel, .pinned] true (true, "8e18a1714f7751f504d649e6490be771b7277452e1c4c66a7d7170bf3153b3c9") true ruleUse_over (fun _ h => by cases h) (by kernel_rfl) (fun _ h => by cases h) ruleUse_row_tie rfl ⟨rfl, rfl⟩ (by kernel_rfl) rfl
    (fun f fn hf hfn => by
      obtain rfl : f = 10 := Option.some.inj (ruleUse_named.symm.trans hf) |>.symm
      obtain rfl : fn = Tryz.f10 := (Option.some.inj (Tryz.func10.symm.trans hfn)).symm
      exact ⟨by kernel_rfl, fun j t ht => by
        rw [Tryz.params10] at ht
        have hm : t ∈ [22, 23, 23] := by simpa using Array.mem_of_getElem? ht
        have hall : ([22, 23, 23].all fun u => !Tryz.prog.wantsStandIn u) = true := by kernel_rfl
        exact (show Tryz.prog.wantsStandIn t = false by simpa using List.all_eq_true.1 hall t hm)⟩)
    (by kernel_rfl)
#print axioms RuleUse_card
end Go.Proofs.YtddfimjiihggmaaGreatDoor
