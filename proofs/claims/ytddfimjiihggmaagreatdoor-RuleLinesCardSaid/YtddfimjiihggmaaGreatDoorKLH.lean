/- The law RuleLines returns true for every input, and each argument reads afterwards as before; the tied card of it. Conditions: none, but that the listed package variables hold what the program's text lays. -/
import Derived.Test.YtddfimjiihggmaaGreatDoorB7
import Derived.Test.YtddfimjiihggmaaGreatDoorB12
import Derived.Test.YtddfimjiihggmaaGreatDoorB11
import Derived.Test.YtddfimjiihggmaaGreatDoorCards
import Derived.Test.YtddfimjiihggmaaGreatDoorTie
import Derived.SevenTiedAt
namespace Go.Proofs.YtddfimjiihggmaaGreatDoor
open Go.ChangeShapes Go.WideShapes Go.ChangeAt Go.RowKit Px

theorem ruleLines_reads : ∀ t ∈ Tryz.f5.params.toList, Tryz.prog.readableRec t = true ∧ t < Tryz.prog.types.size := by
  rw [Tryz.params5]
  intro t ht
  have : t = 32 ∨ t = 53 ∨ t = 5 := by simp at ht; omega
  rcases this with rfl | rfl | rfl
  · exact ⟨by kernel_rfl, of_decide_eq_true (by kernel_rfl)⟩
  · exact ⟨by kernel_rfl, of_decide_eq_true (by kernel_rfl)⟩
  · exact ⟨by kernel_rfl, of_decide_eq_true (by kernel_rfl)⟩

set_option maxRecDepth 100000 in
theorem ruleLines_lifted (os : Os) (started : os.Started) (H : Type) (enc : TypeId × Value → H) :
    ReturnsInHanded {} Tryz.checked os 5 .any (fun w args => (Rows.ruleLinesSpec.pre enc Tryz.prog Tryz.f5 Rows.ruleLinesRow.domain false w args ∧ laidMetH Tryz.prog Rows.ruleLinesRow.laid w) ∧ sizedMet enc Tryz.prog Tryz.f5 (OpenSpec.ofChange Rows.ruleLinesSpec) false w args)
      (Rows.ruleLinesSpec.post enc Tryz.prog Tryz.f5 false true false false) := by
  refine returnsInHanded_of_change_and (C := Tryz.checked) (X := fun w _ => laidMetH Tryz.prog Rows.ruleLinesRow.laid w) (fun _ _ _ hh h => h.of_heap hh) own started (by kernel_rfl) Tryz.func5
    (ChangeSpec.witness_shaped (enc := enc) (C := Tryz.checked) (os := os) (X := fun w _ => laidMetH Tryz.prog Rows.ruleLinesRow.laid w) false (World.laidAll Tryz.prog os Rows.ruleLinesRow.laid) #[.agg #[.int .i64 0, .slice none 0 0], .agg #[.string ⟨#[]⟩, .bool false, .slice none 0 0], .int .u8 0] 8 (World.laidAll_os _ _ _)
      (World.shaped_of_ZipB (by kernel_rfl) (by kernel_rfl)) (by kernel_rfl) (by kernel_rfl) (by kernel_rfl)
      (by rw [MakeChecks.laidMetH_plain _ _ _ (by kernel_rfl)]; exact laidMet_laidAll _ (by kernel_rfl) (by kernel_rfl))) ?_
  intro W base args ds gs before hval0 hW hcnd hwt hL _
  have hG : GlobOk (fun _ _ => True) W := by
    rw [MakeChecks.laidMetH_plain _ _ _ (by kernel_rfl)] at hL
    obtain ⟨ps, ⟨g0, t0, cs0, f0, p0, q0, hg0, ht0, hv0, hd0, ⟨g1, t1, cs1, f1, p1, q1, hg1, ht1, hv1, hd1, ⟨g2, t2, cs2, f2, p2, q2, hg2, ht2, hv2, hd2, _, _⟩, _⟩, _⟩, _, _⟩ := hL
    obtain rfl := Option.some.inj ((show Tryz.prog.globalNamed "internal/strconv.uint64pow10" = some 5 by kernel_rfl).symm.trans hg2)
    obtain rfl := Option.some.inj ((show (Tryz.prog.globals[5]?).map (·.type) = some 293 by kernel_rfl).symm.trans ht2)
    exact glob_of_var hv2 rfl hd2
  have hval : ∀ (j : Nat) t v, Tryz.f5.params[j]? = some t → args[j]? = some v → Value.okWide Tryz.prog W .any base t v := hval0
  have hW' := hW
  obtain ⟨p, q, hA0, hV, rfl, hfz, hnd⟩ := hW
  have hA : DataW.TrodAll enc Tryz.prog W 0 (fun _ => true) true Tryz.f5.params.toList args.toList ds p := hA0
  rw [Tryz.params5] at hA hval
  obtain ⟨v0, vs0, d0, ds0, p0, q0, hargs, rfl, rfl, h0, r0⟩ := trodAll_cons hA
  obtain ⟨v1, vs1, d1, ds1, p1, q1, rfl, rfl, rfl, h1, r1⟩ := trodAll_cons r0
  obtain ⟨v2, vs2, d2, ds2, p2, q2, rfl, rfl, rfl, h2, r2⟩ := trodAll_cons r1
  obtain ⟨rfl, rfl, rfl⟩ := trodAll_nil r2
  obtain rfl : args = #[v0, v1, v2] := by cases args; simp_all
  obtain ⟨rfl, rfl⟩ := trodVars_none hV
  obtain ⟨x0, wx0, e0⟩ := open_sh (sh := shr) (by kernel_rfl) (hval 0 32 v0 rfl rfl) h0
  obtain ⟨l0, hl0⟩ := ru_dv x0
  rw [hl0] at e0
  obtain ⟨x1, wx1, e1⟩ := open_sh (sh := shX) (by kernel_rfl) (hval 1 53 v1 rfl rfl) h1
  obtain ⟨l1, hl1⟩ := ln_dv x1
  rw [hl1] at e1
  obtain ⟨x2, wx2, e2⟩ := open_sh (sh := .i .u8) (by kernel_rfl) (hval 2 5 v2 rfl rfl) h2
  have bu2 : 0 ≤ (x2 : Int) ∧ (x2 : Int) ≤ 255 := by simpa [Dat.ok, Lit.wf, IntKind.min, IntKind.max, IntKind.signed, IntKind.bits] using wx2
  refine (calls_of_true (lawLines l0 l1 x2 bu2.1 bu2.2) W [v0, v1, v2] rfl (fun j v x hv hx => ?_) hG).mono fun e W' ⟨he, bel⟩ => ?_
  · match j, hv, hx with
    | 0, hv, hx => cases hv; cases hx; exact e0
    | 1, hv, hx => cases hv; cases hx; exact e1
    | 2, hv, hx => cases hv; cases hx; exact e2
    | j + 3, hv, _ => simp at hv
  · subst he
    exact ⟨_, rfl, law_post hW' rfl rfl rfl ruleLines_reads bel⟩

theorem ruleLinesfact0 : Rows.ruleLinesRow.wf (OpenSpec.ofChange Rows.ruleLinesSpec) = true := by kernel_rfl
theorem ruleLinesfact3 : Tryz.f5.params.all (Tryz.prog.readableRec ·) = true := by kernel_rfl
theorem ruleLinesfact4 : namedTie Tryz.prog Rows.ruleLinesRow.named Rows.ruleLinesSpec.vars = true := by kernel_rfl
theorem ruleLinesfact5 : (Rows.ruleLinesRow.stops == []) = true := by kernel_rfl
theorem ruleLinesfact7 : (Rows.ruleLinesRow.knobs == []) = true := by kernel_rfl
theorem ruleLinesfact9 : (Rows.ruleLinesRow.inPlace == Tryz.prog.inPlace 5) = true := by kernel_rfl
theorem ruleLinesfact10 : (Rows.ruleLinesRow.unfollowed == Tryz.prog.unfollowed 5) = true := by kernel_rfl
theorem ruleLinesfact11 : (Rows.ruleLinesRow.recurses == Tryz.prog.recurses 5) = true := by kernel_rfl
theorem ruleLinesfact12 : (Rows.ruleLinesRow.named == Tryz.prog.varsNamed 5) = true := by kernel_rfl
theorem ruleLinesfact13 : (Rows.ruleLinesRow.maps == (Tryz.f5.params.toList ++ Rows.ruleLinesSpec.plain.varTypes Tryz.prog).any (Tryz.prog.mapsRec ·)) = true := by kernel_rfl
theorem ruleLinesfact14 : (Rows.ruleLinesRow.ifaces == (Tryz.f5.params.toList ++ Rows.ruleLinesSpec.plain.varTypes Tryz.prog).any (Tryz.prog.ifacesRec ·)) = true := by kernel_rfl
theorem ruleLinesfact15 : (Rows.ruleLinesRow.mapsOut == Tryz.prog.mapsAmong Tryz.f5.resultTypes.toList) = true := by kernel_rfl
theorem ruleLinesfact16 : (Rows.ruleLinesRow.loops == (Tryz.f5.params.toList ++ Rows.ruleLinesSpec.plain.varTypes Tryz.prog).any (Tryz.prog.loopsFrom ·)) = true := by kernel_rfl
theorem ruleLinesfact17 : (Rows.ruleLinesRow.wideKeys == (Tryz.f5.params.toList ++ Rows.ruleLinesSpec.plain.varTypes Tryz.prog ++ Tryz.f5.resultTypes.toList).any (Tryz.prog.wideKeysFrom ·)) = true := by kernel_rfl
theorem ruleLinesfact18 : Rows.ruleLinesSpec.vars.all (Tryz.prog.varReadable ·) = true := by kernel_rfl
theorem ruleLinesfact19 : Tryz.f5.resultTypes.all (fun t => Tryz.prog.readableRec t && decide (t < Tryz.prog.types.size)) = true := by kernel_rfl
theorem ruleLinesfact20 : (Rows.ruleLinesRow.ifacesOut == Tryz.f5.resultTypes.toList.any (Tryz.prog.ifacesRec ·)) = true := by kernel_rfl
theorem ruleLinesfact21 : (Rows.ruleLinesRow.loopsOut == Tryz.f5.resultTypes.toList.any (Tryz.prog.loopsFrom ·)) = true := by kernel_rfl
theorem ruleLinesfact22 : (Rows.ruleLinesRow.plainKeys == Tryz.prog.plainKeys) = true := by rw [sharedplainKeys]; rfl
theorem ruleLinesfact23 : Rows.ruleLinesRow.shortTexts.isNone = true := by kernel_rfl
theorem ruleLinesfact26 : (Rows.ruleLinesRow.lifted == Tryz.prog.liftsFinal) = true := by rw [sharedliftsFinal]; rfl
theorem ruleLinesfact27 : (Tryz.prog.make == some Rows.ruleLinesRow.make) = true := by kernel_rfl
theorem ruleLinesfact28 : (Rows.ruleLinesRow.kinds == (if Rows.ruleLinesRow.domain.isEmpty then [] else Tryz.f5.params.toList.map fun t => match Tryz.prog.underlying t with | some (.int k) => some k | _ => none)) = true := by kernel_rfl
theorem ruleLinesfact29 : (Rows.ruleLinesRow.pinned == Rows.ruleLinesRow.pinnedBy) = true := by kernel_rfl
theorem ruleLinesfact30 : (Rows.ruleLinesRow.veiled == (Tryz.f5.params.toList ++ Rows.ruleLinesSpec.plain.varTypes Tryz.prog ++ Tryz.f5.resultTypes.toList).any (Tryz.prog.veiledRec ·)) = true := by kernel_rfl
theorem ruleLinesfact31 : Rows.ruleLinesRow.veiledFits Tryz.prog Tryz.f5.params.toList (Tryz.f5.params.toList ++ Rows.ruleLinesSpec.plain.varTypes Tryz.prog ++ Tryz.f5.resultTypes.toList) = true := by kernel_rfl
set_option maxRecDepth 100000 in
theorem ruleLinesclosed : joinedFacts Tryz.prog 5 Tryz.f5 Rows.ruleLinesSpec Rows.ruleLinesRow = true := (and_mk (and_mk (and_mk (and_mk (and_mk (and_mk (and_mk (and_mk (and_mk (and_mk (and_mk (and_mk (and_mk (and_mk (and_mk (and_mk (and_mk (and_mk (and_mk (and_mk (and_mk (and_mk (and_mk (and_mk (and_mk (and_mk (and_mk (and_mk (and_mk (and_mk (and_mk ruleLinesfact0 sharedfact1) sharedfact2) ruleLinesfact3) ruleLinesfact4) ruleLinesfact5) sharedfact6) ruleLinesfact7) sharedfact8) ruleLinesfact9) ruleLinesfact10) ruleLinesfact11) ruleLinesfact12) ruleLinesfact13) ruleLinesfact14) ruleLinesfact15) ruleLinesfact16) ruleLinesfact17) ruleLinesfact18) ruleLinesfact19) ruleLinesfact20) ruleLinesfact21) ruleLinesfact22) ruleLinesfact23) sharedfact24) sharedfact25) ruleLinesfact26) ruleLinesfact27) ruleLinesfact28) ruleLinesfact29) ruleLinesfact30) ruleLinesfact31)

theorem ruleLines_named : Tryz.prog.funcNamed Rows.ruleLinesRow.func = some 5 := by kernel_rfl
theorem ruleLines_wrap : Tryz.f5.isWrapper Tryz.prog Rows.ruleLinesRow.wrapper Rows.ruleLinesRow.mainSum := by
  unfold Func.isWrapper
  first | (rw [if_pos (by decide +kernel)]; kernel_rfl) | (rw [if_neg (by decide +kernel)]; exact ⟨rfl, rfl⟩)
theorem ruleLines_inst : Tryz.f5.isInstance Tryz.prog Rows.ruleLinesRow.origin Rows.ruleLinesRow.targs := of_decide_eq_true (by kernel_rfl)
theorem ruleLines_over : Rows.ruleLinesRow.holds Tryz.pinned (OpenSpec.ofChange Rows.ruleLinesSpec) :=
  OpenClaim.holds_of_wide 5 Tryz.f5 rfl rfl rfl rfl rfl rfl rfl ⟨rfl, rfl, rfl, rfl, rfl⟩ rfl rfl rfl rfl rfl ruleLines_named Tryz.func5 ruleLinesclosed ruleLines_inst ruleLines_wrap
    (fun os started H enc _ => ruleLines_lifted os started H enc)
theorem RuleLines_card : Rows.RuleLinesCardSaid :=
  Claim7.holds_tied_plain_at .later [] [.data, .data, .data, .data, .sentinel, .sentinel, .pinned] true (true, "8e18a1714f7751f504d649e6490be771b7277452e1c4c66a7d7170bf3153b3c9") true ruleLines_over (fun _ h => by cases h) (by kernel_rfl) (fun _ h => by cases h) ruleLines_row_tie rfl ⟨rfl, rfl⟩ (by kernel_rfl) rfl
    (fun f fn hf hfn => by
      obtain rfl : f = 5 := Option.some.inj (ruleLines_named.symm.trans hf) |>.symm
      obtain rfl : fn = Tryz.f5 := (Option.some.inj (Tryz.func5.symm.trans hfn)).symm
      exact ⟨by kernel_rfl, fun j t ht => by
        rw [Tryz.params5] at ht
        have hm : t ∈ [32, 53, 5] := by simpa using Array.mem_of_getElem? ht
        have hall : ([32, 53, 5].all fun u => !Tryz.prog.wantsStandIn u) = true := by kernel_rfl
        exact (show Tryz.prog.wantsStandIn t = false by simpa using List.all_eq_true.1 hall t hm)⟩)
    (by kernel_rfl)
#print axioms RuleLines_card
end Go.Proofs.YtddfimjiihggmaaGreatDoor
