/- The law RuleTexts returns true for every input, and each argument reads afterwards as before; the tied card of it. Conditions: none, but that the listed package variables hold what the program's text lays. -/
import Derived.Test.YtddfimjiihggmaaGreatDoorB7
import Derived.Test.YtddfimjiihggmaaGreatDoorB11
import Derived.Test.YtddfimjiihggmaaGreatDoorCards
import Derived.Test.YtddfimjiihggmaaGreatDoorTie
import Derived.SevenTiedAt
namespace Go.Proofs.YtddfimjiihggmaaGreatDoor
open Go.ChangeShapes Go.WideShapes Go.ChangeAt Go.RowKit Px

theorem ruleTexts_reads : ∀ t ∈ Tryz.f8.params.toList, Tryz.prog.readableRec t = true ∧ t < Tryz.prog.types.size := by
  rw [Tryz.params8]
  intro t ht
  have : t = 22 ∨ t = 9 := by simp at ht; omega
  rcases this with rfl | rfl
  · exact ⟨by kernel_rfl, of_decide_eq_true (by kernel_rfl)⟩
  · exact ⟨by kernel_rfl, of_decide_eq_true (by kernel_rfl)⟩

set_option maxRecDepth 100000 in
theorem ruleTexts_lifted (os : Os) (started : os.Started) (H : Type) (enc : TypeId × Value → H) :
    ReturnsInHanded {} Tryz.checked os 8 .any (fun w args => (Rows.ruleTextsSpec.pre enc Tryz.prog Tryz.f8 Rows.ruleTextsRow.domain false w args ∧ laidMetH Tryz.prog Rows.ruleTextsRow.laid w) ∧ sizedMet enc Tryz.prog Tryz.f8 (OpenSpec.ofChange Rows.ruleTextsSpec) false w args)
      (Rows.ruleTextsSpec.post enc Tryz.prog Tryz.f8 false true false false) := by
  refine returnsInHanded_of_change_and (C := Tryz.checked) (X := fun w _ => laidMetH Tryz.prog Rows.ruleTextsRow.laid w) (fun _ _ _ hh h => h.of_heap hh) own started (by kernel_rfl) Tryz.func8
    (ChangeSpec.witness_shaped (enc := enc) (C := Tryz.checked) (os := os) (X := fun w _ => laidMetH Tryz.prog Rows.ruleTextsRow.laid w) false (World.laidAll Tryz.prog os Rows.ruleTextsRow.laid) #[.slice none 0 0, .string ⟨#[]⟩] 8 (World.laidAll_os _ _ _)
      (World.shaped_of_ZipB (by kernel_rfl) (by kernel_rfl)) (by kernel_rfl) (by kernel_rfl) (by kernel_rfl)
      (by rw [MakeChecks.laidMetH_plain _ _ _ (by kernel_rfl)]; exact laidMet_laidAll _ (by kernel_rfl) (by kernel_rfl))) ?_
  intro W base args ds gs before hval0 hW hcnd hwt hL _
  have hG : GlobOk (fun _ _ => True) W := by
    rw [MakeChecks.laidMetH_plain _ _ _ (by kernel_rfl)] at hL
    obtain ⟨ps, ⟨g0, t0, cs0, f0, p0, q0, hg0, ht0, hv0, hd0, ⟨g1, t1, cs1, f1, p1, q1, hg1, ht1, hv1, hd1, ⟨g2, t2, cs2, f2, p2, q2, hg2, ht2, hv2, hd2, _, _⟩, _⟩, _⟩, _, _⟩ := hL
    obtain rfl := Option.some.inj ((show Tryz.prog.globalNamed "internal/strconv.uint64pow10" = some 5 by kernel_rfl).symm.trans hg2)
    obtain rfl := Option.some.inj ((show (Tryz.prog.globals[5]?).map (·.type) = some 293 by kernel_rfl).symm.trans ht2)
    exact glob_of_var hv2 rfl hd2
  have hval : ∀ (j : Nat) t v, Tryz.f8.params[j]? = some t → args[j]? = some v → Value.okWide Tryz.prog W .any base t v := hval0
  have hW' := hW
  obtain ⟨p, q, hA0, hV, rfl, hfz, hnd⟩ := hW
  have hA : DataW.TrodAll enc Tryz.prog W 0 (fun _ => true) true Tryz.f8.params.toList args.toList ds p := hA0
  rw [Tryz.params8] at hA hval
  obtain ⟨v0, vs0, d0, ds0, p0, q0, hargs, rfl, rfl, h0, r0⟩ := trodAll_cons hA
  obtain ⟨v1, vs1, d1, ds1, p1, q1, rfl, rfl, rfl, h1, r1⟩ := trodAll_cons r0
  obtain ⟨rfl, rfl, rfl⟩ := trodAll_nil r1
  obtain rfl : args = #[v0, v1] := by cases args; simp_all
  obtain ⟨rfl, rfl⟩ := trodVars_none hV
  obtain ⟨x0, wx0, e0⟩ := open_sh (sh := shR) (by kernel_rfl) (hval 0 22 v0 rfl rfl) h0
  obtain ⟨l0, hl0⟩ := rus_dv x0
  rw [hl0] at e0
  obtain ⟨x1, wx1, e1⟩ := open_sh (sh := .s) (by kernel_rfl) (hval 1 9 v1 rfl rfl) h1
  refine (calls_of_true (lawTexts l0 x1) W [v0, v1] rfl (fun j v x hv hx => ?_) hG).mono fun e W' ⟨he, bel⟩ => ?_
  · match j, hv, hx with
    | 0, hv, hx => cases hv; cases hx; exact e0
    | 1, hv, hx => cases hv; cases hx; exact e1
    | j + 2, hv, _ => simp at hv
  · subst he
    exact ⟨_, rfl, law_post hW' rfl rfl rfl ruleTexts_reads bel⟩

theorem ruleTextsfact0 : Rows.ruleTextsRow.wf (OpenSpec.ofChange Rows.ruleTextsSpec) = true := by kernel_rfl
theorem ruleTextsfact3 : Tryz.f8.params.all (Tryz.prog.readableRec ·) = true := by kernel_rfl
theorem ruleTextsfact4 : namedTie Tryz.prog Rows.ruleTextsRow.named Rows.ruleTextsSpec.vars = true := by kernel_rfl
theorem ruleTextsfact5 : (Rows.ruleTextsRow.stops == []) = true := by kernel_rfl
theorem ruleTextsfact7 : (Rows.ruleTextsRow.knobs == []) = true := by kernel_rfl
theorem ruleTextsfact9 : (Rows.ruleTextsRow.inPlace == Tryz.prog.inPlace 8) = true := by kernel_rfl
theorem ruleTextsfact10 : (Rows.ruleTextsRow.unfollowed == Tryz.prog.unfollowed 8) = true := by kernel_rfl
theorem ruleTextsfact11 : (Rows.ruleTextsRow.recurses == Tryz.prog.recurses 8) = true := by kernel_rfl
theorem ruleTextsfact12 : (Rows.ruleTextsRow.named == Tryz.prog.varsNamed 8) = true := by kernel_rfl
theorem ruleTextsfact13 : (Rows.ruleTextsRow.maps == (Tryz.f8.params.toList ++ Rows.ruleTextsSpec.plain.varTypes Tryz.prog).any (Tryz.prog.mapsRec ·)) = true := by kernel_rfl
theorem ruleTextsfact14 : (Rows.ruleTextsRow.ifaces == (Tryz.f8.params.toList ++ Rows.ruleTextsSpec.plain.varTypes Tryz.prog).any (Tryz.prog.ifacesRec ·)) = true := by kernel_rfl
theorem ruleTextsfact15 : (Rows.ruleTextsRow.mapsOut == Tryz.prog.mapsAmong Tryz.f8.resultTypes.toList) = true := by kernel_rfl
theorem ruleTextsfact16 : (Rows.ruleTextsRow.loops == (Tryz.f8.params.toList ++ Rows.ruleTextsSpec.plain.varTypes Tryz.prog).any (Tryz.prog.loopsFrom ·)) = true := by kernel_rfl
theorem ruleTextsfact17 : (Rows.ruleTextsRow.wideKeys == (Tryz.f8.params.toList ++ Rows.ruleTextsSpec.plain.varTypes Tryz.prog ++ Tryz.f8.resultTypes.toList).any (Tryz.prog.wideKeysFrom ·)) = true := by kernel_rfl
theorem ruleTextsfact18 : Rows.ruleTextsSpec.vars.all (Tryz.prog.varReadable ·) = true := by kernel_rfl
theorem ruleTextsfact19 : Tryz.f8.resultTypes.all (fun t => Tryz.prog.readableRec t && decide (t < Tryz.prog.types.size)) = true := by kernel_rfl
theorem ruleTextsfact20 : (Rows.ruleTextsRow.ifacesOut == Tryz.f8.resultTypes.toList.any (Tryz.prog.ifacesRec ·)) = true := by kernel_rfl
theorem ruleTextsfact21 : (Rows.ruleTextsRow.loopsOut == Tryz.f8.resultTypes.toList.any (Tryz.prog.loopsFrom ·)) = true := by kernel_rfl
theorem ruleTextsfact22 : (Rows.ruleTextsRow.plainKeys == Tryz.prog.plainKeys) = true := by rw [sharedplainKeys]; rfl
theorem ruleTextsfact23 : Rows.ruleTextsRow.shortTexts.isNone = true := by kernel_rfl
theorem ruleTextsfact26 : (Rows.ruleTextsRow.lifted == Tryz.prog.liftsFinal) = true := by rw [sharedliftsFinal]; rfl
theorem ruleTextsfact27 : (Tryz.prog.make == some Rows.ruleTextsRow.make) = true := by kernel_rfl
theorem ruleTextsfact28 : (Rows.ruleTextsRow.kinds == (if Rows.ruleTextsRow.domain.isEmpty then [] else Tryz.f8.params.toList.map fun t => match Tryz.prog.underlying t with | some (.int k) => some k | _ => none)) = true := by kernel_rfl
theorem ruleTextsfact29 : (Rows.ruleTextsRow.pinned == Rows.ruleTextsRow.pinnedBy) = true := by kernel_rfl
theorem ruleTextsfact30 : (Rows.ruleTextsRow.veiled == (Tryz.f8.params.toList ++ Rows.ruleTextsSpec.plain.varTypes Tryz.prog ++ Tryz.f8.resultTypes.toList).any (Tryz.prog.veiledRec ·)) = true := by kernel_rfl
theorem ruleTextsfact31 : Rows.ruleTextsRow.veiledFits Tryz.prog Tryz.f8.params.toList (Tryz.f8.params.toList ++ Rows.ruleTextsSpec.plain.varTypes Tryz.prog ++ Tryz.f8.resultTypes.toList) = true := by kernel_rfl
set_option maxRecDepth 100000 in
theorem ruleTextsclosed : joinedFacts Tryz.prog 8 Tryz.f8 Rows.ruleTextsSpec Rows.ruleTextsRow = true := (and_mk (and_mk (and_mk (and_mk (and_mk (and_mk (and_mk (and_mk (and_mk (and_mk (and_mk (and_mk (and_mk (and_mk (and_mk (and_mk (and_mk (and_mk (and_mk (and_mk (and_mk (and_mk (and_mk (and_mk (and_mk (and_mk (and_mk (and_mk (and_mk (and_mk (and_mk ruleTextsfact0 sharedfact1) sharedfact2) ruleTextsfact3) ruleTextsfact4) ruleTextsfact5) sharedfact6) ruleTextsfact7) sharedfact8) ruleTextsfact9) ruleTextsfact10) ruleTextsfact11) ruleTextsfact12) ruleTextsfact13) ruleTextsfact14) ruleTextsfact15) ruleTextsfact16) ruleTextsfact17) ruleTextsfact18) ruleTextsfact19) ruleTextsfact20) ruleTextsfact21) ruleTextsfact22) ruleTextsfact23) sharedfact24) sharedfact25) ruleTextsfact26) ruleTextsfact27) ruleTextsfact28) ruleTextsfact29) ruleTextsfact30) ruleTextsfact31)

theorem ruleTexts_named : Tryz.prog.funcNamed Rows.ruleTextsRow.func = some 8 := by kernel_rfl
theorem ruleTexts_wrap : Tryz.f8.isWrapper Tryz.prog Rows.ruleTextsRow.wrapper Rows.ruleTextsRow.mainSum := by
  unfold Func.isWrapper
  first | (rw [if_pos (by decide +kernel)]; kernel_rfl) | (rw [if_neg (by decide +kernel)]; exact ⟨rfl, rfl⟩)
theorem ruleTexts_inst : Tryz.f8.isInstance Tryz.prog Rows.ruleTextsRow.origin Rows.ruleTextsRow.targs := of_decide_eq_true (by kernel_rfl)
theorem ruleTexts_over : Rows.ruleTextsRow.holds Tryz.pinned (OpenSpec.ofChange Rows.ruleTextsSpec) :=
  OpenClaim.holds_of_wide 8 Tryz.f8 rfl rfl rfl rfl rfl rfl rfl ⟨rfl, rfl, rfl, rfl, rfl⟩ rfl rfl rfl rfl rfl ruleTexts_named Tryz.func8 ruleTextsclosed ruleTexts_inst ruleTexts_wrap
    (fun os started H enc _ => ruleTexts_lifted os started H enc)
theorem RuleTexts_card : Rows.RuleTextsCardSaid :=
  Claim7.holds_tied_plain_at .later [] [.data, .data, .data, .data, .sentinel, .sentinel, .pinned] true (true, "8e18a1714f7751f504d649e6490be771b7277452e1c4c66a7d7170bf3153b3c9") true ruleTexts_over (fun _ h => by cases h) (by kernel_rfl) (fun _ h => by cases h) ruleTexts_row_tie rfl ⟨rfl, rfl⟩ (by kernel_rfl) rfl
    (fun f fn hf hfn => by
      obtain rfl : f = 8 := Option.some.inj (ruleTexts_named.symm.trans hf) |>.symm
      obtain rfl : fn = Tryz.f8 := (Option.some.inj (Tryz.func8.symm.trans hfn)).symm
      exact ⟨by kernel_rfl, fun j t ht => by
        rw [Tryz.params8] at ht
        have hm : t ∈ [22, 9] := by simpa using Array.mem_of_getElem? ht
        have hall : ([22, 9].all fun u => !Tryz.prog.wantsStandIn u) = true := by kernel_rfl
        exact (show Tryz.prog.wantsStandIn t = false by simpa using List.all_eq_true.1 hall t hm)⟩)
    (by kernel_rfl)
#print axioms RuleTexts_card
end Go.Proofs.YtddfimjiihggmaaGreatDoor
