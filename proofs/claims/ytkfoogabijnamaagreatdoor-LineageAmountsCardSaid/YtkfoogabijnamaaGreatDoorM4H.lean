/- The law LineageAmounts returns true for every input, and each argument reads afterwards as before; the tied card of it. Conditions: none, but that the listed package variables hold what the program's text lays. -/
import Derived.Test.YtkfoogabijnamaaGreatDoorB5
import Derived.Test.YtkfoogabijnamaaGreatDoorB8
import Derived.Test.YtkfoogabijnamaaGreatDoorCards
import Derived.Test.YtkfoogabijnamaaGreatDoorTie
import Derived.SevenTiedAt
namespace Go.Proofs.YtkfoogabijnamaaGreatDoor
open Go.ChangeShapes Go.WideShapes Go.ChangeAt Go.RowKit Px

theorem lineageAmounts_reads : ∀ t ∈ Tryz.f4.params.toList, Tryz.prog.readableRec t = true ∧ t < Tryz.prog.types.size := by
  rw [Tryz.params4]
  intro t ht
  have : t = 22 ∨ t = 9 := by simp at ht; omega
  rcases this with rfl | rfl
  · exact ⟨by kernel_rfl, of_decide_eq_true (by kernel_rfl)⟩
  · exact ⟨by kernel_rfl, of_decide_eq_true (by kernel_rfl)⟩

set_option maxRecDepth 100000 in
theorem lineageAmounts_lifted (os : Os) (started : os.Started) (H : Type) (enc : TypeId × Value → H) :
    ReturnsInHanded {} Tryz.checked os 4 .any (fun w args => (Rows.lineageAmountsSpec.pre enc Tryz.prog Tryz.f4 Rows.lineageAmountsRow.domain false w args ∧ laidMetH Tryz.prog Rows.lineageAmountsRow.laid w) ∧ sizedMet enc Tryz.prog Tryz.f4 (OpenSpec.ofChange Rows.lineageAmountsSpec) false w args)
      (Rows.lineageAmountsSpec.post enc Tryz.prog Tryz.f4 false true false false) := by
  refine returnsInHanded_of_change_and (C := Tryz.checked) (X := fun w _ => laidMetH Tryz.prog Rows.lineageAmountsRow.laid w) (fun _ _ _ hh h => h.of_heap hh) own started (by kernel_rfl) Tryz.func4
    (ChangeSpec.witness_shaped (enc := enc) (C := Tryz.checked) (os := os) (X := fun w _ => laidMetH Tryz.prog Rows.lineageAmountsRow.laid w) false (World.laidAll Tryz.prog os Rows.lineageAmountsRow.laid) #[.slice none 0 0, .string ⟨#[]⟩] 8 (World.laidAll_os _ _ _)
      (World.shaped_of_ZipB (by kernel_rfl) (by kernel_rfl)) (by kernel_rfl) (by kernel_rfl) (by kernel_rfl)
      (by rw [MakeChecks.laidMetH_plain _ _ _ (by kernel_rfl)]; exact laidMet_laidAll _ (by kernel_rfl) (by kernel_rfl))) ?_
  intro W base args ds gs before hval0 hW hcnd hwt hL _
  have hG : GlobOk (fun _ _ => True) W := by
    rw [MakeChecks.laidMetH_plain _ _ _ (by kernel_rfl)] at hL
    obtain ⟨ps, ⟨g0, t0, cs0, f0, p0, q0, hg0, ht0, hv0, hd0, ⟨g1, t1, cs1, f1, p1, q1, hg1, ht1, hv1, hd1, ⟨g2, t2, cs2, f2, p2, q2, hg2, ht2, hv2, hd2, _, _⟩, _⟩, _⟩, _, _⟩ := hL
    obtain rfl := Option.some.inj ((show Tryz.prog.globalNamed "internal/strconv.uint64pow10" = some 2 by kernel_rfl).symm.trans hg2)
    obtain rfl := Option.some.inj ((show (Tryz.prog.globals[2]?).map (·.type) = some 192 by kernel_rfl).symm.trans ht2)
    exact glob_of_var hv2 rfl hd2
  have hval : ∀ (j : Nat) t v, Tryz.f4.params[j]? = some t → args[j]? = some v → Value.okWide Tryz.prog W .any base t v := hval0
  have hW' := hW
  obtain ⟨p, q, hA0, hV, rfl, hfz, hnd⟩ := hW
  have hA : DataW.TrodAll enc Tryz.prog W 0 (fun _ => true) true Tryz.f4.params.toList args.toList ds p := hA0
  rw [Tryz.params4] at hA hval
  obtain ⟨v0, vs0, d0, ds0, p0, q0, hargs, rfl, rfl, h0, r0⟩ := trodAll_cons hA
  obtain ⟨v1, vs1, d1, ds1, p1, q1, rfl, rfl, rfl, h1, r1⟩ := trodAll_cons r0
  obtain ⟨rfl, rfl, rfl⟩ := trodAll_nil r1
  obtain rfl : args = #[v0, v1] := by cases args; simp_all
  obtain ⟨rfl, rfl⟩ := trodVars_none hV
  obtain ⟨x0, wx0, e0⟩ := open_sh (sh := shL) (by kernel_rfl) (hval 0 22 v0 rfl rfl) h0
  obtain ⟨l0, hl0⟩ := sts_dv x0
  rw [hl0] at e0
  obtain ⟨x1, wx1, e1⟩ := open_sh (sh := .s) (by kernel_rfl) (hval 1 9 v1 rfl rfl) h1
  refine (calls_of_true (lawAmounts l0 x1) W [v0, v1] rfl (fun j v x hv hx => ?_) hG).mono fun e W' ⟨he, bel⟩ => ?_
  · match j, hv, hx with
    | 0, hv, hx => cases hv; cases hx; exact e0
    | 1, hv, hx => cases hv; cases hx; exact e1
    | j + 2, hv, _ => simp at hv
  · subst he
    exact ⟨_, rfl, law_post hW' rfl rfl rfl lineageAmounts_reads bel⟩

theorem lineageAmountsfact0 : Rows.lineageAmountsRow.wf (OpenSpec.ofChange Rows.lineageAmountsSpec) = true := by kernel_rfl
theorem lineageAmountsfact3 : Tryz.f4.params.all (Tryz.prog.readableRec ·) = true := by kernel_rfl
theorem lineageAmountsfact4 : namedTie Tryz.prog Rows.lineageAmountsRow.named Rows.lineageAmountsSpec.vars = true := by kernel_rfl
theorem lineageAmountsfact5 : (Rows.lineageAmountsRow.stops == []) = true := by kernel_rfl
theorem lineageAmountsfact7 : (Rows.lineageAmountsRow.knobs == []) = true := by kernel_rfl
theorem lineageAmountsfact9 : (Rows.lineageAmountsRow.inPlace == Tryz.prog.inPlace 4) = true := by kernel_rfl
theorem lineageAmountsfact10 : (Rows.lineageAmountsRow.unfollowed == Tryz.prog.unfollowed 4) = true := by kernel_rfl
theorem lineageAmountsfact11 : (Rows.lineageAmountsRow.recurses == Tryz.prog.recurses 4) = true := by kernel_rfl
theorem lineageAmountsfact12 : (Rows.lineageAmountsRow.named == Tryz.prog.varsNamed 4) = true := by kernel_rfl
theorem lineageAmountsfact13 : (Rows.lineageAmountsRow.maps == (Tryz.f4.params.toList ++ Rows.lineageAmountsSpec.plain.varTypes Tryz.prog).any (Tryz.prog.mapsRec ·)) = true := by kernel_rfl
theorem lineageAmountsfact14 : (Rows.lineageAmountsRow.ifaces == (Tryz.f4.params.toList ++ Rows.lineageAmountsSpec.plain.varTypes Tryz.prog).any (Tryz.prog.ifacesRec ·)) = true := by kernel_rfl
theorem lineageAmountsfact15 : (Rows.lineageAmountsRow.mapsOut == Tryz.prog.mapsAmong Tryz.f4.resultTypes.toList) = true := by kernel_rfl
theorem lineageAmountsfact16 : (Rows.lineageAmountsRow.loops == (Tryz.f4.params.toList ++ Rows.lineageAmountsSpec.plain.varTypes Tryz.prog).any (Tryz.prog.loopsFrom ·)) = true := by kernel_rfl
theorem lineageAmountsfact17 : (Rows.lineageAmountsRow.wideKeys == (Tryz.f4.params.toList ++ Rows.lineageAmountsSpec.plain.varTypes Tryz.prog ++ Tryz.f4.resultTypes.toList).any (Tryz.prog.wideKeysFrom ·)) = true := by kernel_rfl
theorem lineageAmountsfact18 : Rows.lineageAmountsSpec.vars.all (Tryz.prog.varReadable ·) = true := by kernel_rfl
theorem lineageAmountsfact19 : Tryz.f4.resultTypes.all (fun t => Tryz.prog.readableRec t && decide (t < Tryz.prog.types.size)) = true := by kernel_rfl
theorem lineageAmountsfact20 : (Rows.lineageAmountsRow.ifacesOut == Tryz.f4.resultTypes.toList.any (Tryz.prog.ifacesRec ·)) = true := by kernel_rfl
theorem lineageAmountsfact21 : (Rows.lineageAmountsRow.loopsOut == Tryz.f4.resultTypes.toList.any (Tryz.prog.loopsFrom ·)) = true := by kernel_rfl
theorem lineageAmountsfact22 : (Rows.lineageAmountsRow.plainKeys == Tryz.prog.plainKeys) = true := by rw [sharedplainKeys]; rfl
theorem lineageAmountsfact23 : Rows.lineageAmountsRow.shortTexts.isNone = true := by kernel_rfl
theorem lineageAmountsfact26 : (Rows.lineageAmountsRow.lifted == Tryz.prog.liftsFinal) = true := by rw [sharedliftsFinal]; rfl
theorem lineageAmountsfact27 : (Tryz.prog.make == some Rows.lineageAmountsRow.make) = true := by kernel_rfl
theorem lineageAmountsfact28 : (Rows.lineageAmountsRow.kinds == (if Rows.lineageAmountsRow.domain.isEmpty then [] else Tryz.f4.params.toList.map fun t => match Tryz.prog.underlying t with | some (.int k) => some k | _ => none)) = true := by kernel_rfl
theorem lineageAmountsfact29 : (Rows.lineageAmountsRow.pinned == Rows.lineageAmountsRow.pinnedBy) = true := by kernel_rfl
theorem lineageAmountsfact30 : (Rows.lineageAmountsRow.veiled == (Tryz.f4.params.toList ++ Rows.lineageAmountsSpec.plain.varTypes Tryz.prog ++ Tryz.f4.resultTypes.toList).any (Tryz.prog.veiledRec ·)) = true := by kernel_rfl
theorem lineageAmountsfact31 : Rows.lineageAmountsRow.veiledFits Tryz.prog Tryz.f4.params.toList (Tryz.f4.params.toList ++ Rows.lineageAmountsSpec.plain.varTypes Tryz.prog ++ Tryz.f4.resultTypes.toList) = true := by kernel_rfl
set_option maxRecDepth 100000 in
theorem lineageAmountsclosed : joinedFacts Tryz.prog 4 Tryz.f4 Rows.lineageAmountsSpec Rows.lineageAmountsRow = true := (and_mk (and_mk (and_mk (and_mk (and_mk (and_mk (and_mk (and_mk (and_mk (and_mk (and_mk (and_mk (and_mk (and_mk (and_mk (and_mk (and_mk (and_mk (and_mk (and_mk (and_mk (and_mk (and_mk (and_mk (and_mk (and_mk (and_mk (and_mk (and_mk (and_mk (and_mk lineageAmountsfact0 sharedfact1) sharedfact2) lineageAmountsfact3) lineageAmountsfact4) lineageAmountsfact5) sharedfact6) lineageAmountsfact7) sharedfact8) lineageAmountsfact9) lineageAmountsfact10) lineageAmountsfact11) lineageAmountsfact12) lineageAmountsfact13) lineageAmountsfact14) lineageAmountsfact15) lineageAmountsfact16) lineageAmountsfact17) lineageAmountsfact18) lineageAmountsfact19) lineageAmountsfact20) lineageAmountsfact21) lineageAmountsfact22) lineageAmountsfact23) sharedfact24) sharedfact25) lineageAmountsfact26) lineageAmountsfact27) lineageAmountsfact28) lineageAmountsfact29) lineageAmountsfact30) lineageAmountsfact31)

theorem lineageAmounts_named : Tryz.prog.funcNamed Rows.lineageAmountsRow.func = some 4 := by kernel_rfl
theorem lineageAmounts_wrap : Tryz.f4.isWrapper Tryz.prog Rows.lineageAmountsRow.wrapper Rows.lineageAmountsRow.mainSum := by
  unfold Func.isWrapper
  first | (rw [if_pos (by decide +kernel)]; kernel_rfl) | (rw [if_neg (by decide +kernel)]; exact ⟨rfl, rfl⟩)
theorem lineageAmounts_inst : Tryz.f4.isInstance Tryz.prog Rows.lineageAmountsRow.origin Rows.lineageAmountsRow.targs := of_decide_eq_true (by kernel_rfl)
theorem lineageAmounts_over : Rows.lineageAmountsRow.holds Tryz.pinned (OpenSpec.ofChange Rows.lineageAmountsSpec) :=
  OpenClaim.holds_of_wide 4 Tryz.f4 rfl rfl rfl rfl rfl rfl rfl ⟨rfl, rfl, rfl, rfl, rfl⟩ rfl rfl rfl rfl rfl lineageAmounts_named Tryz.func4 lineageAmountsclosed lineageAmounts_inst lineageAmounts_wrap
    (fun os started H enc _ => lineageAmounts_lifted os started H enc)
theorem LineageAmounts_card : Rows.LineageAmountsCardSaid :=
  Claim7.holds_tied_plain_at .later [] [.data, .data, .data, .data, .sentinel, .sentinel, .pinned] true (true, "d0f76d29fcd80bd51a4142871912bf422b3dbb0ec940c11c19c2f271b21a2bf6") true lineageAmounts_over (fun _ h => by cases h) (by kernel_rfl) (fun _ h => by cases h) lineageAmounts_row_tie rfl ⟨rfl, rfl⟩ (by kernel_rfl) rfl
    (fun f fn hf hfn => by
      obtain rfl : f = 4 := Option.some.inj (lineageAmounts_named.symm.trans hf) |>.symm
      obtain rfl : fn = Tryz.f4 := (Option.some.inj (Tryz.func4.symm.trans hfn)).symm
      exact ⟨by kernel_rfl, fun j t ht => by
        rw [Tryz.params4] at ht
        have hm : t ∈ [22, 9] := by simpa using Array.mem_of_getElem? ht
        have hall : ([22, 9].all fun u => !Tryz.prog.wantsStandIn u) = true := by kernel_rfl
        exact (show Tryz.prog.wantsStandIn t = false by simpa using List.all_eq_true.1 hall t hm)⟩)
    (by kernel_rfl)
#print axioms LineageAmounts_card
end Go.Proofs.YtkfoogabijnamaaGreatDoor
