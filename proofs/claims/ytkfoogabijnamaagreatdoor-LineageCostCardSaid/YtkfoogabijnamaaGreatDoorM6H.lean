/- The law LineageCost returns true for every input, and each argument reads afterwards as before; the tied card of it. Conditions: none, but that the listed package variables hold what the program's text lays. -/
import Derived.Test.YtkfoogabijnamaaGreatDoorB5
import Derived.Test.YtkfoogabijnamaaGreatDoorB9
import Derived.Test.YtkfoogabijnamaaGreatDoorB8
import Derived.Test.YtkfoogabijnamaaGreatDoorCards
import Derived.Test.YtkfoogabijnamaaGreatDoorTie
import Derived.SevenTiedAt
namespace Go.Proofs.YtkfoogabijnamaaGreatDoor
open Go.ChangeShapes Go.WideShapes Go.ChangeAt Go.RowKit Px

theorem lineageCost_reads : ∀ t ∈ Tryz.f6.params.toList, Tryz.prog.readableRec t = true ∧ t < Tryz.prog.types.size := by
  rw [Tryz.params6]
  intro t ht
  have : t = 22 := by simpa using ht
  subst this
  exact ⟨by kernel_rfl, of_decide_eq_true (by kernel_rfl)⟩

set_option maxRecDepth 100000 in
theorem lineageCost_lifted (os : Os) (started : os.Started) (H : Type) (enc : TypeId × Value → H) :
    ReturnsInHanded {} Tryz.checked os 6 .any (fun w args => (Rows.lineageCostSpec.pre enc Tryz.prog Tryz.f6 Rows.lineageCostRow.domain false w args ∧ laidMetH Tryz.prog Rows.lineageCostRow.laid w) ∧ sizedMet enc Tryz.prog Tryz.f6 (OpenSpec.ofChange Rows.lineageCostSpec) false w args)
      (Rows.lineageCostSpec.post enc Tryz.prog Tryz.f6 false true false false) := by
  refine returnsInHanded_of_change_and (C := Tryz.checked) (X := fun w _ => laidMetH Tryz.prog Rows.lineageCostRow.laid w) (fun _ _ _ hh h => h.of_heap hh) own started (by kernel_rfl) Tryz.func6
    (ChangeSpec.witness_shaped (enc := enc) (C := Tryz.checked) (os := os) (X := fun w _ => laidMetH Tryz.prog Rows.lineageCostRow.laid w) false (World.laidAll Tryz.prog os Rows.lineageCostRow.laid) #[.slice none 0 0] 8 (World.laidAll_os _ _ _)
      (World.shaped_of_ZipB (by kernel_rfl) (by kernel_rfl)) (by kernel_rfl) (by kernel_rfl) (by kernel_rfl)
      (by rw [MakeChecks.laidMetH_plain _ _ _ (by kernel_rfl)]; exact laidMet_laidAll _ (by kernel_rfl) (by kernel_rfl))) ?_
  intro W base args ds gs before hval0 hW hcnd hwt hL _
  have hG : GlobOk (fun _ _ => True) W := by
    rw [MakeChecks.laidMetH_plain _ _ _ (by kernel_rfl)] at hL
    obtain ⟨ps, ⟨g0, t0, cs0, f0, p0, q0, hg0, ht0, hv0, hd0, ⟨g1, t1, cs1, f1, p1, q1, hg1, ht1, hv1, hd1, ⟨g2, t2, cs2, f2, p2, q2, hg2, ht2, hv2, hd2, _, _⟩, _⟩, _⟩, _, _⟩ := hL
    obtain rfl := Option.some.inj ((show Tryz.prog.globalNamed "internal/strconv.uint64pow10" = some 2 by kernel_rfl).symm.trans hg2)
    obtain rfl := Option.some.inj ((show (Tryz.prog.globals[2]?).map (·.type) = some 192 by kernel_rfl).symm.trans ht2)
    exact glob_of_var hv2 rfl hd2
  have hval : ∀ (j : Nat) t v, Tryz.f6.params[j]? = some t → args[j]? = some v → Value.okWide Tryz.prog W .any base t v := hval0
  have hW' := hW
  obtain ⟨p, q, hA0, hV, rfl, hfz, hnd⟩ := hW
  have hA : DataW.TrodAll enc Tryz.prog W 0 (fun _ => true) true Tryz.f6.params.toList args.toList ds p := hA0
  rw [Tryz.params6] at hA hval
  obtain ⟨v0, vs0, d0, ds0, p0, q0, hargs, rfl, rfl, h0, r0⟩ := trodAll_cons hA
  obtain ⟨rfl, rfl, rfl⟩ := trodAll_nil r0
  obtain rfl : args = #[v0] := by cases args; simp_all
  obtain ⟨rfl, rfl⟩ := trodVars_none hV
  obtain ⟨x0, wx0, e0⟩ := open_sh (sh := shL) (by kernel_rfl) (hval 0 22 v0 rfl rfl) h0
  obtain ⟨l0, hl0⟩ := sts_dv x0
  rw [hl0] at e0
  refine (calls_of_true (lawCost l0) W [v0] rfl (fun j v x hv hx => ?_) hG).mono fun e W' ⟨he, bel⟩ => ?_
  · match j, hv, hx with
    | 0, hv, hx => cases hv; cases hx; exact e0
    | j + 1, hv, _ => simp at hv
  · subst he
    exact ⟨_, rfl, law_post hW' rfl rfl rfl lineageCost_reads bel⟩

theorem lineageCostfact0 : Rows.lineageCostRow.wf (OpenSpec.ofChange Rows.lineageCostSpec) = true := by kernel_rfl
theorem lineageCostfact3 : Tryz.f6.params.all (Tryz.prog.readableRec ·) = true := by kernel_rfl
theorem lineageCostfact4 : namedTie Tryz.prog Rows.lineageCostRow.named Rows.lineageCostSpec.vars = true := by kernel_rfl
theorem lineageCostfact5 : (Rows.lineageCostRow.stops == []) = true := by kernel_rfl
theorem lineageCostfact7 : (Rows.lineageCostRow.knobs == []) = true := by kernel_rfl
theorem lineageCostfact9 : (Rows.lineageCostRow.inPlace == Tryz.prog.inPlace 6) = true := by kernel_rfl
theorem lineageCostfact10 : (Rows.lineageCostRow.unfollowed == Tryz.prog.unfollowed 6) = true := by kernel_rfl
theorem lineageCostfact11 : (Rows.lineageCostRow.recurses == Tryz.prog.recurses 6) = true := by kernel_rfl
theorem lineageCostfact12 : (Rows.lineageCostRow.named == Tryz.prog.varsNamed 6) = true := by kernel_rfl
theorem lineageCostfact13 : (Rows.lineageCostRow.maps == (Tryz.f6.params.toList ++ Rows.lineageCostSpec.plain.varTypes Tryz.prog).any (Tryz.prog.mapsRec ·)) = true := by kernel_rfl
theorem lineageCostfact14 : (Rows.lineageCostRow.ifaces == (Tryz.f6.params.toList ++ Rows.lineageCostSpec.plain.varTypes Tryz.prog).any (Tryz.prog.ifacesRec ·)) = true := by kernel_rfl
theorem lineageCostfact15 : (Rows.lineageCostRow.mapsOut == Tryz.prog.mapsAmong Tryz.f6.resultTypes.toList) = true := by kernel_rfl
theorem lineageCostfact16 : (Rows.lineageCostRow.loops == (Tryz.f6.params.toList ++ Rows.lineageCostSpec.plain.varTypes Tryz.prog).any (Tryz.prog.loopsFrom ·)) = true := by kernel_rfl
theorem lineageCostfact17 : (Rows.lineageCostRow.wideKeys == (Tryz.f6.params.toList ++ Rows.lineageCostSpec.plain.varTypes Tryz.prog ++ Tryz.f6.resultTypes.toList).any (Tryz.prog.wideKeysFrom ·)) = true := by kernel_rfl
theorem lineageCostfact18 : Rows.lineageCostSpec.vars.all (Tryz.prog.varReadable ·) = true := by kernel_rfl
theorem lineageCostfact19 : Tryz.f6.resultTypes.all (fun t => Tryz.prog.readableRec t && decide (t < Tryz.prog.types.size)) = true := by kernel_rfl
theorem lineageCostfact20 : (Rows.lineageCostRow.ifacesOut == Tryz.f6.resultTypes.toList.any (Tryz.prog.ifacesRec ·)) = true := by kernel_rfl
theorem lineageCostfact21 : (Rows.lineageCostRow.loopsOut == Tryz.f6.resultTypes.toList.any (Tryz.prog.loopsFrom ·)) = true := by kernel_rfl
theorem lineageCostfact22 : (Rows.lineageCostRow.plainKeys == Tryz.prog.plainKeys) = true := by rw [sharedplainKeys]; rfl
theorem lineageCostfact23 : Rows.lineageCostRow.shortTexts.isNone = true := by kernel_rfl
theorem lineageCostfact26 : (Rows.lineageCostRow.lifted == Tryz.prog.liftsFinal) = true := by rw [sharedliftsFinal]; rfl
theorem lineageCostfact27 : (Tryz.prog.make == some Rows.lineageCostRow.make) = true := by kernel_rfl
theorem lineageCostfact28 : (Rows.lineageCostRow.kinds == (if Rows.lineageCostRow.domain.isEmpty then [] else Tryz.f6.params.toList.map fun t => match Tryz.prog.underlying t with | some (.int k) => some k | _ => none)) = true := by kernel_rfl
theorem lineageCostfact29 : (Rows.lineageCostRow.pinned == Rows.lineageCostRow.pinnedBy) = true := by kernel_rfl
theorem lineageCostfact30 : (Rows.lineageCostRow.veiled == (Tryz.f6.params.toList ++ Rows.lineageCostSpec.plain.varTypes Tryz.prog ++ Tryz.f6.resultTypes.toList).any (Tryz.prog.veiledRec ·)) = true := by kernel_rfl
theorem lineageCostfact31 : Rows.lineageCostRow.veiledFits Tryz.prog Tryz.f6.params.toList (Tryz.f6.params.toList ++ Rows.lineageCostSpec.plain.varTypes Tryz.prog ++ Tryz.f6.resultTypes.toList) = true := by kernel_rfl
set_option maxRecDepth 100000 in
theorem lineageCostclosed : joinedFacts Tryz.prog 6 Tryz.f6 Rows.lineageCostSpec Rows.lineageCostRow = true := (and_mk (and_mk (and_mk (and_mk (and_mk (and_mk (and_mk (and_mk (and_mk (and_mk (and_mk (and_mk (and_mk (and_mk (and_mk (and_mk (and_mk (and_mk (and_mk (and_mk (and_mk (and_mk (and_mk (and_mk (and_mk (and_mk (and_mk (and_mk (and_mk (and_mk (and_mk lineageCostfact0 sharedfact1) sharedfact2) lineageCostfact3) lineageCostfact4) lineageCostfact5) sharedfact6) lineageCostfact7) sharedfact8) lineageCostfact9) lineageCostfact10) lineageCostfact11) lineageCostfact12) lineageCostfact13) lineageCostfact14) lineageCostfact15) lineageCostfact16) lineageCostfact17) lineageCostfact18) lineageCostfact19) lineageCostfact20) lineageCostfact21) lineageCostfact22) lineageCostfact23) sharedfact24) sharedfact25) lineageCostfact26) lineageCostfact27) lineageCostfact28) lineageCostfact29) lineageCostfact30) lineageCostfact31)

theorem lineageCost_named : Tryz.prog.funcNamed Rows.lineageCostRow.func = some 6 := by kernel_rfl
theorem lineageCost_wrap : Tryz.f6.isWrapper Tryz.prog Rows.lineageCostRow.wrapper Rows.lineageCostRow.mainSum := by
  unfold Func.isWrapper
  first | (rw [if_pos (by decide +kernel)]; kernel_rfl) | (rw [if_neg (by decide +kernel)]; exact ⟨rfl, rfl⟩)
theorem lineageCost_inst : Tryz.f6.isInstance Tryz.prog Rows.lineageCostRow.origin Rows.lineageCostRow.targs := of_decide_eq_true (by kernel_rfl)
theorem lineageCost_over : Rows.lineageCostRow.holds Tryz.pinned (OpenSpec.ofChange Rows.lineageCostSpec) :=
  OpenClaim.holds_of_wide 6 Tryz.f6 rfl rfl rfl rfl rfl rfl rfl ⟨rfl, rfl, rfl, rfl, rfl⟩ rfl rfl rfl rfl rfl lineageCost_named Tryz.func6 lineageCostclosed lineageCost_inst lineageCost_wrap
    (fun os started H enc _ => lineageCost_lifted os started H enc)
theorem LineageCost_card : Rows.LineageCostCardSaid :=
  Claim7.holds_tied_plain_at .later [] [.data, .data, .data, .data, .sentinel, .sentinel, .pinned] true (true, "d0f76d29fcd80bd51a4142871912bf422b3dbb0ec940c11c19c2f271b21a2bf6") true lineageCost_over (fun _ h => by cases h) (by kernel_rfl) (fun _ h => by cases h) lineageCost_row_tie rfl ⟨rfl, rfl⟩ (by kernel_rfl) rfl
    (fun f fn hf hfn => by
      obtain rfl : f = 6 := Option.some.inj (lineageCost_named.symm.trans hf) |>.symm
      obtain rfl : fn = Tryz.f6 := (Option.some.inj (Tryz.func6.symm.trans hfn)).symm
      exact ⟨by kernel_rfl, fun j t ht => by
        rw [Tryz.params6] at ht
        have hm : t ∈ [22] := by simpa using Array.mem_of_getElem? ht
        have hall : ([22].all fun u => !Tryz.prog.wantsStandIn u) = true := by kernel_rfl
        exact (show Tryz.prog.wantsStandIn t = false by simpa using List.all_eq_true.1 hall t hm)⟩)
    (by kernel_rfl)
#print axioms LineageCost_card
end Go.Proofs.YtkfoogabijnamaaGreatDoor
