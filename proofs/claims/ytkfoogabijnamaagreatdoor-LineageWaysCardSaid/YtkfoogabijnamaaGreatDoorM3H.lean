/- The law LineageWays returns true for every input, and each argument reads afterwards as before; the tied card of it. Conditions: none, but that the listed package variables hold what the program's text lays. -/
import Derived.Test.YtkfoogabijnamaaGreatDoorB5
import Derived.Test.YtkfoogabijnamaaGreatDoorB8
import Derived.Test.YtkfoogabijnamaaGreatDoorCards
import Derived.Test.YtkfoogabijnamaaGreatDoorTie
import Derived.SevenTiedAt
namespace Go.Proofs.YtkfoogabijnamaaGreatDoor
open Go.ChangeShapes Go.WideShapes Go.ChangeAt Go.RowKit Px

theorem lineageWays_reads : ∀ t ∈ Tryz.f3.params.toList, Tryz.prog.readableRec t = true ∧ t < Tryz.prog.types.size := by
  rw [Tryz.params3]
  intro t ht
  have : t = 22 ∨ t = 9 := by simp at ht; omega
  rcases this with rfl | rfl
  · exact ⟨by kernel_rfl, of_decide_eq_true (by kernel_rfl)⟩
  · exact ⟨by kernel_rfl, of_decide_eq_true (by kernel_rfl)⟩

set_option maxRecDepth 100000 in
theorem lineageWays_lifted (os : Os) (started : os.Started) (H : Type) (enc : TypeId × Value → H) :
    ReturnsInHanded {} Tryz.checked os 3 .any (fun w args => (Rows.lineageWaysSpec.pre enc Tryz.prog Tryz.f3 Rows.lineageWaysRow.domain false w args ∧ laidMetH Tryz.prog Rows.lineageWaysRow.laid w) ∧ sizedMet enc Tryz.prog Tryz.f3 (OpenSpec.ofChange Rows.lineageWaysSpec) false w args)
      (Rows.lineageWaysSpec.post enc Tryz.prog Tryz.f3 false true false false) := by
  refine returnsInHanded_of_change_and (C := Tryz.checked) (X := fun w _ => laidMetH Tryz.prog Rows.lineageWaysRow.laid w) (fun _ _ _ hh h => h.of_heap hh) own started (by kernel_rfl) Tryz.func3
    (ChangeSpec.witness_shaped (enc := enc) (C := Tryz.checked) (os := os) (X := fun w _ => laidMetH Tryz.prog Rows.lineageWaysRow.laid w) false (World.laidAll Tryz.prog os Rows.lineageWaysRow.laid) #[.slice none 0 0, .string ⟨#[]⟩] 8 (World.laidAll_os _ _ _)
      (World.shaped_of_ZipB (by kernel_rfl) (by kernel_rfl)) (by kernel_rfl) (by kernel_rfl) (by kernel_rfl)
      (by rw [MakeChecks.laidMetH_plain _ _ _ (by kernel_rfl)]; exact laidMet_laidAll _ (by kernel_rfl) (by kernel_rfl))) ?_
  intro W base args ds gs before hval0 hW hcnd hwt hL _
  have hG : GlobOk (fun _ _ => True) W := by
    rw [MakeChecks.laidMetH_plain _ _ _ (by kernel_rfl)] at hL
    obtain ⟨ps, ⟨g0, t0, cs0, f0, p0, q0, hg0, ht0, hv0, hd0, ⟨g1, t1, cs1, f1, p1, q1, hg1, ht1, hv1, hd1, ⟨g2, t2, cs2, f2, p2, q2, hg2, ht2, hv2, hd2, _, _⟩, _⟩, _⟩, _, _⟩ := hL
    obtain rfl := Option.some.inj ((show Tryz.prog.globalNamed "internal/strconv.uint64pow10" = some 2 by kernel_rfl).symm.trans hg2)
    obtain rfl := Option.some.inj ((show (Tryz.prog.globals[2]?).map (·.type) = some 192 by kernel_rfl).symm.trans ht2)
    exact glob_of_var hv2 rfl hd2
  have hval : ∀ (j : Nat) t v, Tryz.f3.params[j]? = some t → args[j]? = some v → Value.okWide Tryz.prog W .any base t v := hval0
  have hW' := hW
  obtain ⟨p, q, hA0, hV, rfl, hfz, hnd⟩ := hW
  have hA : DataW.TrodAll enc Tryz.prog W 0 (fun _ => true) true Tryz.f3.params.toList args.toList ds p := hA0
  rw [Tryz.params3] at hA hval
  obtain ⟨v0, vs0, d0, ds0, p0, q0, hargs, rfl, rfl, h0, r0⟩ := trodAll_cons hA
  obtain ⟨v1, vs1, d1, ds1, p1, q1, rfl, rfl, rfl, h1, r1⟩ := trodAll_cons r0
  obtain ⟨rfl, rfl, rfl⟩ := trodAll_nil r1
  obtain rfl : args = #[v0, v1] := by cases args; simp_all
  obtain ⟨rfl, rfl⟩ := trodVars_none hV
  obtain ⟨x0, wx0, e0⟩ := open_sh (sh := shL) (by kernel_rfl) (hval 0 22 v0 rfl rfl) h0
  obtain ⟨l0, hl0⟩ := sts_dv x0
  rw [hl0] at e0
  obtain ⟨x1, wx1, e1⟩ := open_sh (sh := .s) (by kernel_rfl) (hval 1 9 v1 rfl rfl) h1
  refine (calls_of_true (lawWays l0 x1) W [v0, v1] rfl (fun j v x hv hx => ?_) hG).mono fun e W' ⟨he, bel⟩ => ?_
  · match j, hv, hx with
    | 0, hv, hx => cases hv; cases hx; exact e0
    | 1, hv, hx => cases hv; cases hx; exact e1
    | j + 2, hv, _ => simp at hv
  · subst he
    exact ⟨_, rfl, law_post hW' rfl rfl rfl lineageWays_reads bel⟩

theorem lineageWaysfact0 : Rows.lineageWaysRow.wf (OpenSpec.ofChange Rows.lineageWaysSpec) = true := by kernel_rfl
theorem lineageWaysfact3 : Tryz.f3.params.all (Tryz.prog.readableRec ·) = true := by kernel_rfl
theorem lineageWaysfact4 : namedTie Tryz.prog Rows.lineageWaysRow.named Rows.lineageWaysSpec.vars = true := by kernel_rfl
theorem lineageWaysfact5 : (Rows.lineageWaysRow.stops == []) = true := by kernel_rfl
theorem lineageWaysfact7 : (Rows.lineageWaysRow.knobs == []) = true := by kernel_rfl
theorem lineageWaysfact9 : (Rows.lineageWaysRow.inPlace == Tryz.prog.inPlace 3) = true := by kernel_rfl
theorem lineageWaysfact10 : (Rows.lineageWaysRow.unfollowed == Tryz.prog.unfollowed 3) = true := by kernel_rfl
theorem lineageWaysfact11 : (Rows.lineageWaysRow.recurses == Tryz.prog.recurses 3) = true := by kernel_rfl
theorem lineageWaysfact12 : (Rows.lineageWaysRow.named == Tryz.prog.varsNamed 3) = true := by kernel_rfl
theorem lineageWaysfact13 : (Rows.lineageWaysRow.maps == (Tryz.f3.params.toList ++ Rows.lineageWaysSpec.plain.varTypes Tryz.prog).any (Tryz.prog.mapsRec ·)) = true := by kernel_rfl
theorem lineageWaysfact14 : (Rows.lineageWaysRow.ifaces == (Tryz.f3.params.toList ++ Rows.lineageWaysSpec.plain.varTypes Tryz.prog).any (Tryz.prog.ifacesRec ·)) = true := by kernel_rfl
theorem lineageWaysfact15 : (Rows.lineageWaysRow.mapsOut == Tryz.prog.mapsAmong Tryz.f3.resultTypes.toList) = true := by kernel_rfl
theorem lineageWaysfact16 : (Rows.lineageWaysRow.loops == (Tryz.f3.params.toList ++ Rows.lineageWaysSpec.plain.varTypes Tryz.prog).any (Tryz.prog.loopsFrom ·)) = true := by kernel_rfl
theorem lineageWaysfact17 : (Rows.lineageWaysRow.wideKeys == (Tryz.f3.params.toList ++ Rows.lineageWaysSpec.plain.varTypes Tryz.prog ++ Tryz.f3.resultTypes.toList).any (Tryz.prog.wideKeysFrom ·)) = true := by kernel_rfl
theorem lineageWaysfact18 : Rows.lineageWaysSpec.vars.all (Tryz.prog.varReadable ·) = true := by kernel_rfl
theorem lineageWaysfact19 : Tryz.f3.resultTypes.all (fun t => Tryz.prog.readableRec t && decide (t < Tryz.prog.types.size)) = true := by kernel_rfl
theorem lineageWaysfact20 : (Rows.lineageWaysRow.ifacesOut == Tryz.f3.resultTypes.toList.any (Tryz.prog.ifacesRec ·)) = true := by kernel_rfl
theorem lineageWaysfact21 : (Rows.lineageWaysRow.loopsOut == Tryz.f3.resultTypes.toList.any (Tryz.prog.loopsFrom ·)) = true := by kernel_rfl
theorem lineageWaysfact22 : (Rows.lineageWaysRow.plainKeys == Tryz.prog.plainKeys) = true := by rw [sharedplainKeys]; rfl
theorem lineageWaysfact23 : Rows.lineageWaysRow.shortTexts.isNone = true := by kernel_rfl
theorem lineageWaysfact26 : (Rows.lineageWaysRow.lifted == Tryz.prog.liftsFinal) = true := by rw [sharedliftsFinal]; rfl
theorem lineageWaysfact27 : (Tryz.prog.make == some Rows.lineageWaysRow.make) = true := by kernel_rfl
theorem lineageWaysfact28 : (Rows.lineageWaysRow.kinds == (if Rows.lineageWaysRow.domain.isEmpty then [] else Tryz.f3.params.toList.map fun t => match Tryz.prog.underlying t with | some (.int k) => some k | _ => none)) = true := by kernel_rfl
theorem lineageWaysfact29 : (Rows.lineageWaysRow.pinned == Rows.lineageWaysRow.pinnedBy) = true := by kernel_rfl
theorem lineageWaysfact30 : (Rows.lineageWaysRow.veiled == (Tryz.f3.params.toList ++ Rows.lineageWaysSpec.plain.varTypes Tryz.prog ++ Tryz.f3.resultTypes.toList).any (Tryz.prog.veiledRec ·)) = true := by kernel_rfl
theorem lineageWaysfact31 : Rows.lineageWaysRow.veiledFits Tryz.prog Tryz.f3.params.toList (Tryz.f3.params.toList ++ Rows.lineageWaysSpec.plain.varTypes Tryz.prog ++ Tryz.f3.resultTypes.toList) = true := by kernel_rfl
set_option maxRecDepth 100000 in
theorem lineageWaysclosed : joinedFacts Tryz.prog 3 Tryz.f3 Rows.lineageWaysSpec Rows.lineageWaysRow = true := (and_mk (and_mk (and_mk (and_mk (and_mk (and_mk (and_mk (and_mk (and_mk (and_mk (and_mk (and_mk (and_mk (and_mk (and_mk (and_mk (and_mk (and_mk (and_mk (and_mk (and_mk (and_mk (and_mk (and_mk (and_mk (and_mk (and_mk (and_mk (and_mk (and_mk (and_mk lineageWaysfact0 sharedfact1) sharedfact2) lineageWaysfact3) lineageWaysfact4) lineageWaysfact5) sharedfact6) lineageWaysfact7) sharedfact8) lineageWaysfact9) lineageWaysfact10) lineageWaysfact11) lineageWaysfact12) lineageWaysfact13) lineageWaysfact14) lineageWaysfact15) lineageWaysfact16) lineageWaysfact17) lineageWaysfact18) lineageWaysfact19) lineageWaysfact20) lineageWaysfact21) lineageWaysfact22) lineageWaysfact23) sharedfact24) sharedfact25) lineageWaysfact26) lineageWaysfact27) lineageWaysfact28) lineageWaysfact29) lineageWaysfact30) lineageWaysfact31)

theorem lineageWays_named : Tryz.prog.funcNamed Rows.lineageWaysRow.func = some 3 := by kernel_rfl
theorem lineageWays_wrap : Tryz.f3.isWrapper Tryz.prog Rows.lineageWaysRow.wrapper Rows.lineageWaysRow.mainSum := by
  unfold Func.isWrapper
  first | (rw [if_pos (by decide +kernel)]; kernel_rfl) | (rw [if_neg (by decide +kernel)]; exact ⟨rfl, rfl⟩)
theorem lineageWays_inst : Tryz.f3.isInstance Tryz.prog Rows.lineageWaysRow.origin Rows.lineageWaysRow.targs := of_decide_eq_true (by kernel_rfl)
theorem lineageWays_over : Rows.lineageWaysRow.holds Tryz.pinned (OpenSpec.ofChange Rows.lineageWaysSpec) :=
  OpenClaim.holds_of_wide 3 Tryz.f3 rfl rfl rfl rfl rfl rfl rfl ⟨rfl, rfl, rfl, rfl, rfl⟩ rfl rfl rfl rfl rfl lineageWays_named Tryz.func3 lineageWaysclosed lineageWays_inst lineageWays_wrap
    (fun os started H enc _ => lineageWays_lifted os started H enc)
theorem LineageWays_card : Rows.LineageWaysCardSaid :=
  Claim7.holds_tied_plain_at .later [] [.data, .data, .data, .data, .sentinel, .sentinel, .pinned] true (true, "d0f76d29fcd80bd51a4142871912bf422b3dbb0ec940c11c19c2f271b21a2bf6") true lineageWays_over (fun _ h => by cases h) (by kernel_rfl) (fun _ h => by cases h) lineageWays_row_tie rfl ⟨rfl, rfl⟩ (by kernel_rfl) rfl
    (fun f fn hf hfn => by
      obtain rfl : f = 3 := Option.some.inj (lineageWays_named.symm.trans hf) |>.symm
      obtain rfl : fn = Tryz.f3 := (Option.some.inj (Tryz.func3.symm.trans hfn)).symm
      exact ⟨by kernel_rfl, fun j t ht => by
        rw [Tryz.params3] at ht
        have hm : t ∈ [22, 9] := by simpa using Array.mem_of_getElem? ht
        have hall : ([22, 9].all fun u => !Tryz.prog.wantsStandIn u) = true := by kernel_rfl
        exact (show Tryz.prog.wantsStandIn t = false by simpa using List.all_eq_true.1 hall t hm)⟩)
    (by kernel_rfl)
#print axioms LineageWays_card
end Go.Proofs.YtkfoogabijnamaaGreatDoor
