/- The law LineageLeft returns true for every input, and each argument reads afterwards as before; the tied card of it. Conditions: none, but that the listed package variables hold what the program's text lays. -/
import Derived.Test.YtkfoogabijnamaaGreatDoorB5
import Derived.Test.YtkfoogabijnamaaGreatDoorB9
import Derived.Test.YtkfoogabijnamaaGreatDoorB8
import Derived.Test.YtkfoogabijnamaaGreatDoorCards
import Derived.Test.YtkfoogabijnamaaGreatDoorTie
import Derived.SevenTiedAt
namespace Go.Proofs.YtkfoogabijnamaaGreatDoor
open Go.ChangeShapes Go.WideShapes Go.ChangeAt Go.RowKit Px

theorem lineageLeft_reads : ∀ t ∈ Tryz.f5.params.toList, Tryz.prog.readableRec t = true ∧ t < Tryz.prog.types.size := by
  rw [Tryz.params5]
  intro t ht
  have : t = 22 := by simpa using ht
  subst this
  exact ⟨by kernel_rfl, of_decide_eq_true (by kernel_rfl)⟩

set_option maxRecDepth 100000 in
theorem lineageLeft_lifted (os : Os) (started : os.Started) (H : Type) (enc : TypeId × Value → H) :
    ReturnsInHanded {} Tryz.checked os 5 .any (fun w args => (Rows.lineageLeftSpec.pre enc Tryz.prog Tryz.f5 Rows.lineageLeftRow.domain false w args ∧ laidMetH Tryz.prog Rows.lineageLeftRow.laid w) ∧ sizedMet enc Tryz.prog Tryz.f5 (OpenSpec.ofChange Rows.lineageLeftSpec) false w args)
      (Rows.lineageLeftSpec.post enc Tryz.prog Tryz.f5 false true false false) := by
  refine returnsInHanded_of_change_and (C := Tryz.checked) (X := fun w _ => laidMetH Tryz.prog Rows.lineageLeftRow.laid w) (fun _ _ _ hh h => h.of_heap hh) own started (by kernel_rfl) Tryz.func5
    (ChangeSpec.witness_shaped (enc := enc) (C := Tryz.checked) (os := os) (X := fun w _ => laidMetH Tryz.prog Rows.lineageLeftRow.laid w) false (World.laidAll Tryz.prog os Rows.lineageLeftRow.laid) #[.slice none 0 0] 8 (World.laidAll_os _ _ _)
      (World.shaped_of_ZipB (by kernel_rfl) (by kernel_rfl)) (by kernel_rfl) (by kernel_rfl) (by kernel_rfl)
      (by rw [MakeChecks.laidMetH_plain _ _ _ (by kernel_rfl)]; exact laidMet_laidAll _ (by kernel_rfl) (by kernel_rfl))) ?_
  intro W base args ds gs before hval0 hW hcnd hwt hL _
  have hG : GlobOk (fun _ _ => True) W := by
    rw [MakeChecks.laidMetH_plain _ _ _ (by kernel_rfl)] at hL
    obtain ⟨ps, ⟨g0, t0, cs0, f0, p0, q0, hg0, ht0, hv0, hd0, ⟨g1, t1, cs1, f1, p1, q1, hg1, ht1, hv1, hd1, ⟨g2, t2, cs2, f2, p2, q2, hg2, ht2, hv2, hd2, _, _⟩, _⟩, _⟩, _, _⟩ := hL
    obtain rfl := Option.some.inj ((show Tryz.prog.globalNamed "internal/strconv.uint64pow10" = some 2 by kernel_rfl).symm.trans hg2)
    obtain rfl := Option.some.inj ((show (Tryz.prog.globals[2]?).map (·.type) = some 192 by kernel_rfl).symm.trans ht2)
    exact glob_of_var hv2 rfl hd2
  have hval : ∀ (j : Nat) t v, Tryz.f5.params[j]? = some t → args[j]? = some v → Value.okWide Tryz.prog W .any base t v := hval0
  have hW' := hW
  obtain ⟨p, q, hA0, hV, rfl, hfz, hnd⟩ := hW
  have hA : DataW.TrodAll enc Tryz.prog W 0 (fun _ => true) true Tryz.f5.params.toList args.toList ds p := hA0
  rw [Tryz.params5] at hA hval
  obtain ⟨v0, vs0, d0, ds0, p0, q0, hargs, rfl, rfl, h0, r0⟩ := trodAll_cons hA
  obtain ⟨rfl, rfl, rfl⟩ := trodAll_nil r0
  obtain rfl : args = #[v0] := by cases args; simp_all
  obtain ⟨rfl, rfl⟩ := trodVars_none hV
  obtain ⟨x0, wx0, e0⟩ := open_sh (sh := shL) (by kernel_rfl) (hval 0 22 v0 rfl rfl) h0
  obtain ⟨l0, hl0⟩ := sts_dv x0
  rw [hl0] at e0
  refine (calls_of_true (lawLeft l0) W [v0] rfl (fun j v x hv hx => ?_) hG).mono fun e W' ⟨he, bel⟩ => ?_
  · match j, hv, hx with
    | 0, hv, hx => cases hv; cases hx; exact e0
    | j + 1, hv, _ => simp at hv
  · subst he
    exact ⟨_, rfl, law_post hW' rfl rfl rfl lineageLeft_reads bel⟩

theorem lineageLeftfact0 : Rows.lineageLeftRow.wf (OpenSpec.ofChange Rows.lineageLeftSpec) = true := by kernel_rfl
theorem lineageLeftfact3 : Tryz.f5.params.all (Tryz.prog.readableRec ·) = true := by kernel_rfl
theorem lineageLeftfact4 : namedTie Tryz.prog Rows.lineageLeftRow.named Rows.lineageLeftSpec.vars = true := by kernel_rfl
theorem lineageLeftfact5 : (Rows.lineageLeftRow.stops == []) = true := by kernel_rfl
theorem lineageLeftfact7 : (Rows.lineageLeftRow.knobs == []) = true := by kernel_rfl
theorem lineageLeftfact9 : (Rows.lineageLeftRow.inPlace == Tryz.prog.inPlace 5) = true := by kernel_rfl
theorem lineageLeftfact10 : (Rows.lineageLeftRow.unfollowed == Tryz.prog.unfollowed 5) = true := by kernel_rfl
theorem lineageLeftfact11 : (Rows.lineageLeftRow.recurses == Tryz.prog.recurses 5) = true := by kernel_rfl
theorem lineageLeftfact12 : (Rows.lineageLeftRow.named == Tryz.prog.varsNamed 5) = true := by kernel_rfl
theorem lineageLeftfact13 : (Rows.lineageLeftRow.maps == (Tryz.f5.params.toList ++ Rows.lineageLeftSpec.plain.varTypes Tryz.prog).any (Tryz.prog.mapsRec ·)) = true := by kernel_rfl
theorem lineageLeftfact14 : (Rows.lineageLeftRow.ifaces == (Tryz.f5.params.toList ++ Rows.lineageLeftSpec.plain.varTypes Tryz.prog).any (Tryz.prog.ifacesRec ·)) = true := by kernel_rfl
theorem lineageLeftfact15 : (Rows.lineageLeftRow.mapsOut == Tryz.prog.mapsAmong Tryz.f5.resultTypes.toList) = true := by kernel_rfl
theorem lineageLeftfact16 : (Rows.lineageLeftRow.loops == (Tryz.f5.params.toList ++ Rows.lineageLeftSpec.plain.varTypes Tryz.prog).any (Tryz.prog.loopsFrom ·)) = true := by kernel_rfl
theorem lineageLeftfact17 : (Rows.lineageLeftRow.wideKeys == (Tryz.f5.params.toList ++ Rows.lineageLeftSpec.plain.varTypes Tryz.prog ++ Tryz.f5.resultTypes.toList).any (Tryz.prog.wideKeysFrom ·)) = true := by kernel_rfl
theorem lineageLeftfact18 : Rows.lineageLeftSpec.vars.all (Tryz.prog.varReadable ·) = true := by kernel_rfl
theorem lineageLeftfact19 : Tryz.f5.resultTypes.all (fun t => Tryz.prog.readableRec t && decide (t < Tryz.prog.types.size)) = true := by kernel_rfl
theorem lineageLeftfact20 : (Rows.lineageLeftRow.ifacesOut == Tryz.f5.resultTypes.toList.any (Tryz.prog.ifacesRec ·)) = true := by kernel_rfl
theorem lineageLeftfact21 : (Rows.lineageLeftRow.loopsOut == Tryz.f5.resultTypes.toList.any (Tryz.prog.loopsFrom ·)) = true := by kernel_rfl
theorem lineageLeftfact22 : (Rows.lineageLeftRow.plainKeys == Tryz.prog.plainKeys) = true := by rw [sharedplainKeys]; rfl
theorem lineageLeftfact23 : Rows.lineageLeftRow.shortTexts.isNone = true := by kernel_rfl
theorem lineageLeftfact26 : (Rows.lineageLeftRow.lifted == Tryz.prog.liftsFinal) = true := by rw [sharedliftsFinal]; rfl
theorem lineageLeftfact27 : (Tryz.prog.make == some Rows.lineageLeftRow.make) = true := by kernel_rfl
theorem lineageLeftfact28 : (Rows.lineageLeftRow.kinds == (if Rows.lineageLeftRow.domain.isEmpty then [] else Tryz.f5.params.toList.map fun t => match Tryz.prog.underlying t with | some (.int k) => some k | _ => none)) = true := by kernel_rfl
theorem lineageLeftfact29 : (Rows.lineageLeftRow.pinned == Rows.lineageLeftRow.pinnedBy) = true := by kernel_rfl
theorem lineageLeftfact30 : (Rows.lineageLeftRow.veiled == (Tryz.f5.params.toList ++ Rows.lineageLeftSpec.plain.varTypes Tryz.prog ++ Tryz.f5.resultTypes.toList).any (Tryz.prog.veiledRec ·)) = true := by kernel_rfl
theorem lineageLeftfact31 : Rows.lineageLeftRow.veiledFits Tryz.prog Tryz.f5.params.toList (Tryz.f5.params.toList ++ Rows.lineageLeftSpec.plain.varTypes Tryz.prog ++ Tryz.f5.resultTypes.toList) = true := by kernel_rfl
set_option maxRecDepth 100000 in
theorem lineageLeftclosed : joinedFacts Tryz.prog 5 Tryz.f5 Rows.lineageLeftSpec Rows.lineageLeftRow = true := (and_mk (and_mk (and_mk (and_mk (and_mk (and_mk (and_mk (and_mk (and_mk (and_mk (and_mk (and_mk (and_mk (and_mk (and_mk (and_mk (and_mk (and_mk (and_mk (and_mk (and_mk (and_mk (and_mk (and_mk (and_mk (and_mk (and_mk (and_mk (and_mk (and_mk (and_mk lineageLeftfact0 sharedfact1) sharedfact2) lineageLeftfact3) lineageLeftfact4) lineageLeftfact5) sharedfact6) lineageLeftfact7) sharedfact8) lineageLeftfact9) lineageLeftfact10) lineageLeftfact11) lineageLeftfact12) lineageLeftfact13) lineageLeftfact14) lineageLeftfact15) lineageLeftfact16) lineageLeftfact17) lineageLeftfact18) lineageLeftfact19) lineageLeftfact20) lineageLeftfact21) lineageLeftfact22) lineageLeftfact23) sharedfact24) sharedfact25) lineageLeftfact26) lineageLeftfact27) lineageLeftfact28) lineageLeftfact29) lineageLeftfact30) lineageLeftfact31)

theorem lineageLeft_named : Tryz.prog.funcNamed Rows.lineageLeftRow.func = some 5 := by kernel_rfl
theorem lineageLeft_wrap : Tryz.f5.isWrapper Tryz.prog Rows.lineageLeftRow.wrapper Rows.lineageLeftRow.mainSum := by
  unfold Func.isWrapper
  first | (rw [if_pos (by decide +kernel)]; kernel_rfl) | (rw [if_neg (by decide +kernel)]; exact ⟨rfl, rfl⟩)
theorem lineageLeft_inst : Tryz.f5.isInstance Tryz.prog Rows.lineageLeftRow.origin Rows.lineageLeftRow.targs := of_decide_eq_true (by kernel_rfl)
theorem lineageLeft_over : Rows.lineageLeftRow.holds Tryz.pinned (OpenSpec.ofChange Rows.lineageLeftSpec) :=
  OpenClaim.holds_of_wide 5 Tryz.f5 rfl rfl rfl rfl rfl rfl rfl ⟨rfl, rfl, rfl, rfl, rfl⟩ rfl rfl rfl rfl rfl lineageLeft_named Tryz.func5 lineageLeftclosed lineageLeft_inst lineageLeft_wrap
    (fun os started H enc _ => lineageLeft_lifted os started H enc)
theorem LineageLeft_card : Rows.LineageLeftCardSaid :=
  Claim7.holds_tied_plain_at .later [] [.data, .data, .data, .data, .sentinel, .sentinel, .pinned] true (true, "d0f76d29fcd80bd51a4142871912bf422b3dbb0ec940c11c19c2f271b21a2bf6") true lineageLeft_over (fun _ h => by cases h) (by kernel_rfl) (fun _ h => by cases h) lineageLeft_row_tie rfl ⟨rfl, rfl⟩ (by kernel_rfl) rfl
    (fun f fn hf hfn => by
      obtain rfl : f = 5 := Option.some.inj (lineageLeft_named.symm.trans hf) |>.symm
      obtain rfl : fn = Tryz.f5 := (Option.some.inj (Tryz.func5.symm.trans hfn)).symm
      exact ⟨by kernel_rfl, fun j t ht => by
        rw [Tryz.params5] at ht
        have hm : t ∈ [22] := by simpa using Array.mem_of_getElem? ht
        have hall : ([22].all fun u => !Tryz.prog.wantsStandIn u) = true := by kernel_rfl
        exact (show Tryz.prog.wantsStandIn t = false by simpa using List.all_eq_true.1 hall t hm)⟩)
    (by kernel_rfl)
#print axioms LineageLeft_card
end Go.Proofs.YtkfoogabijnamaaGreatDoor
