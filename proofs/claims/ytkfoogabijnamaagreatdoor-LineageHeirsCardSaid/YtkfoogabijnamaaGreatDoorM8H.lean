/- The law LineageHeirs returns true for every input, and each argument reads afterwards as before; the tied card of it. Conditions: none, but that the listed package variables hold what the program's text lays. -/
import Derived.Test.YtkfoogabijnamaaGreatDoorB5
import Derived.Test.YtkfoogabijnamaaGreatDoorB9
import Derived.Test.YtkfoogabijnamaaGreatDoorB8
import Derived.Test.YtkfoogabijnamaaGreatDoorCards
import Derived.Test.YtkfoogabijnamaaGreatDoorTie
import Derived.SevenTiedAt
namespace Go.Proofs.YtkfoogabijnamaaGreatDoor
open Go.ChangeShapes Go.WideShapes Go.ChangeAt Go.RowKit Px

theorem lineageHeirs_reads : ∀ t ∈ Tryz.f8.params.toList, Tryz.prog.readableRec t = true ∧ t < Tryz.prog.types.size := by
  rw [Tryz.params8]
  intro t ht
  have : t = 22 := by simpa using ht
  subst this
  exact ⟨by kernel_rfl, of_decide_eq_true (by kernel_rfl)⟩

set_option maxRecDepth 100000 in
theorem lineageHeirs_lifted (os : Os) (started : os.Started) (H : Type) (enc : TypeId × Value → H) :
    ReturnsInHanded {} Tryz.checked os 8 .any (fun w args => (Rows.lineageHeirsSpec.pre enc Tryz.prog Tryz.f8 Rows.lineageHeirsRow.domain false w args ∧ laidMetH Tryz.prog Rows.lineageHeirsRow.laid w) ∧ sizedMet enc Tryz.prog Tryz.f8 (OpenSpec.ofChange Rows.lineageHeirsSpec) false w args)
      (Rows.lineageHeirsSpec.post enc Tryz.prog Tryz.f8 false true false false) := by
  refine returnsInHanded_of_change_and (C := Tryz.checked) (X := fun w _ => laidMetH Tryz.prog Rows.lineageHeirsRow.laid w) (fun _ _ _ hh h => h.of_heap hh) own started (by kernel_rfl) Tryz.func8
    (ChangeSpec.witness_shaped (enc := enc) (C := Tryz.checked) (os := os) (X := fun w _ => laidMetH Tryz.prog Rows.lineageHeirsRow.laid w) false (World.laidAll Tryz.prog os Rows.lineageHeirsRow.laid) #[.slice none 0 0] 8 (World.laidAll_os _ _ _)
      (World.shaped_of_ZipB (by kernel_rfl) (by kernel_rfl)) (by kernel_rfl) (by kernel_rfl) (by kernel_rfl)
      (by rw [MakeChecks.laidMetH_plain _ _ _ (by kernel_rfl)]; exact laidMet_laidAll _ (by kernel_rfl) (by kernel_rfl))) ?_
  intro W base args ds gs before hval0 hW hcnd hwt hL _
  have hG : GlobOk (fun _ _ => True) W := by
    rw [MakeChecks.laidMetH_plain _ _ _ (by kernel_rfl)] at hL
    obtain ⟨ps, ⟨g0, t0, cs0, f0, p0, q0, hg0, ht0, hv0, hd0, ⟨g1, t1, cs1, f1, p1, q1, hg1, ht1, hv1, hd1, ⟨g2, t2, cs2, f2, p2, q2, hg2, ht2, hv2, hd2, _, _⟩, _⟩, _⟩, _, _⟩ := hL
    obtain rfl := Option.some.inj ((show Tryz.prog.globalNamed "internal/strconv.uint64pow10" = some 2 by kernel_rfl).symm.trans hg2)
    obtain rfl := Option.some.inj ((show (Tryz.prog.globals[2]?).map (·.type) = some 192 by kernel_rfl).symm.trans ht2)
    exact glob_of_var hv2 rfl hd2
  have hval : ∀ (j : Nat) t v, Tryz.f8.params[j]? = some t → args[j]? = some v → Value.okWide Tryz.prog W .any base t v := hval0
  have hW' := hW
  obtain ⟨p, q, hA0, hV, rfl, hfz, hnd⟩ := hW
  have hA : DataW.TrodAll enc Tryz.prog W 0 (fun _ => true) true Tryz.f8.params.toList args.toList ds p := hA0
  rw [Tryz.params8] at hA hval
  obtain ⟨v0, vs0, d0, ds0, p0, q0, hargs, rfl, rfl, h0, r0⟩ := trodAll_cons hA
  obtain ⟨rfl, rfl, rfl⟩ := trodAll_nil r0
  obtain rfl : args = #[v0] := by cases args; simp_all
  obtain ⟨rfl, rfl⟩ := trodVars_none hV
  obtain ⟨x0, wx0, e0⟩ := open_sh (sh := shL) (by kernel_rfl) (hval 0 22 v0 rfl rfl) h0
  obtain ⟨l0, hl0⟩ := sts_dv x0
  rw [hl0] at e0
  refine (calls_of_true (lawHeirs l0) W [v0] rfl (fun j v x hv hx => ?_) hG).mono fun e W' ⟨he, bel⟩ => ?_
  · match j, hv, hx with
    | 0, hv, hx => cases hv; cases hx; exact e0
    | j + 1, hv, _ => simp at hv
  · subst he
    exact ⟨_, rfl, law_post hW' rfl rfl rfl lineageHeirs_reads bel⟩

theorem lineageHeirsfact0 : Rows.lineageHeirsRow.wf (OpenSpec.ofChange Rows.lineageHeirsSpec) = true := by kernel_rfl
theorem lineageHeirsfact3 : Tryz.f8.params.all (Tryz.prog.readableRec ·) = true := by kernel_rfl
theorem lineageHeirsfact4 : namedTie Tryz.prog Rows.lineageHeirsRow.named Rows.lineageHeirsSpec.vars = true := by kernel_rfl
theorem lineageHeirsfact5 : (Rows.lineageHeirsRow.stops == []) = true := by kernel_rfl
theorem lineageHeirsfact7 : (Rows.lineageHeirsRow.knobs == []) = true := by kernel_rfl
theorem lineageHeirsfact9 : (Rows.lineageHeirsRow.inPlace == Tryz.prog.inPlace 8) = true := by kernel_rfl
theorem lineageHeirsfact10 : (Rows.lineageHeirsRow.unfollowed == Tryz.prog.unfollowed 8) = true := by kernel_rfl
theorem lineageHeirsfact11 : (Rows.lineageHeirsRow.recurses == Tryz.prog.recurses 8) = true := by kernel_rfl
theorem lineageHeirsfact12 : (Rows.lineageHeirsRow.named == Tryz.prog.varsNamed 8) = true := by kernel_rfl
theorem lineageHeirsfact13 : (Rows.lineageHeirsRow.maps == (Tryz.f8.params.toList ++ Rows.lineageHeirsSpec.plain.varTypes Tryz.prog).any (Tryz.prog.mapsRec ·)) = true := by kernel_rfl
theorem lineageHeirsfact14 : (Rows.lineageHeirsRow.ifaces == (Tryz.f8.params.toList ++ Rows.lineageHeirsSpec.plain.varTypes Tryz.prog).any (Tryz.prog.ifacesRec ·)) = true := by kernel_rfl
theorem lineageHeirsfact15 : (Rows.lineageHeirsRow.mapsOut == Tryz.prog.mapsAmong Tryz.f8.resultTypes.toList) = true := by kernel_rfl
theorem lineageHeirsfact16 : (Rows.lineageHeirsRow.loops == (Tryz.f8.params.toList ++ Rows.lineageHeirsSpec.plain.varTypes Tryz.prog).any (Tryz.prog.loopsFrom ·)) = true := by kernel_rfl
theorem lineageHeirsfact17 : (Rows.lineageHeirsRow.wideKeys == (Tryz.f8.params.toList ++ Rows.lineageHeirsSpec.plain.varTypes Tryz.prog ++ Tryz.f8.resultTypes.toList).any (Tryz.prog.wideKeysFrom ·)) = true := by kernel_rfl
theorem lineageHeirsfact18 : Rows.lineageHeirsSpec.vars.all (Tryz.prog.varReadable ·) = true := by kernel_rfl
theorem lineageHeirsfact19 : Tryz.f8.resultTypes.all (fun t => Tryz.prog.readableRec t && decide (t < Tryz.prog.types.size)) = true := by kernel_rfl
theorem lineageHeirsfact20 : (Rows.lineageHeirsRow.ifacesOut == Tryz.f8.resultTypes.toList.any (Tryz.prog.ifacesRec ·)) = true := by kernel_rfl
theorem lineageHeirsfact21 : (Rows.lineageHeirsRow.loopsOut == Tryz.f8.resultTypes.toList.any (Tryz.prog.loopsFrom ·)) = true := by kernel_rfl
theorem lineageHeirsfact22 : (Rows.lineageHeirsRow.plainKeys == Tryz.prog.plainKeys) = true := by rw [sharedplainKeys]; rfl
theorem lineageHeirsfact23 : Rows.lineageHeirsRow.shortTexts.isNone = true := by kernel_rfl
theorem lineageHeirsfact26 : (Rows.lineageHeirsRow.lifted == Tryz.prog.liftsFinal) = true := by rw [sharedliftsFinal]; rfl
theorem lineageHeirsfact27 : (Tryz.prog.make == some Rows.lineageHeirsRow.make) = true := by kernel_rfl
theorem lineageHeirsfact28 : (Rows.lineageHeirsRow.kinds == (if Rows.lineageHeirsRow.domain.isEmpty then [] else Tryz.f8.params.toList.map fun t => match Tryz.prog.underlying t with | some (.int k) => some k | _ => none)) = true := by kernel_rfl
theorem lineageHeirsfact29 : (Rows.lineageHeirsRow.pinned == Rows.lineageHeirsRow.pinnedBy) = true := by kernel_rfl
theorem lineageHeirsfact30 : (Rows.lineageHeirsRow.veiled == (Tryz.f8.params.toList ++ Rows.lineageHeirsSpec.plain.varTypes Tryz.prog ++ Tryz.f8.resultTypes.toList).any (Tryz.prog.veiledRec ·)) = true := by kernel_rfl
theorem lineageHeirsfact31 : Rows.lineageHeirsRow.veiledFits Tryz.prog Tryz.f8.params.toList (Tryz.f8.params.toList ++ Rows.lineageHeirsSpec.plain.varTypes Tryz.prog ++ Tryz.f8.resultTypes.toList) = true := by kernel_rfl
set_option maxRecDepth 100000 in
theorem lineageHeirsclosed : joinedFacts Tryz.prog 8 Tryz.f8 Rows.lineageHeirsSpec Rows.lineageHeirsRow = true := (and_mk (and_mk (and_mk (and_mk (and_mk (and_mk (and_mk (and_mk (and_mk (and_mk (and_mk (and_mk (and_mk (and_mk (and_mk (and_mk (and_mk (and_mk (and_mk (and_mk (and_mk (and_mk (and_mk (and_mk (and_mk (and_mk (and_mk (and_mk (and_mk (and_mk (and_mk lineageHeirsfact0 sharedfact1) sharedfact2) lineageHeirsfact3) lineageHeirsfact4) lineageHeirsfact5) sharedfact6) lineageHeirsfact7) sharedfact8) lineageHeirsfact9) lineageHeirsfact10) lineageHeirsfact11) lineageHeirsfact12) lineageHeirsfact13) lineageHeirsfact14) lineageHeirsfact15) lineageHeirsfact16) lineageHeirsfact17) lineageHeirsfact18) lineageHeirsfact19) lineageHeirsfact20) lineageHeirsfact21) lineageHeirsfact22) lineageHeirsfact23) sharedfact24) sharedfact25) lineageHeirsfact26) lineageHeirsfact27) lineageHeirsfact28) lineageHeirsfact29) lineageHeirsfact30) lineageHeirsfact31)

theorem lineageHeirs_named : Tryz.prog.funcNamed Rows.lineageHeirsRow.func = some 8 := by kernel_rfl
theorem lineageHeirs_wrap : Tryz.f8.isWrapper Tryz.prog Rows.lineageHeirsRow.wrapper Rows.lineageHeirsRow.mainSum := by
  unfold Func.isWrapper
  first | (rw [if_pos (by decide +kernel)]; kernel_rfl) | (rw [if_neg (by decide +kernel)]; exact ⟨rfl, rfl⟩)
theorem lineageHeirs_inst : Tryz.f8.isInstance Tryz.prog Rows.lineageHeirsRow.origin Rows.lineageHeirsRow.targs := of_decide_eq_true (by kernel_rfl)
theorem lineageHeirs_over : Rows.lineageHeirsRow.holds Tryz.pinned (OpenSpec.ofChange Rows.lineageHeirsSpec) :=
  OpenClaim.holds_of_wide 8 Tryz.f8 rfl rfl rfl rfl rfl rfl rfl ⟨rfl, rfl, rfl, rfl, rfl⟩ rfl rfl rfl rfl rfl lineageHeirs_named Tryz.func8 lineageHeirsclosed lineageHeirs_inst lineageHeirs_wrap
    (fun os started H enc _ => lineageHeirs_lifted os started H enc)
theorem LineageHeirs_card : Rows.LineageHeirsCardSaid :=
  Claim7.holds_tied_plain_at .later [] [.data, .data, .data, .data, .sentinel, .sentinel, .pinned] true (true, "d0f76d29fcd80bd51a4142871912bf422b3dbb0ec940c11c19c2f271b21a2bf6") true lineageHeirs_over (fun _ h => by cases h) (by kernel_rfl) (fun _ h => by cases h) lineageHeirs_row_tie rfl ⟨rfl, rfl⟩ (by kernel_rfl) rfl
    (fun f fn hf hfn => by
      obtain rfl : f = 8 := Option.some.inj (lineageHeirs_named.symm.trans hf) |>.symm
      obtain rfl : fn = Tryz.f8 := (Option.some.inj (Tryz.func8.symm.trans hfn)).symm
      exact ⟨by kernel_rfl, fun j t ht => by
        rw [Tryz.params8] at ht
        have hm : t ∈ [22] := by simpa using Array.mem_of_getElem? ht
        have hall : ([22].all fun u => !Tryz.prog.wantsStandIn u) = true := by kernel_rfl
        exact (show Tryz.prog.wantsStandIn t = false by simpa using List.all_eq_true.1 hall t hm)⟩)
    (by kernel_rfl)
#print axioms LineageHeirs_card
end Go.Proofs.YtkfoogabijnamaaGreatDoor
