/- The law LineageOrigins returns true for every input, and each argument reads afterwards as before; the tied card of it. Conditions: none, but that the listed package variables hold what the program's text lays. -/
import Derived.Test.YtkfoogabijnamaaGreatDoorB5
import Derived.Test.YtkfoogabijnamaaGreatDoorB9
import Derived.Test.YtkfoogabijnamaaGreatDoorB8
import Derived.Test.YtkfoogabijnamaaGreatDoorCards
import Derived.Test.YtkfoogabijnamaaGreatDoorTie
import Derived.SevenTiedAt
namespace Go.Proofs.YtkfoogabijnamaaGreatDoor
open Go.ChangeShapes Go.WideShapes Go.ChangeAt Go.RowKit Px

theorem lineageOrigins_reads : ∀ t ∈ Tryz.f9.params.toList, Tryz.prog.readableRec t = true ∧ t < Tryz.prog.types.size := by
  rw [Tryz.params9]
  intro t ht
  have : t = 22 := by simpa using ht
  subst this
  exact ⟨by kernel_rfl, of_decide_eq_true (by kernel_rfl)⟩

set_option maxRecDepth 100000 in
theorem lineageOrigins_lifted (os : Os) (started : os.Started) (H : Type) (enc : TypeId × Value → H) :
    ReturnsInHanded {} Tryz.checked os 9 .any (fun w args => (Rows.lineageOriginsSpec.pre enc Tryz.prog Tryz.f9 Rows.lineageOriginsRow.domain false w args ∧ laidMetH Tryz.prog Rows.lineageOriginsRow.laid w) ∧ sizedMet enc Tryz.prog Tryz.f9 (OpenSpec.ofChange Rows.lineageOriginsSpec) false w args)
      (Rows.lineageOriginsSpec.post enc Tryz.prog Tryz.f9 false true false false) := by
  refine returnsInHanded_of_change_and (C := Tryz.checked) (X := fun w _ => laidMetH Tryz.prog Rows.lineageOriginsRow.laid w) (fun _ _ _ hh h => h.of_heap hh) own started (by kernel_rfl) Tryz.func9
    (ChangeSpec.witness_shaped (enc := enc) (C := Tryz.checked) (os := os) (X := fun w _ => laidMetH Tryz.prog Rows.lineageOriginsRow.laid w) false (World.laidAll Tryz.prog os Rows.lineageOriginsRow.laid) #[.slice none 0 0] 8 (World.laidAll_os _ _ _)
      (World.shaped_of_ZipB (by kernel_rfl) (by kernel_rfl)) (by kernel_rfl) (by kernel_rfl) (by kernel_rfl)
      (by rw [MakeChecks.laidMetH_plain _ _ _ (by kernel_rfl)]; exact laidMet_laidAll _ (by kernel_rfl) (by kernel_rfl))) ?_
  intro W base args ds gs before hval0 hW hcnd hwt hL _
  have hG : GlobOk (fun _ _ => True) W := by
    rw [MakeChecks.laidMetH_plain _ _ _ (by kernel_rfl)] at hL
    obtain ⟨ps, ⟨g0, t0, cs0, f0, p0, q0, hg0, ht0, hv0, hd0, ⟨g1, t1, cs1, f1, p1, q1, hg1, ht1, hv1, hd1, ⟨g2, t2, cs2, f2, p2, q2, hg2, ht2, hv2, hd2, _, _⟩, _⟩, _⟩, _, _⟩ := hL
    obtain rfl := Option.some.inj ((show Tryz.prog.globalNamed "internal/strconv.uint64pow10" = some 2 by kernel_rfl).symm.trans hg2)
    obtain rfl := Option.some.inj ((show (Tryz.prog.globals[2]?).map (·.type) = some 192 by kernel_rfl).symm.trans ht2)
    exact glob_of_var hv2 rfl hd2
  have hval : ∀ (j : Nat) t v, Tryz.f9.params[j]? = some t → args[j]? = some v → Value.okWide Tryz.prog W .any base t v := hval0
  have hW' := hW
  obtain ⟨p, q, hA0, hV, rfl, hfz, hnd⟩ := hW
  have hA : DataW.TrodAll enc Tryz.prog W 0 (fun _ => true) true Tryz.f9.params.toList args.toList ds p := hA0
  rw [Tryz.params9] at hA hval
  obtain ⟨v0, vs0, d0, ds0, p0, q0, hargs, rfl, rfl, h0, r0⟩ := trodAll_cons hA
  obtain ⟨rfl, rfl, rfl⟩ := trodAll_nil r0
  obtain rfl : args = #[v0] := by cases args; simp_all
  obtain ⟨rfl, rfl⟩ := trodVars_none hV
  obtain ⟨x0, wx0, e0⟩ := open_sh (sh := shL) (by kernel_rfl) (hval 0 22 v0 rfl rfl) h0
  obtain ⟨l0, hl0⟩ := sts_dv x0
  rw [hl0] at e0
  refine (calls_of_true (lawOrigins l0) W [v0] rfl (fun j v x hv hx => ?_) hG).mono fun e W' ⟨he, bel⟩ => ?_
  · match j, hv, hx with
    | 0, hv, hx => cases hv; cases hx; exact e0
    | j + 1, hv, _ => simp at hv
  · subst he
    exact ⟨_, rfl, law_post hW' rfl rfl rfl lineageOrigins_reads bel⟩

theorem lineageOriginsfact0 : Rows.lineageOriginsRow.wf (OpenSpec.ofChange Rows.lineageOriginsSpec) = true := by kernel_rfl
theorem lineageOriginsfact3 : Tryz.f9.params.all (Tryz.prog.readableRec ·) = true := by kernel_rfl
theorem lineageOriginsfact4 : namedTie Tryz.prog Rows.lineageOriginsRow.named Rows.lineageOriginsSpec.vars = true := by kernel_rfl
theorem lineageOriginsfact5 : (Rows.lineageOriginsRow.stops == []) = true := by kernel_rfl
theorem lineageOriginsfact7 : (Rows.lineageOriginsRow.knobs == []) = true := by kernel_rfl
theorem lineageOriginsfact9 : (Rows.lineageOriginsRow.inPlace == Tryz.prog.inPlace 9) = true := by kernel_rfl
theorem lineageOriginsfact10 : (Rows.lineageOriginsRow.unfollowed == Tryz.prog.unfollowed 9) = true := by kernel_rfl
theorem lineageOriginsfact11 : (Rows.lineageOriginsRow.recurses == Tryz.prog.recurses 9) = true := by kernel_rfl
theorem lineageOriginsfact12 : (Rows.lineageOriginsRow.named == Tryz.prog.varsNamed 9) = true := by kernel_rfl
theorem lineageOriginsfact13 : (Rows.lineageOriginsRow.maps == (Tryz.f9.params.toList ++ Rows.lineageOriginsSpec.plain.varTypes Tryz.prog).any (Tryz.prog.mapsRec ·)) = true := by kernel_rfl
theorem lineageOriginsfact14 : (Rows.lineageOriginsRow.ifaces == (Tryz.f9.params.toList ++ Rows.lineageOriginsSpec.plain.varTypes Tryz.prog).any (Tryz.prog.ifacesRec ·)) = true := by kernel_rfl
theorem lineageOriginsfact15 : (Rows.lineageOriginsRow.mapsOut == Tryz.prog.mapsAmong Tryz.f9.resultTypes.toList) = true := by kernel_rfl
theorem lineageOriginsfact16 : (Rows.lineageOriginsRow.loops == (Tryz.f9.params.toList ++ Rows.lineageOriginsSpec.plain.varTypes Tryz.prog).any (Tryz.prog.loopsFrom ·)) = true := by kernel_rfl
theorem lineageOriginsfact17 : (Rows.lineageOriginsRow.wideKeys == (Tryz.f9.params.toList ++ Rows.lineageOriginsSpec.plain.varTypes Tryz.prog ++ Tryz.f9.resultTypes.toList).any (Tryz.prog.wideKeysFrom ·)) = true := by kernel_rfl
theorem lineageOriginsfact18 : Rows.lineageOriginsSpec.vars.all (Tryz.prog.varReadable ·) = true := by kernel_rfl
theorem lineageOriginsfact19 : Tryz.f9.resultTypes.all (fun t => Tryz.prog.readableRec t && decide (t < Tryz.prog.types.size)) = true := by kernel_rfl
theorem lineageOriginsfact20 : (Rows.lineageOriginsRow.ifacesOut == Tryz.f9.resultTypes.toList.any (Tryz.prog.ifacesRec ·)) = true := by kernel_rfl
theorem lineageOriginsfact21 : (Rows.lineageOriginsRow.loopsOut == Tryz.f9.resultTypes.toList.any (Tryz.prog.loopsFrom ·)) = true := by kernel_rfl
theorem lineageOriginsfact22 : (Rows.lineageOriginsRow.plainKeys == Tryz.prog.plainKeys) = true := by rw [sharedplainKeys]; rfl
theorem lineageOriginsfact23 : Rows.lineageOriginsRow.shortTexts.isNone = true := by kernel_rfl
theorem lineageOriginsfact26 : (Rows.lineageOriginsRow.lifted == Tryz.prog.liftsFinal) = true := by rw [sharedliftsFinal]; rfl
theorem lineageOriginsfact27 : (Tryz.prog.make == some Rows.lineageOriginsRow.make) = true := by kernel_rfl
theorem lineageOriginsfact28 : (Rows.lineageOriginsRow.kinds == (if Rows.lineageOriginsRow.domain.isEmpty then [] else Tryz.f9.params.toList.map fun t => match Tryz.prog.underlying t with | some (.int k) => some k | _ => none)) = true := by kernel_rfl
theorem lineageOriginsfact29 : (Rows.lineageOriginsRow.pinned == Rows.lineageOriginsRow.pinnedBy) = true := by kernel_rfl
theorem lineageOriginsfact30 : (Rows.lineageOriginsRow.veiled == (Tryz.f9.params.toList ++ Rows.lineageOriginsSpec.plain.varTypes Tryz.prog ++ Tryz.f9.resultTypes.toList).any (Tryz.prog.veiledRec ·)) = true := by kernel_rfl
theorem lineageOriginsfact31 : Rows.lineageOriginsRow.veiledFits Tryz.prog Tryz.f9.params.toList (Tryz.f9.params.toList ++ Rows.lineageOriginsSpec.plain.varTypes Tryz.prog ++ Tryz.f9.resultTypes.toList) = true := by kernel_rfl
set_option maxRecDepth 100000 in
theorem lineageOriginsclosed : joinedFacts Tryz.prog 9 Tryz.f9 Rows.lineageOriginsSpec Rows.lineageOriginsRow = true := (and_mk (and_mk (and_mk (and_mk (and_mk (and_mk (and_mk (and_mk (and_mk (and_mk (and_mk (and_mk (and_mk (and_mk (and_mk (and_mk (and_mk (and_mk (and_mk (and_mk (and_mk (and_mk (and_mk (and_mk (and_mk (and_mk (and_mk (and_mk (and_mk (and_mk (and_mk lineageOriginsfact0 sharedfact1) sharedfact2) lineageOriginsfact3) lineageOriginsfact4) lineageOriginsfact5) sharedfact6) lineageOriginsfact7) sharedfact8) lineageOriginsfact9) lineageOriginsfact10) lineageOriginsfact11) lineageOriginsfact12) lineageOriginsfact13) lineageOriginsfact14) lineageOriginsfact15) lineageOriginsfact16) lineageOriginsfact17) lineageOriginsfact18) lineageOriginsfact19) lineageOriginsfact20) lineageOriginsfact21) lineageOriginsfact22) lineageOriginsfact23) sharedfact24) sharedfact25) lineageOriginsfact26) lineageOriginsfact27) lineageOriginsfact28) lineageOriginsfact29) lineageOriginsfact30) lineageOriginsfact31)

theorem lineageOrigins_named : Tryz.prog.funcNamed Rows.lineageOriginsRow.func = some 9 := by kernel_rfl
theorem lineageOrigins_wrap : Tryz.f9.isWrapper Tryz.prog Rows.lineageOriginsRow.wrapper Rows.lineageOriginsRow.mainSum := by
  unfold Func.isWrapper
  first | (rw [if_pos (by decide +kernel)]; kernel_rfl) | (rw [if_neg (by decide +kernel)]; exact ⟨rfl, rfl⟩)
theorem lineageOrigins_inst : Tryz.f9.isInstance Tryz.prog Rows.lineageOriginsRow.origin Rows.lineageOriginsRow.targs := of_decide_eq_true (by kernel_rfl)
theorem lineageOrigins_over : Rows.lineageOriginsRow.holds Tryz.pinned (OpenSpec.ofChange Rows.lineageOriginsSpec) :=
  OpenClaim.holds_of_wide 9 Tryz.f9 rfl rfl rfl rfl rfl rfl rfl ⟨rfl, rfl, rfl, rfl, rfl⟩ rfl rfl rfl rfl rfl lineageOrigins_named Tryz.func9 lineageOriginsclosed lineageOrigins_inst lineageOrigins_wrap
    (fun os started H enc _ => lineageOrigins_lifted os started H enc)
theorem LineageOrigins_card : Rows.LineageOriginsCardSaid :=
  Claim7.holds_tied_plain_at .later [] [.data, .data, .data, .data, .sentinel, .sentinel, .pinned] true (true, "d0f76d29fcd80bd51a4142871912bf422b3dbb0ec940c11c19c2f271b21a2bf6") true lineageOrigins_over (fun _ h => by cases h) (by kernel_rfl) (fun _ h => by cases h) lineageOrigins_row_tie rfl ⟨rfl, rfl⟩ (by kernel_rfl) rfl
    (fun f fn hf hfn => by
      obtain rfl : f = 9 := Option.some.inj (lineageOrigins_named.symm.trans hf) |>.symm
      obtain rfl : fn = Tryz.f9 := (Option.some.inj (Tryz.func9.symm.trans hfn)).symm
      exact ⟨by kernel_rfl, fun j t ht => by
        rw [Tryz.params9] at ht
        have hm : t ∈ [22] := by simpa using Array.mem_of_getElem? ht
        have hall : ([22].all fun u => !Tryz.prog.wantsStandIn u) = true := by kernel_rfl
        exact (show Tryz.prog.wantsStandIn t = false by simpa using List.all_eq_true.1 hall t hm)⟩)
    (by kernel_rfl)
#print axioms LineageOrigins_card
end Go.Proofs.YtkfoogabijnamaaGreatDoor
