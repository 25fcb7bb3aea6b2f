/- The law ExpressionZero returns true for every input, and each argument reads afterwards as before; the tied card of it. Conditions: none, but that the listed package variables hold what the program's text lays. -/
import Derived.Test.YtmfeinilbjfnpaaGreatDoorB5
import Derived.Test.YtmfeinilbjfnpaaGreatDoorB7
import Derived.Test.YtmfeinilbjfnpaaGreatDoorB6
import Derived.Test.YtmfeinilbjfnpaaGreatDoorCards
import Derived.Test.YtmfeinilbjfnpaaGreatDoorTie
import Derived.SevenTiedAt
namespace Go.Proofs.YtmfeinilbjfnpaaGreatDoor
open Go.ChangeShapes Go.WideShapes Go.ChangeAt Go.RowKit Px

theorem expressionZero_reads : ∀ t ∈ Tryz.f4.params.toList, Tryz.prog.readableRec t = true ∧ t < Tryz.prog.types.size := by
  rw [Tryz.params4]
  intro t ht
  have : t = 22 := by simpa using ht
  subst this
  exact ⟨by kernel_rfl, of_decide_eq_true (by kernel_rfl)⟩

set_option maxRecDepth 100000 in
theorem expressionZero_lifted (os : Os) (started : os.Started) (H : Type) (enc : TypeId × Value → H) :
    ReturnsInHanded {} Tryz.checked os 4 .any (fun w args => (Rows.expressionZeroSpec.pre enc Tryz.prog Tryz.f4 Rows.expressionZeroRow.domain false w args ∧ laidMetH Tryz.prog Rows.expressionZeroRow.laid w) ∧ sizedMet enc Tryz.prog Tryz.f4 (OpenSpec.ofChange Rows.expressionZeroSpec) false w args)
      (Rows.expressionZeroSpec.post enc Tryz.prog Tryz.f4 false true false false) := by
  refine returnsInHanded_of_change_and (C := Tryz.checked) (X := fun w _ => laidMetH Tryz.prog Rows.expressionZeroRow.laid w) (fun _ _ _ hh h => h.of_heap hh) own started (by kernel_rfl) Tryz.func4
    (ChangeSpec.witness_shaped (enc := enc) (C := Tryz.checked) (os := os) (X := fun w _ => laidMetH Tryz.prog Rows.expressionZeroRow.laid w) false (World.laidAll Tryz.prog os Rows.expressionZeroRow.laid) #[.slice none 0 0] 8 (World.laidAll_os _ _ _)
      (World.shaped_of_ZipB (by kernel_rfl) (by kernel_rfl)) (by kernel_rfl) (by kernel_rfl) (by kernel_rfl)
      (by rw [MakeChecks.laidMetH_plain _ _ _ (by kernel_rfl)]; exact laidMet_laidAll _ (by kernel_rfl) (by kernel_rfl))) ?_
  intro W base args ds gs before hval0 hW hcnd _ hL _
  have hG : GlobOk (fun _ _ => True) W := by
    rw [MakeChecks.laidMetH_plain _ _ _ (by kernel_rfl)] at hL
    obtain ⟨ps, ⟨g0, t0, cs0, f0, p0, q0, hg0, ht0, hv0, hd0, ⟨g1, t1, cs1, f1, p1, q1, hg1, ht1, hv1, hd1, ⟨g2, t2, cs2, f2, p2, q2, hg2, ht2, hv2, hd2, _, _⟩, _⟩, _⟩, _, _⟩ := hL
    obtain rfl := Option.some.inj ((show Tryz.prog.globalNamed "internal/strconv.uint64pow10" = some 2 by kernel_rfl).symm.trans hg2)
    obtain rfl := Option.some.inj ((show (Tryz.prog.globals[2]?).map (·.type) = some 194 by kernel_rfl).symm.trans ht2)
    exact glob_of_var hv2 rfl hd2
  have hval : ∀ (j : Nat) t v, Tryz.f4.params[j]? = some t → args[j]? = some v → Value.okWide Tryz.prog W .any base t v := hval0
  have hW' := hW
  obtain ⟨p, q, hA0, hV, rfl, hfz, hnd⟩ := hW
  have hA : DataW.TrodAll enc Tryz.prog W 0 (fun _ => true) true Tryz.f4.params.toList args.toList ds p := hA0
  rw [Tryz.params4] at hA hval
  obtain ⟨v0, vs0, d0, ds0, p0, q0, hargs, rfl, rfl, h0, r0⟩ := trodAll_cons hA
  obtain ⟨rfl, rfl, rfl⟩ := trodAll_nil r0
  obtain rfl : args = #[v0] := by cases args; simp_all
  obtain ⟨rfl, rfl⟩ := trodVars_none hV
  obtain ⟨x0, wx0, e0⟩ := open_sh (sh := shE) (by kernel_rfl) (hval 0 22 v0 rfl rfl) h0
  obtain ⟨l0, hl0⟩ := cfs_dv x0
  rw [hl0] at e0
  refine (calls_of_true (lawZero l0) W [v0] rfl (fun j v x hv hx => ?_) hG).mono fun e W' ⟨he, bel⟩ => ?_
  · match j, hv, hx with
    | 0, hv, hx => cases hv; cases hx; exact e0
    | j + 1, hv, _ => simp at hv
  · subst he
    exact ⟨_, rfl, law_post hW' rfl rfl rfl expressionZero_reads bel⟩

theorem expressionZerofact0 : Rows.expressionZeroRow.wf (OpenSpec.ofChange Rows.expressionZeroSpec) = true := by kernel_rfl
theorem expressionZerofact3 : Tryz.f4.params.all (Tryz.prog.readableRec ·) = true := by kernel_rfl
theorem expressionZerofact4 : namedTie Tryz.prog Rows.expressionZeroRow.named Rows.expressionZeroSpec.vars = true := by kernel_rfl
theorem expressionZerofact5 : (Rows.expressionZeroRow.stops == []) = true := by kernel_rfl
theorem expressionZerofact7 : (Rows.expressionZeroRow.knobs == []) = true := by kernel_rfl
theorem expressionZerofact9 : (Rows.expressionZeroRow.inPlace == Tryz.prog.inPlace 4) = true := by kernel_rfl
theorem expressionZerofact10 : (Rows.expressionZeroRow.unfollowed == Tryz.prog.unfollowed 4) = true := by kernel_rfl
theorem expressionZerofact11 : (Rows.expressionZeroRow.recurses == Tryz.prog.recurses 4) = true := by kernel_rfl
theorem expressionZerofact12 : (Rows.expressionZeroRow.named == Tryz.prog.varsNamed 4) = true := by kernel_rfl
theorem expressionZerofact13 : (Rows.expressionZeroRow.maps == (Tryz.f4.params.toList ++ Rows.expressionZeroSpec.plain.varTypes Tryz.prog).any (Tryz.prog.mapsRec ·)) = true := by kernel_rfl
theorem expressionZerofact14 : (Rows.expressionZeroRow.ifaces == (Tryz.f4.params.toList ++ Rows.expressionZeroSpec.plain.varTypes Tryz.prog).any (Tryz.prog.ifacesRec ·)) = true := by kernel_rfl
theorem expressionZerofact15 : (Rows.expressionZeroRow.mapsOut == Tryz.prog.mapsAmong Tryz.f4.resultTypes.toList) = true := by kernel_rfl
theorem expressionZerofact16 : (Rows.expressionZeroRow.loops == (Tryz.f4.params.toList ++ Rows.expressionZeroSpec.plain.varTypes Tryz.prog).any (Tryz.prog.loopsFrom ·)) = true := by kernel_rfl
theorem expressionZerofact17 : (Rows.expressionZeroRow.wideKeys == (Tryz.f4.params.toList ++ Rows.expressionZeroSpec.plain.varTypes Tryz.prog ++ Tryz.f4.resultTypes.toList).any (Tryz.prog.wideKeysFrom ·)) = true := by kernel_rfl
theorem expressionZerofact18 : Rows.expressionZeroSpec.vars.all (Tryz.prog.varReadable ·) = true := by kernel_rfl
theorem expressionZerofact19 : Tryz.f4.resultTypes.all (fun t => Tryz.prog.readableRec t && decide (t < Tryz.prog.types.size)) = true := by kernel_rfl
theorem expressionZerofact20 : (Rows.expressionZeroRow.ifacesOut == Tryz.f4.resultTypes.toList.any (Tryz.prog.ifacesRec ·)) = true := by kernel_rfl
theorem expressionZerofact21 : (Rows.expressionZeroRow.loopsOut == Tryz.f4.resultTypes.toList.any (Tryz.prog.loopsFrom ·)) = true := by kernel_rfl
theorem expressionZerofact22 : (Rows.expressionZeroRow.plainKeys == Tryz.prog.plainKeys) = true := by rw [sharedplainKeys]; rfl
theorem expressionZerofact23 : Rows.expressionZeroRow.shortTexts.isNone = true := by kernel_rfl
theorem expressionZerofact26 : (Rows.expressionZeroRow.lifted == Tryz.prog.liftsFinal) = true := by rw [sharedliftsFinal]; rfl
theorem expressionZerofact27 : (Tryz.prog.make == some Rows.expressionZeroRow.make) = true := by kernel_rfl
theorem expressionZerofact28 : (Rows.expressionZeroRow.kinds == (if Rows.expressionZeroRow.domain.isEmpty then [] else Tryz.f4.params.toList.map fun t => match Tryz.prog.underlying t with | some (.int k) => some k | _ => none)) = true := by kernel_rfl
theorem expressionZerofact29 : (Rows.expressionZeroRow.pinned == Rows.expressionZeroRow.pinnedBy) = true := by kernel_rfl
theorem expressionZerofact30 : (Rows.expressionZeroRow.veiled == (Tryz.f4.params.toList ++ Rows.expressionZeroSpec.plain.varTypes Tryz.prog ++ Tryz.f4.resultTypes.toList).any (Tryz.prog.veiledRec ·)) = true := by kernel_rfl
theorem expressionZerofact31 : Rows.expressionZeroRow.veiledFits Tryz.prog Tryz.f4.params.toList (Tryz.f4.params.toList ++ Rows.expressionZeroSpec.plain.varTypes Tryz.prog ++ Tryz.f4.resultTypes.toList) = true := by kernel_rfl
set_option maxRecDepth 100000 in
theorem expressionZeroclosed : joinedFacts Tryz.prog 4 Tryz.f4 Rows.expressionZeroSpec Rows.expressionZeroRow = true := (and_mk (and_mk (and_mk (and_mk (and_mk (and_mk (and_mk (and_mk (and_mk (and_mk (and_mk (and_mk (and_mk (and_mk (and_mk (and_mk (and_mk (and_mk (and_mk (and_mk (and_mk (and_mk (and_mk (and_mk (and_mk (and_mk (and_mk (and_mk (and_mk (and_mk (and_mk expressionZerofact0 sharedfact1) sharedfact2) expressionZerofact3) expressionZerofact4) expressionZerofact5) sharedfact6) expressionZerofact7) sharedfact8) expressionZerofact9) expressionZerofact10) expressionZerofact11) expressionZerofact12) expressionZerofact13) expressionZerofact14) expressionZerofact15) expressionZerofact16) expressionZerofact17) expressionZerofact18) expressionZerofact19) expressionZerofact20) expressionZerofact21) expressionZerofact22) expressionZerofact23) sharedfact24) sharedfact25) expressionZerofact26) expressionZerofact27) expressionZerofact28) expressionZerofact29) expressionZerofact30) expressionZerofact31)

theorem expressionZero_named : Tryz.prog.funcNamed Rows.expressionZeroRow.func = some 4 := by kernel_rfl
theorem expressionZero_wrap : Tryz.f4.isWrapper Tryz.prog Rows.expressionZeroRow.wrapper Rows.expressionZeroRow.mainSum := by
  unfold Func.isWrapper
  first | (rw [if_pos (by decide +kernel)]; kernel_rfl) | (rw [if_neg (by decide +kernel)]; exact ⟨rfl, rfl⟩)
theorem expressionZero_inst : Tryz.f4.isInstance Tryz.prog Rows.expressionZeroRow.origin Rows.expressionZeroRow.targs := of_decide_eq_true (by kernel_rfl)
theorem expressionZero_over : Rows.expressionZeroRow.holds Tryz.pinned (OpenSpec.ofChange Rows.expressionZeroSpec) :=
  OpenClaim.holds_of_wide 4 Tryz.f4 rfl rfl rfl rfl rfl rfl rfl ⟨rfl, rfl, rfl, rfl, rfl⟩ rfl rfl rfl rfl rfl expressionZero_named Tryz.func4 expressionZeroclosed expressionZero_inst expressionZero_wrap
    (fun os started H enc _ => expressionZero_lifted os started H enc)
theorem ExpressionZero_card : Rows.ExpressionZeroCardSaid :=
  Claim7.holds_tied_plain_at .later [] [.data, .data, .data, .data, .sentinel, .sentinel, .pinned] true (true, "d761a78bd2b14ca02b9ebb070528750c74a4774c998cbef14576fe307859d78b") true expressionZero_over (fun _ h => by cases h) (by kernel_rfl) (fun _ h => by cases h) expressionZero_row_tie rfl ⟨rfl, rfl⟩ (by kernel_rfl) rfl
    (fun f fn hf hfn => by
      obtain rfl : f = 4 := Option.some.inj (expressionZero_named.symm.trans hf) |>.symm
      obtain rfl : fn = Tryz.f4 := (Option.some.inj (Tryz.func4.symm.trans hfn)).symm
      exact ⟨by kernel_rfl, fun j t ht => by
        rw [Tryz.params4] at ht
        have hm : t ∈ [22] := by simpa using Array.mem_of_getElem? ht
        have hall : ([22].all fun u => !Tryz.prog.wantsStandIn u) = true := by kernel_rfl
        exact (show Tryz.prog.wantsStandIn t = false by simpa using List.all_eq_true.1 hall t hm)⟩)
    (by kernel_rfl)
#print axioms ExpressionZero_card
end Go.Proofs.YtmfeinilbjfnpaaGreatDoor
