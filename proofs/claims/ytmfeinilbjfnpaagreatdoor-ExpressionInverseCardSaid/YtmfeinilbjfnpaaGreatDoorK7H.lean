/- The law ExpressionInverse returns true for every input, and each argument reads afterwards as before; the tied card of it. Conditions: none, but that the listed package variables hold what the program's text lays. -/
import Derived.Test.YtmfeinilbjfnpaaGreatDoorB5
import Derived.Test.YtmfeinilbjfnpaaGreatDoorB6
import Derived.Test.YtmfeinilbjfnpaaGreatDoorCards
import Derived.Test.YtmfeinilbjfnpaaGreatDoorTie
import Derived.SevenTiedAt
namespace Go.Proofs.YtmfeinilbjfnpaaGreatDoor
open Go.ChangeShapes Go.WideShapes Go.ChangeAt Go.RowKit Px

theorem expressionInverse_reads : ∀ t ∈ Tryz.f7.params.toList, Tryz.prog.readableRec t = true ∧ t < Tryz.prog.types.size := by
  rw [Tryz.params7]
  intro t ht
  have : t = 22 := by simpa using ht
  subst this
  exact ⟨by kernel_rfl, of_decide_eq_true (by kernel_rfl)⟩

set_option maxRecDepth 100000 in
theorem expressionInverse_lifted (os : Os) (started : os.Started) (H : Type) (enc : TypeId × Value → H) :
    ReturnsInHanded {} Tryz.checked os 7 .any (fun w args => (Rows.expressionInverseSpec.pre enc Tryz.prog Tryz.f7 Rows.expressionInverseRow.domain false w args ∧ laidMetH Tryz.prog Rows.expressionInverseRow.laid w) ∧ sizedMet enc Tryz.prog Tryz.f7 (OpenSpec.ofChange Rows.expressionInverseSpec) false w args)
      (Rows.expressionInverseSpec.post enc Tryz.prog Tryz.f7 false true false false) := by
  refine returnsInHanded_of_change_and (C := Tryz.checked) (X := fun w _ => laidMetH Tryz.prog Rows.expressionInverseRow.laid w) (fun _ _ _ hh h => h.of_heap hh) own started (by kernel_rfl) Tryz.func7
    (ChangeSpec.witness_shaped (enc := enc) (C := Tryz.checked) (os := os) (X := fun w _ => laidMetH Tryz.prog Rows.expressionInverseRow.laid w) false (World.laidAll Tryz.prog os Rows.expressionInverseRow.laid) #[.slice none 0 0, .slice none 0 0, .slice none 0 0] 8 (World.laidAll_os _ _ _)
      (World.shaped_of_ZipB (by kernel_rfl) (by kernel_rfl)) (by kernel_rfl) (by kernel_rfl) (by kernel_rfl)
      (by rw [MakeChecks.laidMetH_plain _ _ _ (by kernel_rfl)]; exact laidMet_laidAll _ (by kernel_rfl) (by kernel_rfl))) ?_
  intro W base args ds gs before hval0 hW hcnd _ hL _
  have hG : GlobOk (fun _ _ => True) W := by
    rw [MakeChecks.laidMetH_plain _ _ _ (by kernel_rfl)] at hL
    obtain ⟨ps, ⟨g0, t0, cs0, f0, p0, q0, hg0, ht0, hv0, hd0, ⟨g1, t1, cs1, f1, p1, q1, hg1, ht1, hv1, hd1, ⟨g2, t2, cs2, f2, p2, q2, hg2, ht2, hv2, hd2, _, _⟩, _⟩, _⟩, _, _⟩ := hL
    obtain rfl := Option.some.inj ((show Tryz.prog.globalNamed "internal/strconv.uint64pow10" = some 2 by kernel_rfl).symm.trans hg2)
    obtain rfl := Option.some.inj ((show (Tryz.prog.globals[2]?).map (·.type) = some 194 by kernel_rfl).symm.trans ht2)
    exact glob_of_var hv2 rfl hd2
  have hval : ∀ (j : Nat) t v, Tryz.f7.params[j]? = some t → args[j]? = some v → Value.okWide Tryz.prog W .any base t v := hval0
  have hW' := hW
  obtain ⟨p, q, hA0, hV, rfl, hfz, hnd⟩ := hW
  have hA : DataW.TrodAll enc Tryz.prog W 0 (fun _ => true) true Tryz.f7.params.toList args.toList ds p := hA0
  rw [Tryz.params7] at hA hval
  obtain ⟨v0, vs0, d0, ds0, p0, q0, hargs, rfl, rfl, h0, r0⟩ := trodAll_cons hA
  obtain ⟨v1, vs1, d1, ds1, p1, q1, rfl, rfl, rfl, h1, r1⟩ := trodAll_cons r0
  obtain ⟨v2, vs2, d2, ds2, p2, q2, rfl, rfl, rfl, h2, r2⟩ := trodAll_cons r1
  obtain ⟨rfl, rfl, rfl⟩ := trodAll_nil r2
  obtain rfl : args = #[v0, v1, v2] := by cases args; simp_all
  obtain ⟨rfl, rfl⟩ := trodVars_none hV
  obtain ⟨x0, wx0, e0⟩ := open_sh (sh := shE) (by kernel_rfl) (hval 0 22 v0 rfl rfl) h0
  obtain ⟨l0, hl0⟩ := cfs_dv x0
  rw [hl0] at e0
  obtain ⟨x1, wx1, e1⟩ := open_sh (sh := shE) (by kernel_rfl) (hval 1 22 v1 rfl rfl) h1
  obtain ⟨l1, hl1⟩ := cfs_dv x1
  rw [hl1] at e1
  obtain ⟨x2, wx2, e2⟩ := open_sh (sh := shE) (by kernel_rfl) (hval 2 22 v2 rfl rfl) h2
  obtain ⟨l2, hl2⟩ := cfs_dv x2
  rw [hl2] at e2
  refine (calls_of_true (lawInv l0 l1 l2) W [v0, v1, v2] rfl (fun j v x hv hx => ?_) hG).mono fun e W' ⟨he, bel⟩ => ?_
  · match j, hv, hx with
    | 0, hv, hx => cases hv; cases hx; exact e0
    | 1, hv, hx => cases hv; cases hx; exact e1
    | 2, hv, hx => cases hv; cases hx; exact e2
    | j + 3, hv, _ => simp at hv
  · subst he
    exact ⟨_, rfl, law_post hW' rfl rfl rfl expressionInverse_reads bel⟩

theorem expressionInversefact0 : Rows.expressionInverseRow.wf (OpenSpec.ofChange Rows.expressionInverseSpec) = true := by kernel_rfl
theorem expressionInversefact3 : Tryz.f7.params.all (Tryz.prog.readableRec ·) = true := by kernel_rfl
theorem expressionInversefact4 : namedTie Tryz.prog Rows.expressionInverseRow.named Rows.expressionInverseSpec.vars = true := by kernel_rfl
theorem expressionInversefact5 : (Rows.expressionInverseRow.stops == []) = true := by kernel_rfl
theorem expressionInversefact7 : (Rows.expressionInverseRow.knobs == []) = true := by kernel_rfl
theorem expressionInversefact9 : (Rows.expressionInverseRow.inPlace == Tryz.prog.inPlace 7) = true := by kernel_rfl
theorem expressionInversefact10 : (Rows.expressionInverseRow.unfollowed == Tryz.prog.unfollowed 7) = true := by kernel_rfl
theorem expressionInversefact11 : (Rows.expressionInverseRow.recurses == Tryz.prog.recurses 7) = true := by kernel_rfl
theorem expressionInversefact12 : (Rows.expressionInverseRow.named == Tryz.prog.varsNamed 7) = true := by kernel_rfl
theorem expressionInversefact13 : (Rows.expressionInverseRow.maps == (Tryz.f7.params.toList ++ Rows.expressionInverseSpec.plain.varTypes Tryz.prog).any (Tryz.prog.mapsRec ·)) = true := by kernel_rfl
theorem expressionInversefact14 : (Rows.expressionInverseRow.ifaces == (Tryz.f7.params.toList ++ Rows.expressionInverseSpec.plain.varTypes Tryz.prog).any (Tryz.prog.ifacesRec ·)) = true := by kernel_rfl
theorem expressionInversefact15 : (Rows.expressionInverseRow.mapsOut == Tryz.prog.mapsAmong Tryz.f7.resultTypes.toList) = true := by kernel_rfl
theorem expressionInversefact16 : (Rows.expressionInverseRow.loops == (Tryz.f7.params.toList ++ Rows.expressionInverseSpec.plain.varTypes Tryz.prog).any (Tryz.prog.loopsFrom ·)) = true := by kernel_rfl
theorem expressionInversefact17 : (Rows.expressionInverseRow.wideKeys == (Tryz.f7.params.toList ++ Rows.expressionInverseSpec.plain.varTypes Tryz.prog ++ Tryz.f7.resultTypes.toList).any (Tryz.prog.wideKeysFrom ·)) = true := by kernel_rfl
theorem expressionInversefact18 : Rows.expressionInverseSpec.vars.all (Tryz.prog.varReadable ·) = true := by kernel_rfl
theorem expressionInversefact19 : Tryz.f7.resultTypes.all (fun t => Tryz.prog.readableRec t && decide (t < Tryz.prog.types.size)) = true := by kernel_rfl
theorem expressionInversefact20 : (Rows.expressionInverseRow.ifacesOut == Tryz.f7.resultTypes.toList.any (Tryz.prog.ifacesRec ·)) = true := by kernel_rfl
theorem expressionInversefact21 : (Rows.expressionInverseRow.loopsOut == Tryz.f7.resultTypes.toList.any (Tryz.prog.loopsFrom ·)) = true := by kernel_rfl
theorem expressionInversefact22 : (Rows.expressionInverseRow.plainKeys == Tryz.prog.plainKeys) = true := by rw [sharedplainKeys]; rfl
theorem expressionInversefact23 : Rows.expressionInverseRow.shortTexts.isNone = true := by kernel_rfl
theorem expressionInversefact26 : (Rows.expressionInverseRow.lifted == Tryz.prog.liftsFinal) = true := by rw [sharedliftsFinal]; rfl
theorem expressionInversefact27 : (Tryz.prog.make == some Rows.expressionInverseRow.make) = true := by kernel_rfl
theorem expressionInversefact28 : (Rows.expressionInverseRow.kinds == (if Rows.expressionInverseRow.domain.isEmpty then [] else Tryz.f7.params.toList.map fun t => match Tryz.prog.underlying t with | some (.int k) => some k | _ => none)) = true := by kernel_rfl
theorem expressionInversefact29 : (Rows.expressionInverseRow.pinned == Rows.expressionInverseRow.pinnedBy) = true := by kernel_rfl
theorem expressionInversefact30 : (Rows.expressionInverseRow.veiled == (Tryz.f7.params.toList ++ Rows.expressionInverseSpec.plain.varTypes Tryz.prog ++ Tryz.f7.resultTypes.toList).any (Tryz.prog.veiledRec ·)) = true := by kernel_rfl
theorem expressionInversefact31 : Rows.expressionInverseRow.veiledFits Tryz.prog Tryz.f7.params.toList (Tryz.f7.params.toList ++ Rows.expressionInverseSpec.plain.varTypes Tryz.prog ++ Tryz.f7.resultTypes.toList) = true := by kernel_rfl
set_option maxRecDepth 100000 in
theorem expressionInverseclosed : joinedFacts Tryz.prog 7 Tryz.f7 Rows.expressionInverseSpec Rows.expressionInverseRow = true := (and_mk (and_mk (and_mk (and_mk (and_mk (and_mk (and_mk (and_mk (and_mk (and_mk (and_mk (and_mk (and_mk (and_mk (and_mk (and_mk (and_mk (and_mk (and_mk (and_mk (and_mk (and_mk (and_mk (and_mk (and_mk (and_mk (and_mk (and_mk (and_mk (and_mk (and_mk expressionInversefact0 sharedfact1) sharedfact2) expressionInversefact3) expressionInversefact4) expressionInversefact5) sharedfact6) expressionInversefact7) sharedfact8) expressionInversefact9) expressionInversefact10) expressionInversefact11) expressionInversefact12) expressionInversefact13) expressionInversefact14) expressionInversefact15) expressionInversefact16) expressionInversefact17) expressionInversefact18) expressionInversefact19) expressionInversefact20) expressionInversefact21) expressionInversefact22) expressionInversefact23) sharedfact24) sharedfact25) expressionInversefact26) expressionInversefact27) expressionInversefact28) expressionInversefact29) expressionInversefact30) expressionInversefact31)

theorem expressionInverse_named : Tryz.prog.funcNamed Rows.expressionInverseRow.func = some 7 := by kernel_rfl
theorem expressionInverse_wrap : Tryz.f7.isWrapper Tryz.prog Rows.expressionInverseRow.wrapper Rows.expressionInverseRow.mainSum := by
  unfold Func.isWrapper
  first | (rw [if_pos (by decide +kernel)]; kernel_rfl) | (rw [if_neg (by decide +kernel)]; exact ⟨rfl, rfl⟩)
theorem expressionInverse_inst : Tryz.f7.isInstance Tryz.prog Rows.expressionInverseRow.origin Rows.expressionInverseRow.targs := of_decide_eq_true (by kernel_rfl)
theorem expressionInverse_over : Rows.expressionInverseRow.holds Tryz.pinned (OpenSpec.ofChange Rows.expressionInverseSpec) :=
  OpenClaim.holds_of_wide 7 Tryz.f7 rfl rfl rfl rfl rfl rfl rfl ⟨rfl, rfl, rfl, rfl, rfl⟩ rfl rfl rfl rfl rfl expressionInverse_named Tryz.func7 expressionInverseclosed expressionInverse_inst expressionInverse_wrap
    (fun os started H enc _ => expressionInverse_lifted os started H enc)
theorem ExpressionInverse_card : Rows.ExpressionInverseCardSaid :=
  Claim7.holds_tied_plain_at .later [] [.data, .data, .data, .data, .sentinel, .sentinel, .pinned] true (true, "d761a78bd2b14ca02b9ebb070528750c74a4774c998cbef14576fe307859d78b") true expressionInverse_over (fun _ h => by cases h) (by kernel_rfl) (fun _ h => by cases h) expressionInverse_row_tie rfl ⟨rfl, rfl⟩ (by kernel_rfl) rfl
    (fun f fn hf hfn => by
      obtain rfl : f = 7 := Option.some.inj (expressionInverse_named.symm.trans hf) |>.symm
      obtain rfl : fn = Tryz.f7 := (Option.some.inj (Tryz.func7.symm.trans hfn)).symm
      exact ⟨by kernel_rfl, fun j t ht => by
        rw [Tryz.params7] at ht
        have hm : t ∈ [22, 22, 22] := by simpa using Array.mem_of_getElem? ht
        have hall : ([22, 22, 22].all fun u => !Tryz.prog.wantsStandIn u) = true := by kernel_rfl
        exact (show Tryz.prog.wantsStandIn t = false by simpa using List.all_eq_true.1 hall t hm)⟩)
    (by kernel_rfl)
#print axioms ExpressionInverse_card
end Go.Proofs.YtmfeinilbjfnpaaGreatDoor
