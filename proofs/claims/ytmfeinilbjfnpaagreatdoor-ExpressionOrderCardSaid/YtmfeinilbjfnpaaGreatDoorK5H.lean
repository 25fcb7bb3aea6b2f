/- The law ExpressionOrder returns true for every input, and each argument reads afterwards as before; the tied card of it. Conditions: none, but that the listed package variables hold what the program's text lays. -/
import Derived.Test.YtmfeinilbjfnpaaGreatDoorB5
import Derived.Test.YtmfeinilbjfnpaaGreatDoorB7
import Derived.Test.YtmfeinilbjfnpaaGreatDoorB6
import Derived.Test.YtmfeinilbjfnpaaGreatDoorCards
import Derived.Test.YtmfeinilbjfnpaaGreatDoorTie
import Derived.SevenTiedAt
namespace Go.Proofs.YtmfeinilbjfnpaaGreatDoor
open Go.ChangeShapes Go.WideShapes Go.ChangeAt Go.RowKit Px

theorem expressionOrder_reads : ∀ t ∈ Tryz.f5.params.toList, Tryz.prog.readableRec t = true ∧ t < Tryz.prog.types.size := by
  rw [Tryz.params5]
  intro t ht
  have : t = 22 ∨ t = 5 ∨ t = 23 := by simp at ht; omega
  rcases this with rfl | rfl | rfl
  · exact ⟨by kernel_rfl, of_decide_eq_true (by kernel_rfl)⟩
  · exact ⟨by kernel_rfl, of_decide_eq_true (by kernel_rfl)⟩
  · exact ⟨by kernel_rfl, of_decide_eq_true (by kernel_rfl)⟩

set_option maxRecDepth 100000 in
theorem expressionOrder_lifted (os : Os) (started : os.Started) (H : Type) (enc : TypeId × Value → H) :
    ReturnsInHanded {} Tryz.checked os 5 .any (fun w args => (Rows.expressionOrderSpec.pre enc Tryz.prog Tryz.f5 Rows.expressionOrderRow.domain false w args ∧ laidMetH Tryz.prog Rows.expressionOrderRow.laid w) ∧ sizedMet enc Tryz.prog Tryz.f5 (OpenSpec.ofChange Rows.expressionOrderSpec) false w args)
      (Rows.expressionOrderSpec.post enc Tryz.prog Tryz.f5 false true false false) := by
  refine returnsInHanded_of_change_and (C := Tryz.checked) (X := fun w _ => laidMetH Tryz.prog Rows.expressionOrderRow.laid w) (fun _ _ _ hh h => h.of_heap hh) own started (by kernel_rfl) Tryz.func5
    (ChangeSpec.witness_shaped (enc := enc) (C := Tryz.checked) (os := os) (X := fun w _ => laidMetH Tryz.prog Rows.expressionOrderRow.laid w) false (World.laidAll Tryz.prog os Rows.expressionOrderRow.laid) #[.slice none 0 0, .int .u8 0, .slice none 0 0] 8 (World.laidAll_os _ _ _)
      (World.shaped_of_ZipB (by kernel_rfl) (by kernel_rfl)) (by kernel_rfl) (by kernel_rfl) (by kernel_rfl)
      (by rw [MakeChecks.laidMetH_plain _ _ _ (by kernel_rfl)]; exact laidMet_laidAll _ (by kernel_rfl) (by kernel_rfl))) ?_
  intro W base args ds gs before hval0 hW hcnd _ hL _
  have hG : GlobOk (fun _ _ => True) W := by
    rw [MakeChecks.laidMetH_plain _ _ _ (by kernel_rfl)] at hL
    obtain ⟨ps, ⟨g0, t0, cs0, f0, p0, q0, hg0, ht0, hv0, hd0, ⟨g1, t1, cs1, f1, p1, q1, hg1, ht1, hv1, hd1, ⟨g2, t2, cs2, f2, p2, q2, hg2, ht2, hv2, hd2, _, _⟩, _⟩, _⟩, _, _⟩ := hL
    obtain rfl := Option.some.inj ((show Tryz.prog.globalNamed "internal/strconv.uint64pow10" = some 2 by kernel_rfl).symm.trans hg2)
    obtain rfl := Option.some.inj ((show (Tryz.prog.globals[2]?).map (·.type) = some 194 by kernel_rfl).symm.trans ht2)
    exact glob_of_var hv2 rfl hd2
  have hval : ∀ (j : Nat) t v, Tryz.f5.params[j]? = some t → args[j]? = some v → Value.okWide Tryz.prog W .any base t v := hval0
  have hW' := hW
  obtain ⟨p, q, hA0, hV, rfl, hfz, hnd⟩ := hW
  have hA : DataW.TrodAll enc Tryz.prog W 0 (fun _ => true) true Tryz.f5.params.toList args.toList ds p := hA0
  rw [Tryz.params5] at hA hval
  obtain ⟨v0, vs0, d0, ds0, p0, q0, hargs, rfl, rfl, h0, r0⟩ := trodAll_cons hA
  obtain ⟨v1, vs1, d1, ds1, p1, q1, rfl, rfl, rfl, h1, r1⟩ := trodAll_cons r0
  obtain ⟨v2, vs2, d2, ds2, p2, q2, rfl, rfl, rfl, h2, r2⟩ := trodAll_cons r1
  obtain ⟨rfl, rfl, rfl⟩ := trodAll_nil r2
  obtain rfl : args = #[v0, v1, v2] := by cases args; simp_all
  obtain ⟨rfl, rfl⟩ := trodVars_none hV
  obtain ⟨x0, wx0, e0⟩ := open_sh (sh := shE) (by kernel_rfl) (hval 0 22 v0 rfl rfl) h0
  obtain ⟨l0, hl0⟩ := cfs_dv x0
  rw [hl0] at e0
  obtain ⟨x1, wx1, e1⟩ := open_sh (sh := .i .u8) (by kernel_rfl) (hval 1 5 v1 rfl rfl) h1
  have bu1 : 0 ≤ (x1 : Int) ∧ (x1 : Int) ≤ 255 := by simpa [Dat.ok, Lit.wf, IntKind.min, IntKind.max, IntKind.signed, IntKind.bits] using wx1
  obtain ⟨x2, wx2, e2⟩ := open_sh (sh := shE) (by kernel_rfl) (hval 2 23 v2 rfl rfl) h2
  obtain ⟨l2, hl2⟩ := cfs_dv x2
  rw [hl2] at e2
  refine (calls_of_true (lawOrd l0 x1 bu1.1 bu1.2 l2) W [v0, v1, v2] rfl (fun j v x hv hx => ?_) hG).mono fun e W' ⟨he, bel⟩ => ?_
  · match j, hv, hx with
    | 0, hv, hx => cases hv; cases hx; exact e0
    | 1, hv, hx => cases hv; cases hx; exact e1
    | 2, hv, hx => cases hv; cases hx; exact e2
    | j + 3, hv, _ => simp at hv
  · subst he
    exact ⟨_, rfl, law_post hW' rfl rfl rfl expressionOrder_reads bel⟩

theorem expressionOrderfact0 : Rows.expressionOrderRow.wf (OpenSpec.ofChange Rows.expressionOrderSpec) = true := by kernel_rfl
theorem expressionOrderfact3 : Tryz.f5.params.all (Tryz.prog.readableRec ·) = true := by kernel_rfl
theorem expressionOrderfact4 : namedTie Tryz.prog Rows.expressionOrderRow.named Rows.expressionOrderSpec.vars = true := by kernel_rfl
theorem expressionOrderfact5 : (Rows.expressionOrderRow.stops == []) = true := by kernel_rfl
theorem expressionOrderfact7 : (Rows.expressionOrderRow.knobs == []) = true := by kernel_rfl
theorem expressionOrderfact9 : (Rows.expressionOrderRow.inPlace == Tryz.prog.inPlace 5) = true := by kernel_rfl
theorem expressionOrderfact10 : (Rows.expressionOrderRow.unfollowed == Tryz.prog.unfollowed 5) = true := by kernel_rfl
theorem expressionOrderfact11 : (Rows.expressionOrderRow.recurses == Tryz.prog.recurses 5) = true := by kernel_rfl
theorem expressionOrderfact12 : (Rows.expressionOrderRow.named == Tryz.prog.varsNamed 5) = true := by kernel_rfl
theorem expressionOrderfact13 : (Rows.expressionOrderRow.maps == (Tryz.f5.params.toList ++ Rows.expressionOrderSpec.plain.varTypes Tryz.prog).any (Tryz.prog.mapsRec ·)) = true := by kernel_rfl
theorem expressionOrderfact14 : (Rows.expressionOrderRow.ifaces == (Tryz.f5.params.toList ++ Rows.expressionOrderSpec.plain.varTypes Tryz.prog).any (Tryz.prog.ifacesRec ·)) = true := by kernel_rfl
theorem expressionOrderfact15 : (Rows.expressionOrderRow.mapsOut == Tryz.prog.mapsAmong Tryz.f5.resultTypes.toList) = true := by kernel_rfl
theorem expressionOrderfact16 : (Rows.expressionOrderRow.loops == (Tryz.f5.params.toList ++ Rows.expressionOrderSpec.plain.varTypes Tryz.prog).any (Tryz.prog.loopsFrom ·)) = true := by kernel_rfl
theorem expressionOrderfact17 : (Rows.expressionOrderRow.wideKeys == (Tryz.f5.params.toList ++ Rows.expressionOrderSpec.plain.varTypes Tryz.prog ++ Tryz.f5.resultTypes.toList).any (Tryz.prog.wideKeysFrom ·)) = true := by kernel_rfl
theorem expressionOrderfact18 : Rows.expressionOrderSpec.vars.all (Tryz.prog.varReadable ·) = true := by kernel_rfl
theorem expressionOrderfact19 : Tryz.f5.resultTypes.all (fun t => Tryz.prog.readableRec t && decide (t < Tryz.prog.types.size)) = true := by kernel_rfl
theorem expressionOrderfact20 : (Rows.expressionOrderRow.ifacesOut == Tryz.f5.resultTypes.toList.any (Tryz.prog.ifacesRec ·)) = true := by kernel_rfl
theorem expressionOrderfact21 : (Rows.expressionOrderRow.loopsOut == Tryz.f5.resultTypes.toList.any (Tryz.prog.loopsFrom ·)) = true := by kernel_rfl
theorem expressionOrderfact22 : (Rows.expressionOrderRow.plainKeys == Tryz.prog.plainKeys) = true := by rw [sharedplainKeys]; rfl
theorem expressionOrderfact23 : Rows.expressionOrderRow.shortTexts.isNone = true := by kernel_rfl
theorem expressionOrderfact26 : (Rows.expressionOrderRow.lifted == Tryz.prog.liftsFinal) = true := by rw [sharedliftsFinal]; rfl
theorem expressionOrderfact27 : (Tryz.prog.make == some Rows.expressionOrderRow.make) = true := by kernel_rfl
theorem expressionOrderfact28 : (Rows.expressionOrderRow.kinds == (if Rows.expressionOrderRow.domain.isEmpty then [] else Tryz.f5.params.toList.map fun t => match Tryz.prog.underlying t with | some (.int k) => some k | _ => none)) = true := by kernel_rfl
theorem expressionOrderfact29 : (Rows.expressionOrderRow.pinned == Rows.expressionOrderRow.pinnedBy) = true := by kernel_rfl
theorem expressionOrderfact30 : (Rows.expressionOrderRow.veiled == (Tryz.f5.params.toList ++ Rows.expressionOrderSpec.plain.varTypes Tryz.prog ++ Tryz.f5.resultTypes.toList).any (Tryz.prog.veiledRec ·)) = true := by kernel_rfl
theorem expressionOrderfact31 : Rows.expressionOrderRow.veiledFits Tryz.prog Tryz.f5.params.toList (Tryz.f5.params.toList ++ Rows.expressionOrderSpec.plain.varTypes Tryz.prog ++ Tryz.f5.resultTypes.toList) = true := by kernel_rfl
set_option maxRecDepth 100000 in
theorem expressionOrderclosed : joinedFacts Tryz.prog 5 Tryz.f5 Rows.expressionOrderSpec Rows.expressionOrderRow = true := (and_mk (and_mk (and_mk (and_mk (and_mk (and_mk (and_mk (and_mk (and_mk (and_mk (and_mk (and_mk (and_mk (and_mk (and_mk (and_mk (and_mk (and_mk (and_mk (and_mk (and_mk (and_mk (and_mk (and_mk (and_mk (and_mk (and_mk (and_mk (and_mk (and_mk (and_mk expressionOrderfact0 sharedfact1) sharedfact2) expressionOrderfact3) expressionOrderfact4) expressionOrderfact5) sharedfact6) expressionOrderfact7) sharedfact8) expressionOrderfact9) expressionOrderfact10) expressionOrderfact11) expressionOrderfact12) expressionOrderfact13) expressionOrderfact14) expressionOrderfact15) expressionOrderfact16) expressionOrderfact17) expressionOrderfact18) expressionOrderfact19) expressionOrderfact20) expressionOrderfact21) expressionOrderfact22) expressionOrderfact23) sharedfact24) sharedfact25) expressionOrderfact26) expressionOrderfact27) expressionOrderfact28) expressionOrderfact29) expressionOrderfact30) expressionOrderfact31)

theorem expressionOrder_named : Tryz.prog.funcNamed Rows.expressionOrderRow.func = some 5 := by kernel_rfl
theorem expressionOrder_wrap : Tryz.f5.isWrapper Tryz.prog Rows.expressionOrderRow.wrapper Rows.expressionOrderRow.mainSum := by
  unfold Func.isWrapper
  first | (rw [if_pos (by decide +kernel)]; kernel_rfl) | (rw [if_neg (by decide +kernel)]; exact ⟨rfl, rfl⟩)
theorem expressionOrder_inst : Tryz.f5.isInstance Tryz.prog Rows.expressionOrderRow.origin Rows.expressionOrderRow.targs := of_decide_eq_true (by kernel_rfl)
theorem expressionOrder_over : Rows.expressionOrderRow.holds Tryz.pinned (OpenSpec.ofChange Rows.expressionOrderSpec) :=
  OpenClaim.holds_of_wide 5 Tryz.f5 rfl rfl rfl rfl rfl rfl rfl ⟨rfl, rfl, rfl, rfl, rfl⟩ rfl rfl rfl rfl rfl expressionOrder_named Tryz.func5 expressionOrderclosed expressionOrder_inst expressionOrder_wrap
    (fun os started H enc _ => expressionOrder_lifted os started H enc)
theorem ExpressionOrder_card : Rows.ExpressionOrderCardSaid :=
  Claim7.holds_tied_plain_at .later [] [.data, .data, .data, .data, .sentinel, .sentinel, .pinned] true (true, "d761a78bd2b14ca02b9ebb070528750c74a4774c998cbef14576fe307859d78b") true expressionOrder_over (fun _ h => by cases h) (by kernel_rfl) (fun _ h => by cases h) expressionOrder_row_tie rfl ⟨rfl, rfl⟩ (by kernel_rfl) rfl
    (fun f fn hf hfn => by
      obtain rfl : f = 5 := Option.some.inj (expressionOrder_named.symm.trans hf) |>.symm
      obtain rfl : fn = Tryz.f5 := (Option.some.inj (Tryz.func5.symm.trans hfn)).symm
      exact ⟨by kernel_rfl, fun j t ht => by
        rw [Tryz.params5] at ht
        have hm : t ∈ [22, 5, 23] := by simpa using Array.mem_of_getElem? ht
        have hall : ([22, 5, 23].all fun u => !Tryz.prog.wantsStandIn u) = true := by kernel_rfl
        exact (show Tryz.prog.wantsStandIn t = false by simpa using List.all_eq_true.1 hall t hm)⟩)
    (by kernel_rfl)
#print axioms ExpressionOrder_card
end Go.Proofs.YtmfeinilbjfnpaaGreatDoor
