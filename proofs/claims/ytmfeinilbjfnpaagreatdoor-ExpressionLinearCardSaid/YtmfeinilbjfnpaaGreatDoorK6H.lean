/- The law ExpressionLinear returns true for every input, and each argument reads afterwards as before; the tied card of it. Conditions: none, but that the listed package variables hold what the program's text lays. -/
import Derived.Test.YtmfeinilbjfnpaaGreatDoorB5
import Derived.Test.YtmfeinilbjfnpaaGreatDoorB7
import Derived.Test.YtmfeinilbjfnpaaGreatDoorB6
import Derived.Test.YtmfeinilbjfnpaaGreatDoorCards
import Derived.Test.YtmfeinilbjfnpaaGreatDoorTie
import Derived.SevenTiedAt
namespace Go.Proofs.YtmfeinilbjfnpaaGreatDoor
open Go.ChangeShapes Go.WideShapes Go.ChangeAt Go.RowKit Px

theorem expressionLinear_reads : ∀ t ∈ Tryz.f6.params.toList, Tryz.prog.readableRec t = true ∧ t < Tryz.prog.types.size := by
  rw [Tryz.params6]
  intro t ht
  have : t = 22 ∨ t = 27 ∨ t = 23 := by simp at ht; omega
  rcases this with rfl | rfl | rfl
  · exact ⟨by kernel_rfl, of_decide_eq_true (by kernel_rfl)⟩
  · exact ⟨by kernel_rfl, of_decide_eq_true (by kernel_rfl)⟩
  · exact ⟨by kernel_rfl, of_decide_eq_true (by kernel_rfl)⟩

set_option maxRecDepth 100000 in
theorem expressionLinear_lifted (os : Os) (started : os.Started) (H : Type) (enc : TypeId × Value → H) :
    ReturnsInHanded {} Tryz.checked os 6 .any (fun w args => (Rows.expressionLinearSpec.pre enc Tryz.prog Tryz.f6 Rows.expressionLinearRow.domain false w args ∧ laidMetH Tryz.prog Rows.expressionLinearRow.laid w) ∧ sizedMet enc Tryz.prog Tryz.f6 (OpenSpec.ofChange Rows.expressionLinearSpec) false w args)
      (Rows.expressionLinearSpec.post enc Tryz.prog Tryz.f6 false true false false) := by
  refine returnsInHanded_of_change_and (C := Tryz.checked) (X := fun w _ => laidMetH Tryz.prog Rows.expressionLinearRow.laid w) (fun _ _ _ hh h => h.of_heap hh) own started (by kernel_rfl) Tryz.func6
    (ChangeSpec.witness_shaped (enc := enc) (C := Tryz.checked) (os := os) (X := fun w _ => laidMetH Tryz.prog Rows.expressionLinearRow.laid w) false (World.laidAll Tryz.prog os Rows.expressionLinearRow.laid) #[.slice none 0 0, .slice none 0 0, .string ⟨#[]⟩, .slice none 0 0] 8 (World.laidAll_os _ _ _)
      (World.shaped_of_ZipB (by kernel_rfl) (by kernel_rfl)) (by kernel_rfl) (by kernel_rfl) (by kernel_rfl)
      (by rw [MakeChecks.laidMetH_plain _ _ _ (by kernel_rfl)]; exact laidMet_laidAll _ (by kernel_rfl) (by kernel_rfl))) ?_
  intro W base args ds gs before hval0 hW hcnd _ hL _
  have hG : GlobOk (fun _ _ => True) W := by
    rw [MakeChecks.laidMetH_plain _ _ _ (by kernel_rfl)] at hL
    obtain ⟨ps, ⟨g0, t0, cs0, f0, p0, q0, hg0, ht0, hv0, hd0, ⟨g1, t1, cs1, f1, p1, q1, hg1, ht1, hv1, hd1, ⟨g2, t2, cs2, f2, p2, q2, hg2, ht2, hv2, hd2, _, _⟩, _⟩, _⟩, _, _⟩ := hL
    obtain rfl := Option.some.inj ((show Tryz.prog.globalNamed "internal/strconv.uint64pow10" = some 2 by kernel_rfl).symm.trans hg2)
    obtain rfl := Option.some.inj ((show (Tryz.prog.globals[2]?).map (·.type) = some 194 by kernel_rfl).symm.trans ht2)
    exact glob_of_var hv2 rfl hd2
  have hval : ∀ (j : Nat) t v, Tryz.f6.params[j]? = some t → args[j]? = some v → Value.okWide Tryz.prog W .any base t v := hval0
  have hW' := hW
  obtain ⟨p, q, hA0, hV, rfl, hfz, hnd⟩ := hW
  have hA : DataW.TrodAll enc Tryz.prog W 0 (fun _ => true) true Tryz.f6.params.toList args.toList ds p := hA0
  rw [Tryz.params6] at hA hval
  obtain ⟨v0, vs0, d0, ds0, p0, q0, hargs, rfl, rfl, h0, r0⟩ := trodAll_cons hA
  obtain ⟨v1, vs1, d1, ds1, p1, q1, rfl, rfl, rfl, h1, r1⟩ := trodAll_cons r0
  obtain ⟨v2, vs2, d2, ds2, p2, q2, rfl, rfl, rfl, h2, r2⟩ := trodAll_cons r1
  obtain ⟨v3, vs3, d3, ds3, p3, q3, rfl, rfl, rfl, h3, r3⟩ := trodAll_cons r2
  obtain ⟨rfl, rfl, rfl⟩ := trodAll_nil r3
  obtain rfl : args = #[v0, v1, v2, v3] := by cases args; simp_all
  obtain ⟨rfl, rfl⟩ := trodVars_none hV
  obtain ⟨x0, wx0, e0⟩ := open_sh (sh := shE) (by kernel_rfl) (hval 0 22 v0 rfl rfl) h0
  obtain ⟨l0, hl0⟩ := cfs_dv x0
  rw [hl0] at e0
  obtain ⟨x1, wx1, e1⟩ := open_sh (sh := shE) (by kernel_rfl) (hval 1 22 v1 rfl rfl) h1
  obtain ⟨l1, hl1⟩ := cfs_dv x1
  rw [hl1] at e1
  obtain ⟨x2, wx2, e2⟩ := open_sh (sh := .s) (by kernel_rfl) (hval 2 27 v2 rfl rfl) h2
  obtain ⟨x3, wx3, e3⟩ := open_sh (sh := shE) (by kernel_rfl) (hval 3 23 v3 rfl rfl) h3
  obtain ⟨l3, hl3⟩ := cfs_dv x3
  rw [hl3] at e3
  refine (calls_of_true (lawLin l0 l1 x2 l3) W [v0, v1, v2, v3] rfl (fun j v x hv hx => ?_) hG).mono fun e W' ⟨he, bel⟩ => ?_
  · match j, hv, hx with
    | 0, hv, hx => cases hv; cases hx; exact e0
    | 1, hv, hx => cases hv; cases hx; exact e1
    | 2, hv, hx => cases hv; cases hx; exact e2
    | 3, hv, hx => cases hv; cases hx; exact e3
    | j + 4, hv, _ => simp at hv
  · subst he
    exact ⟨_, rfl, law_post hW' rfl rfl rfl expressionLinear_reads bel⟩

theorem expressionLinearfact0 : Rows.expressionLinearRow.wf (OpenSpec.ofChange Rows.expressionLinearSpec) = true := by kernel_rfl
theorem expressionLinearfact3 : Tryz.f6.params.all (Tryz.prog.readableRec ·) = true := by kernel_rfl
theorem expressionLinearfact4 : namedTie Tryz.prog Rows.expressionLinearRow.named Rows.expressionLinearSpec.vars = true := by kernel_rfl
theorem expressionLinearfact5 : (Rows.expressionLinearRow.stops == []) = true := by kernel_rfl
theorem expressionLinearfact7 : (Rows.expressionLinearRow.knobs == []) = true := by kernel_rfl
theorem expressionLinearfact9 : (Rows.expressionLinearRow.inPlace == Tryz.prog.inPlace 6) = true := by kernel_rfl
theorem expressionLinearfact10 : (Rows.expressionLinearRow.unfollowed == Tryz.prog.unfollowed 6) = true := by kernel_rfl
theorem expressionLinearfact11 : (Rows.expressionLinearRow.recurses == Tryz.prog.recurses 6) = true := by kernel_rfl
theorem expressionLinearfact12 : (Rows.expressionLinearRow.named == Tryz.prog.varsNamed 6) = true := by kernel_rfl
theorem expressionLinearfact13 : (Rows.expressionLinearRow.maps == (Tryz.f6.params.toList ++ Rows.expressionLinearSpec.plain.varTypes Tryz.prog).any (Tryz.prog.mapsRec ·)) = true := by kernel_rfl
theorem expressionLinearfact14 : (Rows.expressionLinearRow.ifaces == (Tryz.f6.params.toList ++ Rows.expressionLinearSpec.plain.varTypes Tryz.prog).any (Tryz.prog.ifacesRec ·)) = true := by kernel_rfl
theorem expressionLinearfact15 : (Rows.expressionLinearRow.mapsOut == Tryz.prog.mapsAmong Tryz.f6.resultTypes.toList) = true := by kernel_rfl
theorem expressionLinearfact16 : (Rows.expressionLinearRow.loops == (Tryz.f6.params.toList ++ Rows.expressionLinearSpec.plain.varTypes Tryz.prog).any (Tryz.prog.loopsFrom ·)) = true := by kernel_rfl
theorem expressionLinearfact17 : (Rows.expressionLinearRow.wideKeys == (Tryz.f6.params.toList ++ Rows.expressionLinearSpec.plain.varTypes Tryz.prog ++ Tryz.f6.resultTypes.toList).any (Tryz.prog.wideKeysFrom ·)) = true := by kernel_rfl
theorem expressionLinearfact18 : Rows.expressionLinearSpec.vars.all (Tryz.prog.varReadable ·) = true := by kernel_rfl
theorem expressionLinearfact19 : Tryz.f6.resultTypes.all (fun t => Tryz.prog.readableRec t && decide (t < Tryz.prog.types.size)) = true := by kernel_rfl
theorem expressionLinearfact20 : (Rows.expressionLinearRow.ifacesOut == Tryz.f6.resultTypes.toList.any (Tryz.prog.ifacesRec ·)) = true := by kernel_rfl
theorem expressionLinearfact21 : (Rows.expressionLinearRow.loopsOut == Tryz.f6.resultTypes.toList.any (Tryz.prog.loopsFrom ·)) = true := by kernel_rfl
theorem expressionLinearfact22 : (Rows.expressionLinearRow.plainKeys == Tryz.prog.plainKeys) = true := by rw [sharedplainKeys]; rfl
theorem expressionLinearfact23 : Rows.expressionLinearRow.shortTexts.isNone = true := by kernel_rfl
theorem expressionLinearfact26 : (Rows.expressionLinearRow.lifted == Tryz.prog.liftsFinal) = true := by rw [sharedliftsFinal]; rfl
theorem expressionLinearfact27 : (Tryz.prog.make == some Rows.expressionLinearRow.make) = true := by kernel_rfl
theorem expressionLinearfact28 : (Rows.expressionLinearRow.kinds == (if Rows.expressionLinearRow.domain.isEmpty then [] else Tryz.f6.params.toList.map fun t => match Tryz.prog.underlying t with | some (.int k) => some k | _ => none)) = true := by kernel_rfl
theorem expressionLinearfact29 : (Rows.expressionLinearRow.pinned == Rows.expressionLinearRow.pinnedBy) = true := by kernel_rfl
theorem expressionLinearfact30 : (Rows.expressionLinearRow.veiled == (Tryz.f6.params.toList ++ Rows.expressionLinearSpec.plain.varTypes Tryz.prog ++ Tryz.f6.resultTypes.toList).any (Tryz.prog.veiledRec ·)) = true := by kernel_rfl
theorem expressionLinearfact31 : Rows.expressionLinearRow.veiledFits Tryz.prog Tryz.f6.params.toList (Tryz.f6.params.toList ++ Rows.expressionLinearSpec.plain.varTypes Tryz.prog ++ Tryz.f6.resultTypes.toList) = true := by kernel_rfl
set_option maxRecDepth 100000 in
theorem expressionLinearclosed : joinedFacts Tryz.prog 6 Tryz.f6 Rows.expressionLinearSpec Rows.expressionLinearRow = true := (and_mk (and_mk (and_mk (and_mk (and_mk (and_mk (and_mk (and_mk (and_mk (and_mk (and_mk (and_mk (and_mk (and_mk (and_mk (and_mk (and_mk (and_mk (and_mk (and_mk (and_mk (and_mk (and_mk (and_mk (and_mk (and_mk (and_mk (and_mk (and_mk (and_mk (and_mk expressionLinearfact0 sharedfact1) sharedfact2) expressionLinearfact3) expressionLinearfact4) expressionLinearfact5) sharedfact6) expressionLinearfact7) sharedfact8) expressionLinearfact9) expressionLinearfact10) expressionLinearfact11) expressionLinearfact12) expressionLinearfact13) expressionLinearfact14) expressionLinearfact15) expressionLinearfact16) expressionLinearfact17) expressionLinearfact18) expressionLinearfact19) expressionLinearfact20) expressionLinearfact21) expressionLinearfact22) expressionLinearfact23) sharedfact24) sharedfact25) expressionLinearfact26) expressionLinearfact27) expressionLinearfact28) expressionLinearfact29) expressionLinearfact30) expressionLinearfact31)

theorem expressionLinear_named : Tryz.prog.funcNamed Rows.expressionLinearRow.func = some 6 := by kernel_rfl
theorem expressionLinear_wrap : Tryz.f6.isWrapper Tryz.prog Rows.expressionLinearRow.wrapper Rows.expressionLinearRow.mainSum := by
  unfold Func.isWrapper
  first | (rw [if_pos (by decide +kernel)]; kernel_rfl) | (rw [if_neg (by decide +kernel)]; exact ⟨rfl, rfl⟩)
theorem expressionLinear_inst : Tryz.f6.isInstance Tryz.prog Rows.expressionLinearRow.origin Rows.expressionLinearRow.targs := of_decide_eq_true (by kernel_rfl)
theorem expressionLinear_over : Rows.expressionLinearRow.holds Tryz.pinned (OpenSpec.ofChange Rows.expressionLinearSpec) :=
  OpenClaim.holds_of_wide 6 Tryz.f6 rfl rfl rfl rfl rfl rfl rfl ⟨rfl, rfl, rfl, rfl, rfl⟩ rfl rfl rfl rfl rfl expressionLinear_named Tryz.func6 expressionLinearclosed expressionLinear_inst expressionLinear_wrap
    (fun os started H enc _ => expressionLinear_lifted os started H enc)
theorem ExpressionLinear_card : Rows.ExpressionLinearCardSaid :=
  Claim7.holds_tied_plain_at .later [] [.data, .data, .data, .data, .sentinel, .sentinel, .pinned] true (true, "d761a78bd2b14ca02b9ebb070528750c74a4774c998cbef14576fe307859d78b") true expressionLinear_over (fun _ h => by cases h) (by kernel_rfl) (fun _ h => by cases h) expressionLinear_row_tie rfl ⟨rfl, rfl⟩ (by kernel_rfl) rfl
    (fun f fn hf hfn => by
      obtain rfl : f = 6 := Option.some.inj (expressionLinear_named.symm.trans hf) |>.symm
      obtain rfl : fn = Tryz.f6 := (Option.some.inj (Tryz.func6.symm.trans hfn)).symm
      exact ⟨by kernel_rfl, fun j t ht => by
        rw [Tryz.params6] at ht
        have hm : t ∈ [22, 22, 27, 23] := by simpa using Array.mem_of_getElem? ht
        have hall : ([22, 22, 27, 23].all fun u => !Tryz.prog.wantsStandIn u) = true := by kernel_rfl
        exact (show Tryz.prog.wantsStandIn t = false by simpa using List.all_eq_true.1 hall t hm)⟩)
    (by kernel_rfl)
#print axioms ExpressionLinear_card
end Go.Proofs.YtmfeinilbjfnpaaGreatDoor
