/- The law ExpressionForms returns true for every input, and each argument reads afterwards as before; the tied card of it. Conditions: none, but that the listed package variables hold what the program's text lays. -/
import Derived.Test.YtmfeinilbjfnpaaGreatDoorB5
import Derived.Test.YtmfeinilbjfnpaaGreatDoorB8
import Derived.Test.YtmfeinilbjfnpaaGreatDoorB6
import Derived.Test.YtmfeinilbjfnpaaGreatDoorCards
import Derived.Test.YtmfeinilbjfnpaaGreatDoorTie
import Derived.SevenTiedAt
namespace Go.Proofs.YtmfeinilbjfnpaaGreatDoor
open Go.ChangeShapes Go.WideShapes Go.ChangeAt Go.RowKit Px

theorem expressionForms_reads : ∀ t ∈ Tryz.f8.params.toList, Tryz.prog.readableRec t = true ∧ t < Tryz.prog.types.size := by
  rw [Tryz.params8]
  intro t ht
  have : t = 22 ∨ t = 27 := by simp at ht; omega
  rcases this with rfl | rfl
  · exact ⟨by kernel_rfl, of_decide_eq_true (by kernel_rfl)⟩
  · exact ⟨by kernel_rfl, of_decide_eq_true (by kernel_rfl)⟩

set_option maxRecDepth 100000 in
theorem expressionForms_lifted (os : Os) (started : os.Started) (H : Type) (enc : TypeId × Value → H) :
    ReturnsInHanded {} Tryz.checked os 8 .any (fun w args => (Rows.expressionFormsSpec.pre enc Tryz.prog Tryz.f8 Rows.expressionFormsRow.domain false w args ∧ laidMetH Tryz.prog Rows.expressionFormsRow.laid w) ∧ sizedMet enc Tryz.prog Tryz.f8 (OpenSpec.ofChange Rows.expressionFormsSpec) false w args)
      (Rows.expressionFormsSpec.post enc Tryz.prog Tryz.f8 false true false false) := by
  refine returnsInHanded_of_change_and (C := Tryz.checked) (X := fun w _ => laidMetH Tryz.prog Rows.expressionFormsRow.laid w) (fun _ _ _ hh h => h.of_heap hh) own started (by kernel_rfl) Tryz.func8
    (ChangeSpec.witness_shaped (enc := enc) (C := Tryz.checked) (os := os) (X := fun w _ => laidMetH Tryz.prog Rows.expressionFormsRow.laid w) false (World.laidAll Tryz.prog os Rows.expressionFormsRow.laid) #[.slice none 0 0, .slice none 0 0, .string ⟨#[]⟩] 8 (World.laidAll_os _ _ _)
      (World.shaped_of_ZipB (by kernel_rfl) (by kernel_rfl)) (by kernel_rfl) (by kernel_rfl) (by kernel_rfl)
      (by rw [MakeChecks.laidMetH_plain _ _ _ (by kernel_rfl)]; exact laidMet_laidAll _ (by kernel_rfl) (by kernel_rfl))) ?_
  intro W base args ds gs before hval0 hW hcnd _ hL _
  have hG : GlobOk (fun _ _ => True) W := by
    rw [MakeChecks.laidMetH_plain _ _ _ (by kernel_rfl)] at hL
    obtain ⟨ps, ⟨g0, t0, cs0, f0, p0, q0, hg0, ht0, hv0, hd0, ⟨g1, t1, cs1, f1, p1, q1, hg1, ht1, hv1, hd1, ⟨g2, t2, cs2, f2, p2, q2, hg2, ht2, hv2, hd2, _, _⟩, _⟩, _⟩, _, _⟩ := hL
    obtain rfl := Option.some.inj ((show Tryz.prog.globalNamed "internal/strconv.uint64pow10" = some 2 by kernel_rfl).symm.trans hg2)
    obtain rfl := Option.some.inj ((show (Tryz.prog.globals[2]?).map (·.type) = some 194 by kernel_rfl).symm.trans ht2)
    exact glob_of_var hv2 rfl hd2
  have hval : ∀ (j : Nat) t v, Tryz.f8.params[j]? = some t → args[j]? = some v → Value.okWide Tryz.prog W .any base t v := hval0
  have hW' := hW
  obtain ⟨p, q, hA0, hV, rfl, hfz, hnd⟩ := hW
  have hA : DataW.TrodAll enc Tryz.prog W 0 (fun _ => true) true Tryz.f8.params.toList args.toList ds p := hA0
  rw [Tryz.params8] at hA hval
  obtain ⟨v0, vs0, d0, ds0, p0, q0, hargs, rfl, rfl, h0, r0⟩ := trodAll_cons hA
  obtain ⟨v1, vs1, d1, ds1, p1, q1, rfl, rfl, rfl, h1, r1⟩ := trodAll_cons r0
  obtain ⟨v2, vs2, d2, ds2, p2, q2, rfl, rfl, rfl, h2, r2⟩ := trodAll_cons r1
  obtain ⟨rfl, rfl, rfl⟩ := trodAll_nil r2
  obtain rfl : args = #[v0, v1, v2] := by cases args; simp_all
  obtain ⟨rfl, rfl⟩ := trodVars_none hV
  obtain ⟨x0, wx0, e0⟩ := open_sh (sh := shE) (by kernel_rfl) (hval 0 22 v0 rfl rfl) h0
  obtain ⟨l0, hl0⟩ := cfs_dv x0
  rw [hl0] at e0
  obtain ⟨x1, wx1, e1⟩ := open_sh (sh := shE) (by kernel_rfl) (hval 1 22 v1 rfl rfl) h1
  obtain ⟨l1, hl1⟩ := cfs_dv x1
  rw [hl1] at e1
  obtain ⟨x2, wx2, e2⟩ := open_sh (sh := .s) (by kernel_rfl) (hval 2 27 v2 rfl rfl) h2
  refine (calls_of_true (lawForm l0 l1 x2) W [v0, v1, v2] rfl (fun j v x hv hx => ?_) hG).mono fun e W' ⟨he, bel⟩ => ?_
  · match j, hv, hx with
    | 0, hv, hx => cases hv; cases hx; exact e0
    | 1, hv, hx => cases hv; cases hx; exact e1
    | 2, hv, hx => cases hv; cases hx; exact e2
    | j + 3, hv, _ => simp at hv
  · subst he
    exact ⟨_, rfl, law_post hW' rfl rfl rfl expressionForms_reads bel⟩

theorem expressionFormsfact0 : Rows.expressionFormsRow.wf (OpenSpec.ofChange Rows.expressionFormsSpec) = true := by kernel_rfl
theorem expressionFormsfact3 : Tryz.f8.params.all (Tryz.prog.readableRec ·) = true := by kernel_rfl
theorem expressionFormsfact4 : namedTie Tryz.prog Rows.expressionFormsRow.named Rows.expressionFormsSpec.vars = true := by kernel_rfl
theorem expressionFormsfact5 : (Rows.expressionFormsRow.stops == []) = true := by kernel_rfl
theorem expressionFormsfact7 : (Rows.expressionFormsRow.knobs == []) = true := by kernel_rfl
theorem expressionFormsfact9 : (Rows.expressionFormsRow.inPlace == Tryz.prog.inPlace 8) = true := by kernel_rfl
theorem expressionFormsfact10 : (Rows.expressionFormsRow.unfollowed == Tryz.prog.unfollowed 8) = true := by kernel_rfl
theorem expressionFormsfact11 : (Rows.expressionFormsRow.recurses == Tryz.prog.recurses 8) = true := by kernel_rfl
theorem expressionFormsfact12 : (Rows.expressionFormsRow.named == Tryz.prog.varsNamed 8) = true := by kernel_rfl
theorem expressionFormsfact13 : (Rows.expressionFormsRow.maps == (Tryz.f8.params.toList ++ Rows.expressionFormsSpec.plain.varTypes Tryz.prog).any (Tryz.prog.mapsRec ·)) = true := by kernel_rfl
theorem expressionFormsfact14 : (Rows.expressionFormsRow.ifaces == (Tryz.f8.params.toList ++ Rows.expressionFormsSpec.plain.varTypes Tryz.prog).any (Tryz.prog.ifacesRec ·)) = true := by kernel_rfl
theorem expressionFormsfact15 : (Rows.expressionFormsRow.mapsOut == Tryz.prog.mapsAmong Tryz.f8.resultTypes.toList) = true := by kernel_rfl
theorem expressionFormsfact16 : (Rows.expressionFormsRow.loops == (Tryz.f8.params.toList ++ Rows.expressionFormsSpec.plain.varTypes Tryz.prog).any (Tryz.prog.loopsFrom ·)) = true := by kernel_rfl
theorem expressionFormsfact17 : (Rows.expressionFormsRow.wideKeys == (Tryz.f8.params.toList ++ Rows.expressionFormsSpec.plain.varTypes Tryz.prog ++ Tryz.f8.resultTypes.toList).any (Tryz.prog.wideKeysFrom ·)) = true := by kernel_rfl
theorem expressionFormsfact18 : Rows.expressionFormsSpec.vars.all (Tryz.prog.varReadable ·) = true := by kernel_rfl
theorem expressionFormsfact19 : Tryz.f8.resultTypes.all (fun t => Tryz.prog.readableRec t && decide (t < Tryz.prog.types.size)) = true := by kernel_rfl
theorem expressionFormsfact20 : (Rows.expressionFormsRow.ifacesOut == Tryz.f8.resultTypes.toList.any (Tryz.prog.ifacesRec ·)) = true := by kernel_rfl
theorem expressionFormsfact21 : (Rows.expressionFormsRow.loopsOut == Tryz.f8.resultTypes.toList.any (Tryz.prog.loopsFrom ·)) = true := by kernel_rfl
theorem expressionFormsfact22 : (Rows.expressionFormsRow.plainKeys == Tryz.prog.plainKeys) = true := by rw [sharedplainKeys]; rfl
theorem expressionFormsfact23 : Rows.expressionFormsRow.shortTexts.isNone = true := by kernel_rfl
theorem expressionFormsfact26 : (Rows.expressionFormsRow.lifted == Tryz.prog.liftsFinal) = true := by rw [sharedliftsFinal]; rfl
theorem expressionFormsfact27 : (Tryz.prog.make == some Rows.expressionFormsRow.make) = true := by kernel_rfl
theorem expressionFormsfact28 : (Rows.expressionFormsRow.kinds == (if Rows.expressionFormsRow.domain.isEmpty then [] else Tryz.f8.params.toList.map fun t => match Tryz.prog.underlying t with | some (.int k) => some k | _ => none)) = true := by kernel_rfl
theorem expressionFormsfact29 : (Rows.expressionFormsRow.pinned == Rows.expressionFormsRow.pinnedBy) = true := by kernel_rfl
theorem expressionFormsfact30 : (Rows.expressionFormsRow.veiled == (Tryz.f8.params.toList ++ Rows.expressionFormsSpec.plain.varTypes Tryz.prog ++ Tryz.f8.resultTypes.toList).any (Tryz.prog.veiledRec ·)) = true := by kernel_rfl
theorem expressionFormsfact31 : Rows.expressionFormsRow.veiledFits Tryz.prog Tryz.f8.params.toList (Tryz.f8.params.toList ++ Rows.expressionFormsSpec.plain.varTypes Tryz.prog ++ Tryz.f8.resultTypes.toList) = true := by kernel_rfl
set_option maxRecDepth 100000 in
theorem expressionFormsclosed : joinedFacts Tryz.prog 8 Tryz.f8 Rows.expressionFormsSpec Rows.expressionFormsRow = true := (and_mk (and_mk (and_mk (and_mk (and_mk (and_mk (and_mk (and_mk (and_mk (and_mk (and_mk (and_mk (and_mk (and_mk (and_mk (and_mk (and_mk (and_mk (and_mk (and_mk (and_mk (and_mk (and_mk (and_mk (and_mk (and_mk (and_mk (and_mk (and_mk (and_mk (and_mk expressionFormsfact0 sharedfact1) sharedfact2) expressionFormsfact3) expressionFormsfact4) expressionFormsfact5) sharedfact6) expressionFormsfact7) sharedfact8) expressionFormsfact9) expressionFormsfact10) expressionFormsfact11) expressionFormsfact12) expressionFormsfact13) expressionFormsfact14) expressionFormsfact15) expressionFormsfact16) expressionFormsfact17) expressionFormsfact18) expressionFormsfact19) expressionFormsfact20) expressionFormsfact21) expressionFormsfact22) expressionFormsfact23) sharedfact24) sharedfact25) expressionFormsfact26) expressionFormsfact27) expressionFormsfact28) expressionFormsfact29) expressionFormsfact30) expressionFormsfact31)

theorem expressionForms_named : Tryz.prog.funcNamed Rows.expressionFormsRow.func = some 8 := by kernel_rfl
theorem expressionForms_wrap : Tryz.f8.isWrapper Tryz.prog Rows.expressionFormsRow.wrapper Rows.expressionFormsRow.mainSum := by
  unfold Func.isWrapper
  first | (rw [if_pos (by decide +kernel)]; kernel_rfl) | (rw [if_neg (by decide +kernel)]; exact ⟨rfl, rfl⟩)
theorem expressionForms_inst : Tryz.f8.isInstance Tryz.prog Rows.expressionFormsRow.origin Rows.expressionFormsRow.targs := of_decide_eq_true (by kernel_rfl)
theorem expressionForms_over : Rows.expressionFormsRow.holds Tryz.pinned (OpenSpec.ofChange Rows.expressionFormsSpec) :=
  OpenClaim.holds_of_wide 8 Tryz.f8 rfl rfl rfl rfl rfl rfl rfl ⟨rfl, rfl, rfl, rfl, rfl⟩ rfl rfl rfl rfl rfl expressionForms_named Tryz.func8 expressionFormsclosed expressionForms_inst expressionForms_wrap
    (fun os started H enc _ => expressionForms_lifted os started H enc)
theorem ExpressionForms_card : Rows.ExpressionFormsCardSaid :=
  Claim7.holds_tied_plain_at .later [] [.data, .data, .data, .data, .sentinel, .sentinel, .pinned] true (true, "d761a78bd2b14ca02b9ebb070528750c74a4774c998cbef14576fe307859d78b") true expressionForms_over (fun _ h => by cases h) (by kernel_rfl) (fun _ h => by cases h) expressionForms_row_tie rfl ⟨rfl, rfl⟩ (by kernel_rfl) rfl
    (fun f fn hf hfn => by
      obtain rfl : f = 8 := Option.some.inj (expressionForms_named.symm.trans hf) |>.symm
      obtain rfl : fn = Tryz.f8 := (Option.some.inj (Tryz.func8.symm.trans hfn)).symm
      exact ⟨by kernel_rfl, fun j t ht => by
        rw [Tryz.params8] at ht
        have hm : t ∈ [22, 22, 27] := by simpa using Array.mem_of_getElem? ht
        have hall : ([22, 22, 27].all fun u => !Tryz.prog.wantsStandIn u) = true := by kernel_rfl
        exact (show Tryz.prog.wantsStandIn t = false by simpa using List.all_eq_true.1 hall t hm)⟩)
    (by kernel_rfl)
#print axioms ExpressionForms_card
end Go.Proofs.YtmfeinilbjfnpaaGreatDoor
