/- The law ExpressionBack returns true for every input, and each argument reads afterwards as before; the tied card of it. Conditions: none, but that the listed package variables hold what the program's text lays. -/
import Derived.Test.YtmfeinilbjfnpaaGreatDoorB5
import Derived.Test.YtmfeinilbjfnpaaGreatDoorB9
import Derived.Test.YtmfeinilbjfnpaaGreatDoorB6
import Derived.Test.YtmfeinilbjfnpaaGreatDoorCards
import Derived.Test.YtmfeinilbjfnpaaGreatDoorTie
import Derived.SevenTiedAt
namespace Go.Proofs.YtmfeinilbjfnpaaGreatDoor
open Go.ChangeShapes Go.WideShapes Go.ChangeAt Go.RowKit Px

theorem expressionBack_reads : ∀ t ∈ Tryz.f10.params.toList, Tryz.prog.readableRec t = true ∧ t < Tryz.prog.types.size := by
  rw [Tryz.params10]
  intro t ht
  have : t = 22 ∨ t = 9 := by simp at ht; omega
  rcases this with rfl | rfl
  · exact ⟨by kernel_rfl, of_decide_eq_true (by kernel_rfl)⟩
  · exact ⟨by kernel_rfl, of_decide_eq_true (by kernel_rfl)⟩

set_option maxRecDepth 100000 in
theorem expressionBack_lifted (os : Os) (started : os.Started) (H : Type) (enc : TypeId × Value → H) :
    ReturnsInHanded {} Tryz.checked os 10 .any (fun w args => (Rows.expressionBackSpec.pre enc Tryz.prog Tryz.f10 Rows.expressionBackRow.domain false w args ∧ laidMetH Tryz.prog Rows.expressionBackRow.laid w) ∧ sizedMet enc Tryz.prog Tryz.f10 (OpenSpec.ofChange Rows.expressionBackSpec) false w args)
      (Rows.expressionBackSpec.post enc Tryz.prog Tryz.f10 false true false false) := by
  refine returnsInHanded_of_change_and (C := Tryz.checked) (X := fun w _ => laidMetH Tryz.prog Rows.expressionBackRow.laid w) (fun _ _ _ hh h => h.of_heap hh) own started (by kernel_rfl) Tryz.func10
    (ChangeSpec.witness_shaped (enc := enc) (C := Tryz.checked) (os := os) (X := fun w _ => laidMetH Tryz.prog Rows.expressionBackRow.laid w) false (World.laidAll Tryz.prog os Rows.expressionBackRow.laid) #[.slice none 0 0, .string ⟨#[]⟩] 8 (World.laidAll_os _ _ _)
      (World.shaped_of_ZipB (by kernel_rfl) (by kernel_rfl)) (by kernel_rfl) (by kernel_rfl) (by kernel_rfl)
      (by rw [MakeChecks.laidMetH_plain _ _ _ (by kernel_rfl)]; exact laidMet_laidAll _ (by kernel_rfl) (by kernel_rfl))) ?_
  intro W base args ds gs before hval0 hW hcnd _ hL _
  have hG : GlobOk (fun _ _ => True) W := by
    rw [MakeChecks.laidMetH_plain _ _ _ (by kernel_rfl)] at hL
    obtain ⟨ps, ⟨g0, t0, cs0, f0, p0, q0, hg0, ht0, hv0, hd0, ⟨g1, t1, cs1, f1, p1, q1, hg1, ht1, hv1, hd1, ⟨g2, t2, cs2, f2, p2, q2, hg2, ht2, hv2, hd2, _, _⟩, _⟩, _⟩, _, _⟩ := hL
    obtain rfl := Option.some.inj ((show Tryz.prog.globalNamed "internal/strconv.uint64pow10" = some 2 by kernel_rfl).symm.trans hg2)
    obtain rfl := Option.some.inj ((show (Tryz.prog.globals[2]?).map (·.type) = some 194 by kernel_rfl).symm.trans ht2)
    exact glob_of_var hv2 rfl hd2
  have hval : ∀ (j : Nat) t v, Tryz.f10.params[j]? = some t → args[j]? = some v → Value.okWide Tryz.prog W .any base t v := hval0
  have hW' := hW
  obtain ⟨p, q, hA0, hV, rfl, hfz, hnd⟩ := hW
  have hA : DataW.TrodAll enc Tryz.prog W 0 (fun _ => true) true Tryz.f10.params.toList args.toList ds p := hA0
  rw [Tryz.params10] at hA hval
  obtain ⟨v0, vs0, d0, ds0, p0, q0, hargs, rfl, rfl, h0, r0⟩ := trodAll_cons hA
  obtain ⟨v1, vs1, d1, ds1, p1, q1, rfl, rfl, rfl, h1, r1⟩ := trodAll_cons r0
  obtain ⟨rfl, rfl, rfl⟩ := trodAll_nil r1
  obtain rfl : args = #[v0, v1] := by cases args; simp_all
  obtain ⟨rfl, rfl⟩ := trodVars_none hV
  obtain ⟨x0, wx0, e0⟩ := open_sh (sh := shE) (by kernel_rfl) (hval 0 22 v0 rfl rfl) h0
  obtain ⟨l0, hl0⟩ := cfs_dv x0
  rw [hl0] at e0
  obtain ⟨x1, wx1, e1⟩ := open_sh (sh := .s) (by kernel_rfl) (hval 1 9 v1 rfl rfl) h1
  refine (calls_of_true (lawBack l0 x1) W [v0, v1] rfl (fun j v x hv hx => ?_) hG).mono fun e W' ⟨he, bel⟩ => ?_
  · match j, hv, hx with
    | 0, hv, hx => cases hv; cases hx; exact e0
    | 1, hv, hx => cases hv; cases hx; exact e1
    | j + 2, hv, _ => simp at hv
  · subst he
    exact ⟨_, rfl, law_post hW' rfl rfl rfl expressionBack_reads bel⟩

theorem expressionBackfact0 : Rows.expressionBackRow.wf (OpenSpec.ofChange Rows.expressionBackSpec) = true := by kernel_rfl
theorem expressionBackfact3 : Tryz.f10.params.all (Tryz.prog.readableRec ·) = true := by kernel_rfl
theorem expressionBackfact4 : namedTie Tryz.prog Rows.expressionBackRow.named Rows.expressionBackSpec.vars = true := by kernel_rfl
theorem expressionBackfact5 : (Rows.expressionBackRow.stops == []) = true := by kernel_rfl
theorem expressionBackfact7 : (Rows.expressionBackRow.knobs == []) = true := by kernel_rfl
theorem expressionBackfact9 : (Rows.expressionBackRow.inPlace == Tryz.prog.inPlace 10) = true := by kernel_rfl
theorem expressionBackfact10 : (Rows.expressionBackRow.unfollowed == Tryz.prog.unfollowed 10) = true := by kernel_rfl
theorem expressionBackfact11 : (Rows.expressionBackRow.recurses == Tryz.prog.recurses 10) = true := by kernel_rfl
theorem expressionBackfact12 : (Rows.expressionBackRow.named == Tryz.prog.varsNamed 10) = true := by kernel_rfl
theorem expressionBackfact13 : (Rows.expressionBackRow.maps == (Tryz.f10.params.toList ++ Rows.expressionBackSpec.plain.varTypes Tryz.prog).any (Tryz.prog.mapsRec ·)) = true := by kernel_rfl
theorem expressionBackfact14 : (Rows.expressionBackRow.ifaces == (Tryz.f10.params.toList ++ Rows.expressionBackSpec.plain.varTypes Tryz.prog).any (Tryz.prog.ifacesRec ·)) = true := by kernel_rfl
theorem expressionBackfact15 : (Rows.expressionBackRow.mapsOut == Tryz.prog.mapsAmong Tryz.f10.resultTypes.toList) = true := by kernel_rfl
theorem expressionBackfact16 : (Rows.expressionBackRow.loops == (Tryz.f10.params.toList ++ Rows.expressionBackSpec.plain.varTypes Tryz.prog).any (Tryz.prog.loopsFrom ·)) = true := by kernel_rfl
theorem expressionBackfact17 : (Rows.expressionBackRow.wideKeys == (Tryz.f10.params.toList ++ Rows.expressionBackSpec.plain.varTypes Tryz.prog ++ Tryz.f10.resultTypes.toList).any (Tryz.prog.wideKeysFrom ·)) = true := by kernel_rfl
theorem expressionBackfact18 : Rows.expressionBackSpec.vars.all (Tryz.prog.varReadable ·) = true := by kernel_rfl
theorem expressionBackfact19 : Tryz.f10.resultTypes.all (fun t => Tryz.prog.readableRec t && decide (t < Tryz.prog.types.size)) = true := by kernel_rfl
theorem expressionBackfact20 : (Rows.expressionBackRow.ifacesOut == Tryz.f10.resultTypes.toList.any (Tryz.prog.ifacesRec ·)) = true := by kernel_rfl
theorem expressionBackfact21 : (Rows.expressionBackRow.loopsOut == Tryz.f10.resultTypes.toList.any (Tryz.prog.loopsFrom ·)) = true := by kernel_rfl
theorem expressionBackfact22 : (Rows.expressionBackRow.plainKeys == Tryz.prog.plainKeys) = true := by rw [sharedplainKeys]; rfl
theorem expressionBackfact23 : Rows.expressionBackRow.shortTexts.isNone = true := by kernel_rfl
theorem expressionBackfact26 : (Rows.expressionBackRow.lifted == Tryz.prog.liftsFinal) = true := by rw [sharedliftsFinal]; rfl
theorem expressionBackfact27 : (Tryz.prog.make == some Rows.expressionBackRow.make) = true := by kernel_rfl
theorem expressionBackfact28 : (Rows.expressionBackRow.kinds == (if Rows.expressionBackRow.domain.isEmpty then [] else Tryz.f10.params.toList.map fun t => match Tryz.prog.underlying t with | some (.int k) => some k | _ => none)) = true := by kernel_rfl
theorem expressionBackfact29 : (Rows.expressionBackRow.pinned == Rows.expressionBackRow.pinnedBy) = true := by kernel_rfl
theorem expressionBackfact30 : (Rows.expressionBackRow.veiled == (Tryz.f10.params.toList ++ Rows.expressionBackSpec.plain.varTypes Tryz.prog ++ Tryz.f10.resultTypes.toList).any (Tryz.prog.veiledRec ·)) = true := by kernel_rfl
theorem expressionBackfact31 : Rows.expressionBackRow.veiledFits Tryz.prog Tryz.f10.params.toList (Tryz.f10.params.toList ++ Rows.expressionBackSpec.plain.varTypes Tryz.prog ++ Tryz.f10.resultTypes.toList) = true := by kernel_rfl
set_option maxRecDepth 100000 in
theorem expressionBackclosed : joinedFacts Tryz.prog 10 Tryz.f10 Rows.expressionBackSpec Rows.expressionBackRow = true := (and_mk (and_mk (and_mk (and_mk (and_mk (and_mk (and_mk (and_mk (and_mk (and_mk (and_mk (and_mk (and_mk (and_mk (and_mk (and_mk (and_mk (and_mk (and_mk (and_mk (and_mk (and_mk (and_mk (and_mk (and_mk (and_mk (and_mk (and_mk (and_mk (and_mk (and_mk expressionBackfact0 sharedfact1) sharedfact2) expressionBackfact3) expressionBackfact4) expressionBackfact5) sharedfact6) expressionBackfact7) sharedfact8) expressionBackfact9) expressionBackfact10) expressionBackfact11) expressionBackfact12) expressionBackfact13) expressionBackfact14) expressionBackfact15) expressionBackfact16) expressionBackfact17) expressionBackfact18) expressionBackfact19) expressionBackfact20) expressionBackfact21) expressionBackfact22) expressionBackfact23) sharedfact24) sharedfact25) expressionBackfact26) expressionBackfact27) expressionBackfact28) expressionBackfact29) expressionBackfact30) expressionBackfact31)

theorem expressionBack_named : Tryz.prog.funcNamed Rows.expressionBackRow.func = some 10 := by kernel_rfl
theorem expressionBack_wrap : Tryz.f10.isWrapper Tryz.prog Rows.expressionBackRow.wrapper Rows.expressionBackRow.mainSum := by
  unfold Func.isWrapper
  first | (rw [if_pos (by decide +kernel)]; kernel_rfl) | (rw [if_neg (by decide +kernel)]; exact ⟨rfl, rfl⟩)
theorem expressionBack_inst : Tryz.f10.isInstance Tryz.prog Rows.expressionBackRow.origin Rows.expressionBackRow.targs := of_decide_eq_true (by kernel_rfl)
theorem expressionBack_over : Rows.expressionBackRow.holds Tryz.pinned (OpenSpec.ofChange Rows.expressionBackSpec) :=
  OpenClaim.holds_of_wide 10 Tryz.f10 rfl rfl rfl rfl rfl rfl rfl ⟨rfl, rfl, rfl, rfl, rfl⟩ rfl rfl rfl rfl rfl expressionBack_named Tryz.func10 expressionBackclosed expressionBack_inst expressionBack_wrap
    (fun os started H enc _ => expressionBack_lifted os started H enc)
theorem ExpressionBack_card : Rows.ExpressionBackCardSaid :=
  Claim7.holds_tied_plain_at .later [] [.data, .data, .data, .data, .sentinel, .sentinel, .pinned] true (true, "d761a78bd2b14ca02b9ebb070528750c74a4774c998cbef14576fe307859d78b") true expressionBack_over (fun _ h => by cases h) (by kernel_rfl) (fun _ h => by cases h) expressionBack_row_tie rfl ⟨rfl, rfl⟩ (by kernel_rfl) rfl
    (fun f fn hf hfn => by
      obtain rfl : f = 10 := Option.some.inj (expressionBack_named.symm.trans hf) |>.symm
      obtain rfl : fn = Tryz.f10 := (Option.some.inj (Tryz.func10.symm.trans hfn)).symm
      exact ⟨by kernel_rfl, fun j t ht => by
        rw [Tryz.params10] at ht
        have hm : t ∈ [22, 9] := by simpa using Array.mem_of_getElem? ht
        have hall : ([22, 9].all fun u => !Tryz.prog.wantsStandIn u) = true := by kernel_rfl
        exact (show Tryz.prog.wantsStandIn t = false by simpa using List.all_eq_true.1 hall t hm)⟩)
    (by kernel_rfl)
#print axioms ExpressionBack_card
end Go.Proofs.YtmfeinilbjfnpaaGreatDoor
