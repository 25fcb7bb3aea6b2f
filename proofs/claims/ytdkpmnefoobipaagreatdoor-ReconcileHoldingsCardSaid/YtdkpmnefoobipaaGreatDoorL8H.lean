/- The law ReconcileHoldings returns true for every input, and each argument reads afterwards as before; the tied card of it. Conditions: none, but that the listed package variables hold what the program's text lays. -/
import Derived.Test.YtdkpmnefoobipaaGreatDoorB4
import Derived.Test.YtdkpmnefoobipaaGreatDoorB12
import Derived.Test.YtdkpmnefoobipaaGreatDoorB7
import Derived.Test.YtdkpmnefoobipaaGreatDoorCards
import Derived.Test.YtdkpmnefoobipaaGreatDoorTie
import Derived.SevenTiedAt
namespace Go.Proofs.YtdkpmnefoobipaaGreatDoor
open Go.ChangeShapes Go.WideShapes Go.ChangeAt Go.RowKit Px

theorem bks_dv (x : Dat shB) : ∃ l : List Bk, Dat.dv shB x = .sl 4 (l.map dBk) := by
  refine ⟨x.map fun b => (b.1, b.2.1, b.2.2.1, b.2.2.2.1), ?_⟩
  rw [List.map_map]
  rfl

theorem reconcileHoldings_reads : ∀ t ∈ Tryz.f8.params.toList, Tryz.prog.readableRec t = true ∧ t < Tryz.prog.types.size := by
  rw [Tryz.params8]
  intro t ht
  have : t = 26 ∨ t = 3 ∨ t = 33 := by simp at ht; omega
  rcases this with rfl | rfl | rfl
  · exact ⟨by kernel_rfl, of_decide_eq_true (by kernel_rfl)⟩
  · exact ⟨by kernel_rfl, of_decide_eq_true (by kernel_rfl)⟩
  · exact ⟨by kernel_rfl, of_decide_eq_true (by kernel_rfl)⟩

set_option maxRecDepth 100000 in
theorem reconcileHoldings_lifted (os : Os) (started : os.Started) (H : Type) (enc : TypeId × Value → H) :
    ReturnsInHanded {} Tryz.checked os 8 .any (fun w args => (Rows.reconcileHoldingsSpec.pre enc Tryz.prog Tryz.f8 Rows.reconcileHoldingsRow.domain false w args ∧ laidMetH Tryz.prog Rows.reconcileHoldingsRow.laid w) ∧ sizedMet enc Tryz.prog Tryz.f8 (OpenSpec.ofChange Rows.reconcileHoldingsSpec) false w args)
      (Rows.reconcileHoldingsSpec.post enc Tryz.prog Tryz.f8 false true false false) := by
  refine returnsInHanded_of_change_and (C := Tryz.checked) (X := fun w _ => laidMetH Tryz.prog Rows.reconcileHoldingsRow.laid w) (fun _ _ _ hh h => h.of_heap hh) own started (by kernel_rfl) Tryz.func8
    (ChangeSpec.witness_shaped (enc := enc) (C := Tryz.checked) (os := os) (X := fun w _ => laidMetH Tryz.prog Rows.reconcileHoldingsRow.laid w) false (World.laidAll Tryz.prog os Rows.reconcileHoldingsRow.laid) #[.agg #[.int .i64 0, .slice none 0 0, .slice none 0 0], .agg #[.int .i64 0, .slice none 0 0, .slice none 0 0], .int .i64 0, .slice none 0 0] 8 (World.laidAll_os _ _ _)
      (World.shaped_of_ZipB (by kernel_rfl) (by kernel_rfl)) (by kernel_rfl) (by kernel_rfl) (by kernel_rfl)
      (by rw [MakeChecks.laidMetH_plain _ _ _ (by kernel_rfl)]; exact laidMet_laidAll _ (by kernel_rfl) (by kernel_rfl))) ?_
  intro W base args ds gs before hval0 hW hcnd _ hL _
  have hG : GlobOk (fun _ _ => True) W := by
    rw [MakeChecks.laidMetH_plain _ _ _ (by kernel_rfl)] at hL
    obtain ⟨ps, ⟨g0, t0, cs0, f0, p0, q0, hg0, ht0, hv0, hd0, ⟨g1, t1, cs1, f1, p1, q1, hg1, ht1, hv1, hd1, ⟨g2, t2, cs2, f2, p2, q2, hg2, ht2, hv2, hd2, _, _⟩, _⟩, _⟩, _, _⟩ := hL
    obtain rfl := Option.some.inj ((show Tryz.prog.globalNamed "internal/strconv.uint64pow10" = some 2 by kernel_rfl).symm.trans hg2)
    obtain rfl := Option.some.inj ((show (Tryz.prog.globals[2]?).map (·.type) = some 229 by kernel_rfl).symm.trans ht2)
    exact glob_of_var hv2 rfl hd2
  have hval : ∀ (j : Nat) t v, Tryz.f8.params[j]? = some t → args[j]? = some v → Value.okWide Tryz.prog W .any base t v := hval0
  have hW' := hW
  obtain ⟨p, q, hA0, hV, rfl, hfz, hnd⟩ := hW
  have hA : DataW.TrodAll enc Tryz.prog W 0 (fun _ => true) true Tryz.f8.params.toList args.toList ds p := hA0
  rw [Tryz.params8] at hA hval
  obtain ⟨v0, vs0, d0, ds0, p0, q0, hargs, rfl, rfl, h0, r0⟩ := trodAll_cons hA
  obtain ⟨v1, vs1, d1, ds1, p1, q1, rfl, rfl, rfl, h1, r1⟩ := trodAll_cons r0
  obtain ⟨v2, vs2, d2, ds2, p2, q2, rfl, rfl, rfl, h2, r2⟩ := trodAll_cons r1
  obtain ⟨v3, vs3, d3, ds3, p3, q3, rfl, rfl, rfl, h3, r3⟩ := trodAll_cons r2
  obtain ⟨rfl, rfl, rfl⟩ := trodAll_nil r3
  obtain rfl : args = #[v0, v1, v2, v3] := by cases args; simp_all
  obtain ⟨rfl, rfl⟩ := trodVars_none hV
  obtain ⟨x0, wx0, e0⟩ := open_sh (sh := shS) (by kernel_rfl) (hval 0 26 v0 rfl rfl) h0
  obtain ⟨s0, hs0⟩ := stm_dv x0
  rw [hs0] at e0
  obtain ⟨x1, wx1, e1⟩ := open_sh (sh := shS) (by kernel_rfl) (hval 1 26 v1 rfl rfl) h1
  obtain ⟨s1, hs1⟩ := stm_dv x1
  rw [hs1] at e1
  obtain ⟨x2, wx2, e2⟩ := open_sh (sh := .i .i64) (by kernel_rfl) (hval 2 3 v2 rfl rfl) h2
  obtain ⟨x3, wx3, e3⟩ := open_sh (sh := shB) (by kernel_rfl) (hval 3 33 v3 rfl rfl) h3
  obtain ⟨l3, hl3⟩ := bks_dv x3
  rw [hl3] at e3
  refine (calls_of_true (law8 s0 s1 x2 l3) W [v0, v1, v2, v3] rfl (fun j v x hv hx => ?_) hG).mono fun e W' ⟨he, bel⟩ => ?_
  · match j, hv, hx with
    | 0, hv, hx => cases hv; cases hx; exact e0
    | 1, hv, hx => cases hv; cases hx; exact e1
    | 2, hv, hx => cases hv; cases hx; exact e2
    | 3, hv, hx => cases hv; cases hx; exact e3
    | j + 4, hv, _ => simp at hv
  · subst he
    exact ⟨_, rfl, law_post hW' rfl rfl rfl reconcileHoldings_reads bel⟩

theorem reconcileHoldingsfact0 : Rows.reconcileHoldingsRow.wf (OpenSpec.ofChange Rows.reconcileHoldingsSpec) = true := by kernel_rfl
theorem reconcileHoldingsfact3 : Tryz.f8.params.all (Tryz.prog.readableRec ·) = true := by kernel_rfl
theorem reconcileHoldingsfact4 : namedTie Tryz.prog Rows.reconcileHoldingsRow.named Rows.reconcileHoldingsSpec.vars = true := by kernel_rfl
theorem reconcileHoldingsfact5 : (Rows.reconcileHoldingsRow.stops == []) = true := by kernel_rfl
theorem reconcileHoldingsfact7 : (Rows.reconcileHoldingsRow.knobs == []) = true := by kernel_rfl
theorem reconcileHoldingsfact9 : (Rows.reconcileHoldingsRow.inPlace == Tryz.prog.inPlace 8) = true := by kernel_rfl
theorem reconcileHoldingsfact10 : (Rows.reconcileHoldingsRow.unfollowed == Tryz.prog.unfollowed 8) = true := by kernel_rfl
theorem reconcileHoldingsfact11 : (Rows.reconcileHoldingsRow.recurses == Tryz.prog.recurses 8) = true := by kernel_rfl
theorem reconcileHoldingsfact12 : (Rows.reconcileHoldingsRow.named == Tryz.prog.varsNamed 8) = true := by kernel_rfl
theorem reconcileHoldingsfact13 : (Rows.reconcileHoldingsRow.maps == (Tryz.f8.params.toList ++ Rows.reconcileHoldingsSpec.plain.varTypes Tryz.prog).any (Tryz.prog.mapsRec ·)) = true := by kernel_rfl
theorem reconcileHoldingsfact14 : (Rows.reconcileHoldingsRow.ifaces == (Tryz.f8.params.toList ++ Rows.reconcileHoldingsSpec.plain.varTypes Tryz.prog).any (Tryz.prog.ifacesRec ·)) = true := by kernel_rfl
theorem reconcileHoldingsfact15 : (Rows.reconcileHoldingsRow.mapsOut == Tryz.prog.mapsAmong Tryz.f8.resultTypes.toList) = true := by kernel_rfl
theorem reconcileHoldingsfact16 : (Rows.reconcileHoldingsRow.loops == (Tryz.f8.params.toList ++ Rows.reconcileHoldingsSpec.plain.varTypes Tryz.prog).any (Tryz.prog.loopsFrom ·)) = true := by kernel_rfl
theorem reconcileHoldingsfact17 : (Rows.reconcileHoldingsRow.wideKeys == (Tryz.f8.params.toList ++ Rows.reconcileHoldingsSpec.plain.varTypes Tryz.prog ++ Tryz.f8.resultTypes.toList).any (Tryz.prog.wideKeysFrom ·)) = true := by kernel_rfl
theorem reconcileHoldingsfact18 : Rows.reconcileHoldingsSpec.vars.all (Tryz.prog.varReadable ·) = true := by kernel_rfl
theorem reconcileHoldingsfact19 : Tryz.f8.resultTypes.all (fun t => Tryz.prog.readableRec t && decide (t < Tryz.prog.types.size)) = true := by kernel_rfl
theorem reconcileHoldingsfact20 : (Rows.reconcileHoldingsRow.ifacesOut == Tryz.f8.resultTypes.toList.any (Tryz.prog.ifacesRec ·)) = true := by kernel_rfl
theorem reconcileHoldingsfact21 : (Rows.reconcileHoldingsRow.loopsOut == Tryz.f8.resultTypes.toList.any (Tryz.prog.loopsFrom ·)) = true := by kernel_rfl
theorem reconcileHoldingsfact22 : (Rows.reconcileHoldingsRow.plainKeys == Tryz.prog.plainKeys) = true := by rw [sharedplainKeys]; rfl
theorem reconcileHoldingsfact23 : Rows.reconcileHoldingsRow.shortTexts.isNone = true := by kernel_rfl
theorem reconcileHoldingsfact26 : (Rows.reconcileHoldingsRow.lifted == Tryz.prog.liftsFinal) = true := by rw [sharedliftsFinal]; rfl
theorem reconcileHoldingsfact27 : (Tryz.prog.make == some Rows.reconcileHoldingsRow.make) = true := by kernel_rfl
theorem reconcileHoldingsfact28 : (Rows.reconcileHoldingsRow.kinds == (if Rows.reconcileHoldingsRow.domain.isEmpty then [] else Tryz.f8.params.toList.map fun t => match Tryz.prog.underlying t with | some (.int k) => some k | _ => none)) = true := by kernel_rfl
theorem reconcileHoldingsfact29 : (Rows.reconcileHoldingsRow.pinned == Rows.reconcileHoldingsRow.pinnedBy) = true := by kernel_rfl
theorem reconcileHoldingsfact30 : (Rows.reconcileHoldingsRow.veiled == (Tryz.f8.params.toList ++ Rows.reconcileHoldingsSpec.plain.varTypes Tryz.prog ++ Tryz.f8.resultTypes.toList).any (Tryz.prog.veiledRec ·)) = true := by kernel_rfl
theorem reconcileHoldingsfact31 : Rows.reconcileHoldingsRow.veiledFits Tryz.prog Tryz.f8.params.toList (Tryz.f8.params.toList ++ Rows.reconcileHoldingsSpec.plain.varTypes Tryz.prog ++ Tryz.f8.resultTypes.toList) = true := by kernel_rfl
set_option maxRecDepth 100000 in
theorem reconcileHoldingsclosed : joinedFacts Tryz.prog 8 Tryz.f8 Rows.reconcileHoldingsSpec Rows.reconcileHoldingsRow = true := (and_mk (and_mk (and_mk (and_mk (and_mk (and_mk (and_mk (and_mk (and_mk (and_mk (and_mk (and_mk (and_mk (and_mk (and_mk (and_mk (and_mk (and_mk (and_mk (and_mk (and_mk (and_mk (and_mk (and_mk (and_mk (and_mk (and_mk (and_mk (and_mk (and_mk (and_mk reconcileHoldingsfact0 sharedfact1) sharedfact2) reconcileHoldingsfact3) reconcileHoldingsfact4) reconcileHoldingsfact5) sharedfact6) reconcileHoldingsfact7) sharedfact8) reconcileHoldingsfact9) reconcileHoldingsfact10) reconcileHoldingsfact11) reconcileHoldingsfact12) reconcileHoldingsfact13) reconcileHoldingsfact14) reconcileHoldingsfact15) reconcileHoldingsfact16) reconcileHoldingsfact17) reconcileHoldingsfact18) reconcileHoldingsfact19) reconcileHoldingsfact20) reconcileHoldingsfact21) reconcileHoldingsfact22) reconcileHoldingsfact23) sharedfact24) sharedfact25) reconcileHoldingsfact26) reconcileHoldingsfact27) reconcileHoldingsfact28) reconcileHoldingsfact29) reconcileHoldingsfact30) reconcileHoldingsfact31)

theorem reconcileHoldings_named : Tryz.prog.funcNamed Rows.reconcileHoldingsRow.func = some 8 := by kernel_rfl
theorem reconcileHoldings_wrap : Tryz.f8.isWrapper Tryz.prog Rows.reconcileHoldingsRow.wrapper Rows.reconcileHoldingsRow.mainSum := by
  unfold Func.isWrapper
  first | (rw [if_pos (by decide +kernel)]; kernel_rfl) | (rw [if_neg (by decide +kernel)]; exact ⟨rfl, rfl⟩)
theorem reconcileHoldings_inst : Tryz.f8.isInstance Tryz.prog Rows.reconcileHoldingsRow.origin Rows.reconcileHoldingsRow.targs := of_decide_eq_true (by kernel_rfl)
theorem reconcileHoldings_over : Rows.reconcileHoldingsRow.holds Tryz.pinned (OpenSpec.ofChange Rows.reconcileHoldingsSpec) :=
  OpenClaim.holds_of_wide 8 Tryz.f8 rfl rfl rfl rfl rfl rfl rfl ⟨rfl, rfl, rfl, rfl, rfl⟩ rfl rfl rfl rfl rfl reconcileHoldings_named Tryz.func8 reconcileHoldingsclosed reconcileHoldings_inst reconcileHoldings_wrap
    (fun os started H enc _ => reconcileHoldings_lifted os started H enc)
theorem ReconcileHoldings_card : Rows.ReconcileHoldingsCardSaid :=
  Claim7.holds_tied_plain_at .later [] [.data, .data, .data, .data, .sentinel, .sentinel, .pinned] true (true, "e35ac5b408a18c2e1d6eae73f8f4c2b49f81947261df319c7eaeffe52850a4dd") true reconcileHoldings_over (fun _ h => by cases h) (by kernel_rfl) (fun _ h => by cases h) reconcileHoldings_row_tie rfl ⟨rfl, rfl⟩ (by kernel_rfl) rfl
    (fun f fn hf hfn => by
      obtain rfl : f = 8 := Option.some.inj (reconcileHoldings_named.symm.trans hf) |>.symm
      obtain rfl : fn = Tryz.f8 := (Option.some.inj (Tryz.func8.symm.trans hfn)).symm
      exact ⟨by kernel_rfl, fun j t ht => by
        rw [Tryz.params8] at ht
        have hm : t ∈ [26, 26, 3, 33] := by simpa using Array.mem_of_getElem? ht
        have hall : ([26, 26, 3, 33].all fun u => !Tryz.prog.wantsStandIn u) = true := by kernel_rfl
        exact (show Tryz.prog.wantsStandIn t = false by simpa using List.all_eq_true.1 hall t hm)⟩)
    (by kernel_rfl)
#print axioms ReconcileHoldings_card
end Go.Proofs.YtdkpmnefoobipaaGreatDoor
