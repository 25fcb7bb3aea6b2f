/- The law RuleBalance returns true for every input, and each argument reads afterwards as before; the tied card of it. Conditions: none, but that the listed package variables hold what the program's text lays. -/
import Derived.Test.YtddfimjiihggmaaGreatDoorB7
import Derived.Test.YtddfimjiihggmaaGreatDoorB12
import Derived.Test.YtddfimjiihggmaaGreatDoorB11
import Derived.Test.YtddfimjiihggmaaGreatDoorCards
import Derived.Test.YtddfimjiihggmaaGreatDoorTie
import Derived.SevenTiedAt
namespace Go.Proofs.YtddfimjiihggmaaGreatDoor
open Go.ChangeShapes Go.WideShapes Go.ChangeAt Go.RowKit Px

theorem ruleBalance_reads : ∀ t ∈ Tryz.f9.params.toList, Tryz.prog.readableRec t = true ∧ t < Tryz.prog.types.size := by
  rw [Tryz.params9]
  intro t ht
  have : t = 32 ∨ t = 70 := by simp at ht; omega
  rcases this with rfl | rfl
  · exact ⟨by kernel_rfl, of_decide_eq_true (by kernel_rfl)⟩
  · exact ⟨by kernel_rfl, of_decide_eq_true (by kernel_rfl)⟩

set_option maxRecDepth 100000 in
theorem ruleBalance_lifted (os : Os) (started : os.Started) (H : Type) (enc : TypeId × Value → H) :
    ReturnsInHanded {} Tryz.checked os 9 .any (fun w args => (Rows.ruleBalanceSpec.pre enc Tryz.prog Tryz.f9 Rows.ruleBalanceRow.domain false w args ∧ laidMetH Tryz.prog Rows.ruleBalanceRow.laid w) ∧ sizedMet enc Tryz.prog Tryz.f9 (OpenSpec.ofChange Rows.ruleBalanceSpec) false w args)
      (Rows.ruleBalanceSpec.post enc Tryz.prog Tryz.f9 false true false false) := by
  refine returnsInHanded_of_change_and (C := Tryz.checked) (X := fun w _ => laidMetH Tryz.prog Rows.ruleBalanceRow.laid w) (fun _ _ _ hh h => h.of_heap hh) own started (by kernel_rfl) Tryz.func9
    (ChangeSpec.witness_shaped (enc := enc) (C := Tryz.checked) (os := os) (X := fun w _ => laidMetH Tryz.prog Rows.ruleBalanceRow.laid w) false (World.laidAll Tryz.prog os Rows.ruleBalanceRow.laid) #[.agg #[.int .i64 0, .slice none 0 0], .slice none 0 0] 8 (World.laidAll_os _ _ _)
      (World.shaped_of_ZipB (by kernel_rfl) (by kernel_rfl)) (by kernel_rfl) (by kernel_rfl) (by kernel_rfl)
      (by rw [MakeChecks.laidMetH_plain _ _ _ (by kernel_rfl)]; exact laidMet_laidAll _ (by kernel_rfl) (by kernel_rfl))) ?_
  intro W base args ds gs before hval0 hW hcnd hwt hL _
  have hG : GlobOk (fun _ _ => True) W := by
    rw [MakeChecks.laidMetH_plain _ _ _ (by kernel_rfl)] at hL
    obtain ⟨ps, ⟨g0, t0, cs0, f0, p0, q0, hg0, ht0, hv0, hd0, ⟨g1, t1, cs1, f1, p1, q1, hg1, ht1, hv1, hd1, ⟨g2, t2, cs2, f2, p2, q2, hg2, ht2, hv2, hd2, _, _⟩, _⟩, _⟩, _, _⟩ := hL
    obtain rfl := Option.some.inj ((show Tryz.prog.globalNamed "internal/strconv.uint64pow10" = some 5 by kernel_rfl).symm.trans hg2)
    obtain rfl := Option.some.inj ((show (Tryz.prog.globals[5]?).map (·.type) = some 293 by kernel_rfl).symm.trans ht2)
    exact glob_of_var hv2 rfl hd2
  have hval : ∀ (j : Nat) t v, Tryz.f9.params[j]? = some t → args[j]? = some v → Value.okWide Tryz.prog W .any base t v := hval0
  have hW' := hW
  obtain ⟨p, q, hA0, hV, rfl, hfz, hnd⟩ := hW
  have hA : DataW.TrodAll enc Tryz.prog W 0 (fun _ => true) true Tryz.f9.params.toList args.toList ds p := hA0
  rw [Tryz.params9] at hA hval
  obtain ⟨v0, vs0, d0, ds0, p0, q0, hargs, rfl, rfl, h0, r0⟩ := trodAll_cons hA
  obtain ⟨v1, vs1, d1, ds1, p1, q1, rfl, rfl, rfl, h1, r1⟩ := trodAll_cons r0
  obtain ⟨rfl, rfl, rfl⟩ := trodAll_nil r1
  obtain rfl : args = #[v0, v1] := by cases args; simp_all
  obtain ⟨rfl, rfl⟩ := trodVars_none hV
  obtain ⟨x0, wx0, e0⟩ := open_sh (sh := shr) (by kernel_rfl) (hval 0 32 v0 rfl rfl) h0
  obtain ⟨l0, hl0⟩ := ru_dv x0
  rw [hl0] at e0
  obtain ⟨x1, wx1, e1⟩ := open_sh (sh := shN) (by kernel_rfl) (hval 1 70 v1 rfl rfl) h1
  refine (calls_of_true (lawBalance l0 x1) W [v0, v1] rfl (fun j v x hv hx => ?_) hG).mono fun e W' ⟨he, bel⟩ => ?_
  · match j, hv, hx with
    | 0, hv, hx => cases hv; cases hx; exact e0
    | 1, hv, hx => cases hv; cases hx; exact e1
    | j + 2, hv, _ => simp at hv
  · subst he
    exact ⟨_, rfl, law_post hW' rfl rfl rfl ruleBalance_reads bel⟩

theorem ruleBalancefact0 : Rows.ruleBalanceRow.wf (OpenSpec.ofChange Rows.ruleBalanceSpec) = true := by kernel_rfl
theorem ruleBalancefact3 : Tryz.f9.params.all (Tryz.prog.readableRec ·) = true := by kernel_rfl
theorem ruleBalancefact4 : namedTie Tryz.prog Rows.ruleBalanceRow.named Rows.ruleBalanceSpec.vars = true := by kernel_rfl
theorem ruleBalancefact5 : (Rows.ruleBalanceRow.stops == []) = true := by kernel_rfl
theorem ruleBalancefact7 : (Rows.ruleBalanceRow.knobs == []) = true := by kernel_rfl
theorem ruleBalancefact9 : (Rows.ruleBalanceRow.inPlace == Tryz.prog.inPlace 9) = true := by kernel_rfl
theorem ruleBalancefact10 : (Rows.ruleBalanceRow.unfollowed == Tryz.prog.unfollowed 9) = true := by kernel_rfl
theorem ruleBalancefact11 : (Rows.ruleBalanceRow.recurses == Tryz.prog.recurses 9) = true := by kernel_rfl
theorem ruleBalancefact12 : (Rows.ruleBalanceRow.named == Tryz.prog.varsNamed 9) = true := by kernel_rfl
theorem ruleBalancefact13 : (Rows.ruleBalanceRow.maps == (Tryz.f9.params.toList ++ Rows.ruleBalanceSpec.plain.varTypes Tryz.prog).any (Tryz.prog.mapsRec ·)) = true := by kernel_rfl
theorem ruleBalancefact14 : (Rows.ruleBalanceRow.ifaces == (Tryz.f9.params.toList ++ Rows.ruleBalanceSpec.plain.varTypes Tryz.prog).any (Tryz.prog.ifacesRec ·)) = true := by kernel_rfl
theorem ruleBalancefact15 : (Rows.ruleBalanceRow.mapsOut == Tryz.prog.mapsAmong Tryz.f9.resultTypes.toList) = true := by kernel_rfl
theorem ruleBalancefact16 : (Rows.ruleBalanceRow.loops == (Tryz.f9.params.toList ++ Rows.ruleBalanceSpec.plain.varTypes Tryz.prog).any (Tryz.prog.loopsFrom ·)) = true := by kernel_rfl
theorem ruleBalancefact17 : (Rows.ruleBalanceRow.wideKeys == (Tryz.f9.params.toList ++ Rows.ruleBalanceSpec.plain.varTypes Tryz.prog ++ Tryz.f9.resultTypes.toList).any (Tryz.prog.wideKeysFrom ·)) = true := by kernel_rfl
theorem ruleBalancefact18 : Rows.ruleBalanceSpec.vars.all (Tryz.prog.varReadable ·) = true := by kernel_rfl
theorem ruleBalancefact19 : Tryz.f9.resultTypes.all (fun t => Tryz.prog.readableRec t && decide (t < Tryz.prog.types.size)) = true := by kernel_rfl
theorem ruleBalancefact20 : (Rows.ruleBalanceRow.ifacesOut == Tryz.f9.resultTypes.toList.any (Tryz.prog.ifacesRec ·)) = true := by kernel_rfl
theorem ruleBalancefact21 : (Rows.ruleBalanceRow.loopsOut == Tryz.f9.resultTypes.toList.any (Tryz.prog.loopsFrom ·)) = true := by kernel_rfl
theorem ruleBalancefact22 : (Rows.ruleBalanceRow.plainKeys == Tryz.prog.plainKeys) = true := by rw [sharedplainKeys]; rfl
theorem ruleBalancefact23 : Rows.ruleBalanceRow.shortTexts.isNone = true := by kernel_rfl
theorem ruleBalancefact26 : (Rows.ruleBalanceRow.lifted == Tryz.prog.liftsFinal) = true := by rw [sharedliftsFinal]; rfl
theorem ruleBalancefact27 : (Tryz.prog.make == some Rows.ruleBalanceRow.make) = true := by kernel_rfl
theorem ruleBalancefact28 : (Rows.ruleBalanceRow.kinds == (if Rows.ruleBalanceRow.domain.isEmpty then [] else Tryz.f9.params.toList.map fun t => match Tryz.prog.underlying t with | some (.int k) => some k | _ => none)) = true := by kernel_rfl
theorem ruleBalancefact29 : (Rows.ruleBalanceRow.pinned == Rows.ruleBalanceRow.pinnedBy) = true := by kernel_rfl
theorem ruleBalancefact30 : (Rows.ruleBalanceRow.veiled == (Tryz.f9.params.toList ++ Rows.ruleBalanceSpec.plain.varTypes Tryz.prog ++ Tryz.f9.resultTypes.toList).any (Tryz.prog.veiledRec ·)) = true := by kernel_rfl
theorem ruleBalancefact31 : Rows.ruleBalanceRow.veiledFits Tryz.prog Tryz.f9.params.toList (Tryz.f9.params.toList ++ Rows.ruleBalanceSpec.plain.varTypes Tryz.prog ++ Tryz.f9.resultTypes.toList) = true := by kernel_rfl
set_option maxRecDepth 100000 in
theorem ruleBalanceclosed : joinedFacts Tryz.prog 9 Tryz.f9 Rows.ruleBalanceSpec Rows.ruleBalanceRow = true := (and_mk (and_mk (and_mk (and_mk (and_mk (and_mk (and_mk (and_mk (and_mk (and_mk (and_mk (and_mk (and_mk (and_mk (and_mk (and_mk (and_mk (and_mk (and_mk (and_mk (and_mk (and_mk (and_mk (and_mk (and_mk (and_mk (and_mk (and_mk (and_mk (and_mk (and_mk ruleBalancefact0 sharedfact1) sharedfact2) ruleBalancefact3) ruleBalancefact4) ruleBalancefact5) sharedfact6) ruleBalancefact7) sharedfact8) ruleBalancefact9) ruleBalancefact10) ruleBalancefact11) ruleBalancefact12) ruleBalancefact13) ruleBalancefact14) ruleBalancefact15) ruleBalancefact16) ruleBalancefact17) ruleBalancefact18) ruleBalancefact19) ruleBalancefact20) ruleBalancefact21) ruleBalancefact22) ruleBalancefact23) sharedfact24) sharedfact25) ruleBalancefact26) ruleBalancefact27) ruleBalancefact28) ruleBalancefact29) ruleBalancefact30) ruleBalancefact31)

theorem ruleBalance_named : Tryz.prog.funcNamed Rows.ruleBalanceRow.func = some 9 := by kernel_rfl
theorem ruleBalance_wrap : Tryz.f9.isWrapper Tryz.prog Rows.ruleBalanceRow.wrapper Rows.ruleBalanceRow.mainSum := by
  unfold Func.isWrapper
  first | (rw [if_pos (by decide +kernel)]; kernel_rfl) | (rw [if_neg (by decide +kernel)]; exact ⟨rfl, rfl⟩)
theorem ruleBalance_inst : Tryz.f9.isInstance Tryz.prog Rows.ruleBalanceRow.origin Rows.ruleBalanceRow.targs := of_decide_eq_true (by kernel_rfl)
theorem ruleBalance_over : Rows.ruleBalanceRow.holds Tryz.pinned (OpenSpec.ofChange Rows.ruleBalanceSpec) :=
  OpenClaim.holds_of_wide 9 Tryz.f9 rfl rfl rfl rfl rfl rfl rfl ⟨rfl, rfl, rfl, rfl, rfl⟩ rfl rfl rfl rfl rfl ruleBalance_named Tryz.func9 ruleBalanceclosed ruleBalance_inst ruleBalance_wrap
    (fun os started H enc _ => ruleBalance_lifted os started H enc)
theorem RuleBalance_card : Rows.RuleBalanceCardSaid :=
  Claim7.holds_tied_plain_at .later [] [.data, .data, .data, .data, .sentinel, .sentinel, .pinned] true (true, "8e18a1714f7751f504d649e6490be771b7277452e1c4c66a7d7170bf3153b3c9") true ruleBalance_over (fun _ h => by cases h) (by kernel_rfl) (fun _ h => by cases h) ruleBalance_row_tie rfl ⟨rfl, rfl⟩ (by kernel_rfl) rfl
    (fun f fn hf hfn => by
      obtain rfl : f = 9 := Option.some.inj (ruleBalance_named.symm.trans hf) |>.symm
      obtain rfl : fn = Tryz.f9 := (Option.some.inj (Tryz.func9.symm.trans hfn)).symm
      exact ⟨by kernel_rfl, fun j t ht => by
        rw [Tryz.params9] at ht
        have hm : t ∈ [32, 70] := by simpa using Array.mem_of_getElem? ht
        have hall : ([32, 70].all fun u => !Tryz.prog.wantsStandIn u) = true := by kernel_rfl
        exact (show Tryz.prog.wantsStandIn t = false by simpa using List.all_eq_true.1 hall t hm)⟩)
    (by kernel_rfl)
#print axioms RuleBalance_card
end Go.Proofs.YtddfimjiihggmaaGreatDoor
