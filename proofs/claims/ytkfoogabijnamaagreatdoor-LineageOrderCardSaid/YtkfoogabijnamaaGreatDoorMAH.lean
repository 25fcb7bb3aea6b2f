/- The law LineageOrder returns true for every input, and each argument reads afterwards as before; the tied card of it. Conditions: none, but that the listed package variables hold what the program's text lays. -/
import Derived.Test.YtkfoogabijnamaaGreatDoorB5
import Derived.Test.YtkfoogabijnamaaGreatDoorB9
import Derived.Test.YtkfoogabijnamaaGreatDoorB8
import Derived.Test.YtkfoogabijnamaaGreatDoorCards
import Derived.Test.YtkfoogabijnamaaGreatDoorTie
import Derived.SevenTiedAt
namespace Go.Proofs.YtkfoogabijnamaaGreatDoor
open Go.ChangeShapes Go.WideShapes Go.ChangeAt Go.RowKit Px

theorem lineageOrder_reads : ∀ t ∈ Tryz.f10.params.toList, Tryz.prog.readableRec t = true ∧ t < Tryz.prog.types.size := by
  rw [Tryz.params10]
  intro t ht
  have : t = 22 ∨ t = 9 ∨ t = 5 := by simp at ht; omega
  rcases this with rfl | rfl | rfl
  · exact ⟨by kernel_rfl, of_decide_eq_true (by kernel_rfl)⟩
  · exact ⟨by kernel_rfl, of_decide_eq_true (by kernel_rfl)⟩
  · exact ⟨by kernel_rfl, of_decide_eq_true (by kernel_rfl)⟩

set_option maxRecDepth 100000 in
theorem lineageOrder_lifted (os : Os) (started : os.Started) (H : Type) (enc : TypeId × Value → H) :
    ReturnsInHanded {} Tryz.checked os 10 .any (fun w args => (Rows.lineageOrderSpec.pre enc Tryz.prog Tryz.f10 Rows.lineageOrderRow.domain false w args ∧ laidMetH Tryz.prog Rows.lineageOrderRow.laid w) ∧ sizedMet enc Tryz.prog Tryz.f10 (OpenSpec.ofChange Rows.lineageOrderSpec) false w args)
      (Rows.lineageOrderSpec.post enc Tryz.prog Tryz.f10 false true false false) := by
  refine returnsInHanded_of_change_and (C := Tryz.checked) (X := fun w _ => laidMetH Tryz.prog Rows.lineageOrderRow.laid w) (fun _ _ _ hh h => h.of_heap hh) own started (by kernel_rfl) Tryz.func10
    (ChangeSpec.witness_shaped (enc := enc) (C := Tryz.checked) (os := os) (X := fun w _ => laidMetH Tryz.prog Rows.lineageOrderRow.laid w) false (World.laidAll Tryz.prog os Rows.lineageOrderRow.laid) #[.slice none 0 0, .string ⟨#[]⟩, .int .u8 0] 8 (World.laidAll_os _ _ _)
      (World.shaped_of_ZipB (by kernel_rfl) (by kernel_rfl)) (by kernel_rfl) (by kernel_rfl) (by kernel_rfl)
      (by rw [MakeChecks.laidMetH_plain _ _ _ (by kernel_rfl)]; exact laidMet_laidAll _ (by kernel_rfl) (by kernel_rfl))) ?_
  intro W base args ds gs before hval0 hW hcnd hwt hL _
  have hG : GlobOk (fun _ _ => True) W := by
    rw [MakeChecks.laidMetH_plain _ _ _ (by kernel_rfl)] at hL
    obtain ⟨ps, ⟨g0, t0, cs0, f0, p0, q0, hg0, ht0, hv0, hd0, ⟨g1, t1, cs1, f1, p1, q1, hg1, ht1, hv1, hd1, ⟨g2, t2, cs2, f2, p2, q2, hg2, ht2, hv2, hd2, _, _⟩, _⟩, _⟩, _, _⟩ := hL
    obtain rfl := Option.some.inj ((show Tryz.prog.globalNamed "internal/strconv.uint64pow10" = some 2 by kernel_rfl).symm.trans hg2)
    obtain rfl := Option.some.inj ((show (Tryz.prog.globals[2]?).map (·.type) = some 192 by kernel_rfl).symm.trans ht2)
    exact glob_of_var hv2 rfl hd2
  have hval : ∀ (j : Nat) t v, Tryz.f10.params[j]? = some t → args[j]? = some v → Value.okWide Tryz.prog W .any base t v := hval0
  have hW' := hW
  obtain ⟨p, q, hA0, hV, rfl, hfz, hnd⟩ := hW
  have hA : DataW.TrodAll enc Tryz.prog W 0 (fun _ => true) true Tryz.f10.params.toList args.toList ds p := hA0
  rw [Tryz.params10] at hA hval
  obtain ⟨v0, vs0, d0, ds0, p0, q0, hargs, rfl, rfl, h0, r0⟩ := trodAll_cons hA
  obtain ⟨v1, vs1, d1, ds1, p1, q1, rfl, rfl, rfl, h1, r1⟩ := trodAll_cons r0
  obtain ⟨v2, vs2, d2, ds2, p2, q2, rfl, rfl, rfl, h2, r2⟩ := trodAll_cons r1
  obtain ⟨rfl, rfl, rfl⟩ := trodAll_nil r2
  obtain rfl : args = #[v0, v1, v2] := by cases args; simp_all
  obtain ⟨rfl, rfl⟩ := trodVars_none hV
  obtain ⟨x0, wx0, e0⟩ := open_sh (sh := shL) (by kernel_rfl) (hval 0 22 v0 rfl rfl) h0
  obtain ⟨l0, hl0⟩ := sts_dv x0
  rw [hl0] at e0
  obtain ⟨x1, wx1, e1⟩ := open_sh (sh := .s) (by kernel_rfl) (hval 1 9 v1 rfl rfl) h1
  obtain ⟨x2, wx2, e2⟩ := open_sh (sh := .i .u8) (by kernel_rfl) (hval 2 5 v2 rfl rfl) h2
  have bu2 : 0 ≤ (x2 : Int) ∧ (x2 : Int) ≤ 255 := by simpa [Dat.ok, Lit.wf, IntKind.min, IntKind.max, IntKind.signed, IntKind.bits] using wx2
  refine (calls_of_true (lawOrder l0 x1 x2 bu2.1 bu2.2) W [v0, v1, v2] rfl (fun j v x hv hx => ?_) hG).mono fun e W' ⟨he, bel⟩ => ?_
  · match j, hv, hx with
    | 0, hv, hx => cases hv; cases hx; exact e0
    | 1, hv, hx => cases hv; cases hx; exact e1
    | 2, hv, hx => cases hv; cases hx; exact e2
    | j + 3, hv, _ => simp at hv
  · subst he
    exact ⟨_, rfl, law_post hW' rfl rfl rfl lineageOrder_reads bel⟩

theorem lineageOrderfact0 : Rows.lineageOrderRow.wf (OpenSpec.ofChange Rows.lineageOrderSpec) = true := by kernel_rfl
theorem lineageOrderfact3 : Tryz.f10.params.all (Tryz.prog.readableRec ·) = true := by kernel_rfl
theorem lineageOrderfact4 : namedTie Tryz.prog Rows.lineageOrderRow.named Rows.lineageOrderSpec.vars = true := by kernel_rfl
theorem lineageOrderfact5 : (Rows.lineageOrderRow.stops == []) = true := by kernel_rfl
theorem lineageOrderfact7 : (Rows.lineageOrderRow.knobs == []) = true := by kernel_rfl
theorem lineageOrderfact9 : (Rows.lineageOrderRow.inPlace == Tryz.prog.inPlace 10) = true := by kernel_rfl
theorem lineageOrderfact10 : (Rows.lineageOrderRow.unfollowed == Tryz.prog.unfollowed 10) = true := by kernel_rfl
theorem lineageOrderfact11 : (Rows.lineageOrderRow.recurses == Tryz.prog.recurses 10) = true := by kernel_rfl
theorem lineageOrderfact12 : (Rows.lineageOrderRow.named == Tryz.prog.varsNamed 10) = true := by kernel_rfl
theorem lineageOrderfact13 : (Rows.lineageOrderRow.maps == (Tryz.f10.params.toList ++ Rows.lineageOrderSpec.plain.varTypes Tryz.prog).any (Tryz.prog.mapsRec ·)) = true := by kernel_rfl
theorem lineageOrderfact14 : (Rows.lineageOrderRow.ifaces == (Tryz.f10.params.toList ++ Rows.lineageOrderSpec.plain.varTypes Tryz.prog).any (Tryz.prog.ifacesRec ·)) = true := by kernel_rfl
theorem lineageOrderfact15 : (Rows.lineageOrderRow.mapsOut == Tryz.prog.mapsAmong Tryz.f10.resultTypes.toList) = true := by kernel_rfl
theorem lineageOrderfact16 : (Rows.lineageOrderRow.loops == (Tryz.f10.params.toList ++ Rows.lineageOrderSpec.plain.varTypes Tryz.prog).any (Tryz.prog.loopsFrom ·)) = true := by kernel_rfl
theorem lineageOrderfact17 : (Rows.lineageOrderRow.wideKeys == (Tryz.f10.params.toList ++ Rows.lineageOrderSpec.plain.varTypes Tryz.prog ++ Tryz.f10.resultTypes.toList).any (Tryz.prog.wideKeysFrom ·)) = true := by kernel_rfl
theorem lineageOrderfact18 : Rows.lineageOrderSpec.vars.all (Tryz.prog.varReadable ·) = true := by kernel_rfl
theorem lineageOrderfact19 : Tryz.f10.resultTypes.all (fun t => Tryz.prog.readableRec t && decide (t < Tryz.prog.types.size)) = true := by kernel_rfl
theorem lineageOrderfact20 : (Rows.lineageOrderRow.ifacesOut == Tryz.f10.resultTypes.toList.any (Tryz.prog.ifacesRec ·)) = true := by kernel_rfl
theorem lineageOrderfact21 : (Rows.lineageOrderRow.loopsOut == Tryz.f10.resultTypes.toList.any (Tryz.prog.loopsFrom ·)) = true := by kernel_rfl
theorem lineageOrderfact22 : (Rows.lineageOrderRow.plainKeys == Tryz.prog.plainKeys) = true := by rw [sharedplainKeys]; rfl
theorem lineageOrderfact23 : Rows.lineageOrderRow.shortTexts.isNone = true := by kernel_rfl
theorem lineageOrderfact26 : (Rows.lineageOrderRow.lifted == Tryz.prog.liftsFinal) = true := by rw [sharedliftsFinal]; rfl
theorem lineageOrderfact27 : (Tryz.prog.make == some Rows.lineageOrderRow.make) = true := by kernel_rfl
theorem lineageOrderfact28 : (Rows.lineageOrderRow.kinds == (if Rows.lineageOrderRow.domain.isEmpty then [] else Tryz.f10.params.toList.map fun t => match Tryz.prog.underlying t with | some (.int k) => some k | _ => none)) = true := by kernel_rfl
theorem lineageOrderfact29 : (Rows.lineageOrderRow.pinned == Rows.lineageOrderRow.pinnedBy) = true := by kernel_rfl
theorem lineageOrderfact30 : (Rows.lineageOrderRow.veiled == (Tryz.f10.params.toList ++ Rows.lineageOrderSpec.plain.varTypes Tryz.prog ++ Tryz.f10.resultTypes.toList).any (Tryz.prog.veiledRec ·)) = true := by kernel_rfl
theorem lineageOrderfact31 : Rows.lineageOrderRow.veiledFits Tryz.prog Tryz.f10.params.toList (Tryz.f10.params.toList ++ Rows.lineageOrderSpec.plain.varTypes Tryz.prog ++ Tryz.f10.resultTypes.toList) = true := by kernel_rfl
set_option maxRecDepth 100000 in
theorem lineageOrderclosed : joinedFacts Tryz.prog 10 Tryz.f10 Rows.lineageOrderSpec Rows.lineageOrderRow = true := (and_mk (and_mk (and_mk (and_mk (and_mk (and_mk (and_mk (and_mk (and_mk (and_mk (and_mk (and_mk (and_mk (and_mk (and_mk (and_mk (and_mk (and_mk (and_mk (and_mk (and_mk (and_mk (and_mk (and_mk (and_mk (and_mk (and_mk (and_mk (and_mk (and_mk (and_mk lineageOrderfact0 sharedfact1) sharedfact2) lineageOrderfact3) lineageOrderfact4) lineageOrderfact5) sharedfact6) lineageOrderfact7) sharedfact8) lineageOrderfact9) lineageOrderfact10) lineageOrderfact11) lineageOrderfact12) lineageOrderfact13) lineageOrderfact14) lineageOrderfact15) lineageOrderfact16) lineageOrderfact17) lineageOrderfact18) lineageOrderfact19) lineageOrderfact20) lineageOrderfact21) lineageOrderfact22) lineageOrderfact23) sharedfact24) sharedfact25) lineageOrderfact26) lineageOrderfact27) lineageOrderfact28) lineageOrderfact29) lineageOrderfact30) lineageOrderfact31)

theorem lineageOrder_named : Tryz.prog.funcNamed Rows.lineageOrderRow.func = some 10 := by kernel_rfl
theorem lineageOrder_wrap : Tryz.f10.isWrapper Tryz.prog Rows.lineageOrderRow.wrapper Rows.lineageOrderRow.mainSum := by
  unfold Func.isWrapper
  first | (rw [if_pos (by decide +kernel)]; kernel_rfl) | (rw [if_neg (by decide +kernel)]; exact ⟨rfl, rfl⟩)
theorem lineageOrder_inst : Tryz.f10.isInstance Tryz.prog Rows.lineageOrderRow.origin Rows.lineageOrderRow.targs := of_decide_eq_true (by kernel_rfl)
theorem lineageOrder_over : Rows.lineageOrderRow.holds Tryz.pinned (OpenSpec.ofChange Rows.lineageOrderSpec) :=
  OpenClaim.holds_of_wide 10 Tryz.f10 rfl rfl rfl rfl rfl rfl rfl ⟨rfl, rfl, rfl, rfl, rfl⟩ rfl rfl rfl rfl rfl lineageOrder_named Tryz.func10 lineageOrderclosed lineageOrder_inst lineageOrder_wrap
    (fun os started H enc _ => lineageOrder_lifted os started H enc)
theorem LineageOrder_card : Rows.LineageOrderCardSaid :=
  Claim7.holds_tied_plain_at .later [] [.data, .data, .data, .data, .sentinel, .sentinel, .pinned] true (true, "d0f76d29fcd80bd51a4142871912bf422b3dbb0ec940c11c19c2f271b21a2bf6") true lineageOrder_over (fun _ h => by cases h) (by kernel_rfl) (fun _ h => by cases h) lineageOrder_row_tie rfl ⟨rfl, rfl⟩ (by kernel_rfl) rfl
    (fun f fn hf hfn => by
      obtain rfl : f = 10 := Option.some.inj (lineageOrder_named.symm.trans hf) |>.symm
      obtain rfl : fn = Tryz.f10 := (Option.some.inj (Tryz.func10.symm.trans hfn)).symm
      exact ⟨by kernel_rfl, fun j t ht => by
        rw [Tryz.params10] at ht
        have hm : t ∈ [22, 9, 5] := by simpa using Array.mem_of_getElem? ht
        have hall : ([22, 9, 5].all fun u => !Tryz.prog.wantsStandIn u) = true := by kernel_rfl
        exact (show Tryz.prog.wantsStandIn t = false by simpa using List.all_eq_true.1 hall t hm)⟩)
    (by kernel_rfl)
#print axioms LineageOrder_card
end Go.Proofs.YtkfoogabijnamaaGreatDoor
