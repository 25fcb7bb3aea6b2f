/- The law LineageMore returns true for every input, and each argument reads afterwards as before; the tied card of it. Conditions: none, but that the listed package variables hold what the program's text lays. -/
import Derived.Test.YtkfoogabijnamaaGreatDoorB5
import Derived.Test.YtkfoogabijnamaaGreatDoorB9
import Derived.Test.YtkfoogabijnamaaGreatDoorB8
import Derived.Test.YtkfoogabijnamaaGreatDoorCards
import Derived.Test.YtkfoogabijnamaaGreatDoorTie
import Derived.SevenTiedAt
namespace Go.Proofs.YtkfoogabijnamaaGreatDoor
open Go.ChangeShapes Go.WideShapes Go.ChangeAt Go.RowKit Px

theorem lineageMore_reads : ∀ t ∈ Tryz.f7.params.toList, Tryz.prog.readableRec t = true ∧ t < Tryz.prog.types.size := by
  rw [Tryz.params7]
  intro t ht
  have : t = 22 ∨ t = 45 ∨ t = 9 := by simp at ht; omega
  rcases this with rfl | rfl | rfl
  · exact ⟨by kernel_rfl, of_decide_eq_true (by kernel_rfl)⟩
  · exact ⟨by kernel_rfl, of_decide_eq_true (by kernel_rfl)⟩
  · exact ⟨by kernel_rfl, of_decide_eq_true (by kernel_rfl)⟩

set_option maxRecDepth 100000 in
theorem lineageMore_lifted (os : Os) (started : os.Started) (H : Type) (enc : TypeId × Value → H) :
    ReturnsInHanded {} Tryz.checked os 7 .any (fun w args => (Rows.lineageMoreSpec.pre enc Tryz.prog Tryz.f7 Rows.lineageMoreRow.domain false w args ∧ laidMetH Tryz.prog Rows.lineageMoreRow.laid w) ∧ sizedMet enc Tryz.prog Tryz.f7 (OpenSpec.ofChange Rows.lineageMoreSpec) false w args)
      (Rows.lineageMoreSpec.post enc Tryz.prog Tryz.f7 false true false false) := by
  refine returnsInHanded_of_change_and (C := Tryz.checked) (X := fun w _ => laidMetH Tryz.prog Rows.lineageMoreRow.laid w) (fun _ _ _ hh h => h.of_heap hh) own started (by kernel_rfl) Tryz.func7
    (ChangeSpec.witness_shaped (enc := enc) (C := Tryz.checked) (os := os) (X := fun w _ => laidMetH Tryz.prog Rows.lineageMoreRow.laid w) false (World.laidAll Tryz.prog os Rows.lineageMoreRow.laid) #[.slice none 0 0, .agg #[.string ⟨#[]⟩, .string ⟨#[]⟩, .string ⟨#[]⟩, .string ⟨#[]⟩, .string ⟨#[]⟩, .string ⟨#[]⟩], .string ⟨#[]⟩] 8 (World.laidAll_os _ _ _)
      (World.shaped_of_ZipB (by kernel_rfl) (by kernel_rfl)) (by kernel_rfl) (by kernel_rfl) (by kernel_rfl)
      (by rw [MakeChecks.laidMetH_plain _ _ _ (by kernel_rfl)]; exact laidMet_laidAll _ (by kernel_rfl) (by kernel_rfl))) ?_
  intro W base args ds gs before hval0 hW hcnd hwt hL _
  have hG : GlobOk (fun _ _ => True) W := by
    rw [MakeChecks.laidMetH_plain _ _ _ (by kernel_rfl)] at hL
    obtain ⟨ps, ⟨g0, t0, cs0, f0, p0, q0, hg0, ht0, hv0, hd0, ⟨g1, t1, cs1, f1, p1, q1, hg1, ht1, hv1, hd1, ⟨g2, t2, cs2, f2, p2, q2, hg2, ht2, hv2, hd2, _, _⟩, _⟩, _⟩, _, _⟩ := hL
    obtain rfl := Option.some.inj ((show Tryz.prog.globalNamed "internal/strconv.uint64pow10" = some 2 by kernel_rfl).symm.trans hg2)
    obtain rfl := Option.some.inj ((show (Tryz.prog.globals[2]?).map (·.type) = some 192 by kernel_rfl).symm.trans ht2)
    exact glob_of_var hv2 rfl hd2
  have hval : ∀ (j : Nat) t v, Tryz.f7.params[j]? = some t → args[j]? = some v → Value.okWide Tryz.prog W .any base t v := hval0
  have hW' := hW
  obtain ⟨p, q, hA0, hV, rfl, hfz, hnd⟩ := hW
  have hA : DataW.TrodAll enc Tryz.prog W 0 (fun _ => true) true Tryz.f7.params.toList args.toList ds p := hA0
  rw [Tryz.params7] at hA hval
  obtain ⟨v0, vs0, d0, ds0, p0, q0, hargs, rfl, rfl, h0, r0⟩ := trodAll_cons hA
  obtain ⟨v1, vs1, d1, ds1, p1, q1, rfl, rfl, rfl, h1, r1⟩ := trodAll_cons r0
  obtain ⟨v2, vs2, d2, ds2, p2, q2, rfl, rfl, rfl, h2, r2⟩ := trodAll_cons r1
  obtain ⟨rfl, rfl, rfl⟩ := trodAll_nil r2
  obtain rfl : args = #[v0, v1, v2] := by cases args; simp_all
  obtain ⟨rfl, rfl⟩ := trodVars_none hV
  obtain ⟨x0, wx0, e0⟩ := open_sh (sh := shL) (by kernel_rfl) (hval 0 22 v0 rfl rfl) h0
  obtain ⟨l0, hl0⟩ := sts_dv x0
  rw [hl0] at e0
  have hw0 : l0.length * 96 ≤ 140737488351232 := by
    have hq : (d0.weights Tryz.prog 22).all (· ≤ reachBytes) = true := by
      rw [List.all_eq_true] at hwt ⊢
      exact fun z hz => hwt z (List.mem_append_left _ hz)
    have h1 := sl_weight Tryz.underlying22 h0 e0 hq
    have h2 : Tryz.prog.bytesOf 45 = 96 := by kernel_rfl
    rw [h2, List.length_map] at h1
    exact h1
  obtain ⟨x1, wx1, e1⟩ := open_sh (sh := shP) (by kernel_rfl) (hval 1 45 v1 rfl rfl) h1
  obtain ⟨s1, hs1⟩ := stp_dv x1
  rw [hs1] at e1
  obtain ⟨x2, wx2, e2⟩ := open_sh (sh := .s) (by kernel_rfl) (hval 2 9 v2 rfl rfl) h2
  refine (calls_of_true (lawMore l0 s1 x2 hw0) W [v0, v1, v2] rfl (fun j v x hv hx => ?_) hG).mono fun e W' ⟨he, bel⟩ => ?_
  · match j, hv, hx with
    | 0, hv, hx => cases hv; cases hx; exact e0
    | 1, hv, hx => cases hv; cases hx; exact e1
    | 2, hv, hx => cases hv; cases hx; exact e2
    | j + 3, hv, _ => simp at hv
  · subst he
    exact ⟨_, rfl, law_post hW' rfl rfl rfl lineageMore_reads bel⟩

theorem lineageMorefact0 : Rows.lineageMoreRow.wf (OpenSpec.ofChange Rows.lineageMoreSpec) = true := by kernel_rfl
theorem lineageMorefact3 : Tryz.f7.params.all (Tryz.prog.readableRec ·) = true := by kernel_rfl
theorem lineageMorefact4 : namedTie Tryz.prog Rows.lineageMoreRow.named Rows.lineageMoreSpec.vars = true := by kernel_rfl
theorem lineageMorefact5 : (Rows.lineageMoreRow.stops == []) = true := by kernel_rfl
theorem lineageMorefact7 : (Rows.lineageMoreRow.knobs == []) = true := by kernel_rfl
theorem lineageMorefact9 : (Rows.lineageMoreRow.inPlace == Tryz.prog.inPlace 7) = true := by kernel_rfl
theorem lineageMorefact10 : (Rows.lineageMoreRow.unfollowed == Tryz.prog.unfollowed 7) = true := by kernel_rfl
theorem lineageMorefact11 : (Rows.lineageMoreRow.recurses == Tryz.prog.recurses 7) = true := by kernel_rfl
theorem lineageMorefact12 : (Rows.lineageMoreRow.named == Tryz.prog.varsNamed 7) = true := by kernel_rfl
theorem lineageMorefact13 : (Rows.lineageMoreRow.maps == (Tryz.f7.params.toList ++ Rows.lineageMoreSpec.plain.varTypes Tryz.prog).any (Tryz.prog.mapsRec ·)) = true := by kernel_rfl
theorem lineageMorefact14 : (Rows.lineageMoreRow.ifaces == (Tryz.f7.params.toList ++ Rows.lineageMoreSpec.plain.varTypes Tryz.prog).any (Tryz.prog.ifacesRec ·)) = true := by kernel_rfl
theorem lineageMorefact15 : (Rows.lineageMoreRow.mapsOut == Tryz.prog.mapsAmong Tryz.f7.resultTypes.toList) = true := by kernel_rfl
theorem lineageMorefact16 : (Rows.lineageMoreRow.loops == (Tryz.f7.params.toList ++ Rows.lineageMoreSpec.plain.varTypes Tryz.prog).any (Tryz.prog.loopsFrom ·)) = true := by kernel_rfl
theorem lineageMorefact17 : (Rows.lineageMoreRow.wideKeys == (Tryz.f7.params.toList ++ Rows.lineageMoreSpec.plain.varTypes Tryz.prog ++ Tryz.f7.resultTypes.toList).any (Tryz.prog.wideKeysFrom ·)) = true := by kernel_rfl
theorem lineageMorefact18 : Rows.lineageMoreSpec.vars.all (Tryz.prog.varReadable ·) = true := by kernel_rfl
theorem lineageMorefact19 : Tryz.f7.resultTypes.all (fun t => Tryz.prog.readableRec t && decide (t < Tryz.prog.types.size)) = true := by kernel_rfl
theorem lineageMorefact20 : (Rows.lineageMoreRow.ifacesOut == Tryz.f7.resultTypes.toList.any (Tryz.prog.ifacesRec ·)) = true := by kernel_rfl
theorem lineageMorefact21 : (Rows.lineageMoreRow.loopsOut == Tryz.f7.resultTypes.toList.any (Tryz.prog.loopsFrom ·)) = true := by kernel_rfl
theorem lineageMorefact22 : (Rows.lineageMoreRow.plainKeys == Tryz.prog.plainKeys) = true := by rw [sharedplainKeys]; rfl
theorem lineageMorefact23 : Rows.lineageMoreRow.shortTexts.isNone = true := by kernel_rfl
theorem lineageMorefact26 : (Rows.lineageMoreRow.lifted == Tryz.prog.liftsFinal) = true := by rw [sharedliftsFinal]; rfl
theorem lineageMorefact27 : (Tryz.prog.make == some Rows.lineageMoreRow.make) = true := by kernel_rfl
theorem lineageMorefact28 : (Rows.lineageMoreRow.kinds == (if Rows.lineageMoreRow.domain.isEmpty then [] else Tryz.f7.params.toList.map fun t => match Tryz.prog.underlying t with | some (.int k) => some k | _ => none)) = true := by kernel_rfl
theorem lineageMorefact29 : (Rows.lineageMoreRow.pinned == Rows.lineageMoreRow.pinnedBy) = true := by kernel_rfl
theorem lineageMorefact30 : (Rows.lineageMoreRow.veiled == (Tryz.f7.params.toList ++ Rows.lineageMoreSpec.plain.varTypes Tryz.prog ++ Tryz.f7.resultTypes.toList).any (Tryz.prog.veiledRec ·)) = true := by kernel_rfl
theorem lineageMorefact31 : Rows.lineageMoreRow.veiledFits Tryz.prog Tryz.f7.params.toList (Tryz.f7.params.toList ++ Rows.lineageMoreSpec.plain.varTypes Tryz.prog ++ Tryz.f7.resultTypes.toList) = true := by kernel_rfl
set_option maxRecDepth 100000 in
theorem lineageMoreclosed : joinedFacts Tryz.prog 7 Tryz.f7 Rows.lineageMoreSpec Rows.lineageMoreRow = true := (and_mk (and_mk (and_mk (and_mk (and_mk (and_mk (and_mk (and_mk (and_mk (and_mk (and_mk (and_mk (and_mk (and_mk (and_mk (and_mk (and_mk (and_mk (and_mk (and_mk (and_mk (and_mk (and_mk (and_mk (and_mk (and_mk (and_mk (and_mk (and_mk (and_mk (and_mk lineageMorefact0 sharedfact1) sharedfact2) lineageMorefact3) lineageMorefact4) lineageMorefact5) sharedfact6) lineageMorefact7) sharedfact8) lineageMorefact9) lineageMorefact10) lineageMorefact11) lineageMorefact12) lineageMorefact13) lineageMorefact14) lineageMorefact15) lineageMorefact16) lineageMorefact17) lineageMorefact18) lineageMorefact19) lineageMorefact20) lineageMorefact21) lineageMorefact22) lineageMorefact23) sharedfact24) sharedfact25) lineageMorefact26) lineageMorefact27) lineageMorefact28) lineageMorefact29) lineageMorefact30) lineageMorefact31)

theorem lineageMore_named : Tryz.prog.funcNamed Rows.lineageMoreRow.func = some 7 := by kernel_rfl
theorem lineageMore_wrap : Tryz.f7.isWrapper Tryz.prog Rows.lineageMoreRow.wrapper Rows.lineageMoreRow.mainSum := by
  unfold Func.isWrapper
  first | (rw [if_pos (by decide +kernel)]; kernel_rfl) | (rw [if_neg (by decide +kernel)]; exact ⟨rfl, rfl⟩)
theorem lineageMore_inst : Tryz.f7.isInstance Tryz.prog Rows.lineageMoreRow.origin Rows.lineageMoreRow.targs := of_decide_eq_true (by kernel_rfl)
theorem lineageMore_over : Rows.lineageMoreRow.holds Tryz.pinned (OpenSpec.ofChange Rows.lineageMoreSpec) :=
  OpenClaim.holds_of_wide 7 Tryz.f7 rfl rfl rfl rfl rfl rfl rfl ⟨rfl, rfl, rfl, rfl, rfl⟩ rfl rfl rfl rfl rfl lineageMore_named Tryz.func7 lineageMoreclosed lineageMore_inst lineageMore_wrap
    (fun os started H enc _ => lineageMore_lifted os started H enc)
theorem LineageMore_card : Rows.LineageMoreCardSaid :=
  Claim7.holds_tied_plain_at .later [] [.data, .data, .data, .data, .sentinel, .sentinel, .pinned] true (true, "d0f76d29fcd80bd51a4142871912bf422b3dbb0ec940c11c19c2f271b21a2bf6") true lineageMore_over (fun _ h => by cases h) (by kernel_rfl) (fun _ h => by cases h) lineageMore_row_tie rfl ⟨rfl, rfl⟩ (by kernel_rfl) rfl
    (fun f fn hf hfn => by
      obtain rfl : f = 7 := Option.some.inj (lineageMore_named.symm.trans hf) |>.symm
      obtain rfl : fn = Tryz.f7 := (Option.some.inj (Tryz.func7.symm.trans hfn)).symm
      exact ⟨by kernel_rfl, fun j t ht => by
        rw [Tryz.params7] at ht
        have hm : t ∈ [22, 45, 9] := by simpa using Array.mem_of_getElem? ht
        have hall : ([22, 45, 9].all fun u => !Tryz.prog.wantsStandIn u) = true := by kernel_rfl
        exact (show Tryz.prog.wantsStandIn t = false by simpa using List.all_eq_true.1 hall t hm)⟩)
    (by kernel_rfl)
#print axioms LineageMore_card
end Go.Proofs.YtkfoogabijnamaaGreatDoor
