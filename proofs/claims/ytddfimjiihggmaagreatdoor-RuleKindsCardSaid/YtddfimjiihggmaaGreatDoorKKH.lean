/- The law RuleKinds returns true for every input, and each argument reads afterwards as before; the tied card of it. Conditions: none, but that the listed package variables hold what the program's text lays. -/
import Derived.Test.YtddfimjiihggmaaGreatDoorB13
import Derived.Test.YtddfimjiihggmaaGreatDoorCards
import Derived.Test.YtddfimjiihggmaaGreatDoorTie
namespace Go.Proofs.YtddfimjiihggmaaGreatDoor
open Go.ChangeShapes Go.WideShapes Go.ChangeAt Go.RowKit Px

theorem Gw : ∀ t ∈ Tryz.f4.params.toList, Tryz.prog.readableRec t = true ∧ t < Tryz.prog.types.size := by
  rw [Tryz.params4]
  intro t ht
  have : t = 22 ∨ t = 3 := by simp at ht; omega
  rcases this with rfl | rfl
  · exact ⟨by kernel_rfl, of_decide_eq_true (by kernel_rfl)⟩
  · exact ⟨by kernel_rfl, of_decide_eq_true (by kernel_rfl)⟩

set_option maxRecDepth 100000 in
theorem Fb (os : Os) (started : os.Started) (H : Type) (enc : TypeId × Value → H) :
    ReturnsInHanded {} Tryz.checked os 4 .any (fun w args => (Rows.ruleKindsSpec.pre enc Tryz.prog Tryz.f4 Rows.ruleKindsRow.domain false w args ∧ laidMetH Tryz.prog Rows.ruleKindsRow.laid w) ∧ sizedMet enc Tryz.prog Tryz.f4 (OpenSpec.ofChange Rows.ruleKindsSpec) false w args)
      (Rows.ruleKindsSpec.post enc Tryz.prog Tryz.f4 false true false false) := by
  refine returnsInHanded_of_change_and (C := Tryz.checked) (X := fun w _ => laidMetH Tryz.prog Rows.ruleKindsRow.laid w) (fun _ _ _ hh h => h.of_heap hh) own started (by kernel_rfl) Tryz.func4
    (ChangeSpec.witness_shaped (enc := enc) (C := Tryz.checked) (os := os) (X := fun w _ => laidMetH Tryz.prog Rows.ruleKindsRow.laid w) false (World.laidAll Tryz.prog os Rows.ruleKindsRow.laid) #[.slice none 0 0, .int .i64 0] 8 (World.laidAll_os _ _ _)
      (World.shaped_of_ZipB (by kernel_rfl) (by kernel_rfl)) (by kernel_rfl) (by kernel_rfl) (by kernel_rfl)
      (by rw [MakeChecks.laidMetH_plain _ _ _ (by kernel_rfl)]; exact laidMet_laidAll _ (by kernel_rfl) (by kernel_rfl))) ?_
  intro W base args ds gs before hval0 hW hcnd hwt hL _
  have hG : GlobOk (fun _ _ => True) W := by
    rw [MakeChecks.laidMetH_plain _ _ _ (by kernel_rfl)] at hL
    obtain ⟨ps, ⟨g0, t0, cs0, f0, p0, q0, hg0, ht0, hv0, hd0, ⟨g1, t1, cs1, f1, p1, q1, hg1, ht1, Cy, Rv, ⟨g2, t2, cs2, f2, p2, q2, hg2, ht2, Ea, BO, _, _⟩, _⟩, _⟩, _, _⟩ := hL
    obtain rfl := I7 ((show Tryz.prog.globalNamed "internal/strconv.uint64pow10" = some 5 by kernel_rfl).symm.trans hg2)
    obtain rfl := I7 ((show (Tryz.prog.globals[5]?).map (·.type) = some 293 by kernel_rfl).symm.trans ht2)
    exact Mq Ea V BO
  have Rm : ∀ (j : Nat) t v, Tryz.f4.params[j]? = some t → args[j]? = some v → Value.okWide Tryz.prog W .any base t v := hval0
  have hW' := hW
  obtain ⟨p, q, hA0, hV, rfl, hfz, hnd⟩ := hW
  have hA : DataW.TrodAll enc Tryz.prog W 0 (fun _ => true) true Tryz.f4.params.toList args.toList ds p := hA0
  rw [Tryz.params4] at hA Rm
  obtain ⟨v0, vs0, d0, ds0, p0, q0, Dr, rfl, rfl, h0, r0⟩ := trodAll_cons hA
  obtain ⟨v1, vs1, d1, ds1, p1, q1, rfl, rfl, rfl, h1, r1⟩ := trodAll_cons r0
  obtain ⟨rfl, rfl, rfl⟩ := trodAll_nil r1
  obtain rfl : args = #[v0, v1] := by cases args; simp_all
  obtain ⟨rfl, rfl⟩ := trodVars_none hV
  obtain ⟨x0, wx0, e0⟩ := Pp (sh := shR) (by kernel_rfl) (Rm 0 22 v0 rfl rfl) h0
  obtain ⟨l0, hl0⟩ := rus_dv x0
  rw [hl0] at e0
  obtain ⟨x1, wx1, e1⟩ := Pp (sh := .i .i64) (by kernel_rfl) (Rm 1 3 v1 rfl rfl) h1
  refine (JY (Uj l0 x1) W [v0, v1] V (fun j v x hv hx => ?_) hG).mono fun e W' ⟨he, bel⟩ => ?_
  · match j, hv, hx with
    | 0, hv, hx => cases hv; cases hx; exact e0
    | 1, hv, hx => cases hv; cases hx; exact e1
    | j + 2, hv, _ => simp at hv
  · subst he
    exact ⟨_, V, Ui hW' V V V Gw bel⟩

theorem IG : Rows.ruleKindsRow.wf (OpenSpec.ofChange Rows.ruleKindsSpec) = true := by kernel_rfl
theorem IF : Tryz.f4.params.all (Tryz.prog.readableRec ·) = true := by kernel_rfl
theorem IE : namedTie Tryz.prog Rows.ruleKindsRow.named Rows.ruleKindsSpec.vars = true := by kernel_rfl
theorem ID : (Rows.ruleKindsRow.stops == []) = true := by kernel_rfl
theorem IC : (Rows.ruleKindsRow.knobs == []) = true := by kernel_rfl
theorem IB : (Rows.ruleKindsRow.inPlace == Tryz.prog.inPlace 4) = true := by kernel_rfl
theorem Gu : (Rows.ruleKindsRow.unfollowed == Tryz.prog.unfollowed 4) = true := by kernel_rfl
theorem Gt : (Rows.ruleKindsRow.recurses == Tryz.prog.recurses 4) = true := by kernel_rfl
theorem Gs : (Rows.ruleKindsRow.named == Tryz.prog.varsNamed 4) = true := by kernel_rfl
theorem Gr : (Rows.ruleKindsRow.maps == (Tryz.f4.params.toList ++ Rows.ruleKindsSpec.plain.varTypes Tryz.prog).any (Tryz.prog.mapsRec ·)) = true := by kernel_rfl
theorem Gq : (Rows.ruleKindsRow.ifaces == (Tryz.f4.params.toList ++ Rows.ruleKindsSpec.plain.varTypes Tryz.prog).any (Tryz.prog.ifacesRec ·)) = true := by kernel_rfl
theorem Gp : (Rows.ruleKindsRow.mapsOut == Tryz.prog.mapsAmong Tryz.f4.resultTypes.toList) = true := by kernel_rfl
theorem Gn : (Rows.ruleKindsRow.loops == (Tryz.f4.params.toList ++ Rows.ruleKindsSpec.plain.varTypes Tryz.prog).any (Tryz.prog.loopsFrom ·)) = true := by kernel_rfl
theorem Gm : (Rows.ruleKindsRow.wideKeys == (Tryz.f4.params.toList ++ Rows.ruleKindsSpec.plain.varTypes Tryz.prog ++ Tryz.f4.resultTypes.toList).any (Tryz.prog.wideKeysFrom ·)) = true := by kernel_rfl
theorem Gl : Rows.ruleKindsSpec.vars.all (Tryz.prog.varReadable ·) = true := by kernel_rfl
theorem Gk : Tryz.f4.resultTypes.all (fun t => Tryz.prog.readableRec t && decide (t < Tryz.prog.types.size)) = true := by kernel_rfl
theorem Gj : (Rows.ruleKindsRow.ifacesOut == Tryz.f4.resultTypes.toList.any (Tryz.prog.ifacesRec ·)) = true := by kernel_rfl
theorem Gi : (Rows.ruleKindsRow.loopsOut == Tryz.f4.resultTypes.toList.any (Tryz.prog.loopsFrom ·)) = true := by kernel_rfl
theorem Gg : (Rows.ruleKindsRow.plainKeys == Tryz.prog.plainKeys) = true := by rw [GV]; rfl
theorem Gf : Rows.ruleKindsRow.shortTexts.isNone = true := by kernel_rfl
theorem Ge : (Rows.ruleKindsRow.lifted == Tryz.prog.liftsFinal) = true := by rw [Fa]; rfl
theorem Gd : (Tryz.prog.make == some Rows.ruleKindsRow.make) = true := by kernel_rfl
theorem Gc : (Rows.ruleKindsRow.kinds == (if Rows.ruleKindsRow.domain.isEmpty then [] else Tryz.f4.params.toList.map fun t => match Tryz.prog.underlying t with | some (.int k) => some k | _ => none)) = true := by kernel_rfl
theorem Gb : (Rows.ruleKindsRow.pinned == Rows.ruleKindsRow.pinnedBy) = true := by kernel_rfl
theorem Ga : (Rows.ruleKindsRow.veiled == (Tryz.f4.params.toList ++ Rows.ruleKindsSpec.plain.varTypes Tryz.prog ++ Tryz.f4.resultTypes.toList).any (Tryz.prog.veiledRec ·)) = true := by kernel_rfl
theorem GZ : Rows.ruleKindsRow.veiledFits Tryz.prog Tryz.f4.params.toList (Tryz.f4.params.toList ++ Rows.ruleKindsSpec.plain.varTypes Tryz.prog ++ Tryz.f4.resultTypes.toList) = true := by kernel_rfl
set_option maxRecDepth 100000 in
theorem Gv : joinedFacts Tryz.prog 4 Tryz.f4 Rows.ruleKindsSpec Rows.ruleKindsRow = true := (O0 (O0 (O0 (O0 (O0 (O0 (O0 (O0 (O0 (O0 (O0 (O0 (O0 (O0 (O0 (O0 (O0 (O0 (O0 (O0 (O0 (O0 (O0 (O0 (O0 (O0 (O0 (O0 (O0 (O0 (O0 IG MD) MC) IF) IE) ID) MB) IC) MA) IB) Gu) Gt) Gs) Gr) Gq) Gp) Gn) Gm) Gl) Gk) Gj) Gi) Gg) Gf) Kd) Kc) Ge) Gd) Gc) Gb) Ga) GZ)

theorem Ca : Tryz.prog.funcNamed Rows.ruleKindsRow.func = some 4 := by kernel_rfl
theorem IH : Tryz.f4.isWrapper Tryz.prog Rows.ruleKindsRow.wrapper Rows.ruleKindsRow.mainSum := by
  unfold Func.isWrapper
  first | (rw [B9 (by decide +kernel)]; kernel_rfl) | (rw [B5 (by decide +kernel)]; exact ⟨rfl, V⟩)
theorem IJ : Tryz.f4.isInstance Tryz.prog Rows.ruleKindsRow.origin Rows.ruleKindsRow.targs := of_decide_eq_true (by kernel_rfl)
theorem II : Rows.ruleKindsRow.holds Tryz.pinned (OpenSpec.ofChange Rows.ruleKindsSpec) :=
  OpenClaim.holds_of_wide 4 Tryz.f4 rfl rfl rfl rfl rfl rfl rfl ⟨rfl, rfl, rfl, rfl, rfl⟩ rfl rfl rfl rfl rfl Ca Tryz.func4 Gv IJ IH
    (fun os started H enc _ => Fb os started H enc)
theorem RuleKinds_card : Rows.RuleKindsCardSaid :=
  Claim7.holds_tied_plain_at .later [] [.data, .data, .data, .data, .sentinel, .sentinel, .pinned] true (true, "8e18a1714f7751f504d649e6490be771b7277452e1c4c66a7d7170bf3153b3c9") true II (fun _ h => by cases h) (by kernel_rfl) (fun _ h => by cases h) ruleKinds_row_tie rfl ⟨rfl, rfl⟩ (by kernel_rfl) rfl
    (fun f fn hf JP => by
      obtain rfl : f = 4 := I7 (Ca.symm.trans hf) |>.symm
      obtain rfl : fn = Tryz.f4 := (I7 (Tryz.func4.symm.trans JP)).symm
      exact ⟨by kernel_rfl, fun j t ht => by
        rw [Tryz.params4] at ht
        have hm : t ∈ [22, 3] := by simpa using Array.mem_of_getElem? ht
        have BP : ([22, 3].all fun u => !Tryz.prog.wantsStandIn u) = true := by kernel_rfl
        exact (show Tryz.prog.wantsStandIn t = false by simpa using D7.1 BP t hm)⟩)
    (by kernel_rfl)
#print axioms RuleKinds_card
end Go.Proofs.YtddfimjiihggmaaGreatDoor
