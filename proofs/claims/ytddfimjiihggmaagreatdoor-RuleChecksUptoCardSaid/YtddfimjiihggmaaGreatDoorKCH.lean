/- The law RuleChecks returns true for every input, and each argument reads afterwards as before; the tied card of it. Conditions: none, but that the listed package variables hold what the program's text lays. -/
import Derived.Test.YtddfimjiihggmaaGreatDoorB13
import Derived.Test.YtddfimjiihggmaaGreatDoorCards
import Derived.Test.YtddfimjiihggmaaGreatDoorTie
namespace Go.Proofs.YtddfimjiihggmaaGreatDoor
open Go.ChangeShapes Go.WideShapes Go.ChangeAt Go.RowKit Px

theorem EG : ∀ t ∈ Tryz.f3.params.toList, Tryz.prog.readableRec t = true ∧ t < Tryz.prog.types.size := by
  rw [Tryz.params3]
  intro t ht
  have : t = 22 ∨ t = 23 := by simp at ht; omega
  rcases this with rfl | rfl
  · exact ⟨by kernel_rfl, of_decide_eq_true (by kernel_rfl)⟩
  · exact ⟨by kernel_rfl, of_decide_eq_true (by kernel_rfl)⟩

set_option maxRecDepth 100000 in
theorem Cr (os : Os) (started : os.Started) (H : Type) (enc : TypeId × Value → H) (F : Stop.Interp) :
    ReturnsInHanded {} Tryz.checked os 3 .any ((Rows.OpenSpec.upto Rows.ruleChecksSpec).preRow enc Tryz.prog Tryz.f3 Rows.ruleChecksUptoRow.domain false Rows.ruleChecksUptoRow.laid) (((Rows.OpenSpec.upto Rows.ruleChecksSpec).at F).post enc Tryz.prog Tryz.f3 false true false false) := by
  refine returnsInHanded_of_row (C := Tryz.checked) (s := Rows.OpenSpec.upto Rows.ruleChecksSpec) own started (by kernel_rfl) Tryz.func3
    (Hj (enc := enc) (C := Tryz.checked) (s := Rows.OpenSpec.upto Rows.ruleChecksSpec) (k := Rows.uptoSmall) rfl false (World.laidAll Tryz.prog os Rows.ruleChecksUptoRow.laid) #[.slice none 0 0, .slice none 0 0] 8 (World.laidAll_os _ _ _)
      (World.shaped_of_ZipB (by kernel_rfl) (by kernel_rfl)) (by kernel_rfl) (x := ([.nil, .nil], [], [])) (by kernel_rfl) (by kernel_rfl) (by kernel_rfl) (by kernel_rfl)
      (by rw [MakeChecks.laidMetH_plain _ _ _ (by kernel_rfl)]; exact laidMet_laidAll _ (by kernel_rfl) (by kernel_rfl))) ?_
  intro W base args ds gs before hval0 hW hcnd hkk hwt hL _ _
  have hsm := hkk Rows.uptoSmall rfl
  have hG : GlobOk (fun _ _ => True) W := by
    rw [MakeChecks.laidMetH_plain _ _ _ (by kernel_rfl)] at hL
    obtain ⟨ps, ⟨g0, t0, cs0, f0, p0, q0, hg0, ht0, hv0, hd0, ⟨g1, t1, cs1, f1, p1, q1, hg1, ht1, hv1, hd1, ⟨g2, t2, cs2, f2, p2, q2, hg2, ht2, hv2, hd2, _, _⟩, _⟩, _⟩, _, _⟩ := hL
    obtain rfl := J2 ((show Tryz.prog.globalNamed "internal/strconv.uint64pow10" = some 5 by kernel_rfl).symm.trans hg2)
    obtain rfl := J2 ((show (Tryz.prog.globals[5]?).map (·.type) = some 293 by kernel_rfl).symm.trans ht2)
    exact Jr hv2 V hd2
  have hval : ∀ (j : Nat) t v, Tryz.f3.params[j]? = some t → args[j]? = some v → Value.okWide Tryz.prog W .any base t v := hval0
  have hW' := hW
  obtain ⟨p, q, hA0, hV, rfl, hfz, hnd⟩ := hW
  have hA : DataW.TrodAll enc Tryz.prog W 0 (fun _ => true) true Tryz.f3.params.toList args.toList ds p := hA0
  rw [Tryz.params3] at hA hval
  obtain ⟨v0, vs0, d0, ds0, p0, q0, hargs, rfl, rfl, h0, r0⟩ := trodAll_cons hA
  obtain ⟨v1, vs1, d1, ds1, p1, q1, rfl, rfl, rfl, h1, r1⟩ := trodAll_cons r0
  obtain ⟨rfl, rfl, rfl⟩ := trodAll_nil r1
  obtain rfl : args = #[v0, v1] := by cases args; simp_all
  obtain ⟨rfl, rfl⟩ := trodVars_none hV
  simp only [Rows.uptoSmall, decide_eq_true_eq, List.append_nil, Rows.uptoBulkAll] at hsm
  obtain ⟨x0, wx0, e0⟩ := MM (sh := shR) (by kernel_rfl) (hval 0 22 v0 rfl rfl) h0
  obtain ⟨l0, hl0⟩ := rus_dv x0
  rw [hl0] at e0
  obtain ⟨x1, wx1, e1⟩ := MM (sh := shA) (by kernel_rfl) (hval 1 23 v1 rfl rfl) h1
  obtain ⟨l1, hl1⟩ := acs_dv x1
  rw [hl1] at e1
  have hu1 := LZ h1 e1 (by omega)
  refine (GZ (Nl l0 l1 (by have := hu1.1; omega) (fun a ha => by have := hu1.2 a ha; omega)) W [v0, v1] rfl (fun j v x hv hx => ?_) hG).mono fun e W' ⟨he, bel⟩ => ?_
  · match j, hv, hx with
    | 0, hv, hx => cases hv; cases hx; exact e0
    | 1, hv, hx => cases hv; cases hx; exact e1
    | j + 2, hv, _ => simp at hv
  · subst he
    exact ⟨_, V, QG hW' V V V EG bel⟩

theorem FB : Rows.ruleChecksUptoRow.wf (OpenSpec.ofChange (Rows.OpenSpec.upto Rows.ruleChecksSpec).bare) = true := by kernel_rfl
theorem FA : Tryz.f3.params.all (Tryz.prog.readableRec ·) = true := by kernel_rfl
theorem Ez : namedTie Tryz.prog Rows.ruleChecksUptoRow.named (Rows.OpenSpec.upto Rows.ruleChecksSpec).bare.vars = true := by kernel_rfl
theorem Ey : (Rows.ruleChecksUptoRow.stops == []) = true := by kernel_rfl
theorem Ex : (Rows.ruleChecksUptoRow.knobs == []) = true := by kernel_rfl
theorem Ew : (Rows.ruleChecksUptoRow.inPlace == Tryz.prog.inPlace 3) = true := by kernel_rfl
theorem ED : (Rows.ruleChecksUptoRow.unfollowed == Tryz.prog.unfollowed 3) = true := by kernel_rfl
theorem EC : (Rows.ruleChecksUptoRow.recurses == Tryz.prog.recurses 3) = true := by kernel_rfl
theorem EA : (Rows.ruleChecksUptoRow.named == Tryz.prog.varsNamed 3) = true := by kernel_rfl
theorem Dz : (Rows.ruleChecksUptoRow.maps == (Tryz.f3.params.toList ++ (Rows.OpenSpec.upto Rows.ruleChecksSpec).bare.plain.varTypes Tryz.prog).any (Tryz.prog.mapsRec ·)) = true := by kernel_rfl
theorem Dy : (Rows.ruleChecksUptoRow.ifaces == (Tryz.f3.params.toList ++ (Rows.OpenSpec.upto Rows.ruleChecksSpec).bare.plain.varTypes Tryz.prog).any (Tryz.prog.ifacesRec ·)) = true := by kernel_rfl
theorem Dx : (Rows.ruleChecksUptoRow.mapsOut == Tryz.prog.mapsAmong Tryz.f3.resultTypes.toList) = true := by kernel_rfl
theorem Dw : (Rows.ruleChecksUptoRow.loops == (Tryz.f3.params.toList ++ (Rows.OpenSpec.upto Rows.ruleChecksSpec).bare.plain.varTypes Tryz.prog).any (Tryz.prog.loopsFrom ·)) = true := by kernel_rfl
theorem Dv : (Rows.ruleChecksUptoRow.wideKeys == (Tryz.f3.params.toList ++ (Rows.OpenSpec.upto Rows.ruleChecksSpec).bare.plain.varTypes Tryz.prog ++ Tryz.f3.resultTypes.toList).any (Tryz.prog.wideKeysFrom ·)) = true := by kernel_rfl
theorem Du : (Rows.OpenSpec.upto Rows.ruleChecksSpec).bare.vars.all (Tryz.prog.varReadable ·) = true := by kernel_rfl
theorem Dt : Tryz.f3.resultTypes.all (fun t => Tryz.prog.readableRec t && decide (t < Tryz.prog.types.size)) = true := by kernel_rfl
theorem Ds : (Rows.ruleChecksUptoRow.ifacesOut == Tryz.f3.resultTypes.toList.any (Tryz.prog.ifacesRec ·)) = true := by kernel_rfl
theorem Dr : (Rows.ruleChecksUptoRow.loopsOut == Tryz.f3.resultTypes.toList.any (Tryz.prog.loopsFrom ·)) = true := by kernel_rfl
theorem Dq : (Rows.ruleChecksUptoRow.plainKeys == Tryz.prog.plainKeys) = true := by rw [Es]; rfl
theorem Dp : Rows.ruleChecksUptoRow.shortTexts.isNone = true := by kernel_rfl
theorem Do : (Rows.ruleChecksUptoRow.lifted == Tryz.prog.liftsFinal) = true := by rw [Di]; rfl
theorem Dn : (Tryz.prog.make == some Rows.ruleChecksUptoRow.make) = true := by kernel_rfl
theorem Dm : (Rows.ruleChecksUptoRow.kinds == (if Rows.ruleChecksUptoRow.domain.isEmpty then [] else Tryz.f3.params.toList.map fun t => match Tryz.prog.underlying t with | some (.int k) => some k | _ => none)) = true := by kernel_rfl
theorem Dl : (Rows.ruleChecksUptoRow.pinned == Rows.ruleChecksUptoRow.pinnedBy) = true := by kernel_rfl
theorem Dk : (Rows.ruleChecksUptoRow.veiled == (Tryz.f3.params.toList ++ (Rows.OpenSpec.upto Rows.ruleChecksSpec).bare.plain.varTypes Tryz.prog ++ Tryz.f3.resultTypes.toList).any (Tryz.prog.veiledRec ·)) = true := by kernel_rfl
theorem Dj : Rows.ruleChecksUptoRow.veiledFits Tryz.prog Tryz.f3.params.toList (Tryz.f3.params.toList ++ (Rows.OpenSpec.upto Rows.ruleChecksSpec).bare.plain.varTypes Tryz.prog ++ Tryz.f3.resultTypes.toList) = true := by kernel_rfl
set_option maxRecDepth 100000 in
theorem EE : joinedFacts Tryz.prog 3 Tryz.f3 (Rows.OpenSpec.upto Rows.ruleChecksSpec).bare Rows.ruleChecksUptoRow = true := (M8 (M8 (M8 (M8 (M8 (M8 (M8 (M8 (M8 (M8 (M8 (M8 (M8 (M8 (M8 (M8 (M8 (M8 (M8 (M8 (M8 (M8 (M8 (M8 (M8 (M8 (M8 (M8 (M8 (M8 (M8 FB JN) JM) FA) Ez) Ey) JL) Ex) JK) Ew) ED) EC) EA) Dz) Dy) Dx) Dw) Dv) Du) Dt) Ds) Dr) Dq) Dp) Hq) Hp) Do) Dn) Dm) Dl) Dk) Dj)

theorem Aj : Tryz.prog.funcNamed Rows.ruleChecksUptoRow.func = some 3 := by kernel_rfl
theorem FC : Tryz.f3.isWrapper Tryz.prog Rows.ruleChecksUptoRow.wrapper Rows.ruleChecksUptoRow.mainSum := by
  unfold Func.isWrapper
  first | (rw [C5 (by decide +kernel)]; kernel_rfl) | (rw [B9 (by decide +kernel)]; exact ⟨rfl, V⟩)
theorem FE : Tryz.f3.isInstance Tryz.prog Rows.ruleChecksUptoRow.origin Rows.ruleChecksUptoRow.targs := of_decide_eq_true (by kernel_rfl)
theorem FD : Rows.ruleChecksUptoRow.holds Tryz.pinned (Rows.OpenSpec.upto Rows.ruleChecksSpec) :=
  OpenClaim.holds_of_cond 3 Tryz.f3 rfl rfl rfl rfl rfl rfl rfl ⟨rfl, rfl, rfl, rfl, rfl⟩ rfl rfl rfl rfl rfl Aj Tryz.func3 EE FE FC
    (fun os started H enc _ F => by rw [OpenClaim.pre_eq_preRow]; exact Cr os started H enc F)
theorem RuleChecksUpto_card : Rows.RuleChecksUptoCardSaid :=
  Claim7.holds_tied_plain_at .later [] [.data, .data, .data, .data, .sentinel, .sentinel, .pinned] true (true, "8e18a1714f7751f504d649e6490be771b7277452e1c4c66a7d7170bf3153b3c9") true FD (fun _ h => by cases h) (by kernel_rfl) (fun _ h => by cases h) ruleChecksUpto_row_tie rfl ⟨rfl, rfl⟩ (by kernel_rfl) rfl
    (fun f fn hf hfn => by
      obtain rfl : f = 3 := J2 (Aj.symm.trans hf) |>.symm
      obtain rfl : fn = Tryz.f3 := (J2 (Tryz.func3.symm.trans hfn)).symm
      exact ⟨by kernel_rfl, fun j t ht => by
        rw [Tryz.params3] at ht
        have hm : t ∈ [22, 23] := by simpa using Array.mem_of_getElem? ht
        have hall : ([22, 23].all fun u => !Tryz.prog.wantsStandIn u) = true := by kernel_rfl
        exact (show Tryz.prog.wantsStandIn t = false by simpa using E5.1 hall t hm)⟩)
    (by kernel_rfl)
#print axioms RuleChecksUpto_card
end Go.Proofs.YtddfimjiihggmaaGreatDoor
