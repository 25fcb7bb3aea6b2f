/- The law CalendarJoint returns true for every input, and each argument reads afterwards as before. Conditions: none. -/
import Derived.Test.YtilbolgncpfmmaaLawQ
import Derived.Test.YtilbolgncpfmmaaWJ
import Derived.Test.YtilbolgncpfmmaaFacts
namespace Go.Proofs.Ytilbolgncpfmmaa
open Go.ChangeShapes Go.WideShapes Go.ChangeAt Go.RowKit

theorem calendarJoint_reads : ∀ t ∈ Try.f17.params.toList, Try.prog.readableRec t = true ∧ t < Try.prog.types.size := by
  rw [Try.params17]
  intro t ht
  have : t = 25 ∨ t = 26 := by simp at ht; omega
  rcases this with rfl | rfl
  · exact ⟨by kernel_rfl, of_decide_eq_true (by kernel_rfl)⟩
  · exact ⟨by kernel_rfl, of_decide_eq_true (by kernel_rfl)⟩

set_option maxRecDepth 100000 in
theorem calendarJoint_lifted (os : Os) (started : os.Started) (H : Type) (enc : TypeId × Value → H) :
    ReturnsInHanded {} Try.checked os 17 .any (Rows.calendarJointSpec.pre6 enc Try.prog Try.f17 Rows.calendarJointRow.domain false) (Rows.calendarJointSpec.post enc Try.prog Try.f17 false true false false) := by
  refine returnsInHanded_of_change (C := Try.checked) own started (by kernel_rfl) Try.func17
    (ChangeSpec.witness6 (enc := enc) (C := Try.checked) false ⟨#[], #[.agg #[.slice none 0 0, .slice none 0 0], .agg #[.slice none 0 0, .slice none 0 0], .int .i64 0], []⟩ 8 (by kernel_rfl) (by kernel_rfl) (by kernel_rfl) (by kernel_rfl)) ?_
  intro W base args ds gs before hval0 hW hcnd _
  have hval : ∀ (j : Nat) t v, Try.f17.params[j]? = some t → args[j]? = some v → Value.okWide Try.prog W .any base t v := hval0
  have hW' := hW
  obtain ⟨p, q, hA0, hV, rfl, hfz, hnd⟩ := hW
  have hA : DataW.TrodAll enc Try.prog W 0 (fun _ => true) true Try.f17.params.toList args.toList ds p := hA0
  rw [Try.params17] at hA hval
  obtain ⟨v0, vs0, d0, ds0, p0, q0, hargs, rfl, rfl, h0, r0⟩ := trodAll_cons hA
  obtain ⟨v1, vs1, d1, ds1, p1, q1, rfl, rfl, rfl, h1, r1⟩ := trodAll_cons r0
  obtain ⟨v2, vs2, d2, ds2, p2, q2, rfl, rfl, rfl, h2, r2⟩ := trodAll_cons r1
  obtain ⟨rfl, rfl, rfl⟩ := trodAll_nil r2
  obtain rfl : args = #[v0, v1, v2] := by cases args; simp_all
  obtain ⟨rfl, rfl⟩ := trodVars_none hV
  obtain ⟨x0, y0, i0⟩ := open_calD (hval 0 25 v0 rfl rfl) h0
  obtain ⟨x1, y1, i1⟩ := open_calD (hval 1 25 v1 rfl rfl) h1
  obtain ⟨n2, rfl, -, -, wn2⟩ := open_int Try.underlying26 (hval 2 26 v2 rfl rfl) h2
  refine (joint_law x0 y0 x1 y1 n2 W v0 v1 i0 i1).mono fun e W' ⟨he, bel⟩ => ?_
  subst he
  exact ⟨_, rfl, law_post hW' rfl rfl rfl calendarJoint_reads bel⟩

theorem calendarJointfact0 : Rows.calendarJointRow.wf (OpenSpec.ofChange Rows.calendarJointSpec) = true := by kernel_rfl
theorem calendarJointfact3 : Try.f17.params.all (Try.prog.readableRec ·) = true := by kernel_rfl
theorem calendarJointfact4 : namedTie Try.prog Rows.calendarJointRow.named Rows.calendarJointSpec.vars = true := by kernel_rfl
theorem calendarJointfact5 : (Rows.calendarJointRow.stops == []) = true := by kernel_rfl
theorem calendarJointfact7 : (Rows.calendarJointRow.knobs == []) = true := by kernel_rfl
theorem calendarJointfact9 : (Rows.calendarJointRow.inPlace == Try.prog.inPlace 17) = true := by kernel_rfl
theorem calendarJointfact10 : (Rows.calendarJointRow.unfollowed == Try.prog.unfollowed 17) = true := by kernel_rfl
theorem calendarJointfact11 : (Rows.calendarJointRow.recurses == Try.prog.recurses 17) = true := by kernel_rfl
theorem calendarJointfact12 : (Rows.calendarJointRow.named == Try.prog.varsNamed 17) = true := by kernel_rfl
theorem calendarJointfact13 : (Rows.calendarJointRow.maps == (Try.f17.params.toList ++ Rows.calendarJointSpec.plain.varTypes Try.prog).any (Try.prog.mapsRec ·)) = true := by kernel_rfl
theorem calendarJointfact14 : (Rows.calendarJointRow.ifaces == (Try.f17.params.toList ++ Rows.calendarJointSpec.plain.varTypes Try.prog).any (Try.prog.ifacesRec ·)) = true := by kernel_rfl
theorem calendarJointfact15 : (Rows.calendarJointRow.mapsOut == Try.prog.mapsAmong Try.f17.resultTypes.toList) = true := by kernel_rfl
theorem calendarJointfact16 : (Rows.calendarJointRow.loops == (Try.f17.params.toList ++ Rows.calendarJointSpec.plain.varTypes Try.prog).any (Try.prog.loopsFrom ·)) = true := by kernel_rfl
theorem calendarJointfact17 : (Rows.calendarJointRow.wideKeys == (Try.f17.params.toList ++ Rows.calendarJointSpec.plain.varTypes Try.prog ++ Try.f17.resultTypes.toList).any (Try.prog.wideKeysFrom ·)) = true := by kernel_rfl
theorem calendarJointfact18 : Rows.calendarJointSpec.vars.all (Try.prog.varReadable ·) = true := by kernel_rfl
theorem calendarJointfact19 : Try.f17.resultTypes.all (fun t => Try.prog.readableRec t && decide (t < Try.prog.types.size)) = true := by kernel_rfl
theorem calendarJointfact20 : (Rows.calendarJointRow.ifacesOut == Try.f17.resultTypes.toList.any (Try.prog.ifacesRec ·)) = true := by kernel_rfl
theorem calendarJointfact21 : (Rows.calendarJointRow.loopsOut == Try.f17.resultTypes.toList.any (Try.prog.loopsFrom ·)) = true := by kernel_rfl
theorem calendarJointfact22 : (Rows.calendarJointRow.plainKeys == Try.prog.plainKeys) = true := by rw [sharedplainKeys]; rfl
theorem calendarJointfact23 : Rows.calendarJointRow.shortTexts.isNone = true := by kernel_rfl
theorem calendarJointfact26 : (Rows.calendarJointRow.lifted == Try.prog.liftsFinal) = true := by rw [sharedliftsFinal]; rfl
theorem calendarJointfact27 : (Try.prog.make == some Rows.calendarJointRow.make) = true := by kernel_rfl
theorem calendarJointfact28 : (Rows.calendarJointRow.kinds == (if Rows.calendarJointRow.domain.isEmpty then [] else Try.f17.params.toList.map fun t => match Try.prog.underlying t with | some (.int k) => some k | _ => none)) = true := by kernel_rfl
theorem calendarJointfact29 : (Rows.calendarJointRow.pinned == Rows.calendarJointRow.pinnedBy) = true := by kernel_rfl
theorem calendarJointfact30 : (Rows.calendarJointRow.veiled == (Try.f17.params.toList ++ Rows.calendarJointSpec.plain.varTypes Try.prog ++ Try.f17.resultTypes.toList).any (Try.prog.veiledRec ·)) = true := by kernel_rfl
theorem calendarJointfact31 : Rows.calendarJointRow.veiledFits Try.prog Try.f17.params.toList (Try.f17.params.toList ++ Rows.calendarJointSpec.plain.varTypes Try.prog ++ Try.f17.resultTypes.toList) = true := by kernel_rfl
set_option maxRecDepth 100000 in
theorem calendarJointclosed : joinedFacts Try.prog 17 Try.f17 Rows.calendarJointSpec Rows.calendarJointRow = true := (and_mk (and_mk (and_mk (and_mk (and_mk (and_mk (and_mk (and_mk (and_mk (and_mk (and_mk (and_mk (and_mk (and_mk (and_mk (and_mk (and_mk (and_mk (and_mk (and_mk (and_mk (and_mk (and_mk (and_mk (and_mk (and_mk (and_mk (and_mk (and_mk (and_mk (and_mk calendarJointfact0 sharedfact1) sharedfact2) calendarJointfact3) calendarJointfact4) calendarJointfact5) sharedfact6) calendarJointfact7) sharedfact8) calendarJointfact9) calendarJointfact10) calendarJointfact11) calendarJointfact12) calendarJointfact13) calendarJointfact14) calendarJointfact15) calendarJointfact16) calendarJointfact17) calendarJointfact18) calendarJointfact19) calendarJointfact20) calendarJointfact21) calendarJointfact22) calendarJointfact23) sharedfact24) sharedfact25) calendarJointfact26) calendarJointfact27) calendarJointfact28) calendarJointfact29) calendarJointfact30) calendarJointfact31)

theorem calendarJoint_named : Try.prog.funcNamed Rows.calendarJointRow.func = some 17 := by kernel_rfl
theorem calendarJoint_wrap : Try.f17.isWrapper Try.prog Rows.calendarJointRow.wrapper Rows.calendarJointRow.mainSum := by
  unfold Func.isWrapper
  first | (rw [if_pos (by decide +kernel)]; kernel_rfl) | (rw [if_neg (by decide +kernel)]; exact ⟨rfl, rfl⟩)
theorem calendarJoint_inst : Try.f17.isInstance Try.prog Rows.calendarJointRow.origin Rows.calendarJointRow.targs := of_decide_eq_true (by kernel_rfl)
theorem calendarJoint_over : Rows.calendarJointRow.holds Try.pinned (OpenSpec.ofChange Rows.calendarJointSpec) :=
  OpenClaim.holds_of_wide 17 Try.f17 rfl rfl rfl rfl rfl rfl rfl ⟨rfl, rfl, rfl, rfl, rfl⟩ rfl rfl rfl rfl rfl calendarJoint_named Try.func17 calendarJointclosed calendarJoint_inst calendarJoint_wrap
    (fun os started H enc _ => calendarJoint_lifted os started H enc)

theorem CalendarJoint_holds : Rows.CalendarJointSaid := calendarJoint_over
#print axioms CalendarJoint_holds
end Go.Proofs.Ytilbolgncpfmmaa
