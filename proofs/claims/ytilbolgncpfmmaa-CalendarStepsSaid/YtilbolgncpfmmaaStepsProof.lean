/- The law CalendarSteps returns true for every input, and each argument reads afterwards as before. Conditions: none. -/
import Derived.Test.YtilbolgncpfmmaaLawKit
import Derived.Test.YtilbolgncpfmmaaSteps
import Derived.Test.YtilbolgncpfmmaaFacts
namespace Go.Proofs.Ytilbolgncpfmmaa
open Go.ChangeShapes Go.WideShapes Go.ChangeAt Go.RowKit

theorem steps_reads : ∀ t ∈ Try.f3.params.toList, Try.prog.readableRec t = true ∧ t < Try.prog.types.size := by
  rw [Try.params3]
  intro t ht
  have : t = 25 ∨ t = 26 ∨ t = 3 ∨ t = 28 := by simpa using ht
  rcases this with rfl | rfl | rfl | rfl
  · exact ⟨by kernel_rfl, of_decide_eq_true (by kernel_rfl)⟩
  · exact ⟨by kernel_rfl, of_decide_eq_true (by kernel_rfl)⟩
  · exact ⟨by kernel_rfl, of_decide_eq_true (by kernel_rfl)⟩
  · exact ⟨by kernel_rfl, of_decide_eq_true (by kernel_rfl)⟩

set_option maxRecDepth 100000 in
theorem steps_lifted (os : Os) (started : os.Started) (H : Type) (enc : TypeId × Value → H) :
    ReturnsInHanded {} Try.checked os 3 .any (Rows.calendarStepsSpec.pre6 enc Try.prog Try.f3 Rows.calendarStepsRow.domain false) (Rows.calendarStepsSpec.post enc Try.prog Try.f3 false true false false) := by
  refine returnsInHanded_of_change (C := Try.checked) own started (by kernel_rfl) Try.func3
    (ChangeSpec.witness6 (enc := enc) (C := Try.checked) false ⟨#[], #[.agg #[.slice none 0 0, .slice none 0 0], .int .i64 0, .int .i64 0, .agg #[.int .i64 0, .int .i64 0]], []⟩ 8 (by kernel_rfl) (by kernel_rfl) (by kernel_rfl) (by kernel_rfl)) ?_
  intro W base args ds gs before hval0 hW hcnd _
  have hval : ∀ (j : Nat) t v, Try.f3.params[j]? = some t → args[j]? = some v → Value.okWide Try.prog W .any base t v := hval0
  have hW' := hW
  obtain ⟨p, q, hA0, hV, rfl, hfz, hnd⟩ := hW
  have hA : DataW.TrodAll enc Try.prog W 0 (fun _ => true) true Try.f3.params.toList args.toList ds p := hA0
  rw [Try.params3] at hA hval
  obtain ⟨v0, vs0, d0, ds0, p0, q0, hargs, rfl, rfl, h0, r0⟩ := trodAll_cons hA
  obtain ⟨v1, vs1, d1, ds1, p1, q1, rfl, rfl, rfl, h1, r1⟩ := trodAll_cons r0
  obtain ⟨v2, vs2, d2, ds2, p2, q2, rfl, rfl, rfl, h2, r2⟩ := trodAll_cons r1
  obtain ⟨v3, vs3, d3, ds3, p3, q3, rfl, rfl, rfl, h3, r3⟩ := trodAll_cons r2
  obtain ⟨rfl, rfl, rfl⟩ := trodAll_nil r3
  obtain rfl : args = #[v0, v1, v2, v3] := by cases args; simp_all
  obtain ⟨rfl, rfl⟩ := trodVars_none hV
  obtain ⟨c0, c1, we, hs, rfl, i0, i1⟩ := open_cal (hval 0 25 v0 rfl rfl) h0
  obtain ⟨d, rfl, -, -, wd⟩ := open_int Try.underlying26 (hval 1 26 v1 rfl rfl) h1
  obtain ⟨n, rfl, -, -, wn⟩ := open_int Try.underlying3 (hval 2 3 v2 rfl rfl) h2
  obtain ⟨a, b, rfl, ba, bb⟩ := open_per (hval 3 28 v3 rfl rfl) h3
  refine (steps_any c0 c1 we hs d n a b W i0 i1 (int_bd wn).1 (int_bd wn).2).mono fun e W' ⟨he, bel⟩ => ?_
  subst he
  exact ⟨_, rfl, law_post hW' rfl rfl rfl steps_reads bel⟩

theorem stepsfact0 : Rows.calendarStepsRow.wf (OpenSpec.ofChange Rows.calendarStepsSpec) = true := by kernel_rfl
theorem stepsfact3 : Try.f3.params.all (Try.prog.readableRec ·) = true := by kernel_rfl
theorem stepsfact4 : namedTie Try.prog Rows.calendarStepsRow.named Rows.calendarStepsSpec.vars = true := by kernel_rfl
theorem stepsfact5 : (Rows.calendarStepsRow.stops == []) = true := by kernel_rfl
theorem stepsfact7 : (Rows.calendarStepsRow.knobs == []) = true := by kernel_rfl
theorem stepsfact9 : (Rows.calendarStepsRow.inPlace == Try.prog.inPlace 3) = true := by kernel_rfl
theorem stepsfact10 : (Rows.calendarStepsRow.unfollowed == Try.prog.unfollowed 3) = true := by kernel_rfl
theorem stepsfact11 : (Rows.calendarStepsRow.recurses == Try.prog.recurses 3) = true := by kernel_rfl
theorem stepsfact12 : (Rows.calendarStepsRow.named == Try.prog.varsNamed 3) = true := by kernel_rfl
theorem stepsfact13 : (Rows.calendarStepsRow.maps == (Try.f3.params.toList ++ Rows.calendarStepsSpec.plain.varTypes Try.prog).any (Try.prog.mapsRec ·)) = true := by kernel_rfl
theorem stepsfact14 : (Rows.calendarStepsRow.ifaces == (Try.f3.params.toList ++ Rows.calendarStepsSpec.plain.varTypes Try.prog).any (Try.prog.ifacesRec ·)) = true := by kernel_rfl
theorem stepsfact15 : (Rows.calendarStepsRow.mapsOut == Try.prog.mapsAmong Try.f3.resultTypes.toList) = true := by kernel_rfl
theorem stepsfact16 : (Rows.calendarStepsRow.loops == (Try.f3.params.toList ++ Rows.calendarStepsSpec.plain.varTypes Try.prog).any (Try.prog.loopsFrom ·)) = true := by kernel_rfl
theorem stepsfact17 : (Rows.calendarStepsRow.wideKeys == (Try.f3.params.toList ++ Rows.calendarStepsSpec.plain.varTypes Try.prog ++ Try.f3.resultTypes.toList).any (Try.prog.wideKeysFrom ·)) = true := by kernel_rfl
theorem stepsfact18 : Rows.calendarStepsSpec.vars.all (Try.prog.varReadable ·) = true := by kernel_rfl
theorem stepsfact19 : Try.f3.resultTypes.all (fun t => Try.prog.readableRec t && decide (t < Try.prog.types.size)) = true := by kernel_rfl
theorem stepsfact20 : (Rows.calendarStepsRow.ifacesOut == Try.f3.resultTypes.toList.any (Try.prog.ifacesRec ·)) = true := by kernel_rfl
theorem stepsfact21 : (Rows.calendarStepsRow.loopsOut == Try.f3.resultTypes.toList.any (Try.prog.loopsFrom ·)) = true := by kernel_rfl
theorem stepsfact22 : (Rows.calendarStepsRow.plainKeys == Try.prog.plainKeys) = true := by rw [sharedplainKeys]; rfl
theorem stepsfact23 : Rows.calendarStepsRow.shortTexts.isNone = true := by kernel_rfl
theorem stepsfact26 : (Rows.calendarStepsRow.lifted == Try.prog.liftsFinal) = true := by rw [sharedliftsFinal]; rfl
theorem stepsfact27 : (Try.prog.make == some Rows.calendarStepsRow.make) = true := by kernel_rfl
theorem stepsfact28 : (Rows.calendarStepsRow.kinds == (if Rows.calendarStepsRow.domain.isEmpty then [] else Try.f3.params.toList.map fun t => match Try.prog.underlying t with | some (.int k) => some k | _ => none)) = true := by kernel_rfl
theorem stepsfact29 : (Rows.calendarStepsRow.pinned == Rows.calendarStepsRow.pinnedBy) = true := by kernel_rfl
theorem stepsfact30 : (Rows.calendarStepsRow.veiled == (Try.f3.params.toList ++ Rows.calendarStepsSpec.plain.varTypes Try.prog ++ Try.f3.resultTypes.toList).any (Try.prog.veiledRec ·)) = true := by kernel_rfl
theorem stepsfact31 : Rows.calendarStepsRow.veiledFits Try.prog Try.f3.params.toList (Try.f3.params.toList ++ Rows.calendarStepsSpec.plain.varTypes Try.prog ++ Try.f3.resultTypes.toList) = true := by kernel_rfl
set_option maxRecDepth 100000 in
theorem stepsclosed : joinedFacts Try.prog 3 Try.f3 Rows.calendarStepsSpec Rows.calendarStepsRow = true := (and_mk (and_mk (and_mk (and_mk (and_mk (and_mk (and_mk (and_mk (and_mk (and_mk (and_mk (and_mk (and_mk (and_mk (and_mk (and_mk (and_mk (and_mk (and_mk (and_mk (and_mk (and_mk (and_mk (and_mk (and_mk (and_mk (and_mk (and_mk (and_mk (and_mk (and_mk stepsfact0 sharedfact1) sharedfact2) stepsfact3) stepsfact4) stepsfact5) sharedfact6) stepsfact7) sharedfact8) stepsfact9) stepsfact10) stepsfact11) stepsfact12) stepsfact13) stepsfact14) stepsfact15) stepsfact16) stepsfact17) stepsfact18) stepsfact19) stepsfact20) stepsfact21) stepsfact22) stepsfact23) sharedfact24) sharedfact25) stepsfact26) stepsfact27) stepsfact28) stepsfact29) stepsfact30) stepsfact31)

theorem steps_named : Try.prog.funcNamed Rows.calendarStepsRow.func = some 3 := by kernel_rfl
theorem steps_wrap : Try.f3.isWrapper Try.prog Rows.calendarStepsRow.wrapper Rows.calendarStepsRow.mainSum := by
  unfold Func.isWrapper
  first | (rw [if_pos (by decide +kernel)]; kernel_rfl) | (rw [if_neg (by decide +kernel)]; exact ⟨rfl, rfl⟩)
theorem steps_inst : Try.f3.isInstance Try.prog Rows.calendarStepsRow.origin Rows.calendarStepsRow.targs := of_decide_eq_true (by kernel_rfl)
theorem steps_over : Rows.calendarStepsRow.holds Try.pinned (OpenSpec.ofChange Rows.calendarStepsSpec) :=
  OpenClaim.holds_of_wide 3 Try.f3 rfl rfl rfl rfl rfl rfl rfl ⟨rfl, rfl, rfl, rfl, rfl⟩ rfl rfl rfl rfl rfl steps_named Try.func3 stepsclosed steps_inst steps_wrap
    (fun os started H enc _ => steps_lifted os started H enc)

theorem CalendarSteps_holds : Rows.CalendarStepsSaid := steps_over
#print axioms CalendarSteps_holds
end Go.Proofs.Ytilbolgncpfmmaa
