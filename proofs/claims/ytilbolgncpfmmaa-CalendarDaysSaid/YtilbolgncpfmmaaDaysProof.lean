/- The law CalendarDays returns true for every input, and each argument reads afterwards as before. Conditions: none. -/
import Derived.Test.YtilbolgncpfmmaaLawKit
import Derived.Test.YtilbolgncpfmmaaDays
import Derived.Test.YtilbolgncpfmmaaFacts
namespace Go.Proofs.Ytilbolgncpfmmaa
open Go.ChangeShapes Go.WideShapes Go.ChangeAt Go.RowKit

theorem calendarDays_reads : ∀ t ∈ Try.f6.params.toList, Try.prog.readableRec t = true ∧ t < Try.prog.types.size := by
  rw [Try.params6]
  intro t ht
  have : t = 25 ∨ t = 26 ∨ t = 3 := by simp at ht; omega
  rcases this with rfl | rfl | rfl
  · exact ⟨by kernel_rfl, of_decide_eq_true (by kernel_rfl)⟩
  · exact ⟨by kernel_rfl, of_decide_eq_true (by kernel_rfl)⟩
  · exact ⟨by kernel_rfl, of_decide_eq_true (by kernel_rfl)⟩

set_option maxRecDepth 100000 in
theorem calendarDays_lifted (os : Os) (started : os.Started) (H : Type) (enc : TypeId × Value → H) :
    ReturnsInHanded {} Try.checked os 6 .any (Rows.calendarDaysSpec.pre6 enc Try.prog Try.f6 Rows.calendarDaysRow.domain false) (Rows.calendarDaysSpec.post enc Try.prog Try.f6 false true false false) := by
  refine returnsInHanded_of_change (C := Try.checked) own started (by kernel_rfl) Try.func6
    (ChangeSpec.witness6 (enc := enc) (C := Try.checked) false ⟨#[], #[.agg #[.slice none 0 0, .slice none 0 0], .int .i64 0, .int .i64 0], []⟩ 8 (by kernel_rfl) (by kernel_rfl) (by kernel_rfl) (by kernel_rfl)) ?_
  intro W base args ds gs before hval0 hW hcnd _
  have hval : ∀ (j : Nat) t v, Try.f6.params[j]? = some t → args[j]? = some v → Value.okWide Try.prog W .any base t v := hval0
  have hW' := hW
  obtain ⟨p, q, hA0, hV, rfl, hfz, hnd⟩ := hW
  have hA : DataW.TrodAll enc Try.prog W 0 (fun _ => true) true Try.f6.params.toList args.toList ds p := hA0
  rw [Try.params6] at hA hval
  obtain ⟨v0, vs0, d0, ds0, p0, q0, hargs, rfl, rfl, h0, r0⟩ := trodAll_cons hA
  obtain ⟨v1, vs1, d1, ds1, p1, q1, rfl, rfl, rfl, h1, r1⟩ := trodAll_cons r0
  obtain ⟨v2, vs2, d2, ds2, p2, q2, rfl, rfl, rfl, h2, r2⟩ := trodAll_cons r1
  obtain ⟨rfl, rfl, rfl⟩ := trodAll_nil r2
  obtain rfl : args = #[v0, v1, v2] := by cases args; simp_all
  obtain ⟨rfl, rfl⟩ := trodVars_none hV
  obtain ⟨x0, y0, we0, hs0, rfl, i0, j0⟩ := open_cal (hval 0 25 v0 rfl rfl) h0
  obtain ⟨n1, rfl, -, -, wn1⟩ := open_int Try.underlying26 (hval 1 26 v1 rfl rfl) h1
  obtain ⟨n2, rfl, -, -, wn2⟩ := open_int Try.underlying3 (hval 2 3 v2 rfl rfl) h2
  refine (days_law x0 y0 we0 hs0 n1 n2 W i0 j0).mono fun e W' ⟨he, bel⟩ => ?_
  subst he
  exact ⟨_, rfl, law_post hW' rfl rfl rfl calendarDays_reads bel⟩

theorem calendarDaysfact0 : Rows.calendarDaysRow.wf (OpenSpec.ofChange Rows.calendarDaysSpec) = true := by kernel_rfl
theorem calendarDaysfact3 : Try.f6.params.all (Try.prog.readableRec ·) = true := by kernel_rfl
theorem calendarDaysfact4 : namedTie Try.prog Rows.calendarDaysRow.named Rows.calendarDaysSpec.vars = true := by kernel_rfl
theorem calendarDaysfact5 : (Rows.calendarDaysRow.stops == []) = true := by kernel_rfl
theorem calendarDaysfact7 : (Rows.calendarDaysRow.knobs == []) = true := by kernel_rfl
theorem calendarDaysfact9 : (Rows.calendarDaysRow.inPlace == Try.prog.inPlace 6) = true := by kernel_rfl
theorem calendarDaysfact10 : (Rows.calendarDaysRow.unfollowed == Try.prog.unfollowed 6) = true := by kernel_rfl
theorem calendarDaysfact11 : (Rows.calendarDaysRow.recurses == Try.prog.recurses 6) = true := by kernel_rfl
theorem calendarDaysfact12 : (Rows.calendarDaysRow.named == Try.prog.varsNamed 6) = true := by kernel_rfl
theorem calendarDaysfact13 : (Rows.calendarDaysRow.maps == (Try.f6.params.toList ++ Rows.calendarDaysSpec.plain.varTypes Try.prog).any (Try.prog.mapsRec ·)) = true := by kernel_rfl
theorem calendarDaysfact14 : (Rows.calendarDaysRow.ifaces == (Try.f6.params.toList ++ Rows.calendarDaysSpec.plain.varTypes Try.prog).any (Try.prog.ifacesRec ·)) = true := by kernel_rfl
theorem calendarDaysfact15 : (Rows.calendarDaysRow.mapsOut == Try.prog.mapsAmong Try.f6.resultTypes.toList) = true := by kernel_rfl
theorem calendarDaysfact16 : (Rows.calendarDaysRow.loops == (Try.f6.params.toList ++ Rows.calendarDaysSpec.plain.varTypes Try.prog).any (Try.prog.loopsFrom ·)) = true := by kernel_rfl
theorem calendarDaysfact17 : (Rows.calendarDaysRow.wideKeys == (Try.f6.params.toList ++ Rows.calendarDaysSpec.plain.varTypes Try.prog ++ Try.f6.resultTypes.toList).any (Try.prog.wideKeysFrom ·)) = true := by kernel_rfl
theorem calendarDaysfact18 : Rows.calendarDaysSpec.vars.all (Try.prog.varReadable ·) = true := by kernel_rfl
theorem calendarDaysfact19 : Try.f6.resultTypes.all (fun t => Try.prog.readableRec t && decide (t < Try.prog.types.size)) = true := by kernel_rfl
theorem calendarDaysfact20 : (Rows.calendarDaysRow.ifacesOut == Try.f6.resultTypes.toList.any (Try.prog.ifacesRec ·)) = true := by kernel_rfl
theorem calendarDaysfact21 : (Rows.calendarDaysRow.loopsOut == Try.f6.resultTypes.toList.any (Try.prog.loopsFrom ·)) = true := by kernel_rfl
theorem calendarDaysfact22 : (Rows.calendarDaysRow.plainKeys == Try.prog.plainKeys) = true := by rw [sharedplainKeys]; rfl
theorem calendarDaysfact23 : Rows.calendarDaysRow.shortTexts.isNone = true := by kernel_rfl
theorem calendarDaysfact26 : (Rows.calendarDaysRow.lifted == Try.prog.liftsFinal) = true := by rw [sharedliftsFinal]; rfl
theorem calendarDaysfact27 : (Try.prog.make == some Rows.calendarDaysRow.make) = true := by kernel_rfl
theorem calendarDaysfact28 : (Rows.calendarDaysRow.kinds == (if Rows.calendarDaysRow.domain.isEmpty then [] else Try.f6.params.toList.map fun t => match Try.prog.underlying t with | some (.int k) => some k | _ => none)) = true := by kernel_rfl
theorem calendarDaysfact29 : (Rows.calendarDaysRow.pinned == Rows.calendarDaysRow.pinnedBy) = true := by kernel_rfl
theorem calendarDaysfact30 : (Rows.calendarDaysRow.veiled == (Try.f6.params.toList ++ Rows.calendarDaysSpec.plain.varTypes Try.prog ++ Try.f6.resultTypes.toList).any (Try.prog.veiledRec ·)) = true := by kernel_rfl
theorem calendarDaysfact31 : Rows.calendarDaysRow.veiledFits Try.prog Try.f6.params.toList (Try.f6.params.toList ++ Rows.calendarDaysSpec.plain.varTypes Try.prog ++ Try.f6.resultTypes.toList) = true := by kernel_rfl
set_option maxRecDepth 100000 in
theorem calendarDaysclosed : joinedFacts Try.prog 6 Try.f6 Rows.calendarDaysSpec Rows.calendarDaysRow = true := (and_mk (and_mk (and_mk (and_mk (and_mk (and_mk (and_mk (and_mk (and_mk (and_mk (and_mk (and_mk (and_mk (and_mk (and_mk (and_mk (and_mk (and_mk (and_mk (and_mk (and_mk (and_mk (and_mk (and_mk (and_mk (and_mk (and_mk (and_mk (and_mk (and_mk (and_mk calendarDaysfact0 sharedfact1) sharedfact2) calendarDaysfact3) calendarDaysfact4) calendarDaysfact5) sharedfact6) calendarDaysfact7) sharedfact8) calendarDaysfact9) calendarDaysfact10) calendarDaysfact11) calendarDaysfact12) calendarDaysfact13) calendarDaysfact14) calendarDaysfact15) calendarDaysfact16) calendarDaysfact17) calendarDaysfact18) calendarDaysfact19) calendarDaysfact20) calendarDaysfact21) calendarDaysfact22) calendarDaysfact23) sharedfact24) sharedfact25) calendarDaysfact26) calendarDaysfact27) calendarDaysfact28) calendarDaysfact29) calendarDaysfact30) calendarDaysfact31)

theorem calendarDays_named : Try.prog.funcNamed Rows.calendarDaysRow.func = some 6 := by kernel_rfl
theorem calendarDays_wrap : Try.f6.isWrapper Try.prog Rows.calendarDaysRow.wrapper Rows.calendarDaysRow.mainSum := by
  unfold Func.isWrapper
  first | (rw [if_pos (by decide +kernel)]; kernel_rfl) | (rw [if_neg (by decide +kernel)]; exact ⟨rfl, rfl⟩)
theorem calendarDays_inst : Try.f6.isInstance Try.prog Rows.calendarDaysRow.origin Rows.calendarDaysRow.targs := of_decide_eq_true (by kernel_rfl)
theorem calendarDays_over : Rows.calendarDaysRow.holds Try.pinned (OpenSpec.ofChange Rows.calendarDaysSpec) :=
  OpenClaim.holds_of_wide 6 Try.f6 rfl rfl rfl rfl rfl rfl rfl ⟨rfl, rfl, rfl, rfl, rfl⟩ rfl rfl rfl rfl rfl calendarDays_named Try.func6 calendarDaysclosed calendarDays_inst calendarDays_wrap
    (fun os started H enc _ => calendarDays_lifted os started H enc)

theorem CalendarDays_holds : Rows.CalendarDaysSaid := calendarDays_over
#print axioms CalendarDays_holds
end Go.Proofs.Ytilbolgncpfmmaa
