/- The law CalendarConventions returns true for every input, and each argument reads afterwards as before. Conditions: none. -/
import Derived.Test.YtilbolgncpfmmaaLawKit
import Derived.Test.YtilbolgncpfmmaaConv
import Derived.Test.YtilbolgncpfmmaaFacts
namespace Go.Proofs.Ytilbolgncpfmmaa
open Go.ChangeShapes Go.WideShapes Go.ChangeAt Go.RowKit

theorem calendarConventions_reads : ∀ t ∈ Try.f8.params.toList, Try.prog.readableRec t = true ∧ t < Try.prog.types.size := by
  rw [Try.params8]
  intro t ht
  have : t = 25 ∨ t = 26 := by simp at ht; omega
  rcases this with rfl | rfl
  · exact ⟨by kernel_rfl, of_decide_eq_true (by kernel_rfl)⟩
  · exact ⟨by kernel_rfl, of_decide_eq_true (by kernel_rfl)⟩

set_option maxRecDepth 100000 in
theorem calendarConventions_lifted (os : Os) (started : os.Started) (H : Type) (enc : TypeId × Value → H) :
    ReturnsInHanded {} Try.checked os 8 .any (Rows.calendarConventionsSpec.pre6 enc Try.prog Try.f8 Rows.calendarConventionsRow.domain false) (Rows.calendarConventionsSpec.post enc Try.prog Try.f8 false true false false) := by
  refine returnsInHanded_of_change (C := Try.checked) own started (by kernel_rfl) Try.func8
    (ChangeSpec.witness6 (enc := enc) (C := Try.checked) false ⟨#[], #[.agg #[.slice none 0 0, .slice none 0 0], .int .i64 0], []⟩ 8 (by kernel_rfl) (by kernel_rfl) (by kernel_rfl) (by kernel_rfl)) ?_
  intro W base args ds gs before hval0 hW hcnd _
  have hval : ∀ (j : Nat) t v, Try.f8.params[j]? = some t → args[j]? = some v → Value.okWide Try.prog W .any base t v := hval0
  have hW' := hW
  obtain ⟨p, q, hA0, hV, rfl, hfz, hnd⟩ := hW
  have hA : DataW.TrodAll enc Try.prog W 0 (fun _ => true) true Try.f8.params.toList args.toList ds p := hA0
  rw [Try.params8] at hA hval
  obtain ⟨v0, vs0, d0, ds0, p0, q0, hargs, rfl, rfl, h0, r0⟩ := trodAll_cons hA
  obtain ⟨v1, vs1, d1, ds1, p1, q1, rfl, rfl, rfl, h1, r1⟩ := trodAll_cons r0
  obtain ⟨rfl, rfl, rfl⟩ := trodAll_nil r1
  obtain rfl : args = #[v0, v1] := by cases args; simp_all
  obtain ⟨rfl, rfl⟩ := trodVars_none hV
  obtain ⟨x0, y0, we0, hs0, rfl, i0, j0⟩ := open_cal (hval 0 25 v0 rfl rfl) h0
  obtain ⟨n1, rfl, -, -, wn1⟩ := open_int Try.underlying26 (hval 1 26 v1 rfl rfl) h1
  refine (conv_any x0 y0 we0 hs0 n1 W i0 j0).mono fun e W' ⟨he, bel⟩ => ?_
  subst he
  exact ⟨_, rfl, law_post hW' rfl rfl rfl calendarConventions_reads bel⟩

theorem calendarConventionsfact0 : Rows.calendarConventionsRow.wf (OpenSpec.ofChange Rows.calendarConventionsSpec) = true := by kernel_rfl
theorem calendarConventionsfact3 : Try.f8.params.all (Try.prog.readableRec ·) = true := by kernel_rfl
theorem calendarConventionsfact4 : namedTie Try.prog Rows.calendarConventionsRow.named Rows.calendarConventionsSpec.vars = true := by kernel_rfl
theorem calendarConventionsfact5 : (Rows.calendarConventionsRow.stops == []) = true := by kernel_rfl
theorem calendarConventionsfact7 : (Rows.calendarConventionsRow.knobs == []) = true := by kernel_rfl
theorem calendarConventionsfact9 : (Rows.calendarConventionsRow.inPlace == Try.prog.inPlace 8) = true := by kernel_rfl
theorem calendarConventionsfact10 : (Rows.calendarConventionsRow.unfollowed == Try.prog.unfollowed 8) = true := by kernel_rfl
theorem calendarConventionsfact11 : (Rows.calendarConventionsRow.recurses == Try.prog.recurses 8) = true := by kernel_rfl
theorem calendarConventionsfact12 : (Rows.calendarConventionsRow.named == Try.prog.varsNamed 8) = true := by kernel_rfl
theorem calendarConventionsfact13 : (Rows.calendarConventionsRow.maps == (Try.f8.params.toList ++ Rows.calendarConventionsSpec.plain.varTypes Try.prog).any (Try.prog.mapsRec ·)) = true := by kernel_rfl
theorem calendarConventionsfact14 : (Rows.calendarConventionsRow.ifaces == (Try.f8.params.toList ++ Rows.calendarConventionsSpec.plain.varTypes Try.prog).any (Try.prog.ifacesRec ·)) = true := by kernel_rfl
theorem calendarConventionsfact15 : (Rows.calendarConventionsRow.mapsOut == Try.prog.mapsAmong Try.f8.resultTypes.toList) = true := by kernel_rfl
theorem calendarConventionsfact16 : (Rows.calendarConventionsRow.loops == (Try.f8.params.toList ++ Rows.calendarConventionsSpec.plain.varTypes Try.prog).any (Try.prog.loopsFrom ·)) = true := by kernel_rfl
theorem calendarConventionsfact17 : (Rows.calendarConventionsRow.wideKeys == (Try.f8.params.toList ++ Rows.calendarConventionsSpec.plain.varTypes Try.prog ++ Try.f8.resultTypes.toList).any (Try.prog.wideKeysFrom ·)) = true := by kernel_rfl
theorem calendarConventionsfact18 : Rows.calendarConventionsSpec.vars.all (Try.prog.varReadable ·) = true := by kernel_rfl
theorem calendarConventionsfact19 : Try.f8.resultTypes.all (fun t => Try.prog.readableRec t && decide (t < Try.prog.types.size)) = true := by kernel_rfl
theorem calendarConventionsfact20 : (Rows.calendarConventionsRow.ifacesOut == Try.f8.resultTypes.toList.any (Try.prog.ifacesRec ·)) = true := by kernel_rfl
theorem calendarConventionsfact21 : (Rows.calendarConventionsRow.loopsOut == Try.f8.resultTypes.toList.any (Try.prog.loopsFrom ·)) = true := by kernel_rfl
theorem calendarConventionsfact22 : (Rows.calendarConventionsRow.plainKeys == Try.prog.plainKeys) = true := by rw [sharedplainKeys]; rfl
theorem calendarConventionsfact23 : Rows.calendarConventionsRow.shortTexts.isNone = true := by kernel_rfl
theorem calendarConventionsfact26 : (Rows.calendarConventionsRow.lifted == Try.prog.liftsFinal) = true := by rw [sharedliftsFinal]; rfl
theorem calendarConventionsfact27 : (Try.prog.make == some Rows.calendarConventionsRow.make) = true := by kernel_rfl
theorem calendarConventionsfact28 : (Rows.calendarConventionsRow.kinds == (if Rows.calendarConventionsRow.domain.isEmpty then [] else Try.f8.params.toList.map fun t => match Try.prog.underlying t with | some (.int k) => some k | _ => none)) = true := by kernel_rfl
theorem calendarConventionsfact29 : (Rows.calendarConventionsRow.pinned == Rows.calendarConventionsRow.pinnedBy) = true := by kernel_rfl
theorem calendarConventionsfact30 : (Rows.calendarConventionsRow.veiled == (Try.f8.params.toList ++ Rows.calendarConventionsSpec.plain.varTypes Try.prog ++ Try.f8.resultTypes.toList).any (Try.prog.veiledRec ·)) = true := by kernel_rfl
theorem calendarConventionsfact31 : Rows.calendarConventionsRow.veiledFits Try.prog Try.f8.params.toList (Try.f8.params.toList ++ Rows.calendarConventionsSpec.plain.varTypes Try.prog ++ Try.f8.resultTypes.toList) = true := by kernel_rfl
set_option maxRecDepth 100000 in
theorem calendarConventionsclosed : joinedFacts Try.prog 8 Try.f8 Rows.calendarConventionsSpec Rows.calendarConventionsRow = true := (and_mk (and_mk (and_mk (and_mk (and_mk (and_mk (and_mk (and_mk (and_mk (and_mk (and_mk (and_mk (and_mk (and_mk (and_mk (and_mk (and_mk (and_mk (and_mk (and_mk (and_mk (and_mk (and_mk (and_mk (and_mk (and_mk (and_mk (and_mk (and_mk (and_mk (and_mk calendarConventionsfact0 sharedfact1) sharedfact2) calendarConventionsfact3) calendarConventionsfact4) calendarConventionsfact5) sharedfact6) calendarConventionsfact7) sharedfact8) calendarConventionsfact9) calendarConventionsfact10) calendarConventionsfact11) calendarConventionsfact12) calendarConventionsfact13) calendarConventionsfact14) calendarConventionsfact15) calendarConventionsfact16) calendarConventionsfact17) calendarConventionsfact18) calendarConventionsfact19) calendarConventionsfact20) calendarConventionsfact21) calendarConventionsfact22) calendarConventionsfact23) sharedfact24) sharedfact25) calendarConventionsfact26) calendarConventionsfact27) calendarConventionsfact28) calendarConventionsfact29) calendarConventionsfact30) calendarConventionsfact31)

theorem calendarConventions_named : Try.prog.funcNamed Rows.calendarConventionsRow.func = some 8 := by kernel_rfl
theorem calendarConventions_wrap : Try.f8.isWrapper Try.prog Rows.calendarConventionsRow.wrapper Rows.calendarConventionsRow.mainSum := by
  unfold Func.isWrapper
  first | (rw [if_pos (by decide +kernel)]; kernel_rfl) | (rw [if_neg (by decide +kernel)]; exact ⟨rfl, rfl⟩)
theorem calendarConventions_inst : Try.f8.isInstance Try.prog Rows.calendarConventionsRow.origin Rows.calendarConventionsRow.targs := of_decide_eq_true (by kernel_rfl)
theorem calendarConventions_over : Rows.calendarConventionsRow.holds Try.pinned (OpenSpec.ofChange Rows.calendarConventionsSpec) :=
  OpenClaim.holds_of_wide 8 Try.f8 rfl rfl rfl rfl rfl rfl rfl ⟨rfl, rfl, rfl, rfl, rfl⟩ rfl rfl rfl rfl rfl calendarConventions_named Try.func8 calendarConventionsclosed calendarConventions_inst calendarConventions_wrap
    (fun os started H enc _ => calendarConventions_lifted os started H enc)

theorem CalendarConventions_holds : Rows.CalendarConventionsSaid := calendarConventions_over
#print axioms CalendarConventions_holds
end Go.Proofs.Ytilbolgncpfmmaa
