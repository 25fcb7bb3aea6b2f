/- The law CalendarNearest returns true for every input, and each argument reads afterwards as before. Conditions: none. -/
import Derived.Test.YtilbolgncpfmmaaLawKit
import Derived.Test.YtilbolgncpfmmaaNearest
import Derived.Test.YtilbolgncpfmmaaFacts
namespace Go.Proofs.Ytilbolgncpfmmaa
open Go.ChangeShapes Go.WideShapes Go.ChangeAt Go.RowKit

theorem calendarNearest_reads : ∀ t ∈ Try.f7.params.toList, Try.prog.readableRec t = true ∧ t < Try.prog.types.size := by
  rw [Try.params7]
  intro t ht
  have : t = 25 ∨ t = 26 := by simp at ht; omega
  rcases this with rfl | rfl
  · exact ⟨by kernel_rfl, of_decide_eq_true (by kernel_rfl)⟩
  · exact ⟨by kernel_rfl, of_decide_eq_true (by kernel_rfl)⟩

set_option maxRecDepth 100000 in
theorem calendarNearest_lifted (os : Os) (started : os.Started) (H : Type) (enc : TypeId × Value → H) :
    ReturnsInHanded {} Try.checked os 7 .any (Rows.calendarNearestSpec.pre6 enc Try.prog Try.f7 Rows.calendarNearestRow.domain false) (Rows.calendarNearestSpec.post enc Try.prog Try.f7 false true false false) := by
  refine returnsInHanded_of_change (C := Try.checked) own started (by kernel_rfl) Try.func7
    (ChangeSpec.witness6 (enc := enc) (C := Try.checked) false ⟨#[], #[.agg #[.slice none 0 0, .slice none 0 0], .int .i64 0], []⟩ 8 (by kernel_rfl) (by kernel_rfl) (by kernel_rfl) (by kernel_rfl)) ?_
  intro W base args ds gs before hval0 hW hcnd _
  have hval : ∀ (j : Nat) t v, Try.f7.params[j]? = some t → args[j]? = some v → Value.okWide Try.prog W .any base t v := hval0
  have hW' := hW
  obtain ⟨p, q, hA0, hV, rfl, hfz, hnd⟩ := hW
  have hA : DataW.TrodAll enc Try.prog W 0 (fun _ => true) true Try.f7.params.toList args.toList ds p := hA0
  rw [Try.params7] at hA hval
  obtain ⟨v0, vs0, d0, ds0, p0, q0, hargs, rfl, rfl, h0, r0⟩ := trodAll_cons hA
  obtain ⟨v1, vs1, d1, ds1, p1, q1, rfl, rfl, rfl, h1, r1⟩ := trodAll_cons r0
  obtain ⟨rfl, rfl, rfl⟩ := trodAll_nil r1
  obtain rfl : args = #[v0, v1] := by cases args; simp_all
  obtain ⟨rfl, rfl⟩ := trodVars_none hV
  obtain ⟨x0, y0, we0, hs0, rfl, i0, j0⟩ := open_cal (hval 0 25 v0 rfl rfl) h0
  obtain ⟨n1, rfl, -, -, wn1⟩ := open_int Try.underlying26 (hval 1 26 v1 rfl rfl) h1
  refine (nearest_any x0 y0 we0 hs0 n1 W i0 j0).mono fun e W' ⟨he, bel⟩ => ?_
  subst he
  exact ⟨_, rfl, law_post hW' rfl rfl rfl calendarNearest_reads bel⟩

theorem calendarNearestfact0 : Rows.calendarNearestRow.wf (OpenSpec.ofChange Rows.calendarNearestSpec) = true := by kernel_rfl
theorem calendarNearestfact3 : Try.f7.params.all (Try.prog.readableRec ·) = true := by kernel_rfl
theorem calendarNearestfact4 : namedTie Try.prog Rows.calendarNearestRow.named Rows.calendarNearestSpec.vars = true := by kernel_rfl
theorem calendarNearestfact5 : (Rows.calendarNearestRow.stops == []) = true := by kernel_rfl
theorem calendarNearestfact7 : (Rows.calendarNearestRow.knobs == []) = true := by kernel_rfl
theorem calendarNearestfact9 : (Rows.calendarNearestRow.inPlace == Try.prog.inPlace 7) = true := by kernel_rfl
theorem calendarNearestfact10 : (Rows.calendarNearestRow.unfollowed == Try.prog.unfollowed 7) = true := by kernel_rfl
theorem calendarNearestfact11 : (Rows.calendarNearestRow.recurses == Try.prog.recurses 7) = true := by kernel_rfl
theorem calendarNearestfact12 : (Rows.calendarNearestRow.named == Try.prog.varsNamed 7) = true := by kernel_rfl
theorem calendarNearestfact13 : (Rows.calendarNearestRow.maps == (Try.f7.params.toList ++ Rows.calendarNearestSpec.plain.varTypes Try.prog).any (Try.prog.mapsRec ·)) = true := by kernel_rfl
theorem calendarNearestfact14 : (Rows.calendarNearestRow.ifaces == (Try.f7.params.toList ++ Rows.calendarNearestSpec.plain.varTypes Try.prog).any (Try.prog.ifacesRec ·)) = true := by kernel_rfl
theorem calendarNearestfact15 : (Rows.calendarNearestRow.mapsOut == Try.prog.mapsAmong Try.f7.resultTypes.toList) = true := by kernel_rfl
theorem calendarNearestfact16 : (Rows.calendarNearestRow.loops == (Try.f7.params.toList ++ Rows.calendarNearestSpec.plain.varTypes Try.prog).any (Try.prog.loopsFrom ·)) = true := by kernel_rfl
theorem calendarNearestfact17 : (Rows.calendarNearestRow.wideKeys == (Try.f7.params.toList ++ Rows.calendarNearestSpec.plain.varTypes Try.prog ++ Try.f7.resultTypes.toList).any (Try.prog.wideKeysFrom ·)) = true := by kernel_rfl
theorem calendarNearestfact18 : Rows.calendarNearestSpec.vars.all (Try.prog.varReadable ·) = true := by kernel_rfl
theorem calendarNearestfact19 : Try.f7.resultTypes.all (fun t => Try.prog.readableRec t && decide (t < Try.prog.types.size)) = true := by kernel_rfl
theorem calendarNearestfact20 : (Rows.calendarNearestRow.ifacesOut == Try.f7.resultTypes.toList.any (Try.prog.ifacesRec ·)) = true := by kernel_rfl
theorem calendarNearestfact21 : (Rows.calendarNearestRow.loopsOut == Try.f7.resultTypes.toList.any (Try.prog.loopsFrom ·)) = true := by kernel_rfl
theorem calendarNearestfact22 : (Rows.calendarNearestRow.plainKeys == Try.prog.plainKeys) = true := by rw [sharedplainKeys]; rfl
theorem calendarNearestfact23 : Rows.calendarNearestRow.shortTexts.isNone = true := by kernel_rfl
theorem calendarNearestfact26 : (Rows.calendarNearestRow.lifted == Try.prog.liftsFinal) = true := by rw [sharedliftsFinal]; rfl
theorem calendarNearestfact27 : (Try.prog.make == some Rows.calendarNearestRow.make) = true := by kernel_rfl
theorem calendarNearestfact28 : (Rows.calendarNearestRow.kinds == (if Rows.calendarNearestRow.domain.isEmpty then [] else Try.f7.params.toList.map fun t => match Try.prog.underlying t with | some (.int k) => some k | _ => none)) = true := by kernel_rfl
theorem calendarNearestfact29 : (Rows.calendarNearestRow.pinned == Rows.calendarNearestRow.pinnedBy) = true := by kernel_rfl
theorem calendarNearestfact30 : (Rows.calendarNearestRow.veiled == (Try.f7.params.toList ++ Rows.calendarNearestSpec.plain.varTypes Try.prog ++ Try.f7.resultTypes.toList).any (Try.prog.veiledRec ·)) = true := by kernel_rfl
theorem calendarNearestfact31 : Rows.calendarNearestRow.veiledFits Try.prog Try.f7.params.toList (Try.f7.params.toList ++ Rows.calendarNearestSpec.plain.varTypes Try.prog ++ Try.f7.resultTypes.toList) = true := by kernel_rfl
set_option maxRecDepth 100000 in
theorem calendarNearestclosed : joinedFacts Try.prog 7 Try.f7 Rows.calendarNearestSpec Rows.calendarNearestRow = true := (and_mk (and_mk (and_mk (and_mk (and_mk (and_mk (and_mk (and_mk (and_mk (and_mk (and_mk (and_mk (and_mk (and_mk (and_mk (and_mk (and_mk (and_mk (and_mk (and_mk (and_mk (and_mk (and_mk (and_mk (and_mk (and_mk (and_mk (and_mk (and_mk (and_mk (and_mk calendarNearestfact0 sharedfact1) sharedfact2) calendarNearestfact3) calendarNearestfact4) calendarNearestfact5) sharedfact6) calendarNearestfact7) sharedfact8) calendarNearestfact9) calendarNearestfact10) calendarNearestfact11) calendarNearestfact12) calendarNearestfact13) calendarNearestfact14) calendarNearestfact15) calendarNearestfact16) calendarNearestfact17) calendarNearestfact18) calendarNearestfact19) calendarNearestfact20) calendarNearestfact21) calendarNearestfact22) calendarNearestfact23) sharedfact24) sharedfact25) calendarNearestfact26) calendarNearestfact27) calendarNearestfact28) calendarNearestfact29) calendarNearestfact30) calendarNearestfact31)

theorem calendarNearest_named : Try.prog.funcNamed Rows.calendarNearestRow.func = some 7 := by kernel_rfl
theorem calendarNearest_wrap : Try.f7.isWrapper Try.prog Rows.calendarNearestRow.wrapper Rows.calendarNearestRow.mainSum := by
  unfold Func.isWrapper
  first | (rw [if_pos (by decide +kernel)]; kernel_rfl) | (rw [if_neg (by decide +kernel)]; exact ⟨rfl, rfl⟩)
theorem calendarNearest_inst : Try.f7.isInstance Try.prog Rows.calendarNearestRow.origin Rows.calendarNearestRow.targs := of_decide_eq_true (by kernel_rfl)
theorem calendarNearest_over : Rows.calendarNearestRow.holds Try.pinned (OpenSpec.ofChange Rows.calendarNearestSpec) :=
  OpenClaim.holds_of_wide 7 Try.f7 rfl rfl rfl rfl rfl rfl rfl ⟨rfl, rfl, rfl, rfl, rfl⟩ rfl rfl rfl rfl rfl calendarNearest_named Try.func7 calendarNearestclosed calendarNearest_inst calendarNearest_wrap
    (fun os started H enc _ => calendarNearest_lifted os started H enc)

theorem CalendarNearest_holds : Rows.CalendarNearestSaid := calendarNearest_over
#print axioms CalendarNearest_holds
end Go.Proofs.Ytilbolgncpfmmaa
