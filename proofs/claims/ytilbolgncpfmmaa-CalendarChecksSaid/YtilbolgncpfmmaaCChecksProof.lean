/- The law CalendarChecks returns true for every input, and each argument reads afterwards as before. Conditions: none. -/
import Derived.Test.YtilbolgncpfmmaaLawQ
import Derived.Test.YtilbolgncpfmmaaWJ
import Derived.Test.YtilbolgncpfmmaaFacts
namespace Go.Proofs.Ytilbolgncpfmmaa
open Go.ChangeShapes Go.WideShapes Go.ChangeAt Go.RowKit

theorem calendarChecks_reads : ∀ t ∈ Try.f16.params.toList, Try.prog.readableRec t = true ∧ t < Try.prog.types.size := by
  rw [Try.params16]
  intro t ht
  have : t = 25 := by simpa using ht
  subst this
  exact ⟨by kernel_rfl, of_decide_eq_true (by kernel_rfl)⟩

set_option maxRecDepth 100000 in
theorem calendarChecks_lifted (os : Os) (started : os.Started) (H : Type) (enc : TypeId × Value → H) :
    ReturnsInHanded {} Try.checked os 16 .any (Rows.calendarChecksSpec.pre6 enc Try.prog Try.f16 Rows.calendarChecksRow.domain false) (Rows.calendarChecksSpec.post enc Try.prog Try.f16 false true false false) := by
  refine returnsInHanded_of_change (C := Try.checked) own started (by kernel_rfl) Try.func16
    (ChangeSpec.witness6 (enc := enc) (C := Try.checked) false ⟨#[], #[.agg #[.slice none 0 0, .slice none 0 0], .agg #[.slice none 0 0, .slice none 0 0]], []⟩ 8 (by kernel_rfl) (by kernel_rfl) (by kernel_rfl) (by kernel_rfl)) ?_
  intro W base args ds gs before hval0 hW hcnd _
  have hval : ∀ (j : Nat) t v, Try.f16.params[j]? = some t → args[j]? = some v → Value.okWide Try.prog W .any base t v := hval0
  have hW' := hW
  obtain ⟨p, q, hA0, hV, rfl, hfz, hnd⟩ := hW
  have hA : DataW.TrodAll enc Try.prog W 0 (fun _ => true) true Try.f16.params.toList args.toList ds p := hA0
  rw [Try.params16] at hA hval
  obtain ⟨v0, vs0, d0, ds0, p0, q0, hargs, rfl, rfl, h0, r0⟩ := trodAll_cons hA
  obtain ⟨v1, vs1, d1, ds1, p1, q1, rfl, rfl, rfl, h1, r1⟩ := trodAll_cons r0
  obtain ⟨rfl, rfl, rfl⟩ := trodAll_nil r1
  obtain rfl : args = #[v0, v1] := by cases args; simp_all
  obtain ⟨rfl, rfl⟩ := trodVars_none hV
  obtain ⟨x0, y0, i0⟩ := open_calD (hval 0 25 v0 rfl rfl) h0
  obtain ⟨x1, y1, i1⟩ := open_calD (hval 1 25 v1 rfl rfl) h1
  refine (checks_law x0 y0 x1 y1 W v0 v1 i0 i1).mono fun e W' ⟨he, bel⟩ => ?_
  subst he
  exact ⟨_, rfl, law_post hW' rfl rfl rfl calendarChecks_reads bel⟩

theorem calendarChecksfact0 : Rows.calendarChecksRow.wf (OpenSpec.ofChange Rows.calendarChecksSpec) = true := by kernel_rfl
theorem calendarChecksfact3 : Try.f16.params.all (Try.prog.readableRec ·) = true := by kernel_rfl
theorem calendarChecksfact4 : namedTie Try.prog Rows.calendarChecksRow.named Rows.calendarChecksSpec.vars = true := by kernel_rfl
theorem calendarChecksfact5 : (Rows.calendarChecksRow.stops == []) = true := by kernel_rfl
theorem calendarChecksfact7 : (Rows.calendarChecksRow.knobs == []) = true := by kernel_rfl
theorem calendarChecksfact9 : (Rows.calendarChecksRow.inPlace == Try.prog.inPlace 16) = true := by kernel_rfl
theorem calendarChecksfact10 : (Rows.calendarChecksRow.unfollowed == Try.prog.unfollowed 16) = true := by kernel_rfl
theorem calendarChecksfact11 : (Rows.calendarChecksRow.recurses == Try.prog.recurses 16) = true := by kernel_rfl
theorem calendarChecksfact12 : (Rows.calendarChecksRow.named == Try.prog.varsNamed 16) = true := by kernel_rfl
theorem calendarChecksfact13 : (Rows.calendarChecksRow.maps == (Try.f16.params.toList ++ Rows.calendarChecksSpec.plain.varTypes Try.prog).any (Try.prog.mapsRec ·)) = true := by kernel_rfl
theorem calendarChecksfact14 : (Rows.calendarChecksRow.ifaces == (Try.f16.params.toList ++ Rows.calendarChecksSpec.plain.varTypes Try.prog).any (Try.prog.ifacesRec ·)) = true := by kernel_rfl
theorem calendarChecksfact15 : (Rows.calendarChecksRow.mapsOut == Try.prog.mapsAmong Try.f16.resultTypes.toList) = true := by kernel_rfl
theorem calendarChecksfact16 : (Rows.calendarChecksRow.loops == (Try.f16.params.toList ++ Rows.calendarChecksSpec.plain.varTypes Try.prog).any (Try.prog.loopsFrom ·)) = true := by kernel_rfl
theorem calendarChecksfact17 : (Rows.calendarChecksRow.wideKeys == (Try.f16.params.toList ++ Rows.calendarChecksSpec.plain.varTypes Try.prog ++ Try.f16.resultTypes.toList).any (Try.prog.wideKeysFrom ·)) = true := by kernel_rfl
theorem calendarChecksfact18 : Rows.calendarChecksSpec.vars.all (Try.prog.varReadable ·) = true := by kernel_rfl
theorem calendarChecksfact19 : Try.f16.resultTypes.all (fun t => Try.prog.readableRec t && decide (t < Try.prog.types.size)) = true := by kernel_rfl
theorem calendarChecksfact20 : (Rows.calendarChecksRow.ifacesOut == Try.f16.resultTypes.toList.any (Try.prog.ifacesRec ·)) = true := by kernel_rfl
theorem calendarChecksfact21 : (Rows.calendarChecksRow.loopsOut == Try.f16.resultTypes.toList.any (Try.prog.loopsFrom ·)) = true := by kernel_rfl
theorem calendarChecksfact22 : (Rows.calendarChecksRow.plainKeys == Try.prog.plainKeys) = true := by rw [sharedplainKeys]; rfl
theorem calendarChecksfact23 : Rows.calendarChecksRow.shortTexts.isNone = true := by kernel_rfl
theorem calendarChecksfact26 : (Rows.calendarChecksRow.lifted == Try.prog.liftsFinal) = true := by rw [sharedliftsFinal]; rfl
theorem calendarChecksfact27 : (Try.prog.make == some Rows.calendarChecksRow.make) = true := by kernel_rfl
theorem calendarChecksfact28 : (Rows.calendarChecksRow.kinds == (if Rows.calendarChecksRow.domain.isEmpty then [] else Try.f16.params.toList.map fun t => match Try.prog.underlying t with | some (.int k) => some k | _ => none)) = true := by kernel_rfl
theorem calendarChecksfact29 : (Rows.calendarChecksRow.pinned == Rows.calendarChecksRow.pinnedBy) = true := by kernel_rfl
theorem calendarChecksfact30 : (Rows.calendarChecksRow.veiled == (Try.f16.params.toList ++ Rows.calendarChecksSpec.plain.varTypes Try.prog ++ Try.f16.resultTypes.toList).any (Try.prog.veiledRec ·)) = true := by kernel_rfl
theorem calendarChecksfact31 : Rows.calendarChecksRow.veiledFits Try.prog Try.f16.params.toList (Try.f16.params.toList ++ Rows.calendarChecksSpec.plain.varTypes Try.prog ++ Try.f16.resultTypes.toList) = true := by kernel_rfl
set_option maxRecDepth 100000 in
theorem calendarChecksclosed : joinedFacts Try.prog 16 Try.f16 Rows.calendarChecksSpec Rows.calendarChecksRow = true := (and_mk (and_mk (and_mk (and_mk (and_mk (and_mk (and_mk (and_mk (and_mk (and_mk (and_mk (and_mk (and_mk (and_mk (and_mk (and_mk (and_mk (and_mk (and_mk (and_mk (and_mk (and_mk (and_mk (and_mk (and_mk (and_mk (and_mk (and_mk (and_mk (and_mk (and_mk calendarChecksfact0 sharedfact1) sharedfact2) calendarChecksfact3) calendarChecksfact4) calendarChecksfact5) sharedfact6) calendarChecksfact7) sharedfact8) calendarChecksfact9) calendarChecksfact10) calendarChecksfact11) calendarChecksfact12) calendarChecksfact13) calendarChecksfact14) calendarChecksfact15) calendarChecksfact16) calendarChecksfact17) calendarChecksfact18) calendarChecksfact19) calendarChecksfact20) calendarChecksfact21) calendarChecksfact22) calendarChecksfact23) sharedfact24) sharedfact25) calendarChecksfact26) calendarChecksfact27) calendarChecksfact28) calendarChecksfact29) calendarChecksfact30) calendarChecksfact31)

theorem calendarChecks_named : Try.prog.funcNamed Rows.calendarChecksRow.func = some 16 := by kernel_rfl
theorem calendarChecks_wrap : Try.f16.isWrapper Try.prog Rows.calendarChecksRow.wrapper Rows.calendarChecksRow.mainSum := by
  unfold Func.isWrapper
  first | (rw [if_pos (by decide +kernel)]; kernel_rfl) | (rw [if_neg (by decide +kernel)]; exact ⟨rfl, rfl⟩)
theorem calendarChecks_inst : Try.f16.isInstance Try.prog Rows.calendarChecksRow.origin Rows.calendarChecksRow.targs := of_decide_eq_true (by kernel_rfl)
theorem calendarChecks_over : Rows.calendarChecksRow.holds Try.pinned (OpenSpec.ofChange Rows.calendarChecksSpec) :=
  OpenClaim.holds_of_wide 16 Try.f16 rfl rfl rfl rfl rfl rfl rfl ⟨rfl, rfl, rfl, rfl, rfl⟩ rfl rfl rfl rfl rfl calendarChecks_named Try.func16 calendarChecksclosed calendarChecks_inst calendarChecks_wrap
    (fun os started H enc _ => calendarChecks_lifted os started H enc)

theorem CalendarChecks_holds : Rows.CalendarChecksSaid := calendarChecks_over
#print axioms CalendarChecks_holds
end Go.Proofs.Ytilbolgncpfmmaa
