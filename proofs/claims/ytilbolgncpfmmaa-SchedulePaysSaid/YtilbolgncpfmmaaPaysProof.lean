/- The law SchedulePays returns true for every input, and each argument reads afterwards as before. Conditions: none. -/
import Derived.Test.YtilbolgncpfmmaaLawQ
import Derived.Test.YtilbolgncpfmmaaW21
import Derived.Test.YtilbolgncpfmmaaFacts
namespace Go.Proofs.Ytilbolgncpfmmaa
open Go.ChangeShapes Go.WideShapes Go.ChangeAt Go.RowKit

theorem schedulePays_reads : ∀ t ∈ Try.f18.params.toList, Try.prog.readableRec t = true ∧ t < Try.prog.types.size := by
  rw [Try.params18]
  intro t ht
  have : t = 50 ∨ t = 25 ∨ t = 3 := by simp at ht; omega
  rcases this with rfl | rfl | rfl
  · exact ⟨by kernel_rfl, of_decide_eq_true (by kernel_rfl)⟩
  · exact ⟨by kernel_rfl, of_decide_eq_true (by kernel_rfl)⟩
  · exact ⟨by kernel_rfl, of_decide_eq_true (by kernel_rfl)⟩

set_option maxRecDepth 100000 in
theorem schedulePays_lifted (os : Os) (started : os.Started) (H : Type) (enc : TypeId × Value → H) :
    ReturnsInHanded {} Try.checked os 18 .any (Rows.schedulePaysSpec.pre6 enc Try.prog Try.f18 Rows.schedulePaysRow.domain false) (Rows.schedulePaysSpec.post enc Try.prog Try.f18 false true false false) := by
  refine returnsInHanded_of_change (C := Try.checked) own started (by kernel_rfl) Try.func18
    (ChangeSpec.witness6 (enc := enc) (C := Try.checked) false ⟨#[], #[.slice none 0 0, .agg #[.slice none 0 0, .slice none 0 0], .int .i64 0], []⟩ 8 (by kernel_rfl) (by kernel_rfl) (by kernel_rfl) (by kernel_rfl)) ?_
  intro W base args ds gs before hval0 hW hcnd _
  have hval : ∀ (j : Nat) t v, Try.f18.params[j]? = some t → args[j]? = some v → Value.okWide Try.prog W .any base t v := hval0
  have hW' := hW
  obtain ⟨p, q, hA0, hV, rfl, hfz, hnd⟩ := hW
  have hA : DataW.TrodAll enc Try.prog W 0 (fun _ => true) true Try.f18.params.toList args.toList ds p := hA0
  rw [Try.params18] at hA hval
  obtain ⟨v0, vs0, d0, ds0, p0, q0, hargs, rfl, rfl, h0, r0⟩ := trodAll_cons hA
  obtain ⟨v1, vs1, d1, ds1, p1, q1, rfl, rfl, rfl, h1, r1⟩ := trodAll_cons r0
  obtain ⟨v2, vs2, d2, ds2, p2, q2, rfl, rfl, rfl, h2, r2⟩ := trodAll_cons r1
  obtain ⟨rfl, rfl, rfl⟩ := trodAll_nil r2
  obtain rfl : args = #[v0, v1, v2] := by cases args; simp_all
  obtain ⟨rfl, rfl⟩ := trodVars_none hV
  obtain ⟨l0, i0⟩ := open_pers (hval 0 50 v0 rfl rfl) h0
  obtain ⟨x1, y1, i1⟩ := open_calD (hval 1 25 v1 rfl rfl) h1
  obtain ⟨n2, rfl, -, -, wn2⟩ := open_int Try.underlying3 (hval 2 3 v2 rfl rfl) h2
  refine (pays_law l0 x1 y1 n2 W v0 v1 i0 i1).mono fun e W' ⟨he, bel⟩ => ?_
  subst he
  exact ⟨_, rfl, law_post hW' rfl rfl rfl schedulePays_reads bel⟩

theorem schedulePaysfact0 : Rows.schedulePaysRow.wf (OpenSpec.ofChange Rows.schedulePaysSpec) = true := by kernel_rfl
theorem schedulePaysfact3 : Try.f18.params.all (Try.prog.readableRec ·) = true := by kernel_rfl
theorem schedulePaysfact4 : namedTie Try.prog Rows.schedulePaysRow.named Rows.schedulePaysSpec.vars = true := by kernel_rfl
theorem schedulePaysfact5 : (Rows.schedulePaysRow.stops == []) = true := by kernel_rfl
theorem schedulePaysfact7 : (Rows.schedulePaysRow.knobs == []) = true := by kernel_rfl
theorem schedulePaysfact9 : (Rows.schedulePaysRow.inPlace == Try.prog.inPlace 18) = true := by kernel_rfl
theorem schedulePaysfact10 : (Rows.schedulePaysRow.unfollowed == Try.prog.unfollowed 18) = true := by kernel_rfl
theorem schedulePaysfact11 : (Rows.schedulePaysRow.recurses == Try.prog.recurses 18) = true := by kernel_rfl
theorem schedulePaysfact12 : (Rows.schedulePaysRow.named == Try.prog.varsNamed 18) = true := by kernel_rfl
theorem schedulePaysfact13 : (Rows.schedulePaysRow.maps == (Try.f18.params.toList ++ Rows.schedulePaysSpec.plain.varTypes Try.prog).any (Try.prog.mapsRec ·)) = true := by kernel_rfl
theorem schedulePaysfact14 : (Rows.schedulePaysRow.ifaces == (Try.f18.params.toList ++ Rows.schedulePaysSpec.plain.varTypes Try.prog).any (Try.prog.ifacesRec ·)) = true := by kernel_rfl
theorem schedulePaysfact15 : (Rows.schedulePaysRow.mapsOut == Try.prog.mapsAmong Try.f18.resultTypes.toList) = true := by kernel_rfl
theorem schedulePaysfact16 : (Rows.schedulePaysRow.loops == (Try.f18.params.toList ++ Rows.schedulePaysSpec.plain.varTypes Try.prog).any (Try.prog.loopsFrom ·)) = true := by kernel_rfl
theorem schedulePaysfact17 : (Rows.schedulePaysRow.wideKeys == (Try.f18.params.toList ++ Rows.schedulePaysSpec.plain.varTypes Try.prog ++ Try.f18.resultTypes.toList).any (Try.prog.wideKeysFrom ·)) = true := by kernel_rfl
theorem schedulePaysfact18 : Rows.schedulePaysSpec.vars.all (Try.prog.varReadable ·) = true := by kernel_rfl
theorem schedulePaysfact19 : Try.f18.resultTypes.all (fun t => Try.prog.readableRec t && decide (t < Try.prog.types.size)) = true := by kernel_rfl
theorem schedulePaysfact20 : (Rows.schedulePaysRow.ifacesOut == Try.f18.resultTypes.toList.any (Try.prog.ifacesRec ·)) = true := by kernel_rfl
theorem schedulePaysfact21 : (Rows.schedulePaysRow.loopsOut == Try.f18.resultTypes.toList.any (Try.prog.loopsFrom ·)) = true := by kernel_rfl
theorem schedulePaysfact22 : (Rows.schedulePaysRow.plainKeys == Try.prog.plainKeys) = true := by rw [sharedplainKeys]; rfl
theorem schedulePaysfact23 : Rows.schedulePaysRow.shortTexts.isNone = true := by kernel_rfl
theorem schedulePaysfact26 : (Rows.schedulePaysRow.lifted == Try.prog.liftsFinal) = true := by rw [sharedliftsFinal]; rfl
theorem schedulePaysfact27 : (Try.prog.make == some Rows.schedulePaysRow.make) = true := by kernel_rfl
theorem schedulePaysfact28 : (Rows.schedulePaysRow.kinds == (if Rows.schedulePaysRow.domain.isEmpty then [] else Try.f18.params.toList.map fun t => match Try.prog.underlying t with | some (.int k) => some k | _ => none)) = true := by kernel_rfl
theorem schedulePaysfact29 : (Rows.schedulePaysRow.pinned == Rows.schedulePaysRow.pinnedBy) = true := by kernel_rfl
theorem schedulePaysfact30 : (Rows.schedulePaysRow.veiled == (Try.f18.params.toList ++ Rows.schedulePaysSpec.plain.varTypes Try.prog ++ Try.f18.resultTypes.toList).any (Try.prog.veiledRec ·)) = true := by kernel_rfl
theorem schedulePaysfact31 : Rows.schedulePaysRow.veiledFits Try.prog Try.f18.params.toList (Try.f18.params.toList ++ Rows.schedulePaysSpec.plain.varTypes Try.prog ++ Try.f18.resultTypes.toList) = true := by kernel_rfl
set_option maxRecDepth 100000 in
theorem schedulePaysclosed : joinedFacts Try.prog 18 Try.f18 Rows.schedulePaysSpec Rows.schedulePaysRow = true := (and_mk (and_mk (and_mk (and_mk (and_mk (and_mk (and_mk (and_mk (and_mk (and_mk (and_mk (and_mk (and_mk (and_mk (and_mk (and_mk (and_mk (and_mk (and_mk (and_mk (and_mk (and_mk (and_mk (and_mk (and_mk (and_mk (and_mk (and_mk (and_mk (and_mk (and_mk schedulePaysfact0 sharedfact1) sharedfact2) schedulePaysfact3) schedulePaysfact4) schedulePaysfact5) sharedfact6) schedulePaysfact7) sharedfact8) schedulePaysfact9) schedulePaysfact10) schedulePaysfact11) schedulePaysfact12) schedulePaysfact13) schedulePaysfact14) schedulePaysfact15) schedulePaysfact16) schedulePaysfact17) schedulePaysfact18) schedulePaysfact19) schedulePaysfact20) schedulePaysfact21) schedulePaysfact22) schedulePaysfact23) sharedfact24) sharedfact25) schedulePaysfact26) schedulePaysfact27) schedulePaysfact28) schedulePaysfact29) schedulePaysfact30) schedulePaysfact31)

theorem schedulePays_named : Try.prog.funcNamed Rows.schedulePaysRow.func = some 18 := by kernel_rfl
theorem schedulePays_wrap : Try.f18.isWrapper Try.prog Rows.schedulePaysRow.wrapper Rows.schedulePaysRow.mainSum := by
  unfold Func.isWrapper
  first | (rw [if_pos (by decide +kernel)]; kernel_rfl) | (rw [if_neg (by decide +kernel)]; exact ⟨rfl, rfl⟩)
theorem schedulePays_inst : Try.f18.isInstance Try.prog Rows.schedulePaysRow.origin Rows.schedulePaysRow.targs := of_decide_eq_true (by kernel_rfl)
theorem schedulePays_over : Rows.schedulePaysRow.holds Try.pinned (OpenSpec.ofChange Rows.schedulePaysSpec) :=
  OpenClaim.holds_of_wide 18 Try.f18 rfl rfl rfl rfl rfl rfl rfl ⟨rfl, rfl, rfl, rfl, rfl⟩ rfl rfl rfl rfl rfl schedulePays_named Try.func18 schedulePaysclosed schedulePays_inst schedulePays_wrap
    (fun os started H enc _ => schedulePays_lifted os started H enc)

theorem SchedulePays_holds : Rows.SchedulePaysSaid := schedulePays_over
#print axioms SchedulePays_holds
end Go.Proofs.Ytilbolgncpfmmaa
