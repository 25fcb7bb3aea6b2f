/- The law ScheduleDays returns true for every input, and each argument reads afterwards as before. Conditions: none. -/
import Derived.Test.YtilbolgncpfmmaaLawP
import Derived.Test.YtilbolgncpfmmaaW19
import Derived.Test.YtilbolgncpfmmaaFacts
namespace Go.Proofs.Ytilbolgncpfmmaa
open Go.ChangeShapes Go.WideShapes Go.ChangeAt Go.RowKit

theorem scheduleDays_reads : ∀ t ∈ Try.f15.params.toList, Try.prog.readableRec t = true ∧ t < Try.prog.types.size := by
  rw [Try.params15]
  intro t ht
  have : t = 50 ∨ t = 26 := by simp at ht; omega
  rcases this with rfl | rfl
  · exact ⟨by kernel_rfl, of_decide_eq_true (by kernel_rfl)⟩
  · exact ⟨by kernel_rfl, of_decide_eq_true (by kernel_rfl)⟩

set_option maxRecDepth 100000 in
theorem scheduleDays_lifted (os : Os) (started : os.Started) (H : Type) (enc : TypeId × Value → H) :
    ReturnsInHanded {} Try.checked os 15 .any (Rows.scheduleDaysSpec.pre6 enc Try.prog Try.f15 Rows.scheduleDaysRow.domain false) (Rows.scheduleDaysSpec.post enc Try.prog Try.f15 false true false false) := by
  refine returnsInHanded_of_change (C := Try.checked) own started (by kernel_rfl) Try.func15
    (ChangeSpec.witness6 (enc := enc) (C := Try.checked) false ⟨#[], #[.slice none 0 0, .int .i64 0], []⟩ 8 (by kernel_rfl) (by kernel_rfl) (by kernel_rfl) (by kernel_rfl)) ?_
  intro W base args ds gs before hval0 hW hcnd _
  have hval : ∀ (j : Nat) t v, Try.f15.params[j]? = some t → args[j]? = some v → Value.okWide Try.prog W .any base t v := hval0
  have hW' := hW
  obtain ⟨p, q, hA0, hV, rfl, hfz, hnd⟩ := hW
  have hA : DataW.TrodAll enc Try.prog W 0 (fun _ => true) true Try.f15.params.toList args.toList ds p := hA0
  rw [Try.params15] at hA hval
  obtain ⟨v0, vs0, d0, ds0, p0, q0, hargs, rfl, rfl, h0, r0⟩ := trodAll_cons hA
  obtain ⟨v1, vs1, d1, ds1, p1, q1, rfl, rfl, rfl, h1, r1⟩ := trodAll_cons r0
  obtain ⟨rfl, rfl, rfl⟩ := trodAll_nil r1
  obtain rfl : args = #[v0, v1] := by cases args; simp_all
  obtain ⟨rfl, rfl⟩ := trodVars_none hV
  obtain ⟨l0, i0⟩ := open_pers (hval 0 50 v0 rfl rfl) h0
  obtain ⟨n1, rfl, -, -, wn1⟩ := open_int Try.underlying26 (hval 1 26 v1 rfl rfl) h1
  refine (days_law l0 n1 W v0 i0).mono fun e W' ⟨he, bel⟩ => ?_
  subst he
  exact ⟨_, rfl, law_post hW' rfl rfl rfl scheduleDays_reads bel⟩

theorem scheduleDaysfact0 : Rows.scheduleDaysRow.wf (OpenSpec.ofChange Rows.scheduleDaysSpec) = true := by kernel_rfl
theorem scheduleDaysfact3 : Try.f15.params.all (Try.prog.readableRec ·) = true := by kernel_rfl
theorem scheduleDaysfact4 : namedTie Try.prog Rows.scheduleDaysRow.named Rows.scheduleDaysSpec.vars = true := by kernel_rfl
theorem scheduleDaysfact5 : (Rows.scheduleDaysRow.stops == []) = true := by kernel_rfl
theorem scheduleDaysfact7 : (Rows.scheduleDaysRow.knobs == []) = true := by kernel_rfl
theorem scheduleDaysfact9 : (Rows.scheduleDaysRow.inPlace == Try.prog.inPlace 15) = true := by kernel_rfl
theorem scheduleDaysfact10 : (Rows.scheduleDaysRow.unfollowed == Try.prog.unfollowed 15) = true := by kernel_rfl
theorem scheduleDaysfact11 : (Rows.scheduleDaysRow.recurses == Try.prog.recurses 15) = true := by kernel_rfl
theorem scheduleDaysfact12 : (Rows.scheduleDaysRow.named == Try.prog.varsNamed 15) = true := by kernel_rfl
theorem scheduleDaysfact13 : (Rows.scheduleDaysRow.maps == (Try.f15.params.toList ++ Rows.scheduleDaysSpec.plain.varTypes Try.prog).any (Try.prog.mapsRec ·)) = true := by kernel_rfl
theorem scheduleDaysfact14 : (Rows.scheduleDaysRow.ifaces == (Try.f15.params.toList ++ Rows.scheduleDaysSpec.plain.varTypes Try.prog).any (Try.prog.ifacesRec ·)) = true := by kernel_rfl
theorem scheduleDaysfact15 : (Rows.scheduleDaysRow.mapsOut == Try.prog.mapsAmong Try.f15.resultTypes.toList) = true := by kernel_rfl
theorem scheduleDaysfact16 : (Rows.scheduleDaysRow.loops == (Try.f15.params.toList ++ Rows.scheduleDaysSpec.plain.varTypes Try.prog).any (Try.prog.loopsFrom ·)) = true := by kernel_rfl
theorem scheduleDaysfact17 : (Rows.scheduleDaysRow.wideKeys == (Try.f15.params.toList ++ Rows.scheduleDaysSpec.plain.varTypes Try.prog ++ Try.f15.resultTypes.toList).any (Try.prog.wideKeysFrom ·)) = true := by kernel_rfl
theorem scheduleDaysfact18 : Rows.scheduleDaysSpec.vars.all (Try.prog.varReadable ·) = true := by kernel_rfl
theorem scheduleDaysfact19 : Try.f15.resultTypes.all (fun t => Try.prog.readableRec t && decide (t < Try.prog.types.size)) = true := by kernel_rfl
theorem scheduleDaysfact20 : (Rows.scheduleDaysRow.ifacesOut == Try.f15.resultTypes.toList.any (Try.prog.ifacesRec ·)) = true := by kernel_rfl
theorem scheduleDaysfact21 : (Rows.scheduleDaysRow.loopsOut == Try.f15.resultTypes.toList.any (Try.prog.loopsFrom ·)) = true := by kernel_rfl
theorem scheduleDaysfact22 : (Rows.scheduleDaysRow.plainKeys == Try.prog.plainKeys) = true := by rw [sharedplainKeys]; rfl
theorem scheduleDaysfact23 : Rows.scheduleDaysRow.shortTexts.isNone = true := by kernel_rfl
theorem scheduleDaysfact26 : (Rows.scheduleDaysRow.lifted == Try.prog.liftsFinal) = true := by rw [sharedliftsFinal]; rfl
theorem scheduleDaysfact27 : (Try.prog.make == some Rows.scheduleDaysRow.make) = true := by kernel_rfl
theorem scheduleDaysfact28 : (Rows.scheduleDaysRow.kinds == (if Rows.scheduleDaysRow.domain.isEmpty then [] else Try.f15.params.toList.map fun t => match Try.prog.underlying t with | some (.int k) => some k | _ => none)) = true := by kernel_rfl
theorem scheduleDaysfact29 : (Rows.scheduleDaysRow.pinned == Rows.scheduleDaysRow.pinnedBy) = true := by kernel_rfl
theorem scheduleDaysfact30 : (Rows.scheduleDaysRow.veiled == (Try.f15.params.toList ++ Rows.scheduleDaysSpec.plain.varTypes Try.prog ++ Try.f15.resultTypes.toList).any (Try.prog.veiledRec ·)) = true := by kernel_rfl
theorem scheduleDaysfact31 : Rows.scheduleDaysRow.veiledFits Try.prog Try.f15.params.toList (Try.f15.params.toList ++ Rows.scheduleDaysSpec.plain.varTypes Try.prog ++ Try.f15.resultTypes.toList) = true := by kernel_rfl
set_option maxRecDepth 100000 in
theorem scheduleDaysclosed : joinedFacts Try.prog 15 Try.f15 Rows.scheduleDaysSpec Rows.scheduleDaysRow = true := (and_mk (and_mk (and_mk (and_mk (and_mk (and_mk (and_mk (and_mk (and_mk (and_mk (and_mk (and_mk (and_mk (and_mk (and_mk (and_mk (and_mk (and_mk (and_mk (and_mk (and_mk (and_mk (and_mk (and_mk (and_mk (and_mk (and_mk (and_mk (and_mk (and_mk (and_mk scheduleDaysfact0 sharedfact1) sharedfact2) scheduleDaysfact3) scheduleDaysfact4) scheduleDaysfact5) sharedfact6) scheduleDaysfact7) sharedfact8) scheduleDaysfact9) scheduleDaysfact10) scheduleDaysfact11) scheduleDaysfact12) scheduleDaysfact13) scheduleDaysfact14) scheduleDaysfact15) scheduleDaysfact16) scheduleDaysfact17) scheduleDaysfact18) scheduleDaysfact19) scheduleDaysfact20) scheduleDaysfact21) scheduleDaysfact22) scheduleDaysfact23) sharedfact24) sharedfact25) scheduleDaysfact26) scheduleDaysfact27) scheduleDaysfact28) scheduleDaysfact29) scheduleDaysfact30) scheduleDaysfact31)

theorem scheduleDays_named : Try.prog.funcNamed Rows.scheduleDaysRow.func = some 15 := by kernel_rfl
theorem scheduleDays_wrap : Try.f15.isWrapper Try.prog Rows.scheduleDaysRow.wrapper Rows.scheduleDaysRow.mainSum := by
  unfold Func.isWrapper
  first | (rw [if_pos (by decide +kernel)]; kernel_rfl) | (rw [if_neg (by decide +kernel)]; exact ⟨rfl, rfl⟩)
theorem scheduleDays_inst : Try.f15.isInstance Try.prog Rows.scheduleDaysRow.origin Rows.scheduleDaysRow.targs := of_decide_eq_true (by kernel_rfl)
theorem scheduleDays_over : Rows.scheduleDaysRow.holds Try.pinned (OpenSpec.ofChange Rows.scheduleDaysSpec) :=
  OpenClaim.holds_of_wide 15 Try.f15 rfl rfl rfl rfl rfl rfl rfl ⟨rfl, rfl, rfl, rfl, rfl⟩ rfl rfl rfl rfl rfl scheduleDays_named Try.func15 scheduleDaysclosed scheduleDays_inst scheduleDays_wrap
    (fun os started H enc _ => scheduleDays_lifted os started H enc)

theorem ScheduleDays_holds : Rows.ScheduleDaysSaid := scheduleDays_over
#print axioms ScheduleDays_holds
end Go.Proofs.Ytilbolgncpfmmaa
