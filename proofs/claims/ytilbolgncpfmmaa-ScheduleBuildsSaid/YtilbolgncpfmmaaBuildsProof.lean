/- The law ScheduleBuilds returns true for every input, and each argument reads afterwards as before. Conditions: none. -/
import Derived.Test.YtilbolgncpfmmaaLawKit
import Derived.Test.YtilbolgncpfmmaaW9
import Derived.Test.YtilbolgncpfmmaaFacts
namespace Go.Proofs.Ytilbolgncpfmmaa
open Go.ChangeShapes Go.WideShapes Go.ChangeAt Go.RowKit

theorem scheduleBuilds_reads : ∀ t ∈ Try.f9.params.toList, Try.prog.readableRec t = true ∧ t < Try.prog.types.size := by
  rw [Try.params9]
  intro t ht
  have : t = 28 ∨ t = 3 := by simp at ht; omega
  rcases this with rfl | rfl
  · exact ⟨by kernel_rfl, of_decide_eq_true (by kernel_rfl)⟩
  · exact ⟨by kernel_rfl, of_decide_eq_true (by kernel_rfl)⟩

set_option maxRecDepth 100000 in
theorem scheduleBuilds_lifted (os : Os) (started : os.Started) (H : Type) (enc : TypeId × Value → H) :
    ReturnsInHanded {} Try.checked os 9 .any (Rows.scheduleBuildsSpec.pre6 enc Try.prog Try.f9 Rows.scheduleBuildsRow.domain false) (Rows.scheduleBuildsSpec.post enc Try.prog Try.f9 false true false false) := by
  refine returnsInHanded_of_change (C := Try.checked) own started (by kernel_rfl) Try.func9
    (ChangeSpec.witness6 (enc := enc) (C := Try.checked) false ⟨#[], #[.agg #[.int .i64 0, .int .i64 0], .int .i64 0, .int .i64 0], []⟩ 8 (by kernel_rfl) (by kernel_rfl) (by kernel_rfl) (by kernel_rfl)) ?_
  intro W base args ds gs before hval0 hW hcnd _
  have hval : ∀ (j : Nat) t v, Try.f9.params[j]? = some t → args[j]? = some v → Value.okWide Try.prog W .any base t v := hval0
  have hW' := hW
  obtain ⟨p, q, hA0, hV, rfl, hfz, hnd⟩ := hW
  have hA : DataW.TrodAll enc Try.prog W 0 (fun _ => true) true Try.f9.params.toList args.toList ds p := hA0
  rw [Try.params9] at hA hval
  obtain ⟨v0, vs0, d0, ds0, p0, q0, hargs, rfl, rfl, h0, r0⟩ := trodAll_cons hA
  obtain ⟨v1, vs1, d1, ds1, p1, q1, rfl, rfl, rfl, h1, r1⟩ := trodAll_cons r0
  obtain ⟨v2, vs2, d2, ds2, p2, q2, rfl, rfl, rfl, h2, r2⟩ := trodAll_cons r1
  obtain ⟨rfl, rfl, rfl⟩ := trodAll_nil r2
  obtain rfl : args = #[v0, v1, v2] := by cases args; simp_all
  obtain ⟨rfl, rfl⟩ := trodVars_none hV
  obtain ⟨a0, b0, rfl, ba0, bb0⟩ := open_per (hval 0 28 v0 rfl rfl) h0
  obtain ⟨n1, rfl, -, -, wn1⟩ := open_int Try.underlying3 (hval 1 3 v1 rfl rfl) h1
  obtain ⟨n2, rfl, -, -, wn2⟩ := open_int Try.underlying3 (hval 2 3 v2 rfl rfl) h2
  refine (builds_any a0 b0 n1 n2 W).mono fun e W' ⟨he, bel⟩ => ?_
  subst he
  exact ⟨_, rfl, law_post hW' rfl rfl rfl scheduleBuilds_reads bel⟩

theorem scheduleBuildsfact0 : Rows.scheduleBuildsRow.wf (OpenSpec.ofChange Rows.scheduleBuildsSpec) = true := by kernel_rfl
theorem scheduleBuildsfact3 : Try.f9.params.all (Try.prog.readableRec ·) = true := by kernel_rfl
theorem scheduleBuildsfact4 : namedTie Try.prog Rows.scheduleBuildsRow.named Rows.scheduleBuildsSpec.vars = true := by kernel_rfl
theorem scheduleBuildsfact5 : (Rows.scheduleBuildsRow.stops == []) = true := by kernel_rfl
theorem scheduleBuildsfact7 : (Rows.scheduleBuildsRow.knobs == []) = true := by kernel_rfl
theorem scheduleBuildsfact9 : (Rows.scheduleBuildsRow.inPlace == Try.prog.inPlace 9) = true := by kernel_rfl
theorem scheduleBuildsfact10 : (Rows.scheduleBuildsRow.unfollowed == Try.prog.unfollowed 9) = true := by kernel_rfl
theorem scheduleBuildsfact11 : (Rows.scheduleBuildsRow.recurses == Try.prog.recurses 9) = true := by kernel_rfl
theorem scheduleBuildsfact12 : (Rows.scheduleBuildsRow.named == Try.prog.varsNamed 9) = true := by kernel_rfl
theorem scheduleBuildsfact13 : (Rows.scheduleBuildsRow.maps == (Try.f9.params.toList ++ Rows.scheduleBuildsSpec.plain.varTypes Try.prog).any (Try.prog.mapsRec ·)) = true := by kernel_rfl
theorem scheduleBuildsfact14 : (Rows.scheduleBuildsRow.ifaces == (Try.f9.params.toList ++ Rows.scheduleBuildsSpec.plain.varTypes Try.prog).any (Try.prog.ifacesRec ·)) = true := by kernel_rfl
theorem scheduleBuildsfact15 : (Rows.scheduleBuildsRow.mapsOut == Try.prog.mapsAmong Try.f9.resultTypes.toList) = true := by kernel_rfl
theorem scheduleBuildsfact16 : (Rows.scheduleBuildsRow.loops == (Try.f9.params.toList ++ Rows.scheduleBuildsSpec.plain.varTypes Try.prog).any (Try.prog.loopsFrom ·)) = true := by kernel_rfl
theorem scheduleBuildsfact17 : (Rows.scheduleBuildsRow.wideKeys == (Try.f9.params.toList ++ Rows.scheduleBuildsSpec.plain.varTypes Try.prog ++ Try.f9.resultTypes.toList).any (Try.prog.wideKeysFrom ·)) = true := by kernel_rfl
theorem scheduleBuildsfact18 : Rows.scheduleBuildsSpec.vars.all (Try.prog.varReadable ·) = true := by kernel_rfl
theorem scheduleBuildsfact19 : Try.f9.resultTypes.all (fun t => Try.prog.readableRec t && decide (t < Try.prog.types.size)) = true := by kernel_rfl
theorem scheduleBuildsfact20 : (Rows.scheduleBuildsRow.ifacesOut == Try.f9.resultTypes.toList.any (Try.prog.ifacesRec ·)) = true := by kernel_rfl
theorem scheduleBuildsfact21 : (Rows.scheduleBuildsRow.loopsOut == Try.f9.resultTypes.toList.any (Try.prog.loopsFrom ·)) = true := by kernel_rfl
theorem scheduleBuildsfact22 : (Rows.scheduleBuildsRow.plainKeys == Try.prog.plainKeys) = true := by rw [sharedplainKeys]; rfl
theorem scheduleBuildsfact23 : Rows.scheduleBuildsRow.shortTexts.isNone = true := by kernel_rfl
theorem scheduleBuildsfact26 : (Rows.scheduleBuildsRow.lifted == Try.prog.liftsFinal) = true := by rw [sharedliftsFinal]; rfl
theorem scheduleBuildsfact27 : (Try.prog.make == some Rows.scheduleBuildsRow.make) = true := by kernel_rfl
theorem scheduleBuildsfact28 : (Rows.scheduleBuildsRow.kinds == (if Rows.scheduleBuildsRow.domain.isEmpty then [] else Try.f9.params.toList.map fun t => match Try.prog.underlying t with | some (.int k) => some k | _ => none)) = true := by kernel_rfl
theorem scheduleBuildsfact29 : (Rows.scheduleBuildsRow.pinned == Rows.scheduleBuildsRow.pinnedBy) = true := by kernel_rfl
theorem scheduleBuildsfact30 : (Rows.scheduleBuildsRow.veiled == (Try.f9.params.toList ++ Rows.scheduleBuildsSpec.plain.varTypes Try.prog ++ Try.f9.resultTypes.toList).any (Try.prog.veiledRec ·)) = true := by kernel_rfl
theorem scheduleBuildsfact31 : Rows.scheduleBuildsRow.veiledFits Try.prog Try.f9.params.toList (Try.f9.params.toList ++ Rows.scheduleBuildsSpec.plain.varTypes Try.prog ++ Try.f9.resultTypes.toList) = true := by kernel_rfl
set_option maxRecDepth 100000 in
theorem scheduleBuildsclosed : joinedFacts Try.prog 9 Try.f9 Rows.scheduleBuildsSpec Rows.scheduleBuildsRow = true := (and_mk (and_mk (and_mk (and_mk (and_mk (and_mk (and_mk (and_mk (and_mk (and_mk (and_mk (and_mk (and_mk (and_mk (and_mk (and_mk (and_mk (and_mk (and_mk (and_mk (and_mk (and_mk (and_mk (and_mk (and_mk (and_mk (and_mk (and_mk (and_mk (and_mk (and_mk scheduleBuildsfact0 sharedfact1) sharedfact2) scheduleBuildsfact3) scheduleBuildsfact4) scheduleBuildsfact5) sharedfact6) scheduleBuildsfact7) sharedfact8) scheduleBuildsfact9) scheduleBuildsfact10) scheduleBuildsfact11) scheduleBuildsfact12) scheduleBuildsfact13) scheduleBuildsfact14) scheduleBuildsfact15) scheduleBuildsfact16) scheduleBuildsfact17) scheduleBuildsfact18) scheduleBuildsfact19) scheduleBuildsfact20) scheduleBuildsfact21) scheduleBuildsfact22) scheduleBuildsfact23) sharedfact24) sharedfact25) scheduleBuildsfact26) scheduleBuildsfact27) scheduleBuildsfact28) scheduleBuildsfact29) scheduleBuildsfact30) scheduleBuildsfact31)

theorem scheduleBuilds_named : Try.prog.funcNamed Rows.scheduleBuildsRow.func = some 9 := by kernel_rfl
theorem scheduleBuilds_wrap : Try.f9.isWrapper Try.prog Rows.scheduleBuildsRow.wrapper Rows.scheduleBuildsRow.mainSum := by
  unfold Func.isWrapper
  first | (rw [if_pos (by decide +kernel)]; kernel_rfl) | (rw [if_neg (by decide +kernel)]; exact ⟨rfl, rfl⟩)
theorem scheduleBuilds_inst : Try.f9.isInstance Try.prog Rows.scheduleBuildsRow.origin Rows.scheduleBuildsRow.targs := of_decide_eq_true (by kernel_rfl)
theorem scheduleBuilds_over : Rows.scheduleBuildsRow.holds Try.pinned (OpenSpec.ofChange Rows.scheduleBuildsSpec) :=
  OpenClaim.holds_of_wide 9 Try.f9 rfl rfl rfl rfl rfl rfl rfl ⟨rfl, rfl, rfl, rfl, rfl⟩ rfl rfl rfl rfl rfl scheduleBuilds_named Try.func9 scheduleBuildsclosed scheduleBuilds_inst scheduleBuilds_wrap
    (fun os started H enc _ => scheduleBuilds_lifted os started H enc)

theorem ScheduleBuilds_holds : Rows.ScheduleBuildsSaid := scheduleBuilds_over
#print axioms ScheduleBuilds_holds
end Go.Proofs.Ytilbolgncpfmmaa
