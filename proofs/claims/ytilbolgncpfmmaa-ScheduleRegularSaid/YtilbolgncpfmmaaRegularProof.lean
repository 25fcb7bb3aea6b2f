/- The law ScheduleRegular returns true for every input, and each argument reads afterwards as before. Conditions: none. -/
import Derived.Test.YtilbolgncpfmmaaLawKit
import Derived.Test.YtilbolgncpfmmaaW11
import Derived.Test.YtilbolgncpfmmaaFacts
namespace Go.Proofs.Ytilbolgncpfmmaa
open Go.ChangeShapes Go.WideShapes Go.ChangeAt Go.RowKit

theorem scheduleRegular_reads : ∀ t ∈ Try.f13.params.toList, Try.prog.readableRec t = true ∧ t < Try.prog.types.size := by
  rw [Try.params13]
  intro t ht
  have : t = 28 ∨ t = 3 ∨ t = 5 := by simp at ht; omega
  rcases this with rfl | rfl | rfl
  · exact ⟨by kernel_rfl, of_decide_eq_true (by kernel_rfl)⟩
  · exact ⟨by kernel_rfl, of_decide_eq_true (by kernel_rfl)⟩
  · exact ⟨by kernel_rfl, of_decide_eq_true (by kernel_rfl)⟩

set_option maxRecDepth 100000 in
theorem scheduleRegular_lifted (os : Os) (started : os.Started) (H : Type) (enc : TypeId × Value → H) :
    ReturnsInHanded {} Try.checked os 13 .any (Rows.scheduleRegularSpec.pre6 enc Try.prog Try.f13 Rows.scheduleRegularRow.domain false) (Rows.scheduleRegularSpec.post enc Try.prog Try.f13 false true false false) := by
  refine returnsInHanded_of_change (C := Try.checked) own started (by kernel_rfl) Try.func13
    (ChangeSpec.witness6 (enc := enc) (C := Try.checked) false ⟨#[], #[.agg #[.int .i64 0, .int .i64 0], .int .i64 0, .int .i64 0, .int .u8 0], []⟩ 8 (by kernel_rfl) (by kernel_rfl) (by kernel_rfl) (by kernel_rfl)) ?_
  intro W base args ds gs before hval0 hW hcnd _
  have hval : ∀ (j : Nat) t v, Try.f13.params[j]? = some t → args[j]? = some v → Value.okWide Try.prog W .any base t v := hval0
  have hW' := hW
  obtain ⟨p, q, hA0, hV, rfl, hfz, hnd⟩ := hW
  have hA : DataW.TrodAll enc Try.prog W 0 (fun _ => true) true Try.f13.params.toList args.toList ds p := hA0
  rw [Try.params13] at hA hval
  obtain ⟨v0, vs0, d0, ds0, p0, q0, hargs, rfl, rfl, h0, r0⟩ := trodAll_cons hA
  obtain ⟨v1, vs1, d1, ds1, p1, q1, rfl, rfl, rfl, h1, r1⟩ := trodAll_cons r0
  obtain ⟨v2, vs2, d2, ds2, p2, q2, rfl, rfl, rfl, h2, r2⟩ := trodAll_cons r1
  obtain ⟨v3, vs3, d3, ds3, p3, q3, rfl, rfl, rfl, h3, r3⟩ := trodAll_cons r2
  obtain ⟨rfl, rfl, rfl⟩ := trodAll_nil r3
  obtain rfl : args = #[v0, v1, v2, v3] := by cases args; simp_all
  obtain ⟨rfl, rfl⟩ := trodVars_none hV
  obtain ⟨a0, b0, rfl, ba0, bb0⟩ := open_per (hval 0 28 v0 rfl rfl) h0
  obtain ⟨n1, rfl, -, -, wn1⟩ := open_int Try.underlying3 (hval 1 3 v1 rfl rfl) h1
  obtain ⟨n2, rfl, -, -, wn2⟩ := open_int Try.underlying3 (hval 2 3 v2 rfl rfl) h2
  obtain ⟨n3, rfl, -, -, wn3⟩ := open_int Try.underlying5 (hval 3 5 v3 rfl rfl) h3
  have bu3 : 0 ≤ n3 ∧ n3 ≤ 255 := by simpa [Lit.wf, IntKind.min, IntKind.max, IntKind.signed, IntKind.bits] using wn3
  refine (regular_law a0 b0 n1 n2 n3 bu3 W).mono fun e W' ⟨he, bel⟩ => ?_
  subst he
  exact ⟨_, rfl, law_post hW' rfl rfl rfl scheduleRegular_reads bel⟩

theorem scheduleRegularfact0 : Rows.scheduleRegularRow.wf (OpenSpec.ofChange Rows.scheduleRegularSpec) = true := by kernel_rfl
theorem scheduleRegularfact3 : Try.f13.params.all (Try.prog.readableRec ·) = true := by kernel_rfl
theorem scheduleRegularfact4 : namedTie Try.prog Rows.scheduleRegularRow.named Rows.scheduleRegularSpec.vars = true := by kernel_rfl
theorem scheduleRegularfact5 : (Rows.scheduleRegularRow.stops == []) = true := by kernel_rfl
theorem scheduleRegularfact7 : (Rows.scheduleRegularRow.knobs == []) = true := by kernel_rfl
theorem scheduleRegularfact9 : (Rows.scheduleRegularRow.inPlace == Try.prog.inPlace 13) = true := by kernel_rfl
theorem scheduleRegularfact10 : (Rows.scheduleRegularRow.unfollowed == Try.prog.unfollowed 13) = true := by kernel_rfl
theorem scheduleRegularfact11 : (Rows.scheduleRegularRow.recurses == Try.prog.recurses 13) = true := by kernel_rfl
theorem scheduleRegularfact12 : (Rows.scheduleRegularRow.named == Try.prog.varsNamed 13) = true := by kernel_rfl
theorem scheduleRegularfact13 : (Rows.scheduleRegularRow.maps == (Try.f13.params.toList ++ Rows.scheduleRegularSpec.plain.varTypes Try.prog).any (Try.prog.mapsRec ·)) = true := by kernel_rfl
theorem scheduleRegularfact14 : (Rows.scheduleRegularRow.ifaces == (Try.f13.params.toList ++ Rows.scheduleRegularSpec.plain.varTypes Try.prog).any (Try.prog.ifacesRec ·)) = true := by kernel_rfl
theorem scheduleRegularfact15 : (Rows.scheduleRegularRow.mapsOut == Try.prog.mapsAmong Try.f13.resultTypes.toList) = true := by kernel_rfl
theorem scheduleRegularfact16 : (Rows.scheduleRegularRow.loops == (Try.f13.params.toList ++ Rows.scheduleRegularSpec.plain.varTypes Try.prog).any (Try.prog.loopsFrom ·)) = true := by kernel_rfl
theorem scheduleRegularfact17 : (Rows.scheduleRegularRow.wideKeys == (Try.f13.params.toList ++ Rows.scheduleRegularSpec.plain.varTypes Try.prog ++ Try.f13.resultTypes.toList).any (Try.prog.wideKeysFrom ·)) = true := by kernel_rfl
theorem scheduleRegularfact18 : Rows.scheduleRegularSpec.vars.all (Try.prog.varReadable ·) = true := by kernel_rfl
theorem scheduleRegularfact19 : Try.f13.resultTypes.all (fun t => Try.prog.readableRec t && decide (t < Try.prog.types.size)) = true := by kernel_rfl
theorem scheduleRegularfact20 : (Rows.scheduleRegularRow.ifacesOut == Try.f13.resultTypes.toList.any (Try.prog.ifacesRec ·)) = true := by kernel_rfl
theorem scheduleRegularfact21 : (Rows.scheduleRegularRow.loopsOut == Try.f13.resultTypes.toList.any (Try.prog.loopsFrom ·)) = true := by kernel_rfl
theorem scheduleRegularfact22 : (Rows.scheduleRegularRow.plainKeys == Try.prog.plainKeys) = true := by rw [sharedplainKeys]; rfl
theorem scheduleRegularfact23 : Rows.scheduleRegularRow.shortTexts.isNone = true := by kernel_rfl
theorem scheduleRegularfact26 : (Rows.scheduleRegularRow.lifted == Try.prog.liftsFinal) = true := by rw [sharedliftsFinal]; rfl
theorem scheduleRegularfact27 : (Try.prog.make == some Rows.scheduleRegularRow.make) = true := by kernel_rfl
theorem scheduleRegularfact28 : (Rows.scheduleRegularRow.kinds == (if Rows.scheduleRegularRow.domain.isEmpty then [] else Try.f13.params.toList.map fun t => match Try.prog.underlying t with | some (.int k) => some k | _ => none)) = true := by kernel_rfl
theorem scheduleRegularfact29 : (Rows.scheduleRegularRow.pinned == Rows.scheduleRegularRow.pinnedBy) = true := by kernel_rfl
theorem scheduleRegularfact30 : (Rows.scheduleRegularRow.veiled == (Try.f13.params.toList ++ Rows.scheduleRegularSpec.plain.varTypes Try.prog ++ Try.f13.resultTypes.toList).any (Try.prog.veiledRec ·)) = true := by kernel_rfl
theorem scheduleRegularfact31 : Rows.scheduleRegularRow.veiledFits Try.prog Try.f13.params.toList (Try.f13.params.toList ++ Rows.scheduleRegularSpec.plain.varTypes Try.prog ++ Try.f13.resultTypes.toList) = true := by kernel_rfl
set_option maxRecDepth 100000 in
theorem scheduleRegularclosed : joinedFacts Try.prog 13 Try.f13 Rows.scheduleRegularSpec Rows.scheduleRegularRow = true := (and_mk (and_mk (and_mk (and_mk (and_mk (and_mk (and_mk (and_mk (and_mk (and_mk (and_mk (and_mk (and_mk (and_mk (and_mk (and_mk (and_mk (and_mk (and_mk (and_mk (and_mk (and_mk (and_mk (and_mk (and_mk (and_mk (and_mk (and_mk (and_mk (and_mk (and_mk scheduleRegularfact0 sharedfact1) sharedfact2) scheduleRegularfact3) scheduleRegularfact4) scheduleRegularfact5) sharedfact6) scheduleRegularfact7) sharedfact8) scheduleRegularfact9) scheduleRegularfact10) scheduleRegularfact11) scheduleRegularfact12) scheduleRegularfact13) scheduleRegularfact14) scheduleRegularfact15) scheduleRegularfact16) scheduleRegularfact17) scheduleRegularfact18) scheduleRegularfact19) scheduleRegularfact20) scheduleRegularfact21) scheduleRegularfact22) scheduleRegularfact23) sharedfact24) sharedfact25) scheduleRegularfact26) scheduleRegularfact27) scheduleRegularfact28) scheduleRegularfact29) scheduleRegularfact30) scheduleRegularfact31)

theorem scheduleRegular_named : Try.prog.funcNamed Rows.scheduleRegularRow.func = some 13 := by kernel_rfl
theorem scheduleRegular_wrap : Try.f13.isWrapper Try.prog Rows.scheduleRegularRow.wrapper Rows.scheduleRegularRow.mainSum := by
  unfold Func.isWrapper
  first | (rw [if_pos (by decide +kernel)]; kernel_rfl) | (rw [if_neg (by decide +kernel)]; exact ⟨rfl, rfl⟩)
theorem scheduleRegular_inst : Try.f13.isInstance Try.prog Rows.scheduleRegularRow.origin Rows.scheduleRegularRow.targs := of_decide_eq_true (by kernel_rfl)
theorem scheduleRegular_over : Rows.scheduleRegularRow.holds Try.pinned (OpenSpec.ofChange Rows.scheduleRegularSpec) :=
  OpenClaim.holds_of_wide 13 Try.f13 rfl rfl rfl rfl rfl rfl rfl ⟨rfl, rfl, rfl, rfl, rfl⟩ rfl rfl rfl rfl rfl scheduleRegular_named Try.func13 scheduleRegularclosed scheduleRegular_inst scheduleRegular_wrap
    (fun os started H enc _ => scheduleRegular_lifted os started H enc)

theorem ScheduleRegular_holds : Rows.ScheduleRegularSaid := scheduleRegular_over
#print axioms ScheduleRegular_holds
end Go.Proofs.Ytilbolgncpfmmaa
