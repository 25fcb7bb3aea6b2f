/- The law ScheduleCoarser returns true for every input, and each argument reads afterwards as before. Conditions: none. -/
import Derived.Test.YtilbolgncpfmmaaLawKit
import Derived.Test.YtilbolgncpfmmaaW14
import Derived.Test.YtilbolgncpfmmaaFacts
namespace Go.Proofs.Ytilbolgncpfmmaa
open Go.ChangeShapes Go.WideShapes Go.ChangeAt Go.RowKit

theorem scheduleCoarser_reads : ∀ t ∈ Try.f11.params.toList, Try.prog.readableRec t = true ∧ t < Try.prog.types.size := by
  rw [Try.params11]
  intro t ht
  have : t = 28 ∨ t = 3 ∨ t = 5 := by simp at ht; omega
  rcases this with rfl | rfl | rfl
  · exact ⟨by kernel_rfl, of_decide_eq_true (by kernel_rfl)⟩
  · exact ⟨by kernel_rfl, of_decide_eq_true (by kernel_rfl)⟩
  · exact ⟨by kernel_rfl, of_decide_eq_true (by kernel_rfl)⟩

set_option maxRecDepth 100000 in
theorem scheduleCoarser_lifted (os : Os) (started : os.Started) (H : Type) (enc : TypeId × Value → H) :
    ReturnsInHanded {} Try.checked os 11 .any (Rows.scheduleCoarserSpec.pre6 enc Try.prog Try.f11 Rows.scheduleCoarserRow.domain false) (Rows.scheduleCoarserSpec.post enc Try.prog Try.f11 false true false false) := by
  refine returnsInHanded_of_change (C := Try.checked) own started (by kernel_rfl) Try.func11
    (ChangeSpec.witness6 (enc := enc) (C := Try.checked) false ⟨#[], #[.agg #[.int .i64 0, .int .i64 0], .int .i64 0, .int .i64 0, .int .u8 0], []⟩ 8 (by kernel_rfl) (by kernel_rfl) (by kernel_rfl) (by kernel_rfl)) ?_
  intro W base args ds gs before hval0 hW hcnd _
  have hval : ∀ (j : Nat) t v, Try.f11.params[j]? = some t → args[j]? = some v → Value.okWide Try.prog W .any base t v := hval0
  have hW' := hW
  obtain ⟨p, q, hA0, hV, rfl, hfz, hnd⟩ := hW
  have hA : DataW.TrodAll enc Try.prog W 0 (fun _ => true) true Try.f11.params.toList args.toList ds p := hA0
  rw [Try.params11] at hA hval
  obtain ⟨v0, vs0, d0, ds0, p0, q0, hargs, rfl, rfl, h0, r0⟩ := trodAll_cons hA
  obtain ⟨v1, vs1, d1, ds1, p1, q1, rfl, rfl, rfl, h1, r1⟩ := trodAll_cons r0
  obtain ⟨v2, vs2, d2, ds2, p2, q2, rfl, rfl, rfl, h2, r2⟩ := trodAll_cons r1
  obtain ⟨v3, vs3, d3, ds3, p3, q3, rfl, rfl, rfl, h3, r3⟩ := trodAll_cons r2
  obtain ⟨rfl, rfl, rfl⟩ := trodAll_nil r3
  obtain rfl : args = #[v0, v1, v2, v3] := by cases args; simp_all
  obtain ⟨rfl, rfl⟩ := trodVars_none hV
  obtain ⟨a0, b0, rfl, ba0, bb0⟩ := open_per (hval 0 28 v0 rfl rfl) h0
  obtain ⟨n1, rfl, -, -, wn1⟩ := open_int Try.underlying3 (hval 1 3 v1 rfl rfl) h1
  obtain ⟨n2, rfl, -, -, wn2⟩ := open_int Try.underlying3 (hval 2 3 v2 rfl rfl) h2
  obtain ⟨n3, rfl, -, -, wn3⟩ := open_int Try.underlying5 (hval 3 5 v3 rfl rfl) h3
  have bu3 : 0 ≤ n3 ∧ n3 ≤ 255 := by simpa [Lit.wf, IntKind.min, IntKind.max, IntKind.signed, IntKind.bits] using wn3
  refine (coarser_law a0 b0 n1 n2 n3 bu3 W).mono fun e W' ⟨he, bel⟩ => ?_
  subst he
  exact ⟨_, rfl, law_post hW' rfl rfl rfl scheduleCoarser_reads bel⟩

theorem scheduleCoarserfact0 : Rows.scheduleCoarserRow.wf (OpenSpec.ofChange Rows.scheduleCoarserSpec) = true := by kernel_rfl
theorem scheduleCoarserfact3 : Try.f11.params.all (Try.prog.readableRec ·) = true := by kernel_rfl
theorem scheduleCoarserfact4 : namedTie Try.prog Rows.scheduleCoarserRow.named Rows.scheduleCoarserSpec.vars = true := by kernel_rfl
theorem scheduleCoarserfact5 : (Rows.scheduleCoarserRow.stops == []) = true := by kernel_rfl
theorem scheduleCoarserfact7 : (Rows.scheduleCoarserRow.knobs == []) = true := by kernel_rfl
theorem scheduleCoarserfact9 : (Rows.scheduleCoarserRow.inPlace == Try.prog.inPlace 11) = true := by kernel_rfl
theorem scheduleCoarserfact10 : (Rows.scheduleCoarserRow.unfollowed == Try.prog.unfollowed 11) = true := by kernel_rfl
theorem scheduleCoarserfact11 : (Rows.scheduleCoarserRow.recurses == Try.prog.recurses 11) = true := by kernel_rfl
theorem scheduleCoarserfact12 : (Rows.scheduleCoarserRow.named == Try.prog.varsNamed 11) = true := by kernel_rfl
theorem scheduleCoarserfact13 : (Rows.scheduleCoarserRow.maps == (Try.f11.params.toList ++ Rows.scheduleCoarserSpec.plain.varTypes Try.prog).any (Try.prog.mapsRec ·)) = true := by kernel_rfl
theorem scheduleCoarserfact14 : (Rows.scheduleCoarserRow.ifaces == (Try.f11.params.toList ++ Rows.scheduleCoarserSpec.plain.varTypes Try.prog).any (Try.prog.ifacesRec ·)) = true := by kernel_rfl
theorem scheduleCoarserfact15 : (Rows.scheduleCoarserRow.mapsOut == Try.prog.mapsAmong Try.f11.resultTypes.toList) = true := by kernel_rfl
theorem scheduleCoarserfact16 : (Rows.scheduleCoarserRow.loops == (Try.f11.params.toList ++ Rows.scheduleCoarserSpec.plain.varTypes Try.prog).any (Try.prog.loopsFrom ·)) = true := by kernel_rfl
theorem scheduleCoarserfact17 : (Rows.scheduleCoarserRow.wideKeys == (Try.f11.params.toList ++ Rows.scheduleCoarserSpec.plain.varTypes Try.prog ++ Try.f11.resultTypes.toList).any (Try.prog.wideKeysFrom ·)) = true := by kernel_rfl
theorem scheduleCoarserfact18 : Rows.scheduleCoarserSpec.vars.all (Try.prog.varReadable ·) = true := by kernel_rfl
theorem scheduleCoarserfact19 : Try.f11.resultTypes.all (fun t => Try.prog.readableRec t && decide (t < Try.prog.types.size)) = true := by kernel_rfl
theorem scheduleCoarserfact20 : (Rows.scheduleCoarserRow.ifacesOut == Try.f11.resultTypes.toList.any (Try.prog.ifacesRec ·)) = true := by kernel_rfl
theorem scheduleCoarserfact21 : (Rows.scheduleCoarserRow.loopsOut == Try.f11.resultTypes.toList.any (Try.prog.loopsFrom ·)) = true := by kernel_rfl
theorem scheduleCoarserfact22 : (Rows.scheduleCoarserRow.plainKeys == Try.prog.plainKeys) = true := by rw [sharedplainKeys]; rfl
theorem scheduleCoarserfact23 : Rows.scheduleCoarserRow.shortTexts.isNone = true := by kernel_rfl
theorem scheduleCoarserfact26 : (Rows.scheduleCoarserRow.lifted == Try.prog.liftsFinal) = true := by rw [sharedliftsFinal]; rfl
theorem scheduleCoarserfact27 : (Try.prog.make == some Rows.scheduleCoarserRow.make) = true := by kernel_rfl
theorem scheduleCoarserfact28 : (Rows.scheduleCoarserRow.kinds == (if Rows.scheduleCoarserRow.domain.isEmpty then [] else Try.f11.params.toList.map fun t => match Try.prog.underlying t with | some (.int k) => some k | _ => none)) = true := by kernel_rfl
theorem scheduleCoarserfact29 : (Rows.scheduleCoarserRow.pinned == Rows.scheduleCoarserRow.pinnedBy) = true := by kernel_rfl
theorem scheduleCoarserfact30 : (Rows.scheduleCoarserRow.veiled == (Try.f11.params.toList ++ Rows.scheduleCoarserSpec.plain.varTypes Try.prog ++ Try.f11.resultTypes.toList).any (Try.prog.veiledRec ·)) = true := by kernel_rfl
theorem scheduleCoarserfact31 : Rows.scheduleCoarserRow.veiledFits Try.prog Try.f11.params.toList (Try.f11.params.toList ++ Rows.scheduleCoarserSpec.plain.varTypes Try.prog ++ Try.f11.resultTypes.toList) = true := by kernel_rfl
set_option maxRecDepth 100000 in
theorem scheduleCoarserclosed : joinedFacts Try.prog 11 Try.f11 Rows.scheduleCoarserSpec Rows.scheduleCoarserRow = true := (and_mk (and_mk (and_mk (and_mk (and_mk (and_mk (and_mk (and_mk (and_mk (and_mk (and_mk (and_mk (and_mk (and_mk (and_mk (and_mk (and_mk (and_mk (and_mk (and_mk (and_mk (and_mk (and_mk (and_mk (and_mk (and_mk (and_mk (and_mk (and_mk (and_mk (and_mk scheduleCoarserfact0 sharedfact1) sharedfact2) scheduleCoarserfact3) scheduleCoarserfact4) scheduleCoarserfact5) sharedfact6) scheduleCoarserfact7) sharedfact8) scheduleCoarserfact9) scheduleCoarserfact10) scheduleCoarserfact11) scheduleCoarserfact12) scheduleCoarserfact13) scheduleCoarserfact14) scheduleCoarserfact15) scheduleCoarserfact16) scheduleCoarserfact17) scheduleCoarserfact18) scheduleCoarserfact19) scheduleCoarserfact20) scheduleCoarserfact21) scheduleCoarserfact22) scheduleCoarserfact23) sharedfact24) sharedfact25) scheduleCoarserfact26) scheduleCoarserfact27) scheduleCoarserfact28) scheduleCoarserfact29) scheduleCoarserfact30) scheduleCoarserfact31)

theorem scheduleCoarser_named : Try.prog.funcNamed Rows.scheduleCoarserRow.func = some 11 := by kernel_rfl
theorem scheduleCoarser_wrap : Try.f11.isWrapper Try.prog Rows.scheduleCoarserRow.wrapper Rows.scheduleCoarserRow.mainSum := by
  unfold Func.isWrapper
  first | (rw [if_pos (by decide +kernel)]; kernel_rfl) | (rw [if_neg (by decide +kernel)]; exact ⟨rfl, rfl⟩)
theorem scheduleCoarser_inst : Try.f11.isInstance Try.prog Rows.scheduleCoarserRow.origin Rows.scheduleCoarserRow.targs := of_decide_eq_true (by kernel_rfl)
theorem scheduleCoarser_over : Rows.scheduleCoarserRow.holds Try.pinned (OpenSpec.ofChange Rows.scheduleCoarserSpec) :=
  OpenClaim.holds_of_wide 11 Try.f11 rfl rfl rfl rfl rfl rfl rfl ⟨rfl, rfl, rfl, rfl, rfl⟩ rfl rfl rfl rfl rfl scheduleCoarser_named Try.func11 scheduleCoarserclosed scheduleCoarser_inst scheduleCoarser_wrap
    (fun os started H enc _ => scheduleCoarser_lifted os started H enc)

theorem ScheduleCoarser_holds : Rows.ScheduleCoarserSaid := scheduleCoarser_over
#print axioms ScheduleCoarser_holds
end Go.Proofs.Ytilbolgncpfmmaa
