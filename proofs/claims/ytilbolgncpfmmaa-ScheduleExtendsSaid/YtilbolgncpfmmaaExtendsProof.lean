/- The law ScheduleExtends returns true for every input, and each argument reads afterwards as before. Conditions: none. -/
import Derived.Test.YtilbolgncpfmmaaLawKit
import Derived.Test.YtilbolgncpfmmaaW12
import Derived.Test.YtilbolgncpfmmaaFacts
namespace Go.Proofs.Ytilbolgncpfmmaa
open Go.ChangeShapes Go.WideShapes Go.ChangeAt Go.RowKit

theorem scheduleExtends_reads : ∀ t ∈ Try.f12.params.toList, Try.prog.readableRec t = true ∧ t < Try.prog.types.size := by
  rw [Try.params12]
  intro t ht
  have : t = 28 ∨ t = 62 ∨ t = 3 := by simp at ht; omega
  rcases this with rfl | rfl | rfl
  · exact ⟨by kernel_rfl, of_decide_eq_true (by kernel_rfl)⟩
  · exact ⟨by kernel_rfl, of_decide_eq_true (by kernel_rfl)⟩
  · exact ⟨by kernel_rfl, of_decide_eq_true (by kernel_rfl)⟩

set_option maxRecDepth 100000 in
theorem scheduleExtends_lifted (os : Os) (started : os.Started) (H : Type) (enc : TypeId × Value → H) :
    ReturnsInHanded {} Try.checked os 12 .any (Rows.scheduleExtendsSpec.pre6 enc Try.prog Try.f12 Rows.scheduleExtendsRow.domain false) (Rows.scheduleExtendsSpec.post enc Try.prog Try.f12 false true false false) := by
  refine returnsInHanded_of_change (C := Try.checked) own started (by kernel_rfl) Try.func12
    (ChangeSpec.witness6 (enc := enc) (C := Try.checked) false ⟨#[], #[.agg #[.int .i64 0, .int .i64 0], .int .u16 0, .int .i64 0, .int .i64 0], []⟩ 8 (by kernel_rfl) (by kernel_rfl) (by kernel_rfl) (by kernel_rfl)) ?_
  intro W base args ds gs before hval0 hW hcnd _
  have hval : ∀ (j : Nat) t v, Try.f12.params[j]? = some t → args[j]? = some v → Value.okWide Try.prog W .any base t v := hval0
  have hW' := hW
  obtain ⟨p, q, hA0, hV, rfl, hfz, hnd⟩ := hW
  have hA : DataW.TrodAll enc Try.prog W 0 (fun _ => true) true Try.f12.params.toList args.toList ds p := hA0
  rw [Try.params12] at hA hval
  obtain ⟨v0, vs0, d0, ds0, p0, q0, hargs, rfl, rfl, h0, r0⟩ := trodAll_cons hA
  obtain ⟨v1, vs1, d1, ds1, p1, q1, rfl, rfl, rfl, h1, r1⟩ := trodAll_cons r0
  obtain ⟨v2, vs2, d2, ds2, p2, q2, rfl, rfl, rfl, h2, r2⟩ := trodAll_cons r1
  obtain ⟨v3, vs3, d3, ds3, p3, q3, rfl, rfl, rfl, h3, r3⟩ := trodAll_cons r2
  obtain ⟨rfl, rfl, rfl⟩ := trodAll_nil r3
  obtain rfl : args = #[v0, v1, v2, v3] := by cases args; simp_all
  obtain ⟨rfl, rfl⟩ := trodVars_none hV
  obtain ⟨a0, b0, rfl, ba0, bb0⟩ := open_per (hval 0 28 v0 rfl rfl) h0
  obtain ⟨n1, rfl, -, -, wn1⟩ := open_int Try.underlying62 (hval 1 62 v1 rfl rfl) h1
  have bu1 : 0 ≤ n1 ∧ n1 ≤ 65535 := by simpa [Lit.wf, IntKind.min, IntKind.max, IntKind.signed, IntKind.bits] using wn1
  obtain ⟨n2, rfl, -, -, wn2⟩ := open_int Try.underlying3 (hval 2 3 v2 rfl rfl) h2
  obtain ⟨n3, rfl, -, -, wn3⟩ := open_int Try.underlying3 (hval 3 3 v3 rfl rfl) h3
  refine (extends_law a0 b0 n1 n2 n3 bu1 W).mono fun e W' ⟨he, bel⟩ => ?_
  subst he
  exact ⟨_, rfl, law_post hW' rfl rfl rfl scheduleExtends_reads bel⟩

theorem scheduleExtendsfact0 : Rows.scheduleExtendsRow.wf (OpenSpec.ofChange Rows.scheduleExtendsSpec) = true := by kernel_rfl
theorem scheduleExtendsfact3 : Try.f12.params.all (Try.prog.readableRec ·) = true := by kernel_rfl
theorem scheduleExtendsfact4 : namedTie Try.prog Rows.scheduleExtendsRow.named Rows.scheduleExtendsSpec.vars = true := by kernel_rfl
theorem scheduleExtendsfact5 : (Rows.scheduleExtendsRow.stops == []) = true := by kernel_rfl
theorem scheduleExtendsfact7 : (Rows.scheduleExtendsRow.knobs == []) = true := by kernel_rfl
theorem scheduleExtendsfact9 : (Rows.scheduleExtendsRow.inPlace == Try.prog.inPlace 12) = true := by kernel_rfl
theorem scheduleExtendsfact10 : (Rows.scheduleExtendsRow.unfollowed == Try.prog.unfollowed 12) = true := by kernel_rfl
theorem scheduleExtendsfact11 : (Rows.scheduleExtendsRow.recurses == Try.prog.recurses 12) = true := by kernel_rfl
theorem scheduleExtendsfact12 : (Rows.scheduleExtendsRow.named == Try.prog.varsNamed 12) = true := by kernel_rfl
theorem scheduleExtendsfact13 : (Rows.scheduleExtendsRow.maps == (Try.f12.params.toList ++ Rows.scheduleExtendsSpec.plain.varTypes Try.prog).any (Try.prog.mapsRec ·)) = true := by kernel_rfl
theorem scheduleExtendsfact14 : (Rows.scheduleExtendsRow.ifaces == (Try.f12.params.toList ++ Rows.scheduleExtendsSpec.plain.varTypes Try.prog).any (Try.prog.ifacesRec ·)) = true := by kernel_rfl
theorem scheduleExtendsfact15 : (Rows.scheduleExtendsRow.mapsOut == Try.prog.mapsAmong Try.f12.resultTypes.toList) = true := by kernel_rfl
theorem scheduleExtendsfact16 : (Rows.scheduleExtendsRow.loops == (Try.f12.params.toList ++ Rows.scheduleExtendsSpec.plain.varTypes Try.prog).any (Try.prog.loopsFrom ·)) = true := by kernel_rfl
theorem scheduleExtendsfact17 : (Rows.scheduleExtendsRow.wideKeys == (Try.f12.params.toList ++ Rows.scheduleExtendsSpec.plain.varTypes Try.prog ++ Try.f12.resultTypes.toList).any (Try.prog.wideKeysFrom ·)) = true := by kernel_rfl
theorem scheduleExtendsfact18 : Rows.scheduleExtendsSpec.vars.all (Try.prog.varReadable ·) = true := by kernel_rfl
theorem scheduleExtendsfact19 : Try.f12.resultTypes.all (fun t => Try.prog.readableRec t && decide (t < Try.prog.types.size)) = true := by kernel_rfl
theorem scheduleExtendsfact20 : (Rows.scheduleExtendsRow.ifacesOut == Try.f12.resultTypes.toList.any (Try.prog.ifacesRec ·)) = true := by kernel_rfl
theorem scheduleExtendsfact21 : (Rows.scheduleExtendsRow.loopsOut == Try.f12.resultTypes.toList.any (Try.prog.loopsFrom ·)) = true := by kernel_rfl
theorem scheduleExtendsfact22 : (Rows.scheduleExtendsRow.plainKeys == Try.prog.plainKeys) = true := by rw [sharedplainKeys]; rfl
theorem scheduleExtendsfact23 : Rows.scheduleExtendsRow.shortTexts.isNone = true := by kernel_rfl
theorem scheduleExtendsfact26 : (Rows.scheduleExtendsRow.lifted == Try.prog.liftsFinal) = true := by rw [sharedliftsFinal]; rfl
theorem scheduleExtendsfact27 : (Try.prog.make == some Rows.scheduleExtendsRow.make) = true := by kernel_rfl
theorem scheduleExtendsfact28 : (Rows.scheduleExtendsRow.kinds == (if Rows.scheduleExtendsRow.domain.isEmpty then [] else Try.f12.params.toList.map fun t => match Try.prog.underlying t with | some (.int k) => some k | _ => none)) = true := by kernel_rfl
theorem scheduleExtendsfact29 : (Rows.scheduleExtendsRow.pinned == Rows.scheduleExtendsRow.pinnedBy) = true := by kernel_rfl
theorem scheduleExtendsfact30 : (Rows.scheduleExtendsRow.veiled == (Try.f12.params.toList ++ Rows.scheduleExtendsSpec.plain.varTypes Try.prog ++ Try.f12.resultTypes.toList).any (Try.prog.veiledRec ·)) = true := by kernel_rfl
theorem scheduleExtendsfact31 : Rows.scheduleExtendsRow.veiledFits Try.prog Try.f12.params.toList (Try.f12.params.toList ++ Rows.scheduleExtendsSpec.plain.varTypes Try.prog ++ Try.f12.resultTypes.toList) = true := by kernel_rfl
set_option maxRecDepth 100000 in
theorem scheduleExtendsclosed : joinedFacts Try.prog 12 Try.f12 Rows.scheduleExtendsSpec Rows.scheduleExtendsRow = true := (and_mk (and_mk (and_mk (and_mk (and_mk (and_mk (and_mk (and_mk (and_mk (and_mk (and_mk (and_mk (and_mk (and_mk (and_mk (and_mk (and_mk (and_mk (and_mk (and_mk (and_mk (and_mk (and_mk (and_mk (and_mk (and_mk (and_mk (and_mk (and_mk (and_mk (and_mk scheduleExtendsfact0 sharedfact1) sharedfact2) scheduleExtendsfact3) scheduleExtendsfact4) scheduleExtendsfact5) sharedfact6) scheduleExtendsfact7) sharedfact8) scheduleExtendsfact9) scheduleExtendsfact10) scheduleExtendsfact11) scheduleExtendsfact12) scheduleExtendsfact13) scheduleExtendsfact14) scheduleExtendsfact15) scheduleExtendsfact16) scheduleExtendsfact17) scheduleExtendsfact18) scheduleExtendsfact19) scheduleExtendsfact20) scheduleExtendsfact21) scheduleExtendsfact22) scheduleExtendsfact23) sharedfact24) sharedfact25) scheduleExtendsfact26) scheduleExtendsfact27) scheduleExtendsfact28) scheduleExtendsfact29) scheduleExtendsfact30) scheduleExtendsfact31)

theorem scheduleExtends_named : Try.prog.funcNamed Rows.scheduleExtendsRow.func = some 12 := by kernel_rfl
theorem scheduleExtends_wrap : Try.f12.isWrapper Try.prog Rows.scheduleExtendsRow.wrapper Rows.scheduleExtendsRow.mainSum := by
  unfold Func.isWrapper
  first | (rw [if_pos (by decide +kernel)]; kernel_rfl) | (rw [if_neg (by decide +kernel)]; exact ⟨rfl, rfl⟩)
theorem scheduleExtends_inst : Try.f12.isInstance Try.prog Rows.scheduleExtendsRow.origin Rows.scheduleExtendsRow.targs := of_decide_eq_true (by kernel_rfl)
theorem scheduleExtends_over : Rows.scheduleExtendsRow.holds Try.pinned (OpenSpec.ofChange Rows.scheduleExtendsSpec) :=
  OpenClaim.holds_of_wide 12 Try.f12 rfl rfl rfl rfl rfl rfl rfl ⟨rfl, rfl, rfl, rfl, rfl⟩ rfl rfl rfl rfl rfl scheduleExtends_named Try.func12 scheduleExtendsclosed scheduleExtends_inst scheduleExtends_wrap
    (fun os started H enc _ => scheduleExtends_lifted os started H enc)

theorem ScheduleExtends_holds : Rows.ScheduleExtendsSaid := scheduleExtends_over
#print axioms ScheduleExtends_holds
end Go.Proofs.Ytilbolgncpfmmaa
