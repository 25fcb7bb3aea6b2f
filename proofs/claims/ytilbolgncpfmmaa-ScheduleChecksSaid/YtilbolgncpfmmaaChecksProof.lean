/- The law ScheduleChecks returns true for every input, and each argument reads afterwards as before. Conditions: none. -/
import Derived.Test.YtilbolgncpfmmaaLawP
import Derived.Test.YtilbolgncpfmmaaW18
import Derived.Test.YtilbolgncpfmmaaFacts
namespace Go.Proofs.Ytilbolgncpfmmaa
open Go.ChangeShapes Go.WideShapes Go.ChangeAt Go.RowKit

theorem scheduleChecks_reads : ∀ t ∈ Try.f14.params.toList, Try.prog.readableRec t = true ∧ t < Try.prog.types.size := by
  rw [Try.params14]
  intro t ht
  have : t = 50 ∨ t = 26 ∨ t = 3 := by simp at ht; omega
  rcases this with rfl | rfl | rfl
  · exact ⟨by kernel_rfl, of_decide_eq_true (by kernel_rfl)⟩
  · exact ⟨by kernel_rfl, of_decide_eq_true (by kernel_rfl)⟩
  · exact ⟨by kernel_rfl, of_decide_eq_true (by kernel_rfl)⟩

set_option maxRecDepth 100000 in
theorem scheduleChecks_lifted (os : Os) (started : os.Started) (H : Type) (enc : TypeId × Value → H) :
    ReturnsInHanded {} Try.checked os 14 .any (Rows.scheduleChecksSpec.pre6 enc Try.prog Try.f14 Rows.scheduleChecksRow.domain false) (Rows.scheduleChecksSpec.post enc Try.prog Try.f14 false true false false) := by
  refine returnsInHanded_of_change (C := Try.checked) own started (by kernel_rfl) Try.func14
    (ChangeSpec.witness6 (enc := enc) (C := Try.checked) false ⟨#[], #[.slice none 0 0, .int .i64 0, .int .i64 0, .int .i64 0, .int .i64 0], []⟩ 8 (by kernel_rfl) (by kernel_rfl) (by kernel_rfl) (by kernel_rfl)) ?_
  intro W base args ds gs before hval0 hW hcnd _
  have hval : ∀ (j : Nat) t v, Try.f14.params[j]? = some t → args[j]? = some v → Value.okWide Try.prog W .any base t v := hval0
  have hW' := hW
  obtain ⟨p, q, hA0, hV, rfl, hfz, hnd⟩ := hW
  have hA : DataW.TrodAll enc Try.prog W 0 (fun _ => true) true Try.f14.params.toList args.toList ds p := hA0
  rw [Try.params14] at hA hval
  obtain ⟨v0, vs0, d0, ds0, p0, q0, hargs, rfl, rfl, h0, r0⟩ := trodAll_cons hA
  obtain ⟨v1, vs1, d1, ds1, p1, q1, rfl, rfl, rfl, h1, r1⟩ := trodAll_cons r0
  obtain ⟨v2, vs2, d2, ds2, p2, q2, rfl, rfl, rfl, h2, r2⟩ := trodAll_cons r1
  obtain ⟨v3, vs3, d3, ds3, p3, q3, rfl, rfl, rfl, h3, r3⟩ := trodAll_cons r2
  obtain ⟨v4, vs4, d4, ds4, p4, q4, rfl, rfl, rfl, h4, r4⟩ := trodAll_cons r3
  obtain ⟨rfl, rfl, rfl⟩ := trodAll_nil r4
  obtain rfl : args = #[v0, v1, v2, v3, v4] := by cases args; simp_all
  obtain ⟨rfl, rfl⟩ := trodVars_none hV
  obtain ⟨l0, i0⟩ := open_pers (hval 0 50 v0 rfl rfl) h0
  obtain ⟨n1, rfl, -, -, wn1⟩ := open_int Try.underlying26 (hval 1 26 v1 rfl rfl) h1
  obtain ⟨n2, rfl, -, -, wn2⟩ := open_int Try.underlying3 (hval 2 3 v2 rfl rfl) h2
  obtain ⟨n3, rfl, -, -, wn3⟩ := open_int Try.underlying3 (hval 3 3 v3 rfl rfl) h3
  obtain ⟨n4, rfl, -, -, wn4⟩ := open_int Try.underlying3 (hval 4 3 v4 rfl rfl) h4
  refine (checks_law l0 n1 n2 n3 n4 W v0 i0).mono fun e W' ⟨he, bel⟩ => ?_
  subst he
  exact ⟨_, rfl, law_post hW' rfl rfl rfl scheduleChecks_reads bel⟩

theorem scheduleChecksfact0 : Rows.scheduleChecksRow.wf (OpenSpec.ofChange Rows.scheduleChecksSpec) = true := by kernel_rfl
theorem scheduleChecksfact3 : Try.f14.params.all (Try.prog.readableRec ·) = true := by kernel_rfl
theorem scheduleChecksfact4 : namedTie Try.prog Rows.scheduleChecksRow.named Rows.scheduleChecksSpec.vars = true := by kernel_rfl
theorem scheduleChecksfact5 : (Rows.scheduleChecksRow.stops == []) = true := by kernel_rfl
theorem scheduleChecksfact7 : (Rows.scheduleChecksRow.knobs == []) = true := by kernel_rfl
theorem scheduleChecksfact9 : (Rows.scheduleChecksRow.inPlace == Try.prog.inPlace 14) = true := by kernel_rfl
theorem scheduleChecksfact10 : (Rows.scheduleChecksRow.unfollowed == Try.prog.unfollowed 14) = true := by kernel_rfl
theorem scheduleChecksfact11 : (Rows.scheduleChecksRow.recurses == Try.prog.recurses 14) = true := by kernel_rfl
theorem scheduleChecksfact12 : (Rows.scheduleChecksRow.named == Try.prog.varsNamed 14) = true := by kernel_rfl
theorem scheduleChecksfact13 : (Rows.scheduleChecksRow.maps == (Try.f14.params.toList ++ Rows.scheduleChecksSpec.plain.varTypes Try.prog).any (Try.prog.mapsRec ·)) = true := by kernel_rfl
theorem scheduleChecksfact14 : (Rows.scheduleChecksRow.ifaces == (Try.f14.params.toList ++ Rows.scheduleChecksSpec.plain.varTypes Try.prog).any (Try.prog.ifacesRec ·)) = true := by kernel_rfl
theorem scheduleChecksfact15 : (Rows.scheduleChecksRow.mapsOut == Try.prog.mapsAmong Try.f14.resultTypes.toList) = true := by kernel_rfl
theorem scheduleChecksfact16 : (Rows.scheduleChecksRow.loops == (Try.f14.params.toList ++ Rows.scheduleChecksSpec.plain.varTypes Try.prog).any (Try.prog.loopsFrom ·)) = true := by kernel_rfl
theorem scheduleChecksfact17 : (Rows.scheduleChecksRow.wideKeys == (Try.f14.params.toList ++ Rows.scheduleChecksSpec.plain.varTypes Try.prog ++ Try.f14.resultTypes.toList).any (Try.prog.wideKeysFrom ·)) = true := by kernel_rfl
theorem scheduleChecksfact18 : Rows.scheduleChecksSpec.vars.all (Try.prog.varReadable ·) = true := by kernel_rfl
theorem scheduleChecksfact19 : Try.f14.resultTypes.all (fun t => Try.prog.readableRec t && decide (t < Try.prog.types.size)) = true := by kernel_rfl
theorem scheduleChecksfact20 : (Rows.scheduleChecksRow.ifacesOut == Try.f14.resultTypes.toList.any (Try.prog.ifacesRec ·)) = true := by kernel_rfl
theorem scheduleChecksfact21 : (Rows.scheduleChecksRow.loopsOut == Try.f14.resultTypes.toList.any (Try.prog.loopsFrom ·)) = true := by kernel_rfl
theorem scheduleChecksfact22 : (Rows.scheduleChecksRow.plainKeys == Try.prog.plainKeys) = true := by rw [sharedplainKeys]; rfl
theorem scheduleChecksfact23 : Rows.scheduleChecksRow.shortTexts.isNone = true := by kernel_rfl
theorem scheduleChecksfact26 : (Rows.scheduleChecksRow.lifted == Try.prog.liftsFinal) = true := by rw [sharedliftsFinal]; rfl
theorem scheduleChecksfact27 : (Try.prog.make == some Rows.scheduleChecksRow.make) = true := by kernel_rfl
theorem scheduleChecksfact28 : (Rows.scheduleChecksRow.kinds == (if Rows.scheduleChecksRow.domain.isEmpty then [] else Try.f14.params.toList.map fun t => match Try.prog.underlying t with | some (.int k) => some k | _ => none)) = true := by kernel_rfl
theorem scheduleChecksfact29 : (Rows.scheduleChecksRow.pinned == Rows.scheduleChecksRow.pinnedBy) = true := by kernel_rfl
theorem scheduleChecksfact30 : (Rows.scheduleChecksRow.veiled == (Try.f14.params.toList ++ Rows.scheduleChecksSpec.plain.varTypes Try.prog ++ Try.f14.resultTypes.toList).any (Try.prog.veiledRec ·)) = true := by kernel_rfl
theorem scheduleChecksfact31 : Rows.scheduleChecksRow.veiledFits Try.prog Try.f14.params.toList (Try.f14.params.toList ++ Rows.scheduleChecksSpec.plain.varTypes Try.prog ++ Try.f14.resultTypes.toList) = true := by kernel_rfl
set_option maxRecDepth 100000 in
theorem scheduleChecksclosed : joinedFacts Try.prog 14 Try.f14 Rows.scheduleChecksSpec Rows.scheduleChecksRow = true := (and_mk (and_mk (and_mk (and_mk (and_mk (and_mk (and_mk (and_mk (and_mk (and_mk (and_mk (and_mk (and_mk (and_mk (and_mk (and_mk (and_mk (and_mk (and_mk (and_mk (and_mk (and_mk (and_mk (and_mk (and_mk (and_mk (and_mk (and_mk (and_mk (and_mk (and_mk scheduleChecksfact0 sharedfact1) sharedfact2) scheduleChecksfact3) scheduleChecksfact4) scheduleChecksfact5) sharedfact6) scheduleChecksfact7) sharedfact8) scheduleChecksfact9) scheduleChecksfact10) scheduleChecksfact11) scheduleChecksfact12) scheduleChecksfact13) scheduleChecksfact14) scheduleChecksfact15) scheduleChecksfact16) scheduleChecksfact17) scheduleChecksfact18) scheduleChecksfact19) scheduleChecksfact20) scheduleChecksfact21) scheduleChecksfact22) scheduleChecksfact23) sharedfact24) sharedfact25) scheduleChecksfact26) scheduleChecksfact27) scheduleChecksfact28) scheduleChecksfact29) scheduleChecksfact30) scheduleChecksfact31)

theorem scheduleChecks_named : Try.prog.funcNamed Rows.scheduleChecksRow.func = some 14 := by kernel_rfl
theorem scheduleChecks_wrap : Try.f14.isWrapper Try.prog Rows.scheduleChecksRow.wrapper Rows.scheduleChecksRow.mainSum := by
  unfold Func.isWrapper
  first | (rw [if_pos (by decide +kernel)]; kernel_rfl) | (rw [if_neg (by decide +kernel)]; exact ⟨rfl, rfl⟩)
theorem scheduleChecks_inst : Try.f14.isInstance Try.prog Rows.scheduleChecksRow.origin Rows.scheduleChecksRow.targs := of_decide_eq_true (by kernel_rfl)
theorem scheduleChecks_over : Rows.scheduleChecksRow.holds Try.pinned (OpenSpec.ofChange Rows.scheduleChecksSpec) :=
  OpenClaim.holds_of_wide 14 Try.f14 rfl rfl rfl rfl rfl rfl rfl ⟨rfl, rfl, rfl, rfl, rfl⟩ rfl rfl rfl rfl rfl scheduleChecks_named Try.func14 scheduleChecksclosed scheduleChecks_inst scheduleChecks_wrap
    (fun os started H enc _ => scheduleChecks_lifted os started H enc)

theorem ScheduleChecks_holds : Rows.ScheduleChecksSaid := scheduleChecks_over
#print axioms ScheduleChecks_holds
end Go.Proofs.Ytilbolgncpfmmaa
