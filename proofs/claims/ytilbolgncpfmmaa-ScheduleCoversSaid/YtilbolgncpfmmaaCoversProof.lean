/- The law ScheduleCovers returns true for every input, and each argument reads afterwards as before. Conditions: none. -/
import Derived.Test.YtilbolgncpfmmaaLawKit
import Derived.Test.YtilbolgncpfmmaaW10
import Derived.Test.YtilbolgncpfmmaaFacts
namespace Go.Proofs.Ytilbolgncpfmmaa
open Go.ChangeShapes Go.WideShapes Go.ChangeAt Go.RowKit

theorem scheduleCovers_reads : ∀ t ∈ Try.f10.params.toList, Try.prog.readableRec t = true ∧ t < Try.prog.types.size := by
  rw [Try.params10]
  intro t ht
  have : t = 28 ∨ t = 3 := by simp at ht; omega
  rcases this with rfl | rfl
  · exact ⟨by kernel_rfl, of_decide_eq_true (by kernel_rfl)⟩
  · exact ⟨by kernel_rfl, of_decide_eq_true (by kernel_rfl)⟩

set_option maxRecDepth 100000 in
theorem scheduleCovers_lifted (os : Os) (started : os.Started) (H : Type) (enc : TypeId × Value → H) :
    ReturnsInHanded {} Try.checked os 10 .any (Rows.scheduleCoversSpec.pre6 enc Try.prog Try.f10 Rows.scheduleCoversRow.domain false) (Rows.scheduleCoversSpec.post enc Try.prog Try.f10 false true false false) := by
  refine returnsInHanded_of_change (C := Try.checked) own started (by kernel_rfl) Try.func10
    (ChangeSpec.witness6 (enc := enc) (C := Try.checked) false ⟨#[], #[.agg #[.int .i64 0, .int .i64 0], .int .i64 0, .int .i64 0], []⟩ 8 (by kernel_rfl) (by kernel_rfl) (by kernel_rfl) (by kernel_rfl)) ?_
  intro W base args ds gs before hval0 hW hcnd _
  have hval : ∀ (j : Nat) t v, Try.f10.params[j]? = some t → args[j]? = some v → Value.okWide Try.prog W .any base t v := hval0
  have hW' := hW
  obtain ⟨p, q, hA0, hV, rfl, hfz, hnd⟩ := hW
  have hA : DataW.TrodAll enc Try.prog W 0 (fun _ => true) true Try.f10.params.toList args.toList ds p := hA0
  rw [Try.params10] at hA hval
  obtain ⟨v0, vs0, d0, ds0, p0, q0, hargs, rfl, rfl, h0, r0⟩ := trodAll_cons hA
  obtain ⟨v1, vs1, d1, ds1, p1, q1, rfl, rfl, rfl, h1, r1⟩ := trodAll_cons r0
  obtain ⟨v2, vs2, d2, ds2, p2, q2, rfl, rfl, rfl, h2, r2⟩ := trodAll_cons r1
  obtain ⟨rfl, rfl, rfl⟩ := trodAll_nil r2
  obtain rfl : args = #[v0, v1, v2] := by cases args; simp_all
  obtain ⟨rfl, rfl⟩ := trodVars_none hV
  obtain ⟨a0, b0, rfl, ba0, bb0⟩ := open_per (hval 0 28 v0 rfl rfl) h0
  obtain ⟨n1, rfl, -, -, wn1⟩ := open_int Try.underlying3 (hval 1 3 v1 rfl rfl) h1
  obtain ⟨n2, rfl, -, -, wn2⟩ := open_int Try.underlying3 (hval 2 3 v2 rfl rfl) h2
  refine (covers_any a0 b0 n1 n2 W).mono fun e W' ⟨he, bel⟩ => ?_
  subst he
  exact ⟨_, rfl, law_post hW' rfl rfl rfl scheduleCovers_reads bel⟩

theorem scheduleCoversfact0 : Rows.scheduleCoversRow.wf (OpenSpec.ofChange Rows.scheduleCoversSpec) = true := by kernel_rfl
theorem scheduleCoversfact3 : Try.f10.params.all (Try.prog.readableRec ·) = true := by kernel_rfl
theorem scheduleCoversfact4 : namedTie Try.prog Rows.scheduleCoversRow.named Rows.scheduleCoversSpec.vars = true := by kernel_rfl
theorem scheduleCoversfact5 : (Rows.scheduleCoversRow.stops == []) = true := by kernel_rfl
theorem scheduleCoversfact7 : (Rows.scheduleCoversRow.knobs == []) = true := by kernel_rfl
theorem scheduleCoversfact9 : (Rows.scheduleCoversRow.inPlace == Try.prog.inPlace 10) = true := by kernel_rfl
theorem scheduleCoversfact10 : (Rows.scheduleCoversRow.unfollowed == Try.prog.unfollowed 10) = true := by kernel_rfl
theorem scheduleCoversfact11 : (Rows.scheduleCoversRow.recurses == Try.prog.recurses 10) = true := by kernel_rfl
theorem scheduleCoversfact12 : (Rows.scheduleCoversRow.named == Try.prog.varsNamed 10) = true := by kernel_rfl
theorem scheduleCoversfact13 : (Rows.scheduleCoversRow.maps == (Try.f10.params.toList ++ Rows.scheduleCoversSpec.plain.varTypes Try.prog).any (Try.prog.mapsRec ·)) = true := by kernel_rfl
theorem scheduleCoversfact14 : (Rows.scheduleCoversRow.ifaces == (Try.f10.params.toList ++ Rows.scheduleCoversSpec.plain.varTypes Try.prog).any (Try.prog.ifacesRec ·)) = true := by kernel_rfl
theorem scheduleCoversfact15 : (Rows.scheduleCoversRow.mapsOut == Try.prog.mapsAmong Try.f10.resultTypes.toList) = true := by kernel_rfl
theorem scheduleCoversfact16 : (Rows.scheduleCoversRow.loops == (Try.f10.params.toList ++ Rows.scheduleCoversSpec.plain.varTypes Try.prog).any (Try.prog.loopsFrom ·)) = true := by kernel_rfl
theorem scheduleCoversfact17 : (Rows.scheduleCoversRow.wideKeys == (Try.f10.params.toList ++ Rows.scheduleCoversSpec.plain.varTypes Try.prog ++ Try.f10.resultTypes.toList).any (Try.prog.wideKeysFrom ·)) = true := by kernel_rfl
theorem scheduleCoversfact18 : Rows.scheduleCoversSpec.vars.all (Try.prog.varReadable ·) = true := by kernel_rfl
theorem scheduleCoversfact19 : Try.f10.resultTypes.all (fun t => Try.prog.readableRec t && decide (t < Try.prog.types.size)) = true := by kernel_rfl
theorem scheduleCoversfact20 : (Rows.scheduleCoversRow.ifacesOut == Try.f10.resultTypes.toList.any (Try.prog.ifacesRec ·)) = true := by kernel_rfl
theorem scheduleCoversfact21 : (Rows.scheduleCoversRow.loopsOut == Try.f10.resultTypes.toList.any (Try.prog.loopsFrom ·)) = true := by kernel_rfl
theorem scheduleCoversfact22 : (Rows.scheduleCoversRow.plainKeys == Try.prog.plainKeys) = true := by rw [sharedplainKeys]; rfl
theorem scheduleCoversfact23 : Rows.scheduleCoversRow.shortTexts.isNone = true := by kernel_rfl
theorem scheduleCoversfact26 : (Rows.scheduleCoversRow.lifted == Try.prog.liftsFinal) = true := by rw [sharedliftsFinal]; rfl
theorem scheduleCoversfact27 : (Try.prog.make == some Rows.scheduleCoversRow.make) = true := by kernel_rfl
theorem scheduleCoversfact28 : (Rows.scheduleCoversRow.kinds == (if Rows.scheduleCoversRow.domain.isEmpty then [] else Try.f10.params.toList.map fun t => match Try.prog.underlying t with | some (.int k) => some k | _ => none)) = true := by kernel_rfl
theorem scheduleCoversfact29 : (Rows.scheduleCoversRow.pinned == Rows.scheduleCoversRow.pinnedBy) = true := by kernel_rfl
theorem scheduleCoversfact30 : (Rows.scheduleCoversRow.veiled == (Try.f10.params.toList ++ Rows.scheduleCoversSpec.plain.varTypes Try.prog ++ Try.f10.resultTypes.toList).any (Try.prog.veiledRec ·)) = true := by kernel_rfl
theorem scheduleCoversfact31 : Rows.scheduleCoversRow.veiledFits Try.prog Try.f10.params.toList (Try.f10.params.toList ++ Rows.scheduleCoversSpec.plain.varTypes Try.prog ++ Try.f10.resultTypes.toList) = true := by kernel_rfl
set_option maxRecDepth 100000 in
theorem scheduleCoversclosed : joinedFacts Try.prog 10 Try.f10 Rows.scheduleCoversSpec Rows.scheduleCoversRow = true := (and_mk (and_mk (and_mk (and_mk (and_mk (and_mk (and_mk (and_mk (and_mk (and_mk (and_mk (and_mk (and_mk (and_mk (and_mk (and_mk (and_mk (and_mk (and_mk (and_mk (and_mk (and_mk (and_mk (and_mk (and_mk (and_mk (and_mk (and_mk (and_mk (and_mk (and_mk scheduleCoversfact0 sharedfact1) sharedfact2) scheduleCoversfact3) scheduleCoversfact4) scheduleCoversfact5) sharedfact6) scheduleCoversfact7) sharedfact8) scheduleCoversfact9) scheduleCoversfact10) scheduleCoversfact11) scheduleCoversfact12) scheduleCoversfact13) scheduleCoversfact14) scheduleCoversfact15) scheduleCoversfact16) scheduleCoversfact17) scheduleCoversfact18) scheduleCoversfact19) scheduleCoversfact20) scheduleCoversfact21) scheduleCoversfact22) scheduleCoversfact23) sharedfact24) sharedfact25) scheduleCoversfact26) scheduleCoversfact27) scheduleCoversfact28) scheduleCoversfact29) scheduleCoversfact30) scheduleCoversfact31)

theorem scheduleCovers_named : Try.prog.funcNamed Rows.scheduleCoversRow.func = some 10 := by kernel_rfl
theorem scheduleCovers_wrap : Try.f10.isWrapper Try.prog Rows.scheduleCoversRow.wrapper Rows.scheduleCoversRow.mainSum := by
  unfold Func.isWrapper
  first | (rw [if_pos (by decide +kernel)]; kernel_rfl) | (rw [if_neg (by decide +kernel)]; exact ⟨rfl, rfl⟩)
theorem scheduleCovers_inst : Try.f10.isInstance Try.prog Rows.scheduleCoversRow.origin Rows.scheduleCoversRow.targs := of_decide_eq_true (by kernel_rfl)
theorem scheduleCovers_over : Rows.scheduleCoversRow.holds Try.pinned (OpenSpec.ofChange Rows.scheduleCoversSpec) :=
  OpenClaim.holds_of_wide 10 Try.f10 rfl rfl rfl rfl rfl rfl rfl ⟨rfl, rfl, rfl, rfl, rfl⟩ rfl rfl rfl rfl rfl scheduleCovers_named Try.func10 scheduleCoversclosed scheduleCovers_inst scheduleCovers_wrap
    (fun os started H enc _ => scheduleCovers_lifted os started H enc)

theorem ScheduleCovers_holds : Rows.ScheduleCoversSaid := scheduleCovers_over
#print axioms ScheduleCovers_holds
end Go.Proofs.Ytilbolgncpfmmaa
