/- The law SchedulePaid returns true for every input, and each argument reads afterwards as before. Conditions: none. -/
import Derived.Test.YtilbolgncpfmmaaLawQ
import Derived.Test.YtilbolgncpfmmaaW22
import Derived.Test.YtilbolgncpfmmaaFacts
namespace Go.Proofs.Ytilbolgncpfmmaa
open Go.ChangeShapes Go.WideShapes Go.ChangeAt Go.RowKit

theorem schedulePaid_reads : ∀ t ∈ Try.f19.params.toList, Try.prog.readableRec t = true ∧ t < Try.prog.types.size := by
  rw [Try.params19]
  intro t ht
  have : t = 50 ∨ t = 25 ∨ t = 3 := by simp at ht; omega
  rcases this with rfl | rfl | rfl
  · exact ⟨by kernel_rfl, of_decide_eq_true (by kernel_rfl)⟩
  · exact ⟨by kernel_rfl, of_decide_eq_true (by kernel_rfl)⟩
  · exact ⟨by kernel_rfl, of_decide_eq_true (by kernel_rfl)⟩

set_option maxRecDepth 100000 in
theorem schedulePaid_lifted (os : Os) (started : os.Started) (H : Type) (enc : TypeId × Value → H) :
    ReturnsInHanded {} Try.checked os 19 .any (Rows.schedulePaidSpec.pre6 enc Try.prog Try.f19 Rows.schedulePaidRow.domain false) (Rows.schedulePaidSpec.post enc Try.prog Try.f19 false true false false) := by
  refine returnsInHanded_of_change (C := Try.checked) own started (by kernel_rfl) Try.func19
    (ChangeSpec.witness6 (enc := enc) (C := Try.checked) false ⟨#[], #[.slice none 0 0, .agg #[.slice none 0 0, .slice none 0 0], .int .i64 0], []⟩ 8 (by kernel_rfl) (by kernel_rfl) (by kernel_rfl) (by kernel_rfl)) ?_
  intro W base args ds gs before hval0 hW hcnd _
  have hval : ∀ (j : Nat) t v, Try.f19.params[j]? = some t → args[j]? = some v → Value.okWide Try.prog W .any base t v := hval0
  have hW' := hW
  obtain ⟨p, q, hA0, hV, rfl, hfz, hnd⟩ := hW
  have hA : DataW.TrodAll enc Try.prog W 0 (fun _ => true) true Try.f19.params.toList args.toList ds p := hA0
  rw [Try.params19] at hA hval
  obtain ⟨v0, vs0, d0, ds0, p0, q0, hargs, rfl, rfl, h0, r0⟩ := trodAll_cons hA
  obtain ⟨v1, vs1, d1, ds1, p1, q1, rfl, rfl, rfl, h1, r1⟩ := trodAll_cons r0
  obtain ⟨v2, vs2, d2, ds2, p2, q2, rfl, rfl, rfl, h2, r2⟩ := trodAll_cons r1
  obtain ⟨rfl, rfl, rfl⟩ := trodAll_nil r2
  obtain rfl : args = #[v0, v1, v2] := by cases args; simp_all
  obtain ⟨rfl, rfl⟩ := trodVars_none hV
  obtain ⟨l0, i0⟩ := open_pers (hval 0 50 v0 rfl rfl) h0
  obtain ⟨x1, y1, i1⟩ := open_calD (hval 1 25 v1 rfl rfl) h1
  obtain ⟨n2, rfl, -, -, wn2⟩ := open_int Try.underlying3 (hval 2 3 v2 rfl rfl) h2
  refine (paid_law l0 x1 y1 n2 W v0 v1 i0 i1).mono fun e W' ⟨he, bel⟩ => ?_
  subst he
  exact ⟨_, rfl, law_post hW' rfl rfl rfl schedulePaid_reads bel⟩

theorem schedulePaidfact0 : Rows.schedulePaidRow.wf (OpenSpec.ofChange Rows.schedulePaidSpec) = true := by kernel_rfl
theorem schedulePaidfact3 : Try.f19.params.all (Try.prog.readableRec ·) = true := by kernel_rfl
theorem schedulePaidfact4 : namedTie Try.prog Rows.schedulePaidRow.named Rows.schedulePaidSpec.vars = true := by kernel_rfl
theorem schedulePaidfact5 : (Rows.schedulePaidRow.stops == []) = true := by kernel_rfl
theorem schedulePaidfact7 : (Rows.schedulePaidRow.knobs == []) = true := by kernel_rfl
theorem schedulePaidfact9 : (Rows.schedulePaidRow.inPlace == Try.prog.inPlace 19) = true := by kernel_rfl
theorem schedulePaidfact10 : (Rows.schedulePaidRow.unfollowed == Try.prog.unfollowed 19) = true := by kernel_rfl
theorem schedulePaidfact11 : (Rows.schedulePaidRow.recurses == Try.prog.recurses 19) = true := by kernel_rfl
theorem schedulePaidfact12 : (Rows.schedulePaidRow.named == Try.prog.varsNamed 19) = true := by kernel_rfl
theorem schedulePaidfact13 : (Rows.schedulePaidRow.maps == (Try.f19.params.toList ++ Rows.schedulePaidSpec.plain.varTypes Try.prog).any (Try.prog.mapsRec ·)) = true := by kernel_rfl
theorem schedulePaidfact14 : (Rows.schedulePaidRow.ifaces == (Try.f19.params.toList ++ Rows.schedulePaidSpec.plain.varTypes Try.prog).any (Try.prog.ifacesRec ·)) = true := by kernel_rfl
theorem schedulePaidfact15 : (Rows.schedulePaidRow.mapsOut == Try.prog.mapsAmong Try.f19.resultTypes.toList) = true := by kernel_rfl
theorem schedulePaidfact16 : (Rows.schedulePaidRow.loops == (Try.f19.params.toList ++ Rows.schedulePaidSpec.plain.varTypes Try.prog).any (Try.prog.loopsFrom ·)) = true := by kernel_rfl
theorem schedulePaidfact17 : (Rows.schedulePaidRow.wideKeys == (Try.f19.params.toList ++ Rows.schedulePaidSpec.plain.varTypes Try.prog ++ Try.f19.resultTypes.toList).any (Try.prog.wideKeysFrom ·)) = true := by kernel_rfl
theorem schedulePaidfact18 : Rows.schedulePaidSpec.vars.all (Try.prog.varReadable ·) = true := by kernel_rfl
theorem schedulePaidfact19 : Try.f19.resultTypes.all (fun t => Try.prog.readableRec t && decide (t < Try.prog.types.size)) = true := by kernel_rfl
theorem schedulePaidfact20 : (Rows.schedulePaidRow.ifacesOut == Try.f19.resultTypes.toList.any (Try.prog.ifacesRec ·)) = true := by kernel_rfl
theorem schedulePaidfact21 : (Rows.schedulePaidRow.loopsOut == Try.f19.resultTypes.toList.any (Try.prog.loopsFrom ·)) = true := by kernel_rfl
theorem schedulePaidfact22 : (Rows.schedulePaidRow.plainKeys == Try.prog.plainKeys) = true := by rw [sharedplainKeys]; rfl
theorem schedulePaidfact23 : Rows.schedulePaidRow.shortTexts.isNone = true := by kernel_rfl
theorem schedulePaidfact26 : (Rows.schedulePaidRow.lifted == Try.prog.liftsFinal) = true := by rw [sharedliftsFinal]; rfl
theorem schedulePaidfact27 : (Try.prog.make == some Rows.schedulePaidRow.make) = true := by kernel_rfl
theorem schedulePaidfact28 : (Rows.schedulePaidRow.kinds == (if Rows.schedulePaidRow.domain.isEmpty then [] else Try.f19.params.toList.map fun t => match Try.prog.underlying t with | some (.int k) => some k | _ => none)) = true := by kernel_rfl
theorem schedulePaidfact29 : (Rows.schedulePaidRow.pinned == Rows.schedulePaidRow.pinnedBy) = true := by kernel_rfl
theorem schedulePaidfact30 : (Rows.schedulePaidRow.veiled == (Try.f19.params.toList ++ Rows.schedulePaidSpec.plain.varTypes Try.prog ++ Try.f19.resultTypes.toList).any (Try.prog.veiledRec ·)) = true := by kernel_rfl
theorem schedulePaidfact31 : Rows.schedulePaidRow.veiledFits Try.prog Try.f19.params.toList (Try.f19.params.toList ++ Rows.schedulePaidSpec.plain.varTypes Try.prog ++ Try.f19.resultTypes.toList) = true := by kernel_rfl
set_option maxRecDepth 100000 in
theorem schedulePaidclosed : joinedFacts Try.prog 19 Try.f19 Rows.schedulePaidSpec Rows.schedulePaidRow = true := (and_mk (and_mk (and_mk (and_mk (and_mk (and_mk (and_mk (and_mk (and_mk (and_mk (and_mk (and_mk (and_mk (and_mk (and_mk (and_mk (and_mk (and_mk (and_mk (and_mk (and_mk (and_mk (and_mk (and_mk (and_mk (and_mk (and_mk (and_mk (and_mk (and_mk (and_mk schedulePaidfact0 sharedfact1) sharedfact2) schedulePaidfact3) schedulePaidfact4) schedulePaidfact5) sharedfact6) schedulePaidfact7) sharedfact8) schedulePaidfact9) schedulePaidfact10) schedulePaidfact11) schedulePaidfact12) schedulePaidfact13) schedulePaidfact14) schedulePaidfact15) schedulePaidfact16) schedulePaidfact17) schedulePaidfact18) schedulePaidfact19) schedulePaidfact20) schedulePaidfact21) schedulePaidfact22) schedulePaidfact23) sharedfact24) sharedfact25) schedulePaidfact26) schedulePaidfact27) schedulePaidfact28) schedulePaidfact29) schedulePaidfact30) schedulePaidfact31)

theorem schedulePaid_named : Try.prog.funcNamed Rows.schedulePaidRow.func = some 19 := by kernel_rfl
theorem schedulePaid_wrap : Try.f19.isWrapper Try.prog Rows.schedulePaidRow.wrapper Rows.schedulePaidRow.mainSum := by
  unfold Func.isWrapper
  first | (rw [if_pos (by decide +kernel)]; kernel_rfl) | (rw [if_neg (by decide +kernel)]; exact ⟨rfl, rfl⟩)
theorem schedulePaid_inst : Try.f19.isInstance Try.prog Rows.schedulePaidRow.origin Rows.schedulePaidRow.targs := of_decide_eq_true (by kernel_rfl)
theorem schedulePaid_over : Rows.schedulePaidRow.holds Try.pinned (OpenSpec.ofChange Rows.schedulePaidSpec) :=
  OpenClaim.holds_of_wide 19 Try.f19 rfl rfl rfl rfl rfl rfl rfl ⟨rfl, rfl, rfl, rfl, rfl⟩ rfl rfl rfl rfl rfl schedulePaid_named Try.func19 schedulePaidclosed schedulePaid_inst schedulePaid_wrap
    (fun os started H enc _ => schedulePaid_lifted os started H enc)

theorem SchedulePaid_holds : Rows.SchedulePaidSaid := schedulePaid_over
#print axioms SchedulePaid_holds
end Go.Proofs.Ytilbolgncpfmmaa
