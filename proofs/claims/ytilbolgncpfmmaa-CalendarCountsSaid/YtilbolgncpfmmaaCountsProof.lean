/- The law CalendarCounts returns true for every input, and each argument reads afterwards as before. Conditions: none. -/
import Derived.Test.YtilbolgncpfmmaaLawKit
import Derived.Test.YtilbolgncpfmmaaCounts
import Derived.Test.YtilbolgncpfmmaaFacts
namespace Go.Proofs.Ytilbolgncpfmmaa
open Go.ChangeShapes Go.WideShapes Go.ChangeAt Go.RowKit

theorem calendarCounts_reads : ∀ t ∈ Try.f5.params.toList, Try.prog.readableRec t = true ∧ t < Try.prog.types.size := by
  rw [Try.params5]
  intro t ht
  have : t = 25 ∨ t = 26 ∨ t = 5 := by simp at ht; omega
  rcases this with rfl | rfl | rfl
  · exact ⟨by kernel_rfl, of_decide_eq_true (by kernel_rfl)⟩
  · exact ⟨by kernel_rfl, of_decide_eq_true (by kernel_rfl)⟩
  · exact ⟨by kernel_rfl, of_decide_eq_true (by kernel_rfl)⟩

set_option maxRecDepth 100000 in
theorem calendarCounts_lifted (os : Os) (started : os.Started) (H : Type) (enc : TypeId × Value → H) :
    ReturnsInHanded {} Try.checked os 5 .any (Rows.calendarCountsSpec.pre6 enc Try.prog Try.f5 Rows.calendarCountsRow.domain false) (Rows.calendarCountsSpec.post enc Try.prog Try.f5 false true false false) := by
  refine returnsInHanded_of_change (C := Try.checked) own started (by kernel_rfl) Try.func5
    (ChangeSpec.witness6 (enc := enc) (C := Try.checked) false ⟨#[], #[.agg #[.slice none 0 0, .slice none 0 0], .int .i64 0, .int .u8 0, .int .u8 0], []⟩ 8 (by kernel_rfl) (by kernel_rfl) (by kernel_rfl) (by kernel_rfl)) ?_
  intro W base args ds gs before hval0 hW hcnd _
  have hval : ∀ (j : Nat) t v, Try.f5.params[j]? = some t → args[j]? = some v → Value.okWide Try.prog W .any base t v := hval0
  have hW' := hW
  obtain ⟨p, q, hA0, hV, rfl, hfz, hnd⟩ := hW
  have hA : DataW.TrodAll enc Try.prog W 0 (fun _ => true) true Try.f5.params.toList args.toList ds p := hA0
  rw [Try.params5] at hA hval
  obtain ⟨v0, vs0, d0, ds0, p0, q0, hargs, rfl, rfl, h0, r0⟩ := trodAll_cons hA
  obtain ⟨v1, vs1, d1, ds1, p1, q1, rfl, rfl, rfl, h1, r1⟩ := trodAll_cons r0
  obtain ⟨v2, vs2, d2, ds2, p2, q2, rfl, rfl, rfl, h2, r2⟩ := trodAll_cons r1
  obtain ⟨v3, vs3, d3, ds3, p3, q3, rfl, rfl, rfl, h3, r3⟩ := trodAll_cons r2
  obtain ⟨rfl, rfl, rfl⟩ := trodAll_nil r3
  obtain rfl : args = #[v0, v1, v2, v3] := by cases args; simp_all
  obtain ⟨rfl, rfl⟩ := trodVars_none hV
  obtain ⟨x0, y0, we0, hs0, rfl, i0, j0⟩ := open_cal (hval 0 25 v0 rfl rfl) h0
  obtain ⟨n1, rfl, -, -, wn1⟩ := open_int Try.underlying26 (hval 1 26 v1 rfl rfl) h1
  obtain ⟨n2, rfl, -, -, wn2⟩ := open_int Try.underlying5 (hval 2 5 v2 rfl rfl) h2
  have bu2 : 0 ≤ n2 ∧ n2 ≤ 255 := by simpa [Lit.wf, IntKind.min, IntKind.max, IntKind.signed, IntKind.bits] using wn2
  obtain ⟨n3, rfl, -, -, wn3⟩ := open_int Try.underlying5 (hval 3 5 v3 rfl rfl) h3
  have bu3 : 0 ≤ n3 ∧ n3 ≤ 255 := by simpa [Lit.wf, IntKind.min, IntKind.max, IntKind.signed, IntKind.bits] using wn3
  refine (counts_any x0 y0 we0 hs0 n1 n2 n3 W i0 j0 bu2.1 bu2.2 bu3.1 bu3.2).mono fun e W' ⟨he, bel⟩ => ?_
  subst he
  exact ⟨_, rfl, law_post hW' rfl rfl rfl calendarCounts_reads bel⟩

theorem calendarCountsfact0 : Rows.calendarCountsRow.wf (OpenSpec.ofChange Rows.calendarCountsSpec) = true := by kernel_rfl
theorem calendarCountsfact3 : Try.f5.params.all (Try.prog.readableRec ·) = true := by kernel_rfl
theorem calendarCountsfact4 : namedTie Try.prog Rows.calendarCountsRow.named Rows.calendarCountsSpec.vars = true := by kernel_rfl
theorem calendarCountsfact5 : (Rows.calendarCountsRow.stops == []) = true := by kernel_rfl
theorem calendarCountsfact7 : (Rows.calendarCountsRow.knobs == []) = true := by kernel_rfl
theorem calendarCountsfact9 : (Rows.calendarCountsRow.inPlace == Try.prog.inPlace 5) = true := by kernel_rfl
theorem calendarCountsfact10 : (Rows.calendarCountsRow.unfollowed == Try.prog.unfollowed 5) = true := by kernel_rfl
theorem calendarCountsfact11 : (Rows.calendarCountsRow.recurses == Try.prog.recurses 5) = true := by kernel_rfl
theorem calendarCountsfact12 : (Rows.calendarCountsRow.named == Try.prog.varsNamed 5) = true := by kernel_rfl
theorem calendarCountsfact13 : (Rows.calendarCountsRow.maps == (Try.f5.params.toList ++ Rows.calendarCountsSpec.plain.varTypes Try.prog).any (Try.prog.mapsRec ·)) = true := by kernel_rfl
theorem calendarCountsfact14 : (Rows.calendarCountsRow.ifaces == (Try.f5.params.toList ++ Rows.calendarCountsSpec.plain.varTypes Try.prog).any (Try.prog.ifacesRec ·)) = true := by kernel_rfl
theorem calendarCountsfact15 : (Rows.calendarCountsRow.mapsOut == Try.prog.mapsAmong Try.f5.resultTypes.toList) = true := by kernel_rfl
theorem calendarCountsfact16 : (Rows.calendarCountsRow.loops == (Try.f5.params.toList ++ Rows.calendarCountsSpec.plain.varTypes Try.prog).any (Try.prog.loopsFrom ·)) = true := by kernel_rfl
theorem calendarCountsfact17 : (Rows.calendarCountsRow.wideKeys == (Try.f5.params.toList ++ Rows.calendarCountsSpec.plain.varTypes Try.prog ++ Try.f5.resultTypes.toList).any (Try.prog.wideKeysFrom ·)) = true := by kernel_rfl
theorem calendarCountsfact18 : Rows.calendarCountsSpec.vars.all (Try.prog.varReadable ·) = true := by kernel_rfl
theorem calendarCountsfact19 : Try.f5.resultTypes.all (fun t => Try.prog.readableRec t && decide (t < Try.prog.types.size)) = true := by kernel_rfl
theorem calendarCountsfact20 : (Rows.calendarCountsRow.ifacesOut == Try.f5.resultTypes.toList.any (Try.prog.ifacesRec ·)) = true := by kernel_rfl
theorem calendarCountsfact21 : (Rows.calendarCountsRow.loopsOut == Try.f5.resultTypes.toList.any (Try.prog.loopsFrom ·)) = true := by kernel_rfl
theorem calendarCountsfact22 : (Rows.calendarCountsRow.plainKeys == Try.prog.plainKeys) = true := by rw [sharedplainKeys]; rfl
theorem calendarCountsfact23 : Rows.calendarCountsRow.shortTexts.isNone = true := by kernel_rfl
theorem calendarCountsfact26 : (Rows.calendarCountsRow.lifted == Try.prog.liftsFinal) = true := by rw [sharedliftsFinal]; rfl
theorem calendarCountsfact27 : (Try.prog.make == some Rows.calendarCountsRow.make) = true := by kernel_rfl
theorem calendarCountsfact28 : (Rows.calendarCountsRow.kinds == (if Rows.calendarCountsRow.domain.isEmpty then [] else Try.f5.params.toList.map fun t => match Try.prog.underlying t with | some (.int k) => some k | _ => none)) = true := by kernel_rfl
theorem calendarCountsfact29 : (Rows.calendarCountsRow.pinned == Rows.calendarCountsRow.pinnedBy) = true := by kernel_rfl
theorem calendarCountsfact30 : (Rows.calendarCountsRow.veiled == (Try.f5.params.toList ++ Rows.calendarCountsSpec.plain.varTypes Try.prog ++ Try.f5.resultTypes.toList).any (Try.prog.veiledRec ·)) = true := by kernel_rfl
theorem calendarCountsfact31 : Rows.calendarCountsRow.veiledFits Try.prog Try.f5.params.toList (Try.f5.params.toList ++ Rows.calendarCountsSpec.plain.varTypes Try.prog ++ Try.f5.resultTypes.toList) = true := by kernel_rfl
set_option maxRecDepth 100000 in
theorem calendarCountsclosed : joinedFacts Try.prog 5 Try.f5 Rows.calendarCountsSpec Rows.calendarCountsRow = true := (and_mk (and_mk (and_mk (and_mk (and_mk (and_mk (and_mk (and_mk (and_mk (and_mk (and_mk (and_mk (and_mk (and_mk (and_mk (and_mk (and_mk (and_mk (and_mk (and_mk (and_mk (and_mk (and_mk (and_mk (and_mk (and_mk (and_mk (and_mk (and_mk (and_mk (and_mk calendarCountsfact0 sharedfact1) sharedfact2) calendarCountsfact3) calendarCountsfact4) calendarCountsfact5) sharedfact6) calendarCountsfact7) sharedfact8) calendarCountsfact9) calendarCountsfact10) calendarCountsfact11) calendarCountsfact12) calendarCountsfact13) calendarCountsfact14) calendarCountsfact15) calendarCountsfact16) calendarCountsfact17) calendarCountsfact18) calendarCountsfact19) calendarCountsfact20) calendarCountsfact21) calendarCountsfact22) calendarCountsfact23) sharedfact24) sharedfact25) calendarCountsfact26) calendarCountsfact27) calendarCountsfact28) calendarCountsfact29) calendarCountsfact30) calendarCountsfact31)

theorem calendarCounts_named : Try.prog.funcNamed Rows.calendarCountsRow.func = some 5 := by kernel_rfl
theorem calendarCounts_wrap : Try.f5.isWrapper Try.prog Rows.calendarCountsRow.wrapper Rows.calendarCountsRow.mainSum := by
  unfold Func.isWrapper
  first | (rw [if_pos (by decide +kernel)]; kernel_rfl) | (rw [if_neg (by decide +kernel)]; exact ⟨rfl, rfl⟩)
theorem calendarCounts_inst : Try.f5.isInstance Try.prog Rows.calendarCountsRow.origin Rows.calendarCountsRow.targs := of_decide_eq_true (by kernel_rfl)
theorem calendarCounts_over : Rows.calendarCountsRow.holds Try.pinned (OpenSpec.ofChange Rows.calendarCountsSpec) :=
  OpenClaim.holds_of_wide 5 Try.f5 rfl rfl rfl rfl rfl rfl rfl ⟨rfl, rfl, rfl, rfl, rfl⟩ rfl rfl rfl rfl rfl calendarCounts_named Try.func5 calendarCountsclosed calendarCounts_inst calendarCounts_wrap
    (fun os started H enc _ => calendarCounts_lifted os started H enc)

theorem CalendarCounts_holds : Rows.CalendarCountsSaid := calendarCounts_over
#print axioms CalendarCounts_holds
end Go.Proofs.Ytilbolgncpfmmaa
