/- The law CalendarAdds returns true for every input, and each argument reads afterwards as before. Conditions: none. -/
import Derived.Test.YtilbolgncpfmmaaLawKit
import Derived.Test.YtilbolgncpfmmaaAdds
import Derived.Test.YtilbolgncpfmmaaFacts
namespace Go.Proofs.Ytilbolgncpfmmaa
open Go.ChangeShapes Go.WideShapes Go.ChangeAt Go.RowKit

theorem calendarAdds_reads : ∀ t ∈ Try.f4.params.toList, Try.prog.readableRec t = true ∧ t < Try.prog.types.size := by
  rw [Try.params4]
  intro t ht
  have : t = 25 ∨ t = 26 ∨ t = 5 := by simp at ht; omega
  rcases this with rfl | rfl | rfl
  · exact ⟨by kernel_rfl, of_decide_eq_true (by kernel_rfl)⟩
  · exact ⟨by kernel_rfl, of_decide_eq_true (by kernel_rfl)⟩
  · exact ⟨by kernel_rfl, of_decide_eq_true (by kernel_rfl)⟩

set_option maxRecDepth 100000 in
theorem calendarAdds_lifted (os : Os) (started : os.Started) (H : Type) (enc : TypeId × Value → H) :
    ReturnsInHanded {} Try.checked os 4 .any (Rows.calendarAddsSpec.pre6 enc Try.prog Try.f4 Rows.calendarAddsRow.domain false) (Rows.calendarAddsSpec.post enc Try.prog Try.f4 false true false false) := by
  refine returnsInHanded_of_change (C := Try.checked) own started (by kernel_rfl) Try.func4
    (ChangeSpec.witness6 (enc := enc) (C := Try.checked) false ⟨#[], #[.agg #[.slice none 0 0, .slice none 0 0], .int .i64 0, .int .u8 0], []⟩ 8 (by kernel_rfl) (by kernel_rfl) (by kernel_rfl) (by kernel_rfl)) ?_
  intro W base args ds gs before hval0 hW hcnd _
  have hval : ∀ (j : Nat) t v, Try.f4.params[j]? = some t → args[j]? = some v → Value.okWide Try.prog W .any base t v := hval0
  have hW' := hW
  obtain ⟨p, q, hA0, hV, rfl, hfz, hnd⟩ := hW
  have hA : DataW.TrodAll enc Try.prog W 0 (fun _ => true) true Try.f4.params.toList args.toList ds p := hA0
  rw [Try.params4] at hA hval
  obtain ⟨v0, vs0, d0, ds0, p0, q0, hargs, rfl, rfl, h0, r0⟩ := trodAll_cons hA
  obtain ⟨v1, vs1, d1, ds1, p1, q1, rfl, rfl, rfl, h1, r1⟩ := trodAll_cons r0
  obtain ⟨v2, vs2, d2, ds2, p2, q2, rfl, rfl, rfl, h2, r2⟩ := trodAll_cons r1
  obtain ⟨rfl, rfl, rfl⟩ := trodAll_nil r2
  obtain rfl : args = #[v0, v1, v2] := by cases args; simp_all
  obtain ⟨rfl, rfl⟩ := trodVars_none hV
  obtain ⟨x0, y0, we0, hs0, rfl, i0, j0⟩ := open_cal (hval 0 25 v0 rfl rfl) h0
  obtain ⟨n1, rfl, -, -, wn1⟩ := open_int Try.underlying26 (hval 1 26 v1 rfl rfl) h1
  obtain ⟨n2, rfl, -, -, wn2⟩ := open_int Try.underlying5 (hval 2 5 v2 rfl rfl) h2
  have bu2 : 0 ≤ n2 ∧ n2 ≤ 255 := by simpa [Lit.wf, IntKind.min, IntKind.max, IntKind.signed, IntKind.bits] using wn2
  refine (adds_any x0 y0 we0 hs0 n1 n2 W i0 j0 bu2.1 bu2.2).mono fun e W' ⟨he, bel⟩ => ?_
  subst he
  exact ⟨_, rfl, law_post hW' rfl rfl rfl calendarAdds_reads bel⟩

theorem calendarAddsfact0 : Rows.calendarAddsRow.wf (OpenSpec.ofChange Rows.calendarAddsSpec) = true := by kernel_rfl
theorem calendarAddsfact3 : Try.f4.params.all (Try.prog.readableRec ·) = true := by kernel_rfl
theorem calendarAddsfact4 : namedTie Try.prog Rows.calendarAddsRow.named Rows.calendarAddsSpec.vars = true := by kernel_rfl
theorem calendarAddsfact5 : (Rows.calendarAddsRow.stops == []) = true := by kernel_rfl
theorem calendarAddsfact7 : (Rows.calendarAddsRow.knobs == []) = true := by kernel_rfl
theorem calendarAddsfact9 : (Rows.calendarAddsRow.inPlace == Try.prog.inPlace 4) = true := by kernel_rfl
theorem calendarAddsfact10 : (Rows.calendarAddsRow.unfollowed == Try.prog.unfollowed 4) = true := by kernel_rfl
theorem calendarAddsfact11 : (Rows.calendarAddsRow.recurses == Try.prog.recurses 4) = true := by kernel_rfl
theorem calendarAddsfact12 : (Rows.calendarAddsRow.named == Try.prog.varsNamed 4) = true := by kernel_rfl
theorem calendarAddsfact13 : (Rows.calendarAddsRow.maps == (Try.f4.params.toList ++ Rows.calendarAddsSpec.plain.varTypes Try.prog).any (Try.prog.mapsRec ·)) = true := by kernel_rfl
theorem calendarAddsfact14 : (Rows.calendarAddsRow.ifaces == (Try.f4.params.toList ++ Rows.calendarAddsSpec.plain.varTypes Try.prog).any (Try.prog.ifacesRec ·)) = true := by kernel_rfl
theorem calendarAddsfact15 : (Rows.calendarAddsRow.mapsOut == Try.prog.mapsAmong Try.f4.resultTypes.toList) = true := by kernel_rfl
theorem calendarAddsfact16 : (Rows.calendarAddsRow.loops == (Try.f4.params.toList ++ Rows.calendarAddsSpec.plain.varTypes Try.prog).any (Try.prog.loopsFrom ·)) = true := by kernel_rfl
theorem calendarAddsfact17 : (Rows.calendarAddsRow.wideKeys == (Try.f4.params.toList ++ Rows.calendarAddsSpec.plain.varTypes Try.prog ++ Try.f4.resultTypes.toList).any (Try.prog.wideKeysFrom ·)) = true := by kernel_rfl
theorem calendarAddsfact18 : Rows.calendarAddsSpec.vars.all (Try.prog.varReadable ·) = true := by kernel_rfl
theorem calendarAddsfact19 : Try.f4.resultTypes.all (fun t => Try.prog.readableRec t && decide (t < Try.prog.types.size)) = true := by kernel_rfl
theorem calendarAddsfact20 : (Rows.calendarAddsRow.ifacesOut == Try.f4.resultTypes.toList.any (Try.prog.ifacesRec ·)) = true := by kernel_rfl
theorem calendarAddsfact21 : (Rows.calendarAddsRow.loopsOut == Try.f4.resultTypes.toList.any (Try.prog.loopsFrom ·)) = true := by kernel_rfl
theorem calendarAddsfact22 : (Rows.calendarAddsRow.plainKeys == Try.prog.plainKeys) = true := by rw [sharedplainKeys]; rfl
theorem calendarAddsfact23 : Rows.calendarAddsRow.shortTexts.isNone = true := by kernel_rfl
theorem calendarAddsfact26 : (Rows.calendarAddsRow.lifted == Try.prog.liftsFinal) = true := by rw [sharedliftsFinal]; rfl
theorem calendarAddsfact27 : (Try.prog.make == some Rows.calendarAddsRow.make) = true := by kernel_rfl
theorem calendarAddsfact28 : (Rows.calendarAddsRow.kinds == (if Rows.calendarAddsRow.domain.isEmpty then [] else Try.f4.params.toList.map fun t => match Try.prog.underlying t with | some (.int k) => some k | _ => none)) = true := by kernel_rfl
theorem calendarAddsfact29 : (Rows.calendarAddsRow.pinned == Rows.calendarAddsRow.pinnedBy) = true := by kernel_rfl
theorem calendarAddsfact30 : (Rows.calendarAddsRow.veiled == (Try.f4.params.toList ++ Rows.calendarAddsSpec.plain.varTypes Try.prog ++ Try.f4.resultTypes.toList).any (Try.prog.veiledRec ·)) = true := by kernel_rfl
theorem calendarAddsfact31 : Rows.calendarAddsRow.veiledFits Try.prog Try.f4.params.toList (Try.f4.params.toList ++ Rows.calendarAddsSpec.plain.varTypes Try.prog ++ Try.f4.resultTypes.toList) = true := by kernel_rfl
set_option maxRecDepth 100000 in
theorem calendarAddsclosed : joinedFacts Try.prog 4 Try.f4 Rows.calendarAddsSpec Rows.calendarAddsRow = true := (and_mk (and_mk (and_mk (and_mk (and_mk (and_mk (and_mk (and_mk (and_mk (and_mk (and_mk (and_mk (and_mk (and_mk (and_mk (and_mk (and_mk (and_mk (and_mk (and_mk (and_mk (and_mk (and_mk (and_mk (and_mk (and_mk (and_mk (and_mk (and_mk (and_mk (and_mk calendarAddsfact0 sharedfact1) sharedfact2) calendarAddsfact3) calendarAddsfact4) calendarAddsfact5) sharedfact6) calendarAddsfact7) sharedfact8) calendarAddsfact9) calendarAddsfact10) calendarAddsfact11) calendarAddsfact12) calendarAddsfact13) calendarAddsfact14) calendarAddsfact15) calendarAddsfact16) calendarAddsfact17) calendarAddsfact18) calendarAddsfact19) calendarAddsfact20) calendarAddsfact21) calendarAddsfact22) calendarAddsfact23) sharedfact24) sharedfact25) calendarAddsfact26) calendarAddsfact27) calendarAddsfact28) calendarAddsfact29) calendarAddsfact30) calendarAddsfact31)

theorem calendarAdds_named : Try.prog.funcNamed Rows.calendarAddsRow.func = some 4 := by kernel_rfl
theorem calendarAdds_wrap : Try.f4.isWrapper Try.prog Rows.calendarAddsRow.wrapper Rows.calendarAddsRow.mainSum := by
  unfold Func.isWrapper
  first | (rw [if_pos (by decide +kernel)]; kernel_rfl) | (rw [if_neg (by decide +kernel)]; exact ⟨rfl, rfl⟩)
theorem calendarAdds_inst : Try.f4.isInstance Try.prog Rows.calendarAddsRow.origin Rows.calendarAddsRow.targs := of_decide_eq_true (by kernel_rfl)
theorem calendarAdds_over : Rows.calendarAddsRow.holds Try.pinned (OpenSpec.ofChange Rows.calendarAddsSpec) :=
  OpenClaim.holds_of_wide 4 Try.f4 rfl rfl rfl rfl rfl rfl rfl ⟨rfl, rfl, rfl, rfl, rfl⟩ rfl rfl rfl rfl rfl calendarAdds_named Try.func4 calendarAddsclosed calendarAdds_inst calendarAdds_wrap
    (fun os started H enc _ => calendarAdds_lifted os started H enc)

theorem CalendarAdds_holds : Rows.CalendarAddsSaid := calendarAdds_over
#print axioms CalendarAdds_holds
end Go.Proofs.Ytilbolgncpfmmaa
