/- An argument that is a calendar, in the words of the logic of pure states. -/
import Derived.Test.YtilbolgncpfmmaaLawP
import Derived.Test.YtilbolgncpfmmaaW21
namespace Go.Proofs.Ytilbolgncpfmmaa
open Go.ChangeShapes Go.WideShapes Go.ChangeAt Go.RowKit Go.Joins Px
section
variable {H : Type} {enc : TypeId × Value → H}
theorem dints_of_trod {t e : TypeId} {n : Nat} {w : World} {v : Value} {x : DataW H × List MemPlace} (ht : Try.prog.underlying t = some (.slice e)) (he : Try.prog.underlying e = some (.int .i64)) (hc : Try.prog.cellsOf e = 1)
    (h : DataW.trod enc Try.prog w 0 (fun _ => true) true n t [v] = some x) : (∃ zs, DRep (fun _ _ => True) w v (dIs zs)) ∧ v.oneCell' = true := by
  obtain ⟨zs, hz⟩ := ints_of_trod ht he hc h
  have hle : ∀ A n c, v = .slice A n c → n ≤ c := fun A n c hv => by
    rcases open_ints ht he hc h with ⟨hcs, -⟩ | ⟨a, len, cap, zs, hcs, -, hl, -⟩
    · obtain rfl : v = .slice none 0 0 := by simpa using hcs
      cases hv; exact Nat.le_refl _
    · obtain rfl : v = .slice (some a) len cap := by simpa using hcs
      cases hv; exact hl
  refine ⟨⟨zs, drep_ints hz hle⟩, ?_⟩
  obtain ⟨A, c, rfl, -⟩ := hz
  rfl
set_option maxRecDepth 100000 in
theorem open_calD {w : World} {base : Nat} {v : Value} {d : DataW H} {p : List MemPlace} (hv : Value.okWide Try.prog w .any base 25 v) (h : DataW.Trod enc Try.prog w 0 (fun _ => true) true 25 v d p) :
    ∃ we hs, DRep (fun _ _ => True) w v (.agg (dC we hs)) := by
  obtain ⟨v0, v1, y0, y1, n, rfl, -, -, h0, h1⟩ := open_agg2 Try.underlying25 Try.one25 Try.cells25 hv h
  obtain ⟨⟨we, hwe⟩, o0⟩ := dints_of_trod Try.underlying22 Try.underlying3 Try.cells3 h0
  obtain ⟨⟨hs, hhs⟩, o1⟩ := dints_of_trod Try.underlying23 Try.underlying26 Try.cells26 h1
  exact ⟨we, hs, drep_cal hwe hhs o0 o1⟩
end
end Go.Proofs.Ytilbolgncpfmmaa
