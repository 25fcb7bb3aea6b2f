/- An argument that is a slice of periods. -/
import Derived.Test.YtilbolgncpfmmaaLawKit
import Derived.Test.YtilbolgncpfmmaaW9
import Derived.Deep.SlicePairs
namespace Go.Proofs.Ytilbolgncpfmmaa
open Go.ChangeShapes Go.WideShapes Go.ChangeAt Go.RowKit Go.Joins Px
section
variable {H : Type} {enc : TypeId × Value → H}
theorem add_lit0 (b off i : Nat) : (⟨b, off, none⟩ : Addr).add i = ⟨b, off + i, none⟩ := by
  unfold Addr.add
  by_cases h : i = 0
  · simp [h]
  · simp [h]
set_option maxRecDepth 100000 in
theorem pers_of_trod {n : Nat} {w : World} {v : Value} {x : DataW H × List MemPlace} (h : DataW.trod enc Try.prog w 0 (fun _ => true) true n 50 [v] = some x) : ∃ ps, DRep (fun _ _ => True) w v (dPs ps) := by
  rcases Deep.open_slice_pairs Try.underlying50 Try.underlying28 Try.cells28 rfl rfl Try.cells26 Try.cells26 h with ⟨hcs, -⟩ | ⟨a, len, cap, m, k, V0, V1, D0, D1, P0, P1, hcs, -, hl, hm, hmm, -, hi⟩
  · obtain rfl : v = .slice none 0 0 := by simpa using hcs
    exact ⟨[], DRep.nil⟩
  · obtain rfl : v = .slice (some a) len cap := by simpa using hcs
    obtain rfl : m = cap := by simpa using hmm
    have key : ∀ i, ∃ q : Int × Int, i < len → V0 i = .int .i64 q.1 ∧ V1 i = .int .i64 q.2 := fun i => by
      by_cases hlt : i < len
      · obtain ⟨-, -, h0, h1⟩ := hi i (by omega)
        obtain ⟨a, e0, -, -⟩ := DataW.trod_int Try.underlying26 h0
        obtain ⟨b, e1, -, -⟩ := DataW.trod_int Try.underlying26 h1
        simp at e0 e1
        exact ⟨(a, b), fun _ => ⟨e0, e1⟩⟩
      · exact ⟨(0, 0), fun h => absurd h hlt⟩
    obtain ⟨q, hq⟩ := Classical.axiomOfChoice key
    refine ⟨(List.range len).map q, .sl (fun i j => if j = 0 then V0 i else V1 i) (by simp) hl (by unfold maxLen at hm; omega) (fun e he => ?_) (fun h0 => ?_) (fun i j hi' hj => ?_) fun i j e x he hx => ?_⟩
    · obtain ⟨y, -, rfl⟩ := List.mem_map.1 he; rfl
    · obtain ⟨b, off, spot⟩ := a
      have h1 := (hi 0 (by omega)).1
      have hspot : spot = none := by simpa [Addr.add] using World.cell?_spot h1
      subst hspot
      refine ⟨b, off, rfl, fun i j hi' hj => ⟨?_, trivial⟩⟩
      obtain ⟨h2, h3, -, -⟩ := hi i (by omega)
      rw [add_lit0] at h2 h3
      match j, hj with
      | 0, _ => exact h2
      | 1, _ => rw [Nat.add_assoc]; exact h3
    · obtain ⟨h2, h3⟩ := hq i hi'
      match j, hj with
      | 0, _ => simp [h2, Value.oneCell']
      | 1, _ => simp [h3, Value.oneCell']
    · rw [List.getElem?_map, List.getElem?_map, Option.map_map, Option.map_eq_some_iff] at he
      obtain ⟨i', h2, rfl⟩ := he
      have hlt : i < len := by
        rcases Nat.lt_or_ge i len with h4 | h4
        · exact h4
        · rw [List.getElem?_eq_none (by simpa using h4)] at h2; cases h2
      rw [List.getElem?_range hlt] at h2
      cases h2
      obtain ⟨h4, h5⟩ := hq i hlt
      match j, hx with
      | 0, hx => cases hx; simp only [if_true, h4]; exact .val _ rfl
      | 1, hx => cases hx; simp only [h5]; exact .val _ rfl
set_option maxRecDepth 100000 in
theorem open_pers {w : World} {base : Nat} {v : Value} {d : DataW H} {p : List MemPlace} (hv : Value.okWide Try.prog w .any base 50 v) (h : DataW.Trod enc Try.prog w 0 (fun _ => true) true 50 v d p) : ∃ ps, DRep (fun _ _ => True) w v (dPs ps) := by
  obtain ⟨a, len, cap, rfl⟩ := okWide_slice Try.underlying50 hv
  obtain ⟨fuel, hf⟩ := h
  exact pers_of_trod (n := fuel) (v := .slice a len cap) (by simpa [Value.cells] using hf)
end
end Go.Proofs.Ytilbolgncpfmmaa
