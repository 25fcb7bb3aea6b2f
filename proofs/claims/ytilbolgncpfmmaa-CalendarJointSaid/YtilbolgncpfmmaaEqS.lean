import Derived.Test.YtilbolgncpfmmaaReg
import Derived.Laws.StructEq
namespace Go.Proofs.Ytilbolgncpfmmaa
open Go.RowKit
theorem Try.und28 : Try.prog.underlying 28 = some (.struct (Try.prog.fieldsOf 28)) := by kernel_rfl
theorem Try.stood28 : Try.prog.stoodInHeld 28 = false := by kernel_rfl
theorem Try.fields28 : (Try.prog.fieldsOf 28).toList.map (fun f => (f.type, f.offset, f.name)) = [(26, 0, "From"), (26, 1, "To")] := by kernel_rfl
theorem Try.und26 : Try.prog.underlying 26 = some (.int .i64) := by kernel_rfl
theorem Try.flds28 : ∃ f1 f2 : Field, (Try.prog.fieldsOf 28).toList = [f1, f2] ∧ (f1.type = 26 ∧ f1.offset = 0 ∧ f1.name = "From") ∧ f2.type = 26 ∧ f2.offset = 1 ∧ f2.name = "To" := by
  have h := Try.fields28
  generalize (Try.prog.fieldsOf 28).toList = fs at h ⊢
  have hl : fs.length = 2 := by simpa using congrArg List.length h
  obtain ⟨f1, f2, rfl⟩ : ∃ a b, fs = [a, b] := by
    match fs, hl with
    | [a, b], _ => exact ⟨a, b, rfl⟩
  simp only [List.map_cons, List.map_nil, List.cons.injEq, Prod.mk.injEq, and_true] at h
  exact ⟨f1, f2, rfl, h⟩
theorem eqIn28 (x y x' y' : Int) (w : World) : (Op.equalIn 10000 28 (.agg #[.int .i64 x, .int .i64 y]) (.agg #[.int .i64 x', .int .i64 y'])).run Try.prog w = .ok (x == x' && y == y') w := by
  rw [run_equalIn_agg w 9999 28 _ _ Try.und28 Try.stood28]
  obtain ⟨f1, f2, hf, ⟨h1, h2, h3⟩, h4, h5, h6⟩ := Try.flds28
  have e1 := fun a b w => run_equalIn_int (P := Try.prog) w 9998 26 .i64 .i64 a b Try.und26
  rw [hf]
  simp only [Op.eqFields, h1, h2, h3, h4, h5, h6]
  simp [go_sem, e1]
  by_cases hx : x = x' <;> by_cases hy : y = y' <;> simp [hx, hy]
theorem eqlPer (x y x' y' : Int) (w : World) : (binOp .eql 28 (.agg #[.int .i64 x, .int .i64 y]) (.agg #[.int .i64 x', .int .i64 y'])).run Try.prog w = .ok (.bool (x == x' && y == y')) w := by
  rw [run_eql_struct, eqIn28]; rfl
theorem neqPer (x y x' y' : Int) (w : World) : (binOp .neq 28 (.agg #[.int .i64 x, .int .i64 y]) (.agg #[.int .i64 x', .int .i64 y'])).run Try.prog w = .ok (.bool (!(x == x' && y == y'))) w := by
  rw [run_neq_struct, eqIn28]; rfl
end Go.Proofs.Ytilbolgncpfmmaa
