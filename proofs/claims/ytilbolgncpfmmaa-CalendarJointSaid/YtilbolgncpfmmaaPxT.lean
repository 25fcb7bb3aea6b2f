/- The types and functions of this seat, for the logic of pure states: laid by a program. -/
import Derived.Test.YtilbolgncpfmmaaPxN
import Derived.Test.YtilbolgncpfmmaaProg
import Derived.KernelRfl
namespace Go.Proofs.Ytilbolgncpfmmaa.Px
open Go.RowKit

instance : AggOf Try.prog 1 false 1 := ⟨fun _ => by kernel_rfl, fun _ => by kernel_rfl⟩
instance : ZeroOf Try.prog 1 [.nilFunc] := ⟨fun _ => ⟨(.nilFunc : Value), by kernel_rfl, rfl⟩, by simp [Value.oneCell']⟩
instance : AggOf Try.prog 2 false 1 := ⟨fun _ => by kernel_rfl, fun _ => by kernel_rfl⟩
instance : ZeroOf Try.prog 2 [.int .i64 0] := ⟨fun _ => ⟨(.int .i64 0 : Value), by kernel_rfl, rfl⟩, by simp [Value.oneCell']⟩
instance : UndI Try.prog 2 .i64 := ⟨fun _ => by kernel_rfl⟩
instance : AggOf Try.prog 3 false 1 := ⟨fun _ => by kernel_rfl, fun _ => by kernel_rfl⟩
instance : ZeroOf Try.prog 3 [.int .i64 0] := ⟨fun _ => ⟨(.int .i64 0 : Value), by kernel_rfl, rfl⟩, by simp [Value.oneCell']⟩
instance : UndI Try.prog 3 .i64 := ⟨fun _ => by kernel_rfl⟩
instance : AggOf Try.prog 4 false 1 := ⟨fun _ => by kernel_rfl, fun _ => by kernel_rfl⟩
instance : ZeroOf Try.prog 4 [.bool false] := ⟨fun _ => ⟨(.bool false : Value), by kernel_rfl, rfl⟩, by simp [Value.oneCell']⟩
instance : AggOf Try.prog 5 false 1 := ⟨fun _ => by kernel_rfl, fun _ => by kernel_rfl⟩
instance : ZeroOf Try.prog 5 [.int .u8 0] := ⟨fun _ => ⟨(.int .u8 0 : Value), by kernel_rfl, rfl⟩, by simp [Value.oneCell']⟩
instance : UndI Try.prog 5 .u8 := ⟨fun _ => by kernel_rfl⟩
instance : AggOf Try.prog 6 false 1 := ⟨fun _ => by kernel_rfl, fun _ => by kernel_rfl⟩
instance : ZeroOf Try.prog 6 [.int .u8 0] := ⟨fun _ => ⟨(.int .u8 0 : Value), by kernel_rfl, rfl⟩, by simp [Value.oneCell']⟩
instance : UndI Try.prog 6 .u8 := ⟨fun _ => by kernel_rfl⟩
instance : AggOf Try.prog 7 true 4 := ⟨fun _ => by kernel_rfl, fun _ => by kernel_rfl⟩
instance : ZeroOf Try.prog 7 [.int .i64 0, .int .i64 0, .bool false, .int .u8 0] := ⟨fun _ => ⟨Value.agg #[.int .i64 0, .int .i64 0, .bool false, .int .u8 0], by kernel_rfl, rfl⟩, by simp [Value.oneCell']⟩
instance : FieldOf Try.prog 7 0 0 2 := ⟨fun _ _ => by kernel_rfl, fun _ _ => by kernel_rfl⟩
instance : FieldOf Try.prog 7 1 1 3 := ⟨fun _ _ => by kernel_rfl, fun _ _ => by kernel_rfl⟩
instance : FieldOf Try.prog 7 2 2 4 := ⟨fun _ _ => by kernel_rfl, fun _ _ => by kernel_rfl⟩
instance : FieldOf Try.prog 7 3 3 6 := ⟨fun _ _ => by kernel_rfl, fun _ _ => by kernel_rfl⟩
instance : BuildOf Try.prog 7 [(0, 1), (1, 1), (2, 1), (3, 1)] [.int .i64 0, .int .i64 0, .bool false, .int .u8 0] := buildOf_mk (z := Value.agg #[.int .i64 0, .int .i64 0, .bool false, .int .u8 0]) (fs := Try.prog.fieldsOf 7) (fun _ => by kernel_rfl) rfl (fun _ => by kernel_rfl) (fun _ => by kernel_rfl) (by simp [Value.oneCell'])
instance : AggOf Try.prog 8 true 4 := ⟨fun _ => by kernel_rfl, fun _ => by kernel_rfl⟩
instance : ZeroOf Try.prog 8 [.int .i64 0, .int .i64 0, .bool false, .int .u8 0] := ⟨fun _ => ⟨Value.agg #[.int .i64 0, .int .i64 0, .bool false, .int .u8 0], by kernel_rfl, rfl⟩, by simp [Value.oneCell']⟩
instance : FieldOf Try.prog 8 0 0 2 := ⟨fun _ _ => by kernel_rfl, fun _ _ => by kernel_rfl⟩
instance : FieldOf Try.prog 8 1 1 3 := ⟨fun _ _ => by kernel_rfl, fun _ _ => by kernel_rfl⟩
instance : FieldOf Try.prog 8 2 2 4 := ⟨fun _ _ => by kernel_rfl, fun _ _ => by kernel_rfl⟩
instance : FieldOf Try.prog 8 3 3 6 := ⟨fun _ _ => by kernel_rfl, fun _ _ => by kernel_rfl⟩
instance : BuildOf Try.prog 8 [(0, 1), (1, 1), (2, 1), (3, 1)] [.int .i64 0, .int .i64 0, .bool false, .int .u8 0] := buildOf_mk (z := Value.agg #[.int .i64 0, .int .i64 0, .bool false, .int .u8 0]) (fs := Try.prog.fieldsOf 8) (fun _ => by kernel_rfl) rfl (fun _ => by kernel_rfl) (fun _ => by kernel_rfl) (by simp [Value.oneCell'])
instance : AggOf Try.prog 9 false 1 := ⟨fun _ => by kernel_rfl, fun _ => by kernel_rfl⟩
instance : ZeroOf Try.prog 9 [.string ⟨#[]⟩] := ⟨fun _ => ⟨(.string ⟨#[]⟩ : Value), by kernel_rfl, rfl⟩, by simp [Value.oneCell']⟩
instance : UndS Try.prog 9 := ⟨fun _ => by kernel_rfl⟩
instance : AggOf Try.prog 10 false 1 := ⟨fun _ => by kernel_rfl, fun _ => by kernel_rfl⟩
instance : ZeroOf Try.prog 10 [.string ⟨#[]⟩] := ⟨fun _ => ⟨(.string ⟨#[]⟩ : Value), by kernel_rfl, rfl⟩, by simp [Value.oneCell']⟩
instance : UndS Try.prog 10 := ⟨fun _ => by kernel_rfl⟩
instance : AggOf Try.prog 11 false 1 := ⟨fun _ => by kernel_rfl, fun _ => by kernel_rfl⟩
instance : ZeroOf Try.prog 11 [.string ⟨#[]⟩] := ⟨fun _ => ⟨(.string ⟨#[]⟩ : Value), by kernel_rfl, rfl⟩, by simp [Value.oneCell']⟩
instance : UndS Try.prog 11 := ⟨fun _ => by kernel_rfl⟩
instance : AggOf Try.prog 12 false 1 := ⟨fun _ => by kernel_rfl, fun _ => by kernel_rfl⟩
instance : ZeroOf Try.prog 12 [.int .u64 0] := ⟨fun _ => ⟨(.int .u64 0 : Value), by kernel_rfl, rfl⟩, by simp [Value.oneCell']⟩
instance : UndI Try.prog 12 .u64 := ⟨fun _ => by kernel_rfl⟩
instance : AggOf Try.prog 13 true 2 := ⟨fun _ => by kernel_rfl, fun _ => by kernel_rfl⟩
instance : ZeroOf Try.prog 13 [.string ⟨#[]⟩, .int .u64 0] := ⟨fun _ => ⟨Value.agg #[.string ⟨#[]⟩, .int .u64 0], by kernel_rfl, rfl⟩, by simp [Value.oneCell']⟩
instance : FieldOf Try.prog 13 0 0 9 := ⟨fun _ _ => by kernel_rfl, fun _ _ => by kernel_rfl⟩
instance : FieldOf Try.prog 13 1 1 12 := ⟨fun _ _ => by kernel_rfl, fun _ _ => by kernel_rfl⟩
instance : BuildOf Try.prog 13 [(0, 1), (1, 1)] [.string ⟨#[]⟩, .int .u64 0] := buildOf_mk (z := Value.agg #[.string ⟨#[]⟩, .int .u64 0]) (fs := Try.prog.fieldsOf 13) (fun _ => by kernel_rfl) rfl (fun _ => by kernel_rfl) (fun _ => by kernel_rfl) (by simp [Value.oneCell'])
instance : AggOf Try.prog 14 true 2 := ⟨fun _ => by kernel_rfl, fun _ => by kernel_rfl⟩
instance : ZeroOf Try.prog 14 [.string ⟨#[]⟩, .int .u64 0] := ⟨fun _ => ⟨Value.agg #[.string ⟨#[]⟩, .int .u64 0], by kernel_rfl, rfl⟩, by simp [Value.oneCell']⟩
instance : FieldOf Try.prog 14 0 0 9 := ⟨fun _ _ => by kernel_rfl, fun _ _ => by kernel_rfl⟩
instance : FieldOf Try.prog 14 1 1 12 := ⟨fun _ _ => by kernel_rfl, fun _ _ => by kernel_rfl⟩
instance : BuildOf Try.prog 14 [(0, 1), (1, 1)] [.string ⟨#[]⟩, .int .u64 0] := buildOf_mk (z := Value.agg #[.string ⟨#[]⟩, .int .u64 0]) (fs := Try.prog.fieldsOf 14) (fun _ => by kernel_rfl) rfl (fun _ => by kernel_rfl) (fun _ => by kernel_rfl) (by simp [Value.oneCell'])
instance : AggOf Try.prog 15 false 1 := ⟨fun _ => by kernel_rfl, fun _ => by kernel_rfl⟩
instance : ZeroOf Try.prog 15 [.pointer none] := ⟨fun _ => ⟨(.pointer none : Value), by kernel_rfl, rfl⟩, by simp [Value.oneCell']⟩
instance : AggOf Try.prog 16 false 1 := ⟨fun _ => by kernel_rfl, fun _ => by kernel_rfl⟩
instance : ZeroOf Try.prog 16 [.pointer none] := ⟨fun _ => ⟨(.pointer none : Value), by kernel_rfl, rfl⟩, by simp [Value.oneCell']⟩
instance : AggOf Try.prog 17 false 1 := ⟨fun _ => by kernel_rfl, fun _ => by kernel_rfl⟩
instance : ZeroOf Try.prog 17 [.pointer none] := ⟨fun _ => ⟨(.pointer none : Value), by kernel_rfl, rfl⟩, by simp [Value.oneCell']⟩
instance : AggOf Try.prog 18 true 1 := ⟨fun _ => by kernel_rfl, fun _ => by kernel_rfl⟩
instance : ZeroOf Try.prog 18 [.pointer none] := ⟨fun _ => ⟨Value.agg #[.pointer none], by kernel_rfl, rfl⟩, by simp [Value.oneCell']⟩
instance : FieldOf Try.prog 18 0 0 17 := ⟨fun _ _ => by kernel_rfl, fun _ _ => by kernel_rfl⟩
instance : BuildOf Try.prog 18 [(0, 1)] [.pointer none] := buildOf_mk (z := Value.agg #[.pointer none]) (fs := Try.prog.fieldsOf 18) (fun _ => by kernel_rfl) rfl (fun _ => by kernel_rfl) (fun _ => by kernel_rfl) (by simp [Value.oneCell'])
instance : AggOf Try.prog 19 true 1 := ⟨fun _ => by kernel_rfl, fun _ => by kernel_rfl⟩
instance : ZeroOf Try.prog 19 [.pointer none] := ⟨fun _ => ⟨Value.agg #[.pointer none], by kernel_rfl, rfl⟩, by simp [Value.oneCell']⟩
instance : FieldOf Try.prog 19 0 0 17 := ⟨fun _ _ => by kernel_rfl, fun _ _ => by kernel_rfl⟩
instance : BuildOf Try.prog 19 [(0, 1)] [.pointer none] := buildOf_mk (z := Value.agg #[.pointer none]) (fs := Try.prog.fieldsOf 19) (fun _ => by kernel_rfl) rfl (fun _ => by kernel_rfl) (fun _ => by kernel_rfl) (by simp [Value.oneCell'])
instance : AggOf Try.prog 21 false 1 := ⟨fun _ => by kernel_rfl, fun _ => by kernel_rfl⟩
instance : ZeroOf Try.prog 21 [.int .i32 0] := ⟨fun _ => ⟨(.int .i32 0 : Value), by kernel_rfl, rfl⟩, by simp [Value.oneCell']⟩
instance : UndI Try.prog 21 .i32 := ⟨fun _ => by kernel_rfl⟩
instance : AggOf Try.prog 22 false 1 := ⟨fun _ => by kernel_rfl, fun _ => by kernel_rfl⟩
instance : ZeroOf Try.prog 22 [.slice none 0 0] := ⟨fun _ => ⟨(.slice none 0 0 : Value), by kernel_rfl, rfl⟩, by simp [Value.oneCell']⟩
instance : SliceOf Try.prog 22 3 1 := ⟨fun _ => by kernel_rfl, fun _ => by kernel_rfl⟩
theorem Try.inf22 : (Try.prog.info? 3).map (fun i => (i.zero, i.size, i.bytes)) = some (some ((.int .i64 0 : Value)), 1, 8) := by kernel_rfl
instance : AppOf Try.prog 22 3 1 8 := appOf_mk (z := (.int .i64 0 : Value)) (by kernel_rfl) Try.inf22 rfl
instance : LitOf Try.prog 22 3 1 [.int .i64 0] := ⟨fun _ => by kernel_rfl, fun _ => by kernel_rfl, fun _ => ⟨(.int .i64 0 : Value), by kernel_rfl, rfl⟩, rfl, by simp [Value.oneCell']⟩
instance : AggOf Try.prog 23 false 1 := ⟨fun _ => by kernel_rfl, fun _ => by kernel_rfl⟩
instance : ZeroOf Try.prog 23 [.slice none 0 0] := ⟨fun _ => ⟨(.slice none 0 0 : Value), by kernel_rfl, rfl⟩, by simp [Value.oneCell']⟩
instance : SliceOf Try.prog 23 26 1 := ⟨fun _ => by kernel_rfl, fun _ => by kernel_rfl⟩
theorem Try.inf23 : (Try.prog.info? 26).map (fun i => (i.zero, i.size, i.bytes)) = some (some ((.int .i64 0 : Value)), 1, 8) := by kernel_rfl
instance : AppOf Try.prog 23 26 1 8 := appOf_mk (z := (.int .i64 0 : Value)) (by kernel_rfl) Try.inf23 rfl
instance : LitOf Try.prog 23 26 1 [.int .i64 0] := ⟨fun _ => by kernel_rfl, fun _ => by kernel_rfl, fun _ => ⟨(.int .i64 0 : Value), by kernel_rfl, rfl⟩, rfl, by simp [Value.oneCell']⟩
instance : AggOf Try.prog 24 true 2 := ⟨fun _ => by kernel_rfl, fun _ => by kernel_rfl⟩
instance : ZeroOf Try.prog 24 [.slice none 0 0, .slice none 0 0] := ⟨fun _ => ⟨Value.agg #[.slice none 0 0, .slice none 0 0], by kernel_rfl, rfl⟩, by simp [Value.oneCell']⟩
instance : FieldOf Try.prog 24 0 0 22 := ⟨fun _ _ => by kernel_rfl, fun _ _ => by kernel_rfl⟩
instance : FieldOf Try.prog 24 1 1 23 := ⟨fun _ _ => by kernel_rfl, fun _ _ => by kernel_rfl⟩
instance : BuildOf Try.prog 24 [(0, 1), (1, 1)] [.slice none 0 0, .slice none 0 0] := buildOf_mk (z := Value.agg #[.slice none 0 0, .slice none 0 0]) (fs := Try.prog.fieldsOf 24) (fun _ => by kernel_rfl) rfl (fun _ => by kernel_rfl) (fun _ => by kernel_rfl) (by simp [Value.oneCell'])
instance : AggOf Try.prog 25 true 2 := ⟨fun _ => by kernel_rfl, fun _ => by kernel_rfl⟩
instance : ZeroOf Try.prog 25 [.slice none 0 0, .slice none 0 0] := ⟨fun _ => ⟨Value.agg #[.slice none 0 0, .slice none 0 0], by kernel_rfl, rfl⟩, by simp [Value.oneCell']⟩
instance : FieldOf Try.prog 25 0 0 22 := ⟨fun _ _ => by kernel_rfl, fun _ _ => by kernel_rfl⟩
instance : FieldOf Try.prog 25 1 1 23 := ⟨fun _ _ => by kernel_rfl, fun _ _ => by kernel_rfl⟩
instance : BuildOf Try.prog 25 [(0, 1), (1, 1)] [.slice none 0 0, .slice none 0 0] := buildOf_mk (z := Value.agg #[.slice none 0 0, .slice none 0 0]) (fs := Try.prog.fieldsOf 25) (fun _ => by kernel_rfl) rfl (fun _ => by kernel_rfl) (fun _ => by kernel_rfl) (by simp [Value.oneCell'])
instance : AggOf Try.prog 26 false 1 := ⟨fun _ => by kernel_rfl, fun _ => by kernel_rfl⟩
instance : ZeroOf Try.prog 26 [.int .i64 0] := ⟨fun _ => ⟨(.int .i64 0 : Value), by kernel_rfl, rfl⟩, by simp [Value.oneCell']⟩
instance : UndI Try.prog 26 .i64 := ⟨fun _ => by kernel_rfl⟩
instance : AggOf Try.prog 27 true 2 := ⟨fun _ => by kernel_rfl, fun _ => by kernel_rfl⟩
instance : ZeroOf Try.prog 27 [.int .i64 0, .int .i64 0] := ⟨fun _ => ⟨Value.agg #[.int .i64 0, .int .i64 0], by kernel_rfl, rfl⟩, by simp [Value.oneCell']⟩
instance : FieldOf Try.prog 27 0 0 26 := ⟨fun _ _ => by kernel_rfl, fun _ _ => by kernel_rfl⟩
instance : FieldOf Try.prog 27 1 1 26 := ⟨fun _ _ => by kernel_rfl, fun _ _ => by kernel_rfl⟩
instance : BuildOf Try.prog 27 [(0, 1), (1, 1)] [.int .i64 0, .int .i64 0] := buildOf_mk (z := Value.agg #[.int .i64 0, .int .i64 0]) (fs := Try.prog.fieldsOf 27) (fun _ => by kernel_rfl) rfl (fun _ => by kernel_rfl) (fun _ => by kernel_rfl) (by simp [Value.oneCell'])
instance : AggOf Try.prog 28 true 2 := ⟨fun _ => by kernel_rfl, fun _ => by kernel_rfl⟩
instance : ZeroOf Try.prog 28 [.int .i64 0, .int .i64 0] := ⟨fun _ => ⟨Value.agg #[.int .i64 0, .int .i64 0], by kernel_rfl, rfl⟩, by simp [Value.oneCell']⟩
instance : FieldOf Try.prog 28 0 0 26 := ⟨fun _ _ => by kernel_rfl, fun _ _ => by kernel_rfl⟩
instance : FieldOf Try.prog 28 1 1 26 := ⟨fun _ _ => by kernel_rfl, fun _ _ => by kernel_rfl⟩
instance : BuildOf Try.prog 28 [(0, 1), (1, 1)] [.int .i64 0, .int .i64 0] := buildOf_mk (z := Value.agg #[.int .i64 0, .int .i64 0]) (fs := Try.prog.fieldsOf 28) (fun _ => by kernel_rfl) rfl (fun _ => by kernel_rfl) (fun _ => by kernel_rfl) (by simp [Value.oneCell'])
instance : AggOf Try.prog 29 false 1 := ⟨fun _ => by kernel_rfl, fun _ => by kernel_rfl⟩
instance : ZeroOf Try.prog 29 [.nilFunc] := ⟨fun _ => ⟨(.nilFunc : Value), by kernel_rfl, rfl⟩, by simp [Value.oneCell']⟩
instance : AggOf Try.prog 30 false 1 := ⟨fun _ => by kernel_rfl, fun _ => by kernel_rfl⟩
instance : ZeroOf Try.prog 30 [.nilFunc] := ⟨fun _ => ⟨(.nilFunc : Value), by kernel_rfl, rfl⟩, by simp [Value.oneCell']⟩
instance : AggOf Try.prog 31 false 1 := ⟨fun _ => by kernel_rfl, fun _ => by kernel_rfl⟩
instance : ZeroOf Try.prog 31 [.nilFunc] := ⟨fun _ => ⟨(.nilFunc : Value), by kernel_rfl, rfl⟩, by simp [Value.oneCell']⟩
instance : AggOf Try.prog 32 false 1 := ⟨fun _ => by kernel_rfl, fun _ => by kernel_rfl⟩
instance : ZeroOf Try.prog 32 [.int .i64 0] := ⟨fun _ => ⟨(.int .i64 0 : Value), by kernel_rfl, rfl⟩, by simp [Value.oneCell']⟩
instance : UndI Try.prog 32 .i64 := ⟨fun _ => by kernel_rfl⟩
instance : AggOf Try.prog 34 false 1 := ⟨fun _ => by kernel_rfl, fun _ => by kernel_rfl⟩
instance : ZeroOf Try.prog 34 [.nilFunc] := ⟨fun _ => ⟨(.nilFunc : Value), by kernel_rfl, rfl⟩, by simp [Value.oneCell']⟩
instance : AggOf Try.prog 35 false 1 := ⟨fun _ => by kernel_rfl, fun _ => by kernel_rfl⟩
instance : ZeroOf Try.prog 35 [.nilFunc] := ⟨fun _ => ⟨(.nilFunc : Value), by kernel_rfl, rfl⟩, by simp [Value.oneCell']⟩
instance : AggOf Try.prog 37 false 1 := ⟨fun _ => by kernel_rfl, fun _ => by kernel_rfl⟩
instance : ZeroOf Try.prog 37 [.nilFunc] := ⟨fun _ => ⟨(.nilFunc : Value), by kernel_rfl, rfl⟩, by simp [Value.oneCell']⟩
instance : AggOf Try.prog 38 false 1 := ⟨fun _ => by kernel_rfl, fun _ => by kernel_rfl⟩
instance : ZeroOf Try.prog 38 [.nilFunc] := ⟨fun _ => ⟨(.nilFunc : Value), by kernel_rfl, rfl⟩, by simp [Value.oneCell']⟩
instance : AggOf Try.prog 39 false 1 := ⟨fun _ => by kernel_rfl, fun _ => by kernel_rfl⟩
instance : ZeroOf Try.prog 39 [.nilFunc] := ⟨fun _ => ⟨(.nilFunc : Value), by kernel_rfl, rfl⟩, by simp [Value.oneCell']⟩
instance : AggOf Try.prog 40 false 1 := ⟨fun _ => by kernel_rfl, fun _ => by kernel_rfl⟩
instance : ZeroOf Try.prog 40 [.nilFunc] := ⟨fun _ => ⟨(.nilFunc : Value), by kernel_rfl, rfl⟩, by simp [Value.oneCell']⟩
instance : AggOf Try.prog 41 false 1 := ⟨fun _ => by kernel_rfl, fun _ => by kernel_rfl⟩
instance : ZeroOf Try.prog 41 [.nilFunc] := ⟨fun _ => ⟨(.nilFunc : Value), by kernel_rfl, rfl⟩, by simp [Value.oneCell']⟩
instance : AggOf Try.prog 43 false 1 := ⟨fun _ => by kernel_rfl, fun _ => by kernel_rfl⟩
instance : ZeroOf Try.prog 43 [.nilFunc] := ⟨fun _ => ⟨(.nilFunc : Value), by kernel_rfl, rfl⟩, by simp [Value.oneCell']⟩
instance : AggOf Try.prog 44 false 1 := ⟨fun _ => by kernel_rfl, fun _ => by kernel_rfl⟩
instance : ZeroOf Try.prog 44 [.nilFunc] := ⟨fun _ => ⟨(.nilFunc : Value), by kernel_rfl, rfl⟩, by simp [Value.oneCell']⟩
instance : AggOf Try.prog 45 false 1 := ⟨fun _ => by kernel_rfl, fun _ => by kernel_rfl⟩
instance : ZeroOf Try.prog 45 [.nilFunc] := ⟨fun _ => ⟨(.nilFunc : Value), by kernel_rfl, rfl⟩, by simp [Value.oneCell']⟩
instance : AggOf Try.prog 47 false 1 := ⟨fun _ => by kernel_rfl, fun _ => by kernel_rfl⟩
instance : ZeroOf Try.prog 47 [.nilFunc] := ⟨fun _ => ⟨(.nilFunc : Value), by kernel_rfl, rfl⟩, by simp [Value.oneCell']⟩
instance : AggOf Try.prog 48 false 1 := ⟨fun _ => by kernel_rfl, fun _ => by kernel_rfl⟩
instance : ZeroOf Try.prog 48 [.nilFunc] := ⟨fun _ => ⟨(.nilFunc : Value), by kernel_rfl, rfl⟩, by simp [Value.oneCell']⟩
instance : AggOf Try.prog 49 false 1 := ⟨fun _ => by kernel_rfl, fun _ => by kernel_rfl⟩
instance : ZeroOf Try.prog 49 [.nilFunc] := ⟨fun _ => ⟨(.nilFunc : Value), by kernel_rfl, rfl⟩, by simp [Value.oneCell']⟩
instance : AggOf Try.prog 50 false 1 := ⟨fun _ => by kernel_rfl, fun _ => by kernel_rfl⟩
instance : ZeroOf Try.prog 50 [.slice none 0 0] := ⟨fun _ => ⟨(.slice none 0 0 : Value), by kernel_rfl, rfl⟩, by simp [Value.oneCell']⟩
instance : SliceOf Try.prog 50 28 2 := ⟨fun _ => by kernel_rfl, fun _ => by kernel_rfl⟩
theorem Try.inf50 : (Try.prog.info? 28).map (fun i => (i.zero, i.size, i.bytes)) = some (some (Value.agg #[.int .i64 0, .int .i64 0]), 2, 16) := by kernel_rfl
instance : AppOf Try.prog 50 28 2 16 := appOf_mk (z := Value.agg #[.int .i64 0, .int .i64 0]) (by kernel_rfl) Try.inf50 rfl
instance : LitOf Try.prog 50 28 2 [.int .i64 0, .int .i64 0] := ⟨fun _ => by kernel_rfl, fun _ => by kernel_rfl, fun _ => ⟨Value.agg #[.int .i64 0, .int .i64 0], by kernel_rfl, rfl⟩, rfl, by simp [Value.oneCell']⟩
instance : AggOf Try.prog 52 false 1 := ⟨fun _ => by kernel_rfl, fun _ => by kernel_rfl⟩
instance : ZeroOf Try.prog 52 [.nilFunc] := ⟨fun _ => ⟨(.nilFunc : Value), by kernel_rfl, rfl⟩, by simp [Value.oneCell']⟩
instance : AggOf Try.prog 53 false 1 := ⟨fun _ => by kernel_rfl, fun _ => by kernel_rfl⟩
instance : ZeroOf Try.prog 53 [.nilFunc] := ⟨fun _ => ⟨(.nilFunc : Value), by kernel_rfl, rfl⟩, by simp [Value.oneCell']⟩
instance : AggOf Try.prog 54 false 1 := ⟨fun _ => by kernel_rfl, fun _ => by kernel_rfl⟩
instance : ZeroOf Try.prog 54 [.nilFunc] := ⟨fun _ => ⟨(.nilFunc : Value), by kernel_rfl, rfl⟩, by simp [Value.oneCell']⟩
instance : AggOf Try.prog 55 false 1 := ⟨fun _ => by kernel_rfl, fun _ => by kernel_rfl⟩
instance : ZeroOf Try.prog 55 [.nilFunc] := ⟨fun _ => ⟨(.nilFunc : Value), by kernel_rfl, rfl⟩, by simp [Value.oneCell']⟩
instance : AggOf Try.prog 57 false 1 := ⟨fun _ => by kernel_rfl, fun _ => by kernel_rfl⟩
instance : ZeroOf Try.prog 57 [.nilFunc] := ⟨fun _ => ⟨(.nilFunc : Value), by kernel_rfl, rfl⟩, by simp [Value.oneCell']⟩
instance : AggOf Try.prog 58 false 1 := ⟨fun _ => by kernel_rfl, fun _ => by kernel_rfl⟩
instance : ZeroOf Try.prog 58 [.nilFunc] := ⟨fun _ => ⟨(.nilFunc : Value), by kernel_rfl, rfl⟩, by simp [Value.oneCell']⟩
instance : AggOf Try.prog 59 false 1 := ⟨fun _ => by kernel_rfl, fun _ => by kernel_rfl⟩
instance : ZeroOf Try.prog 59 [.nilFunc] := ⟨fun _ => ⟨(.nilFunc : Value), by kernel_rfl, rfl⟩, by simp [Value.oneCell']⟩
instance : AggOf Try.prog 60 false 1 := ⟨fun _ => by kernel_rfl, fun _ => by kernel_rfl⟩
instance : ZeroOf Try.prog 60 [.nilFunc] := ⟨fun _ => ⟨(.nilFunc : Value), by kernel_rfl, rfl⟩, by simp [Value.oneCell']⟩
instance : AggOf Try.prog 61 false 1 := ⟨fun _ => by kernel_rfl, fun _ => by kernel_rfl⟩
instance : ZeroOf Try.prog 61 [.nilFunc] := ⟨fun _ => ⟨(.nilFunc : Value), by kernel_rfl, rfl⟩, by simp [Value.oneCell']⟩
instance : AggOf Try.prog 62 false 1 := ⟨fun _ => by kernel_rfl, fun _ => by kernel_rfl⟩
instance : ZeroOf Try.prog 62 [.int .u16 0] := ⟨fun _ => ⟨(.int .u16 0 : Value), by kernel_rfl, rfl⟩, by simp [Value.oneCell']⟩
instance : UndI Try.prog 62 .u16 := ⟨fun _ => by kernel_rfl⟩
instance : AggOf Try.prog 63 false 1 := ⟨fun _ => by kernel_rfl, fun _ => by kernel_rfl⟩
instance : ZeroOf Try.prog 63 [.nilFunc] := ⟨fun _ => ⟨(.nilFunc : Value), by kernel_rfl, rfl⟩, by simp [Value.oneCell']⟩
instance : AggOf Try.prog 65 false 1 := ⟨fun _ => by kernel_rfl, fun _ => by kernel_rfl⟩
instance : ZeroOf Try.prog 65 [.nilFunc] := ⟨fun _ => ⟨(.nilFunc : Value), by kernel_rfl, rfl⟩, by simp [Value.oneCell']⟩
instance : AggOf Try.prog 66 false 1 := ⟨fun _ => by kernel_rfl, fun _ => by kernel_rfl⟩
instance : ZeroOf Try.prog 66 [.nilFunc] := ⟨fun _ => ⟨(.nilFunc : Value), by kernel_rfl, rfl⟩, by simp [Value.oneCell']⟩
instance : AggOf Try.prog 68 false 1 := ⟨fun _ => by kernel_rfl, fun _ => by kernel_rfl⟩
instance : ZeroOf Try.prog 68 [.nilFunc] := ⟨fun _ => ⟨(.nilFunc : Value), by kernel_rfl, rfl⟩, by simp [Value.oneCell']⟩
instance : AggOf Try.prog 70 false 1 := ⟨fun _ => by kernel_rfl, fun _ => by kernel_rfl⟩
instance : ZeroOf Try.prog 70 [.nilFunc] := ⟨fun _ => ⟨(.nilFunc : Value), by kernel_rfl, rfl⟩, by simp [Value.oneCell']⟩
instance : AggOf Try.prog 71 false 1 := ⟨fun _ => by kernel_rfl, fun _ => by kernel_rfl⟩
instance : ZeroOf Try.prog 71 [.nilFunc] := ⟨fun _ => ⟨(.nilFunc : Value), by kernel_rfl, rfl⟩, by simp [Value.oneCell']⟩
instance : AggOf Try.prog 72 false 1 := ⟨fun _ => by kernel_rfl, fun _ => by kernel_rfl⟩
instance : ZeroOf Try.prog 72 [.nilFunc] := ⟨fun _ => ⟨(.nilFunc : Value), by kernel_rfl, rfl⟩, by simp [Value.oneCell']⟩
instance : AggOf Try.prog 73 false 1 := ⟨fun _ => by kernel_rfl, fun _ => by kernel_rfl⟩
instance : ZeroOf Try.prog 73 [.nilFunc] := ⟨fun _ => ⟨(.nilFunc : Value), by kernel_rfl, rfl⟩, by simp [Value.oneCell']⟩
instance : AggOf Try.prog 75 false 1 := ⟨fun _ => by kernel_rfl, fun _ => by kernel_rfl⟩
instance : ZeroOf Try.prog 75 [.nilFunc] := ⟨fun _ => ⟨(.nilFunc : Value), by kernel_rfl, rfl⟩, by simp [Value.oneCell']⟩
instance : AggOf Try.prog 76 false 1 := ⟨fun _ => by kernel_rfl, fun _ => by kernel_rfl⟩
instance : ZeroOf Try.prog 76 [.nilFunc] := ⟨fun _ => ⟨(.nilFunc : Value), by kernel_rfl, rfl⟩, by simp [Value.oneCell']⟩
instance : AggOf Try.prog 77 false 1 := ⟨fun _ => by kernel_rfl, fun _ => by kernel_rfl⟩
instance : ZeroOf Try.prog 77 [.nilFunc] := ⟨fun _ => ⟨(.nilFunc : Value), by kernel_rfl, rfl⟩, by simp [Value.oneCell']⟩
instance : AggOf Try.prog 78 false 1 := ⟨fun _ => by kernel_rfl, fun _ => by kernel_rfl⟩
instance : ZeroOf Try.prog 78 [.nilFunc] := ⟨fun _ => ⟨(.nilFunc : Value), by kernel_rfl, rfl⟩, by simp [Value.oneCell']⟩
instance : AggOf Try.prog 80 false 1 := ⟨fun _ => by kernel_rfl, fun _ => by kernel_rfl⟩
instance : ZeroOf Try.prog 80 [.nilFunc] := ⟨fun _ => ⟨(.nilFunc : Value), by kernel_rfl, rfl⟩, by simp [Value.oneCell']⟩
instance : AggOf Try.prog 81 false 1 := ⟨fun _ => by kernel_rfl, fun _ => by kernel_rfl⟩
instance : ZeroOf Try.prog 81 [.nilFunc] := ⟨fun _ => ⟨(.nilFunc : Value), by kernel_rfl, rfl⟩, by simp [Value.oneCell']⟩
instance : AggOf Try.prog 82 false 1 := ⟨fun _ => by kernel_rfl, fun _ => by kernel_rfl⟩
instance : ZeroOf Try.prog 82 [.nilFunc] := ⟨fun _ => ⟨(.nilFunc : Value), by kernel_rfl, rfl⟩, by simp [Value.oneCell']⟩
instance : AggOf Try.prog 83 false 1 := ⟨fun _ => by kernel_rfl, fun _ => by kernel_rfl⟩
instance : ZeroOf Try.prog 83 [.nilFunc] := ⟨fun _ => ⟨(.nilFunc : Value), by kernel_rfl, rfl⟩, by simp [Value.oneCell']⟩
instance : AggOf Try.prog 84 false 1 := ⟨fun _ => by kernel_rfl, fun _ => by kernel_rfl⟩
instance : ZeroOf Try.prog 84 [.nilFunc] := ⟨fun _ => ⟨(.nilFunc : Value), by kernel_rfl, rfl⟩, by simp [Value.oneCell']⟩
instance : AggOf Try.prog 85 false 1 := ⟨fun _ => by kernel_rfl, fun _ => by kernel_rfl⟩
instance : ZeroOf Try.prog 85 [.nilFunc] := ⟨fun _ => ⟨(.nilFunc : Value), by kernel_rfl, rfl⟩, by simp [Value.oneCell']⟩
instance : AggOf Try.prog 86 false 1 := ⟨fun _ => by kernel_rfl, fun _ => by kernel_rfl⟩
instance : ZeroOf Try.prog 86 [.nilFunc] := ⟨fun _ => ⟨(.nilFunc : Value), by kernel_rfl, rfl⟩, by simp [Value.oneCell']⟩
instance : AggOf Try.prog 87 false 1 := ⟨fun _ => by kernel_rfl, fun _ => by kernel_rfl⟩
instance : ZeroOf Try.prog 87 [.nilFunc] := ⟨fun _ => ⟨(.nilFunc : Value), by kernel_rfl, rfl⟩, by simp [Value.oneCell']⟩
instance : AggOf Try.prog 88 false 1 := ⟨fun _ => by kernel_rfl, fun _ => by kernel_rfl⟩
instance : ZeroOf Try.prog 88 [.nilFunc] := ⟨fun _ => ⟨(.nilFunc : Value), by kernel_rfl, rfl⟩, by simp [Value.oneCell']⟩
instance : AggOf Try.prog 89 false 1 := ⟨fun _ => by kernel_rfl, fun _ => by kernel_rfl⟩
instance : ZeroOf Try.prog 89 [.nilFunc] := ⟨fun _ => ⟨(.nilFunc : Value), by kernel_rfl, rfl⟩, by simp [Value.oneCell']⟩
instance : AggOf Try.prog 90 false 1 := ⟨fun _ => by kernel_rfl, fun _ => by kernel_rfl⟩
instance : ZeroOf Try.prog 90 [.nilFunc] := ⟨fun _ => ⟨(.nilFunc : Value), by kernel_rfl, rfl⟩, by simp [Value.oneCell']⟩
instance : AggOf Try.prog 91 false 1 := ⟨fun _ => by kernel_rfl, fun _ => by kernel_rfl⟩
instance : ZeroOf Try.prog 91 [.nilFunc] := ⟨fun _ => ⟨(.nilFunc : Value), by kernel_rfl, rfl⟩, by simp [Value.oneCell']⟩
instance : AggOf Try.prog 92 false 1 := ⟨fun _ => by kernel_rfl, fun _ => by kernel_rfl⟩
instance : ZeroOf Try.prog 92 [.nilFunc] := ⟨fun _ => ⟨(.nilFunc : Value), by kernel_rfl, rfl⟩, by simp [Value.oneCell']⟩
instance : AggOf Try.prog 93 false 1 := ⟨fun _ => by kernel_rfl, fun _ => by kernel_rfl⟩
instance : ZeroOf Try.prog 93 [.nilFunc] := ⟨fun _ => ⟨(.nilFunc : Value), by kernel_rfl, rfl⟩, by simp [Value.oneCell']⟩
instance : AggOf Try.prog 94 false 1 := ⟨fun _ => by kernel_rfl, fun _ => by kernel_rfl⟩
instance : ZeroOf Try.prog 94 [.nilFunc] := ⟨fun _ => ⟨(.nilFunc : Value), by kernel_rfl, rfl⟩, by simp [Value.oneCell']⟩
instance : AggOf Try.prog 95 false 1 := ⟨fun _ => by kernel_rfl, fun _ => by kernel_rfl⟩
instance : ZeroOf Try.prog 95 [.nilFunc] := ⟨fun _ => ⟨(.nilFunc : Value), by kernel_rfl, rfl⟩, by simp [Value.oneCell']⟩
instance : AggOf Try.prog 96 false 1 := ⟨fun _ => by kernel_rfl, fun _ => by kernel_rfl⟩
instance : ZeroOf Try.prog 96 [.nilFunc] := ⟨fun _ => ⟨(.nilFunc : Value), by kernel_rfl, rfl⟩, by simp [Value.oneCell']⟩
instance : AggOf Try.prog 97 false 1 := ⟨fun _ => by kernel_rfl, fun _ => by kernel_rfl⟩
instance : ZeroOf Try.prog 97 [.nilFunc] := ⟨fun _ => ⟨(.nilFunc : Value), by kernel_rfl, rfl⟩, by simp [Value.oneCell']⟩
instance : AggOf Try.prog 98 false 1 := ⟨fun _ => by kernel_rfl, fun _ => by kernel_rfl⟩
instance : ZeroOf Try.prog 98 [.nilFunc] := ⟨fun _ => ⟨(.nilFunc : Value), by kernel_rfl, rfl⟩, by simp [Value.oneCell']⟩
instance : AggOf Try.prog 99 false 1 := ⟨fun _ => by kernel_rfl, fun _ => by kernel_rfl⟩
instance : ZeroOf Try.prog 99 [.nilFunc] := ⟨fun _ => ⟨(.nilFunc : Value), by kernel_rfl, rfl⟩, by simp [Value.oneCell']⟩
instance : AggOf Try.prog 100 false 1 := ⟨fun _ => by kernel_rfl, fun _ => by kernel_rfl⟩
instance : ZeroOf Try.prog 100 [.nilFunc] := ⟨fun _ => ⟨(.nilFunc : Value), by kernel_rfl, rfl⟩, by simp [Value.oneCell']⟩
instance : AggOf Try.prog 101 false 1 := ⟨fun _ => by kernel_rfl, fun _ => by kernel_rfl⟩
instance : ZeroOf Try.prog 101 [.nilFunc] := ⟨fun _ => ⟨(.nilFunc : Value), by kernel_rfl, rfl⟩, by simp [Value.oneCell']⟩
instance : AggOf Try.prog 102 false 1 := ⟨fun _ => by kernel_rfl, fun _ => by kernel_rfl⟩
instance : ZeroOf Try.prog 102 [.nilFunc] := ⟨fun _ => ⟨(.nilFunc : Value), by kernel_rfl, rfl⟩, by simp [Value.oneCell']⟩
instance : AggOf Try.prog 104 false 1 := ⟨fun _ => by kernel_rfl, fun _ => by kernel_rfl⟩
instance : ZeroOf Try.prog 104 [.nilFunc] := ⟨fun _ => ⟨(.nilFunc : Value), by kernel_rfl, rfl⟩, by simp [Value.oneCell']⟩
instance : AggOf Try.prog 105 false 1 := ⟨fun _ => by kernel_rfl, fun _ => by kernel_rfl⟩
instance : ZeroOf Try.prog 105 [.nilFunc] := ⟨fun _ => ⟨(.nilFunc : Value), by kernel_rfl, rfl⟩, by simp [Value.oneCell']⟩
instance : AggOf Try.prog 106 false 1 := ⟨fun _ => by kernel_rfl, fun _ => by kernel_rfl⟩
instance : ZeroOf Try.prog 106 [.nilFunc] := ⟨fun _ => ⟨(.nilFunc : Value), by kernel_rfl, rfl⟩, by simp [Value.oneCell']⟩
instance : AggOf Try.prog 107 false 1 := ⟨fun _ => by kernel_rfl, fun _ => by kernel_rfl⟩
instance : ZeroOf Try.prog 107 [.nilFunc] := ⟨fun _ => ⟨(.nilFunc : Value), by kernel_rfl, rfl⟩, by simp [Value.oneCell']⟩
instance : AggOf Try.prog 108 false 1 := ⟨fun _ => by kernel_rfl, fun _ => by kernel_rfl⟩
instance : ZeroOf Try.prog 108 [.nilFunc] := ⟨fun _ => ⟨(.nilFunc : Value), by kernel_rfl, rfl⟩, by simp [Value.oneCell']⟩
instance : AggOf Try.prog 109 false 1 := ⟨fun _ => by kernel_rfl, fun _ => by kernel_rfl⟩
instance : ZeroOf Try.prog 109 [.nilFunc] := ⟨fun _ => ⟨(.nilFunc : Value), by kernel_rfl, rfl⟩, by simp [Value.oneCell']⟩
instance : AggOf Try.prog 110 false 1 := ⟨fun _ => by kernel_rfl, fun _ => by kernel_rfl⟩
instance : ZeroOf Try.prog 110 [.nilFunc] := ⟨fun _ => ⟨(.nilFunc : Value), by kernel_rfl, rfl⟩, by simp [Value.oneCell']⟩
instance : AggOf Try.prog 112 false 1 := ⟨fun _ => by kernel_rfl, fun _ => by kernel_rfl⟩
instance : ZeroOf Try.prog 112 [.nilFunc] := ⟨fun _ => ⟨(.nilFunc : Value), by kernel_rfl, rfl⟩, by simp [Value.oneCell']⟩
instance : AggOf Try.prog 113 false 1 := ⟨fun _ => by kernel_rfl, fun _ => by kernel_rfl⟩
instance : ZeroOf Try.prog 113 [.nilFunc] := ⟨fun _ => ⟨(.nilFunc : Value), by kernel_rfl, rfl⟩, by simp [Value.oneCell']⟩
instance : AggOf Try.prog 114 false 1 := ⟨fun _ => by kernel_rfl, fun _ => by kernel_rfl⟩
instance : ZeroOf Try.prog 114 [.nilFunc] := ⟨fun _ => ⟨(.nilFunc : Value), by kernel_rfl, rfl⟩, by simp [Value.oneCell']⟩
instance : AggOf Try.prog 115 false 1 := ⟨fun _ => by kernel_rfl, fun _ => by kernel_rfl⟩
instance : ZeroOf Try.prog 115 [.int .u64 0] := ⟨fun _ => ⟨(.int .u64 0 : Value), by kernel_rfl, rfl⟩, by simp [Value.oneCell']⟩
instance : UndI Try.prog 115 .u64 := ⟨fun _ => by kernel_rfl⟩
instance : AggOf Try.prog 116 false 1 := ⟨fun _ => by kernel_rfl, fun _ => by kernel_rfl⟩
instance : ZeroOf Try.prog 116 [.nilFunc] := ⟨fun _ => ⟨(.nilFunc : Value), by kernel_rfl, rfl⟩, by simp [Value.oneCell']⟩
instance : AggOf Try.prog 117 false 1 := ⟨fun _ => by kernel_rfl, fun _ => by kernel_rfl⟩
instance : ZeroOf Try.prog 117 [.nilFunc] := ⟨fun _ => ⟨(.nilFunc : Value), by kernel_rfl, rfl⟩, by simp [Value.oneCell']⟩
instance : AggOf Try.prog 118 false 1 := ⟨fun _ => by kernel_rfl, fun _ => by kernel_rfl⟩
instance : ZeroOf Try.prog 118 [.nilFunc] := ⟨fun _ => ⟨(.nilFunc : Value), by kernel_rfl, rfl⟩, by simp [Value.oneCell']⟩
instance : AggOf Try.prog 119 false 1 := ⟨fun _ => by kernel_rfl, fun _ => by kernel_rfl⟩
instance : ZeroOf Try.prog 119 [.nilFunc] := ⟨fun _ => ⟨(.nilFunc : Value), by kernel_rfl, rfl⟩, by simp [Value.oneCell']⟩
instance : AggOf Try.prog 120 false 1 := ⟨fun _ => by kernel_rfl, fun _ => by kernel_rfl⟩
instance : ZeroOf Try.prog 120 [.nilFunc] := ⟨fun _ => ⟨(.nilFunc : Value), by kernel_rfl, rfl⟩, by simp [Value.oneCell']⟩
instance : AggOf Try.prog 121 false 1 := ⟨fun _ => by kernel_rfl, fun _ => by kernel_rfl⟩
instance : ZeroOf Try.prog 121 [.nilFunc] := ⟨fun _ => ⟨(.nilFunc : Value), by kernel_rfl, rfl⟩, by simp [Value.oneCell']⟩
instance : AggOf Try.prog 122 false 1 := ⟨fun _ => by kernel_rfl, fun _ => by kernel_rfl⟩
instance : ZeroOf Try.prog 122 [.nilFunc] := ⟨fun _ => ⟨(.nilFunc : Value), by kernel_rfl, rfl⟩, by simp [Value.oneCell']⟩
instance : AggOf Try.prog 123 false 1 := ⟨fun _ => by kernel_rfl, fun _ => by kernel_rfl⟩
instance : ZeroOf Try.prog 123 [.nilFunc] := ⟨fun _ => ⟨(.nilFunc : Value), by kernel_rfl, rfl⟩, by simp [Value.oneCell']⟩
instance : AggOf Try.prog 124 false 1 := ⟨fun _ => by kernel_rfl, fun _ => by kernel_rfl⟩
instance : ZeroOf Try.prog 124 [.nilFunc] := ⟨fun _ => ⟨(.nilFunc : Value), by kernel_rfl, rfl⟩, by simp [Value.oneCell']⟩
instance : AggOf Try.prog 125 false 1 := ⟨fun _ => by kernel_rfl, fun _ => by kernel_rfl⟩
instance : ZeroOf Try.prog 125 [.nilFunc] := ⟨fun _ => ⟨(.nilFunc : Value), by kernel_rfl, rfl⟩, by simp [Value.oneCell']⟩
instance : AggOf Try.prog 126 false 1 := ⟨fun _ => by kernel_rfl, fun _ => by kernel_rfl⟩
instance : ZeroOf Try.prog 126 [.int .i64 0] := ⟨fun _ => ⟨(.int .i64 0 : Value), by kernel_rfl, rfl⟩, by simp [Value.oneCell']⟩
instance : UndI Try.prog 126 .i64 := ⟨fun _ => by kernel_rfl⟩
instance : AggOf Try.prog 128 false 1 := ⟨fun _ => by kernel_rfl, fun _ => by kernel_rfl⟩
instance : ZeroOf Try.prog 128 [.nilFunc] := ⟨fun _ => ⟨(.nilFunc : Value), by kernel_rfl, rfl⟩, by simp [Value.oneCell']⟩
instance : AggOf Try.prog 129 false 1 := ⟨fun _ => by kernel_rfl, fun _ => by kernel_rfl⟩
instance : ZeroOf Try.prog 129 [.nilFunc] := ⟨fun _ => ⟨(.nilFunc : Value), by kernel_rfl, rfl⟩, by simp [Value.oneCell']⟩
instance : AggOf Try.prog 130 false 1 := ⟨fun _ => by kernel_rfl, fun _ => by kernel_rfl⟩
instance : ZeroOf Try.prog 130 [.nilFunc] := ⟨fun _ => ⟨(.nilFunc : Value), by kernel_rfl, rfl⟩, by simp [Value.oneCell']⟩
instance : AggOf Try.prog 131 false 1 := ⟨fun _ => by kernel_rfl, fun _ => by kernel_rfl⟩
instance : ZeroOf Try.prog 131 [.nilFunc] := ⟨fun _ => ⟨(.nilFunc : Value), by kernel_rfl, rfl⟩, by simp [Value.oneCell']⟩
instance : AggOf Try.prog 132 false 1 := ⟨fun _ => by kernel_rfl, fun _ => by kernel_rfl⟩
instance : ZeroOf Try.prog 132 [.nilFunc] := ⟨fun _ => ⟨(.nilFunc : Value), by kernel_rfl, rfl⟩, by simp [Value.oneCell']⟩
instance : AggOf Try.prog 133 false 1 := ⟨fun _ => by kernel_rfl, fun _ => by kernel_rfl⟩
instance : ZeroOf Try.prog 133 [.int .u32 0] := ⟨fun _ => ⟨(.int .u32 0 : Value), by kernel_rfl, rfl⟩, by simp [Value.oneCell']⟩
instance : UndI Try.prog 133 .u32 := ⟨fun _ => by kernel_rfl⟩
instance : AggOf Try.prog 134 false 1 := ⟨fun _ => by kernel_rfl, fun _ => by kernel_rfl⟩
instance : ZeroOf Try.prog 134 [.nilFunc] := ⟨fun _ => ⟨(.nilFunc : Value), by kernel_rfl, rfl⟩, by simp [Value.oneCell']⟩
instance : AggOf Try.prog 135 false 1 := ⟨fun _ => by kernel_rfl, fun _ => by kernel_rfl⟩
instance : ZeroOf Try.prog 135 [.int .u64 0] := ⟨fun _ => ⟨(.int .u64 0 : Value), by kernel_rfl, rfl⟩, by simp [Value.oneCell']⟩
instance : UndI Try.prog 135 .u64 := ⟨fun _ => by kernel_rfl⟩
instance : AggOf Try.prog 136 false 1 := ⟨fun _ => by kernel_rfl, fun _ => by kernel_rfl⟩
instance : ZeroOf Try.prog 136 [.slice none 0 0] := ⟨fun _ => ⟨(.slice none 0 0 : Value), by kernel_rfl, rfl⟩, by simp [Value.oneCell']⟩
instance : SliceOf Try.prog 136 22 1 := ⟨fun _ => by kernel_rfl, fun _ => by kernel_rfl⟩
theorem Try.inf136 : (Try.prog.info? 22).map (fun i => (i.zero, i.size, i.bytes)) = some (some ((.slice none 0 0 : Value)), 1, 24) := by kernel_rfl
instance : AppOf Try.prog 136 22 1 24 := appOf_mk (z := (.slice none 0 0 : Value)) (by kernel_rfl) Try.inf136 rfl
instance : LitOf Try.prog 136 22 1 [.slice none 0 0] := ⟨fun _ => by kernel_rfl, fun _ => by kernel_rfl, fun _ => ⟨(.slice none 0 0 : Value), by kernel_rfl, rfl⟩, rfl, by simp [Value.oneCell']⟩
instance : AggOf Try.prog 137 false 1 := ⟨fun _ => by kernel_rfl, fun _ => by kernel_rfl⟩
instance : ZeroOf Try.prog 137 [.nilFunc] := ⟨fun _ => ⟨(.nilFunc : Value), by kernel_rfl, rfl⟩, by simp [Value.oneCell']⟩
instance : AggOf Try.prog 138 false 1 := ⟨fun _ => by kernel_rfl, fun _ => by kernel_rfl⟩
instance : ZeroOf Try.prog 138 [.nilFunc] := ⟨fun _ => ⟨(.nilFunc : Value), by kernel_rfl, rfl⟩, by simp [Value.oneCell']⟩
instance : AggOf Try.prog 139 false 1 := ⟨fun _ => by kernel_rfl, fun _ => by kernel_rfl⟩
instance : ZeroOf Try.prog 139 [.slice none 0 0] := ⟨fun _ => ⟨(.slice none 0 0 : Value), by kernel_rfl, rfl⟩, by simp [Value.oneCell']⟩
instance : SliceOf Try.prog 139 23 1 := ⟨fun _ => by kernel_rfl, fun _ => by kernel_rfl⟩
theorem Try.inf139 : (Try.prog.info? 23).map (fun i => (i.zero, i.size, i.bytes)) = some (some ((.slice none 0 0 : Value)), 1, 24) := by kernel_rfl
instance : AppOf Try.prog 139 23 1 24 := appOf_mk (z := (.slice none 0 0 : Value)) (by kernel_rfl) Try.inf139 rfl
instance : LitOf Try.prog 139 23 1 [.slice none 0 0] := ⟨fun _ => by kernel_rfl, fun _ => by kernel_rfl, fun _ => ⟨(.slice none 0 0 : Value), by kernel_rfl, rfl⟩, rfl, by simp [Value.oneCell']⟩
instance : AggOf Try.prog 140 false 1 := ⟨fun _ => by kernel_rfl, fun _ => by kernel_rfl⟩
instance : ZeroOf Try.prog 140 [.nilFunc] := ⟨fun _ => ⟨(.nilFunc : Value), by kernel_rfl, rfl⟩, by simp [Value.oneCell']⟩
instance : AggOf Try.prog 141 false 1 := ⟨fun _ => by kernel_rfl, fun _ => by kernel_rfl⟩
instance : ZeroOf Try.prog 141 [.int .u64 0] := ⟨fun _ => ⟨(.int .u64 0 : Value), by kernel_rfl, rfl⟩, by simp [Value.oneCell']⟩
instance : UndI Try.prog 141 .u64 := ⟨fun _ => by kernel_rfl⟩
instance : AggOf Try.prog 142 false 1 := ⟨fun _ => by kernel_rfl, fun _ => by kernel_rfl⟩
instance : ZeroOf Try.prog 142 [.nilFunc] := ⟨fun _ => ⟨(.nilFunc : Value), by kernel_rfl, rfl⟩, by simp [Value.oneCell']⟩
instance : AggOf Try.prog 143 false 1 := ⟨fun _ => by kernel_rfl, fun _ => by kernel_rfl⟩
instance : ZeroOf Try.prog 143 [.nilFunc] := ⟨fun _ => ⟨(.nilFunc : Value), by kernel_rfl, rfl⟩, by simp [Value.oneCell']⟩
instance : AggOf Try.prog 144 false 1 := ⟨fun _ => by kernel_rfl, fun _ => by kernel_rfl⟩
instance : ZeroOf Try.prog 144 [.nilFunc] := ⟨fun _ => ⟨(.nilFunc : Value), by kernel_rfl, rfl⟩, by simp [Value.oneCell']⟩
instance : AggOf Try.prog 145 false 1 := ⟨fun _ => by kernel_rfl, fun _ => by kernel_rfl⟩
instance : ZeroOf Try.prog 145 [.pointer none] := ⟨fun _ => ⟨(.pointer none : Value), by kernel_rfl, rfl⟩, by simp [Value.oneCell']⟩
instance : AggOf Try.prog 146 false 1 := ⟨fun _ => by kernel_rfl, fun _ => by kernel_rfl⟩
instance : ZeroOf Try.prog 146 [.nilFunc] := ⟨fun _ => ⟨(.nilFunc : Value), by kernel_rfl, rfl⟩, by simp [Value.oneCell']⟩
instance : AggOf Try.prog 147 false 1 := ⟨fun _ => by kernel_rfl, fun _ => by kernel_rfl⟩
instance : ZeroOf Try.prog 147 [.nilFunc] := ⟨fun _ => ⟨(.nilFunc : Value), by kernel_rfl, rfl⟩, by simp [Value.oneCell']⟩
instance : AggOf Try.prog 148 false 1 := ⟨fun _ => by kernel_rfl, fun _ => by kernel_rfl⟩
instance : ZeroOf Try.prog 148 [.nilFunc] := ⟨fun _ => ⟨(.nilFunc : Value), by kernel_rfl, rfl⟩, by simp [Value.oneCell']⟩
instance : AggOf Try.prog 149 false 1 := ⟨fun _ => by kernel_rfl, fun _ => by kernel_rfl⟩
instance : ZeroOf Try.prog 149 [.nilFunc] := ⟨fun _ => ⟨(.nilFunc : Value), by kernel_rfl, rfl⟩, by simp [Value.oneCell']⟩
instance : AggOf Try.prog 150 false 1 := ⟨fun _ => by kernel_rfl, fun _ => by kernel_rfl⟩
instance : ZeroOf Try.prog 150 [.nilFunc] := ⟨fun _ => ⟨(.nilFunc : Value), by kernel_rfl, rfl⟩, by simp [Value.oneCell']⟩
instance : AggOf Try.prog 151 false 1 := ⟨fun _ => by kernel_rfl, fun _ => by kernel_rfl⟩
instance : ZeroOf Try.prog 151 [.nilFunc] := ⟨fun _ => ⟨(.nilFunc : Value), by kernel_rfl, rfl⟩, by simp [Value.oneCell']⟩
instance : AggOf Try.prog 152 false 1 := ⟨fun _ => by kernel_rfl, fun _ => by kernel_rfl⟩
instance : ZeroOf Try.prog 152 [.nilFunc] := ⟨fun _ => ⟨(.nilFunc : Value), by kernel_rfl, rfl⟩, by simp [Value.oneCell']⟩
instance : AggOf Try.prog 153 false 1 := ⟨fun _ => by kernel_rfl, fun _ => by kernel_rfl⟩
instance : ZeroOf Try.prog 153 [.pointer none] := ⟨fun _ => ⟨(.pointer none : Value), by kernel_rfl, rfl⟩, by simp [Value.oneCell']⟩
instance : AggOf Try.prog 155 false 1 := ⟨fun _ => by kernel_rfl, fun _ => by kernel_rfl⟩
instance : ZeroOf Try.prog 155 [.nilFunc] := ⟨fun _ => ⟨(.nilFunc : Value), by kernel_rfl, rfl⟩, by simp [Value.oneCell']⟩
instance : AggOf Try.prog 156 false 1 := ⟨fun _ => by kernel_rfl, fun _ => by kernel_rfl⟩
instance : ZeroOf Try.prog 156 [.nilFunc] := ⟨fun _ => ⟨(.nilFunc : Value), by kernel_rfl, rfl⟩, by simp [Value.oneCell']⟩
instance : AggOf Try.prog 157 false 1 := ⟨fun _ => by kernel_rfl, fun _ => by kernel_rfl⟩
instance : ZeroOf Try.prog 157 [.nilFunc] := ⟨fun _ => ⟨(.nilFunc : Value), by kernel_rfl, rfl⟩, by simp [Value.oneCell']⟩
instance : AggOf Try.prog 158 false 1 := ⟨fun _ => by kernel_rfl, fun _ => by kernel_rfl⟩
instance : ZeroOf Try.prog 158 [.nilFunc] := ⟨fun _ => ⟨(.nilFunc : Value), by kernel_rfl, rfl⟩, by simp [Value.oneCell']⟩
instance : AggOf Try.prog 159 false 1 := ⟨fun _ => by kernel_rfl, fun _ => by kernel_rfl⟩
instance : ZeroOf Try.prog 159 [.nilFunc] := ⟨fun _ => ⟨(.nilFunc : Value), by kernel_rfl, rfl⟩, by simp [Value.oneCell']⟩
instance : AggOf Try.prog 160 true 4 := ⟨fun _ => by kernel_rfl, fun _ => by kernel_rfl⟩
instance : ZeroOf Try.prog 160 [.pointer none, .pointer none, .pointer none, .string ⟨#[]⟩] := ⟨fun _ => ⟨Value.agg #[.pointer none, .pointer none, .pointer none, .string ⟨#[]⟩], by kernel_rfl, rfl⟩, by simp [Value.oneCell']⟩
instance : FieldOf Try.prog 160 0 0 17 := ⟨fun _ _ => by kernel_rfl, fun _ _ => by kernel_rfl⟩
instance : FieldOf Try.prog 160 1 1 17 := ⟨fun _ _ => by kernel_rfl, fun _ _ => by kernel_rfl⟩
instance : FieldOf Try.prog 160 2 2 17 := ⟨fun _ _ => by kernel_rfl, fun _ _ => by kernel_rfl⟩
instance : FieldOf Try.prog 160 3 3 9 := ⟨fun _ _ => by kernel_rfl, fun _ _ => by kernel_rfl⟩
instance : BuildOf Try.prog 160 [(0, 1), (1, 1), (2, 1), (3, 1)] [.pointer none, .pointer none, .pointer none, .string ⟨#[]⟩] := buildOf_mk (z := Value.agg #[.pointer none, .pointer none, .pointer none, .string ⟨#[]⟩]) (fs := Try.prog.fieldsOf 160) (fun _ => by kernel_rfl) rfl (fun _ => by kernel_rfl) (fun _ => by kernel_rfl) (by simp [Value.oneCell'])
instance : AggOf Try.prog 161 true 4 := ⟨fun _ => by kernel_rfl, fun _ => by kernel_rfl⟩
instance : ZeroOf Try.prog 161 [.pointer none, .pointer none, .pointer none, .string ⟨#[]⟩] := ⟨fun _ => ⟨Value.agg #[.pointer none, .pointer none, .pointer none, .string ⟨#[]⟩], by kernel_rfl, rfl⟩, by simp [Value.oneCell']⟩
instance : FieldOf Try.prog 161 0 0 17 := ⟨fun _ _ => by kernel_rfl, fun _ _ => by kernel_rfl⟩
instance : FieldOf Try.prog 161 1 1 17 := ⟨fun _ _ => by kernel_rfl, fun _ _ => by kernel_rfl⟩
instance : FieldOf Try.prog 161 2 2 17 := ⟨fun _ _ => by kernel_rfl, fun _ _ => by kernel_rfl⟩
instance : FieldOf Try.prog 161 3 3 9 := ⟨fun _ _ => by kernel_rfl, fun _ _ => by kernel_rfl⟩
instance : BuildOf Try.prog 161 [(0, 1), (1, 1), (2, 1), (3, 1)] [.pointer none, .pointer none, .pointer none, .string ⟨#[]⟩] := buildOf_mk (z := Value.agg #[.pointer none, .pointer none, .pointer none, .string ⟨#[]⟩]) (fs := Try.prog.fieldsOf 161) (fun _ => by kernel_rfl) rfl (fun _ => by kernel_rfl) (fun _ => by kernel_rfl) (by simp [Value.oneCell'])
instance : AggOf Try.prog 165 false 1 := ⟨fun _ => by kernel_rfl, fun _ => by kernel_rfl⟩
instance : ZeroOf Try.prog 165 [.nilFunc] := ⟨fun _ => ⟨(.nilFunc : Value), by kernel_rfl, rfl⟩, by simp [Value.oneCell']⟩
instance : AggOf Try.prog 166 false 1 := ⟨fun _ => by kernel_rfl, fun _ => by kernel_rfl⟩
instance : ZeroOf Try.prog 166 [.int .u8 0] := ⟨fun _ => ⟨(.int .u8 0 : Value), by kernel_rfl, rfl⟩, by simp [Value.oneCell']⟩
instance : UndI Try.prog 166 .u8 := ⟨fun _ => by kernel_rfl⟩
instance : AggOf Try.prog 167 false 1 := ⟨fun _ => by kernel_rfl, fun _ => by kernel_rfl⟩
instance : ZeroOf Try.prog 167 [.int .u8 0] := ⟨fun _ => ⟨(.int .u8 0 : Value), by kernel_rfl, rfl⟩, by simp [Value.oneCell']⟩
instance : UndI Try.prog 167 .u8 := ⟨fun _ => by kernel_rfl⟩
instance : AggOf Try.prog 168 false 1 := ⟨fun _ => by kernel_rfl, fun _ => by kernel_rfl⟩
instance : ZeroOf Try.prog 168 [.nilFunc] := ⟨fun _ => ⟨(.nilFunc : Value), by kernel_rfl, rfl⟩, by simp [Value.oneCell']⟩
instance : AggOf Try.prog 169 false 1 := ⟨fun _ => by kernel_rfl, fun _ => by kernel_rfl⟩
instance : ZeroOf Try.prog 169 [.pointer none] := ⟨fun _ => ⟨(.pointer none : Value), by kernel_rfl, rfl⟩, by simp [Value.oneCell']⟩
instance : AggOf Try.prog 170 false 1 := ⟨fun _ => by kernel_rfl, fun _ => by kernel_rfl⟩
instance : ZeroOf Try.prog 170 [.int .i32 0] := ⟨fun _ => ⟨(.int .i32 0 : Value), by kernel_rfl, rfl⟩, by simp [Value.oneCell']⟩
instance : UndI Try.prog 170 .i32 := ⟨fun _ => by kernel_rfl⟩
instance : AggOf Try.prog 171 false 1 := ⟨fun _ => by kernel_rfl, fun _ => by kernel_rfl⟩
instance : ZeroOf Try.prog 171 [.int .i32 0] := ⟨fun _ => ⟨(.int .i32 0 : Value), by kernel_rfl, rfl⟩, by simp [Value.oneCell']⟩
instance : UndI Try.prog 171 .i32 := ⟨fun _ => by kernel_rfl⟩
instance : AggOf Try.prog 172 true 11 := ⟨fun _ => by kernel_rfl, fun _ => by kernel_rfl⟩
instance : ZeroOf Try.prog 172 [.int .u64 0, .int .u64 0, .int .u32 0, .int .u8 0, .int .u8 0, .int .u8 0, .int .u8 0, .nilFunc, .pointer none, .int .i32 0, .int .i32 0] := ⟨fun _ => ⟨Value.agg #[.int .u64 0, .int .u64 0, .int .u32 0, .int .u8 0, .int .u8 0, .int .u8 0, .int .u8 0, .nilFunc, .pointer none, .int .i32 0, .int .i32 0], by kernel_rfl, rfl⟩, by simp [Value.oneCell']⟩
instance : FieldOf Try.prog 172 0 0 12 := ⟨fun _ _ => by kernel_rfl, fun _ _ => by kernel_rfl⟩
instance : FieldOf Try.prog 172 1 1 12 := ⟨fun _ _ => by kernel_rfl, fun _ _ => by kernel_rfl⟩
instance : FieldOf Try.prog 172 2 2 133 := ⟨fun _ _ => by kernel_rfl, fun _ _ => by kernel_rfl⟩
instance : FieldOf Try.prog 172 3 3 166 := ⟨fun _ _ => by kernel_rfl, fun _ _ => by kernel_rfl⟩
instance : FieldOf Try.prog 172 4 4 5 := ⟨fun _ _ => by kernel_rfl, fun _ _ => by kernel_rfl⟩
instance : FieldOf Try.prog 172 5 5 5 := ⟨fun _ _ => by kernel_rfl, fun _ _ => by kernel_rfl⟩
instance : FieldOf Try.prog 172 6 6 167 := ⟨fun _ _ => by kernel_rfl, fun _ _ => by kernel_rfl⟩
instance : FieldOf Try.prog 172 7 7 168 := ⟨fun _ _ => by kernel_rfl, fun _ _ => by kernel_rfl⟩
instance : FieldOf Try.prog 172 8 8 169 := ⟨fun _ _ => by kernel_rfl, fun _ _ => by kernel_rfl⟩
instance : FieldOf Try.prog 172 9 9 170 := ⟨fun _ _ => by kernel_rfl, fun _ _ => by kernel_rfl⟩
instance : FieldOf Try.prog 172 10 10 171 := ⟨fun _ _ => by kernel_rfl, fun _ _ => by kernel_rfl⟩
instance : BuildOf Try.prog 172 [(0, 1), (1, 1), (2, 1), (3, 1), (4, 1), (5, 1), (6, 1), (7, 1), (8, 1), (9, 1), (10, 1)] [.int .u64 0, .int .u64 0, .int .u32 0, .int .u8 0, .int .u8 0, .int .u8 0, .int .u8 0, .nilFunc, .pointer none, .int .i32 0, .int .i32 0] := buildOf_mk (z := Value.agg #[.int .u64 0, .int .u64 0, .int .u32 0, .int .u8 0, .int .u8 0, .int .u8 0, .int .u8 0, .nilFunc, .pointer none, .int .i32 0, .int .i32 0]) (fs := Try.prog.fieldsOf 172) (fun _ => by kernel_rfl) rfl (fun _ => by kernel_rfl) (fun _ => by kernel_rfl) (by simp [Value.oneCell'])
instance : AggOf Try.prog 173 true 11 := ⟨fun _ => by kernel_rfl, fun _ => by kernel_rfl⟩
instance : ZeroOf Try.prog 173 [.int .u64 0, .int .u64 0, .int .u32 0, .int .u8 0, .int .u8 0, .int .u8 0, .int .u8 0, .nilFunc, .pointer none, .int .i32 0, .int .i32 0] := ⟨fun _ => ⟨Value.agg #[.int .u64 0, .int .u64 0, .int .u32 0, .int .u8 0, .int .u8 0, .int .u8 0, .int .u8 0, .nilFunc, .pointer none, .int .i32 0, .int .i32 0], by kernel_rfl, rfl⟩, by simp [Value.oneCell']⟩
instance : FieldOf Try.prog 173 0 0 12 := ⟨fun _ _ => by kernel_rfl, fun _ _ => by kernel_rfl⟩
instance : FieldOf Try.prog 173 1 1 12 := ⟨fun _ _ => by kernel_rfl, fun _ _ => by kernel_rfl⟩
instance : FieldOf Try.prog 173 2 2 133 := ⟨fun _ _ => by kernel_rfl, fun _ _ => by kernel_rfl⟩
instance : FieldOf Try.prog 173 3 3 166 := ⟨fun _ _ => by kernel_rfl, fun _ _ => by kernel_rfl⟩
instance : FieldOf Try.prog 173 4 4 5 := ⟨fun _ _ => by kernel_rfl, fun _ _ => by kernel_rfl⟩
instance : FieldOf Try.prog 173 5 5 5 := ⟨fun _ _ => by kernel_rfl, fun _ _ => by kernel_rfl⟩
instance : FieldOf Try.prog 173 6 6 167 := ⟨fun _ _ => by kernel_rfl, fun _ _ => by kernel_rfl⟩
instance : FieldOf Try.prog 173 7 7 168 := ⟨fun _ _ => by kernel_rfl, fun _ _ => by kernel_rfl⟩
instance : FieldOf Try.prog 173 8 8 169 := ⟨fun _ _ => by kernel_rfl, fun _ _ => by kernel_rfl⟩
instance : FieldOf Try.prog 173 9 9 170 := ⟨fun _ _ => by kernel_rfl, fun _ _ => by kernel_rfl⟩
instance : FieldOf Try.prog 173 10 10 171 := ⟨fun _ _ => by kernel_rfl, fun _ _ => by kernel_rfl⟩
instance : BuildOf Try.prog 173 [(0, 1), (1, 1), (2, 1), (3, 1), (4, 1), (5, 1), (6, 1), (7, 1), (8, 1), (9, 1), (10, 1)] [.int .u64 0, .int .u64 0, .int .u32 0, .int .u8 0, .int .u8 0, .int .u8 0, .int .u8 0, .nilFunc, .pointer none, .int .i32 0, .int .i32 0] := buildOf_mk (z := Value.agg #[.int .u64 0, .int .u64 0, .int .u32 0, .int .u8 0, .int .u8 0, .int .u8 0, .int .u8 0, .nilFunc, .pointer none, .int .i32 0, .int .i32 0]) (fs := Try.prog.fieldsOf 173) (fun _ => by kernel_rfl) rfl (fun _ => by kernel_rfl) (fun _ => by kernel_rfl) (by simp [Value.oneCell'])
instance : HasBody Try.prog 3 := ⟨fun _ _ => by kernel_rfl⟩
instance : HasBody Try.prog 4 := ⟨fun _ _ => by kernel_rfl⟩
instance : HasBody Try.prog 5 := ⟨fun _ _ => by kernel_rfl⟩
instance : HasBody Try.prog 6 := ⟨fun _ _ => by kernel_rfl⟩
instance : HasBody Try.prog 7 := ⟨fun _ _ => by kernel_rfl⟩
instance : HasBody Try.prog 8 := ⟨fun _ _ => by kernel_rfl⟩
instance : HasBody Try.prog 9 := ⟨fun _ _ => by kernel_rfl⟩
instance : HasBody Try.prog 10 := ⟨fun _ _ => by kernel_rfl⟩
instance : HasBody Try.prog 11 := ⟨fun _ _ => by kernel_rfl⟩
instance : HasBody Try.prog 12 := ⟨fun _ _ => by kernel_rfl⟩
instance : HasBody Try.prog 13 := ⟨fun _ _ => by kernel_rfl⟩
instance : HasBody Try.prog 14 := ⟨fun _ _ => by kernel_rfl⟩
instance : HasBody Try.prog 15 := ⟨fun _ _ => by kernel_rfl⟩
instance : HasBody Try.prog 16 := ⟨fun _ _ => by kernel_rfl⟩
instance : HasBody Try.prog 17 := ⟨fun _ _ => by kernel_rfl⟩
instance : HasBody Try.prog 18 := ⟨fun _ _ => by kernel_rfl⟩
instance : HasBody Try.prog 19 := ⟨fun _ _ => by kernel_rfl⟩
instance : HasBody Try.prog 20 := ⟨fun _ _ => by kernel_rfl⟩
instance : HasBody Try.prog 21 := ⟨fun _ _ => by kernel_rfl⟩
instance : HasBody Try.prog 22 := ⟨fun _ _ => by kernel_rfl⟩
instance : HasBody Try.prog 23 := ⟨fun _ _ => by kernel_rfl⟩
instance : HasBody Try.prog 24 := ⟨fun _ _ => by kernel_rfl⟩
instance : HasBody Try.prog 25 := ⟨fun _ _ => by kernel_rfl⟩
instance : HasBody Try.prog 26 := ⟨fun _ _ => by kernel_rfl⟩
instance : HasBody Try.prog 27 := ⟨fun _ _ => by kernel_rfl⟩
instance : HasBody Try.prog 28 := ⟨fun _ _ => by kernel_rfl⟩
instance : HasBody Try.prog 29 := ⟨fun _ _ => by kernel_rfl⟩
instance : HasBody Try.prog 30 := ⟨fun _ _ => by kernel_rfl⟩
instance : HasBody Try.prog 31 := ⟨fun _ _ => by kernel_rfl⟩
instance : HasBody Try.prog 32 := ⟨fun _ _ => by kernel_rfl⟩
instance : HasBody Try.prog 33 := ⟨fun _ _ => by kernel_rfl⟩
instance : HasBody Try.prog 34 := ⟨fun _ _ => by kernel_rfl⟩
instance : HasBody Try.prog 35 := ⟨fun _ _ => by kernel_rfl⟩
instance : HasBody Try.prog 36 := ⟨fun _ _ => by kernel_rfl⟩
instance : HasBody Try.prog 37 := ⟨fun _ _ => by kernel_rfl⟩
instance : HasBody Try.prog 38 := ⟨fun _ _ => by kernel_rfl⟩
instance : HasBody Try.prog 39 := ⟨fun _ _ => by kernel_rfl⟩
instance : HasBody Try.prog 40 := ⟨fun _ _ => by kernel_rfl⟩
instance : HasBody Try.prog 41 := ⟨fun _ _ => by kernel_rfl⟩
instance : HasBody Try.prog 42 := ⟨fun _ _ => by kernel_rfl⟩
instance : HasBody Try.prog 43 := ⟨fun _ _ => by kernel_rfl⟩
instance : HasBody Try.prog 44 := ⟨fun _ _ => by kernel_rfl⟩
instance : HasBody Try.prog 45 := ⟨fun _ _ => by kernel_rfl⟩
instance : HasBody Try.prog 46 := ⟨fun _ _ => by kernel_rfl⟩
instance : HasBody Try.prog 47 := ⟨fun _ _ => by kernel_rfl⟩
instance : HasBody Try.prog 48 := ⟨fun _ _ => by kernel_rfl⟩
instance : HasBody Try.prog 49 := ⟨fun _ _ => by kernel_rfl⟩
instance : HasBody Try.prog 50 := ⟨fun _ _ => by kernel_rfl⟩
instance : HasBody Try.prog 51 := ⟨fun _ _ => by kernel_rfl⟩
instance : HasBody Try.prog 52 := ⟨fun _ _ => by kernel_rfl⟩
instance : HasBody Try.prog 53 := ⟨fun _ _ => by kernel_rfl⟩
instance : HasBody Try.prog 54 := ⟨fun _ _ => by kernel_rfl⟩
instance : HasBody Try.prog 55 := ⟨fun _ _ => by kernel_rfl⟩
instance : HasBody Try.prog 56 := ⟨fun _ _ => by kernel_rfl⟩
instance : HasBody Try.prog 57 := ⟨fun _ _ => by kernel_rfl⟩
instance : HasBody Try.prog 58 := ⟨fun _ _ => by kernel_rfl⟩
instance : HasBody Try.prog 59 := ⟨fun _ _ => by kernel_rfl⟩
instance : HasBody Try.prog 60 := ⟨fun _ _ => by kernel_rfl⟩
instance : HasBody Try.prog 61 := ⟨fun _ _ => by kernel_rfl⟩
instance : HasBody Try.prog 62 := ⟨fun _ _ => by kernel_rfl⟩
instance : HasBody Try.prog 63 := ⟨fun _ _ => by kernel_rfl⟩
instance : HasBody Try.prog 64 := ⟨fun _ _ => by kernel_rfl⟩
instance : HasBody Try.prog 65 := ⟨fun _ _ => by kernel_rfl⟩
instance : HasBody Try.prog 66 := ⟨fun _ _ => by kernel_rfl⟩
instance : HasBody Try.prog 67 := ⟨fun _ _ => by kernel_rfl⟩
instance : HasBody Try.prog 68 := ⟨fun _ _ => by kernel_rfl⟩
instance : HasBody Try.prog 69 := ⟨fun _ _ => by kernel_rfl⟩
instance : HasBody Try.prog 70 := ⟨fun _ _ => by kernel_rfl⟩
instance : HasBody Try.prog 71 := ⟨fun _ _ => by kernel_rfl⟩
instance : HasBody Try.prog 72 := ⟨fun _ _ => by kernel_rfl⟩
instance : HasBody Try.prog 73 := ⟨fun _ _ => by kernel_rfl⟩
instance : HasBody Try.prog 74 := ⟨fun _ _ => by kernel_rfl⟩
instance : HasBody Try.prog 75 := ⟨fun _ _ => by kernel_rfl⟩
instance : HasBody Try.prog 76 := ⟨fun _ _ => by kernel_rfl⟩
instance : HasBody Try.prog 77 := ⟨fun _ _ => by kernel_rfl⟩
instance : HasBody Try.prog 78 := ⟨fun _ _ => by kernel_rfl⟩
instance : HasBody Try.prog 79 := ⟨fun _ _ => by kernel_rfl⟩
instance : HasBody Try.prog 80 := ⟨fun _ _ => by kernel_rfl⟩
instance : HasBody Try.prog 81 := ⟨fun _ _ => by kernel_rfl⟩
instance : HasBody Try.prog 82 := ⟨fun _ _ => by kernel_rfl⟩
instance : HasBody Try.prog 83 := ⟨fun _ _ => by kernel_rfl⟩
instance : HasBody Try.prog 84 := ⟨fun _ _ => by kernel_rfl⟩
instance : HasBody Try.prog 85 := ⟨fun _ _ => by kernel_rfl⟩
instance : HasBody Try.prog 86 := ⟨fun _ _ => by kernel_rfl⟩
instance : HasBody Try.prog 87 := ⟨fun _ _ => by kernel_rfl⟩
instance : HasBody Try.prog 88 := ⟨fun _ _ => by kernel_rfl⟩
instance : HasBody Try.prog 89 := ⟨fun _ _ => by kernel_rfl⟩
instance : HasBody Try.prog 90 := ⟨fun _ _ => by kernel_rfl⟩
instance : HasBody Try.prog 91 := ⟨fun _ _ => by kernel_rfl⟩
instance : HasBody Try.prog 92 := ⟨fun _ _ => by kernel_rfl⟩
instance : HasBody Try.prog 93 := ⟨fun _ _ => by kernel_rfl⟩
instance : HasBody Try.prog 94 := ⟨fun _ _ => by kernel_rfl⟩
instance : HasBody Try.prog 95 := ⟨fun _ _ => by kernel_rfl⟩
instance : HasBody Try.prog 96 := ⟨fun _ _ => by kernel_rfl⟩
instance : HasBody Try.prog 97 := ⟨fun _ _ => by kernel_rfl⟩
instance : HasBody Try.prog 98 := ⟨fun _ _ => by kernel_rfl⟩
instance : HasBody Try.prog 99 := ⟨fun _ _ => by kernel_rfl⟩
instance : HasBody Try.prog 100 := ⟨fun _ _ => by kernel_rfl⟩
instance : HasBody Try.prog 101 := ⟨fun _ _ => by kernel_rfl⟩
instance : HasBody Try.prog 102 := ⟨fun _ _ => by kernel_rfl⟩
instance : HasBody Try.prog 103 := ⟨fun _ _ => by kernel_rfl⟩
instance : HasBody Try.prog 104 := ⟨fun _ _ => by kernel_rfl⟩
instance : HasBody Try.prog 105 := ⟨fun _ _ => by kernel_rfl⟩
instance : HasBody Try.prog 106 := ⟨fun _ _ => by kernel_rfl⟩
instance : HasBody Try.prog 107 := ⟨fun _ _ => by kernel_rfl⟩
instance : HasBody Try.prog 108 := ⟨fun _ _ => by kernel_rfl⟩
instance : HasBody Try.prog 109 := ⟨fun _ _ => by kernel_rfl⟩
instance : HasBody Try.prog 110 := ⟨fun _ _ => by kernel_rfl⟩
instance : HasBody Try.prog 111 := ⟨fun _ _ => by kernel_rfl⟩
instance : HasBody Try.prog 112 := ⟨fun _ _ => by kernel_rfl⟩
instance : HasBody Try.prog 113 := ⟨fun _ _ => by kernel_rfl⟩
instance : HasBody Try.prog 114 := ⟨fun _ _ => by kernel_rfl⟩
instance : HasBody Try.prog 115 := ⟨fun _ _ => by kernel_rfl⟩
instance : HasBody Try.prog 116 := ⟨fun _ _ => by kernel_rfl⟩
instance : HasBody Try.prog 117 := ⟨fun _ _ => by kernel_rfl⟩
instance : HasBody Try.prog 118 := ⟨fun _ _ => by kernel_rfl⟩
instance : HasBody Try.prog 119 := ⟨fun _ _ => by kernel_rfl⟩
instance : HasBody Try.prog 120 := ⟨fun _ _ => by kernel_rfl⟩
instance : HasBody Try.prog 121 := ⟨fun _ _ => by kernel_rfl⟩
instance : HasBody Try.prog 122 := ⟨fun _ _ => by kernel_rfl⟩
instance : HasBody Try.prog 123 := ⟨fun _ _ => by kernel_rfl⟩
instance : HasBody Try.prog 124 := ⟨fun _ _ => by kernel_rfl⟩
instance : HasBody Try.prog 125 := ⟨fun _ _ => by kernel_rfl⟩
instance : HasBody Try.prog 126 := ⟨fun _ _ => by kernel_rfl⟩
instance : HasBody Try.prog 127 := ⟨fun _ _ => by kernel_rfl⟩
instance : HasBody Try.prog 128 := ⟨fun _ _ => by kernel_rfl⟩
instance : HasBody Try.prog 129 := ⟨fun _ _ => by kernel_rfl⟩
instance : HasBody Try.prog 130 := ⟨fun _ _ => by kernel_rfl⟩
instance : HasBody Try.prog 131 := ⟨fun _ _ => by kernel_rfl⟩
instance : HasBody Try.prog 132 := ⟨fun _ _ => by kernel_rfl⟩
instance : HasBody Try.prog 133 := ⟨fun _ _ => by kernel_rfl⟩
instance : HasBody Try.prog 134 := ⟨fun _ _ => by kernel_rfl⟩
instance : HasBody Try.prog 135 := ⟨fun _ _ => by kernel_rfl⟩
instance : HasBody Try.prog 136 := ⟨fun _ _ => by kernel_rfl⟩
instance : HasBody Try.prog 137 := ⟨fun _ _ => by kernel_rfl⟩
instance : HasBody Try.prog 138 := ⟨fun _ _ => by kernel_rfl⟩
instance : HasBody Try.prog 139 := ⟨fun _ _ => by kernel_rfl⟩
instance : HasBody Try.prog 140 := ⟨fun _ _ => by kernel_rfl⟩
instance : HasBody Try.prog 141 := ⟨fun _ _ => by kernel_rfl⟩
instance : HasBody Try.prog 142 := ⟨fun _ _ => by kernel_rfl⟩
instance : HasBody Try.prog 143 := ⟨fun _ _ => by kernel_rfl⟩
instance : HasBody Try.prog 144 := ⟨fun _ _ => by kernel_rfl⟩
instance : HasBody Try.prog 145 := ⟨fun _ _ => by kernel_rfl⟩
instance : HasBody Try.prog 146 := ⟨fun _ _ => by kernel_rfl⟩
instance : HasBody Try.prog 147 := ⟨fun _ _ => by kernel_rfl⟩
instance : HasBody Try.prog 148 := ⟨fun _ _ => by kernel_rfl⟩
instance : HasBody Try.prog 149 := ⟨fun _ _ => by kernel_rfl⟩
instance : HasBody Try.prog 150 := ⟨fun _ _ => by kernel_rfl⟩
instance : HasBody Try.prog 151 := ⟨fun _ _ => by kernel_rfl⟩
instance : HasBody Try.prog 152 := ⟨fun _ _ => by kernel_rfl⟩
instance : HasBody Try.prog 153 := ⟨fun _ _ => by kernel_rfl⟩
instance : HasBody Try.prog 154 := ⟨fun _ _ => by kernel_rfl⟩
instance : HasBody Try.prog 155 := ⟨fun _ _ => by kernel_rfl⟩
instance : HasBody Try.prog 156 := ⟨fun _ _ => by kernel_rfl⟩
instance : HasBody Try.prog 157 := ⟨fun _ _ => by kernel_rfl⟩
instance : HasBody Try.prog 158 := ⟨fun _ _ => by kernel_rfl⟩
instance : HasBody Try.prog 159 := ⟨fun _ _ => by kernel_rfl⟩
instance : HasBody Try.prog 160 := ⟨fun _ _ => by kernel_rfl⟩
instance : HasBody Try.prog 161 := ⟨fun _ _ => by kernel_rfl⟩
theorem Try.mixed : Try.prog.follows .mixedOrders = true := by kernel_rfl
end Go.Proofs.Ytilbolgncpfmmaa.Px
