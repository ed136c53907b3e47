/- The types of this program; little-endian numbers. Part 4 of 13 of the proof of SlotsPlays; no condition. -/
import Derived.Test.YtmjaepaakpaadaaDoorWalkC
import Derived.Test.YtmjaepaakpaadaaDoorProg
import Derived.KernelRfl
set_option linter.unusedVariables false
namespace Go.Proofs
set_option linter.unusedSimpArgs false
set_option linter.unnecessarySimpa false
open Go Go.Sl
theorem mixedT : Tryd.prog.follows .mixedOrders = true := by rfl
instance : CellTy Tryd.prog 1 := ⟨Tryd.isAgg1, Tryd.sizeOf1⟩
instance : SizeTy Tryd.prog 1 1 := ⟨Tryd.sizeOf1⟩
instance : ZeroTy Tryd.prog 1 [.nilFunc] := ⟨_, Tryd.zeroValue1, rfl⟩
instance : CellTy Tryd.prog 2 := ⟨Tryd.isAgg2, Tryd.sizeOf2⟩
instance : SizeTy Tryd.prog 2 1 := ⟨Tryd.sizeOf2⟩
instance : ZeroTy Tryd.prog 2 [(.int .i64 0)] := ⟨_, Tryd.zeroValue2, rfl⟩
instance : UndTy Tryd.prog 2 (.int .i64) := ⟨Tryd.underlying2⟩
instance : CellTy Tryd.prog 3 := ⟨Tryd.isAgg3, Tryd.sizeOf3⟩
instance : SizeTy Tryd.prog 3 1 := ⟨Tryd.sizeOf3⟩
instance : ZeroTy Tryd.prog 3 [(.int .i64 0)] := ⟨_, Tryd.zeroValue3, rfl⟩
instance : UndTy Tryd.prog 3 (.int .i64) := ⟨Tryd.underlying3⟩
instance : CellTy Tryd.prog 4 := ⟨Tryd.isAgg4, Tryd.sizeOf4⟩
instance : SizeTy Tryd.prog 4 1 := ⟨Tryd.sizeOf4⟩
instance : ZeroTy Tryd.prog 4 [(.bool false)] := ⟨_, Tryd.zeroValue4, rfl⟩
instance : UndTy Tryd.prog 4 .bool := ⟨Tryd.underlying4⟩
instance : CellTy Tryd.prog 5 := ⟨Tryd.isAgg5, Tryd.sizeOf5⟩
instance : SizeTy Tryd.prog 5 1 := ⟨Tryd.sizeOf5⟩
instance : ZeroTy Tryd.prog 5 [(.int .u8 0)] := ⟨_, Tryd.zeroValue5, rfl⟩
instance : UndTy Tryd.prog 5 (.int .u8) := ⟨Tryd.underlying5⟩
instance : CellTy Tryd.prog 6 := ⟨Tryd.isAgg6, Tryd.sizeOf6⟩
instance : SizeTy Tryd.prog 6 1 := ⟨Tryd.sizeOf6⟩
instance : ZeroTy Tryd.prog 6 [(.int .u8 0)] := ⟨_, Tryd.zeroValue6, rfl⟩
instance : UndTy Tryd.prog 6 (.int .u8) := ⟨Tryd.underlying6⟩
instance : AggTy Tryd.prog 7 4 := ⟨Tryd.isAgg7, Tryd.sizeOf7⟩
instance : SizeTy Tryd.prog 7 4 := ⟨Tryd.sizeOf7⟩
instance : ZeroTy Tryd.prog 7 [(.int .i64 0), (.int .i64 0), (.bool false), (.int .u8 0)] := ⟨_, Tryd.zeroValue7, by kernel_rfl⟩
instance : FieldTy Tryd.prog 7 0 0 2 := ⟨⟨_, _, Tryd.underlying7, rfl, rfl, rfl⟩, 1, by decide, Tryd.sizeOf2⟩
instance : FieldTy Tryd.prog 7 1 1 3 := ⟨⟨_, _, Tryd.underlying7, rfl, rfl, rfl⟩, 1, by decide, Tryd.sizeOf3⟩
instance : FieldTy Tryd.prog 7 2 2 4 := ⟨⟨_, _, Tryd.underlying7, rfl, rfl, rfl⟩, 1, by decide, Tryd.sizeOf4⟩
instance : FieldTy Tryd.prog 7 3 3 6 := ⟨⟨_, _, Tryd.underlying7, rfl, rfl, rfl⟩, 1, by decide, Tryd.sizeOf6⟩
instance : StructTy Tryd.prog 7 [(0, 1), (1, 1), (2, 1), (3, 1)] [(.int .i64 0), (.int .i64 0), (.bool false), (.int .u8 0)] := ⟨⟨_, Tryd.underlying7, fun w => by rw [Array.mapM_eq_mapM_toList]; simp only [List.mapM_cons, List.mapM_nil, Sem.run_bind, Sem.run_pure, Sem.run_map, Result.andThen_ok, Tryd.sizeOf2, Tryd.sizeOf3, Tryd.sizeOf4, Tryd.sizeOf6]⟩, _, Tryd.zeroValue7, by kernel_rfl⟩
instance : AggTy Tryd.prog 8 4 := ⟨Tryd.isAgg8, Tryd.sizeOf8⟩
instance : SizeTy Tryd.prog 8 4 := ⟨Tryd.sizeOf8⟩
instance : ZeroTy Tryd.prog 8 [(.int .i64 0), (.int .i64 0), (.bool false), (.int .u8 0)] := ⟨_, Tryd.zeroValue8, by kernel_rfl⟩
instance : FieldTy Tryd.prog 8 0 0 2 := ⟨⟨_, _, Tryd.underlying8, rfl, rfl, rfl⟩, 1, by decide, Tryd.sizeOf2⟩
instance : FieldTy Tryd.prog 8 1 1 3 := ⟨⟨_, _, Tryd.underlying8, rfl, rfl, rfl⟩, 1, by decide, Tryd.sizeOf3⟩
instance : FieldTy Tryd.prog 8 2 2 4 := ⟨⟨_, _, Tryd.underlying8, rfl, rfl, rfl⟩, 1, by decide, Tryd.sizeOf4⟩
instance : FieldTy Tryd.prog 8 3 3 6 := ⟨⟨_, _, Tryd.underlying8, rfl, rfl, rfl⟩, 1, by decide, Tryd.sizeOf6⟩
instance : StructTy Tryd.prog 8 [(0, 1), (1, 1), (2, 1), (3, 1)] [(.int .i64 0), (.int .i64 0), (.bool false), (.int .u8 0)] := ⟨⟨_, Tryd.underlying8, fun w => by rw [Array.mapM_eq_mapM_toList]; simp only [List.mapM_cons, List.mapM_nil, Sem.run_bind, Sem.run_pure, Sem.run_map, Result.andThen_ok, Tryd.sizeOf2, Tryd.sizeOf3, Tryd.sizeOf4, Tryd.sizeOf6]⟩, _, Tryd.zeroValue8, by kernel_rfl⟩
instance : CellTy Tryd.prog 9 := ⟨Tryd.isAgg9, Tryd.sizeOf9⟩
instance : SizeTy Tryd.prog 9 1 := ⟨Tryd.sizeOf9⟩
instance : ZeroTy Tryd.prog 9 [(.string { data := #[] })] := ⟨_, Tryd.zeroValue9, rfl⟩
instance : UndTy Tryd.prog 9 .string := ⟨Tryd.underlying9⟩
instance : CellTy Tryd.prog 10 := ⟨Tryd.isAgg10, Tryd.sizeOf10⟩
instance : SizeTy Tryd.prog 10 1 := ⟨Tryd.sizeOf10⟩
instance : ZeroTy Tryd.prog 10 [(.string { data := #[] })] := ⟨_, Tryd.zeroValue10, rfl⟩
instance : UndTy Tryd.prog 10 .string := ⟨Tryd.underlying10⟩
instance : CellTy Tryd.prog 11 := ⟨Tryd.isAgg11, Tryd.sizeOf11⟩
instance : SizeTy Tryd.prog 11 1 := ⟨Tryd.sizeOf11⟩
instance : ZeroTy Tryd.prog 11 [(.string { data := #[] })] := ⟨_, Tryd.zeroValue11, rfl⟩
instance : UndTy Tryd.prog 11 .string := ⟨Tryd.underlying11⟩
instance : CellTy Tryd.prog 12 := ⟨Tryd.isAgg12, Tryd.sizeOf12⟩
instance : SizeTy Tryd.prog 12 1 := ⟨Tryd.sizeOf12⟩
instance : ZeroTy Tryd.prog 12 [(.int .u64 0)] := ⟨_, Tryd.zeroValue12, rfl⟩
instance : UndTy Tryd.prog 12 (.int .u64) := ⟨Tryd.underlying12⟩
instance : AggTy Tryd.prog 13 2 := ⟨Tryd.isAgg13, Tryd.sizeOf13⟩
instance : SizeTy Tryd.prog 13 2 := ⟨Tryd.sizeOf13⟩
instance : ZeroTy Tryd.prog 13 [(.string { data := #[] }), (.int .u64 0)] := ⟨_, Tryd.zeroValue13, by kernel_rfl⟩
instance : FieldTy Tryd.prog 13 0 0 9 := ⟨⟨_, _, Tryd.underlying13, rfl, rfl, rfl⟩, 1, by decide, Tryd.sizeOf9⟩
instance : FieldTy Tryd.prog 13 1 1 12 := ⟨⟨_, _, Tryd.underlying13, rfl, rfl, rfl⟩, 1, by decide, Tryd.sizeOf12⟩
instance : StructTy Tryd.prog 13 [(0, 1), (1, 1)] [(.string { data := #[] }), (.int .u64 0)] := ⟨⟨_, Tryd.underlying13, fun w => by rw [Array.mapM_eq_mapM_toList]; simp only [List.mapM_cons, List.mapM_nil, Sem.run_bind, Sem.run_pure, Sem.run_map, Result.andThen_ok, Tryd.sizeOf9, Tryd.sizeOf12]⟩, _, Tryd.zeroValue13, by kernel_rfl⟩
instance : AggTy Tryd.prog 14 2 := ⟨Tryd.isAgg14, Tryd.sizeOf14⟩
instance : SizeTy Tryd.prog 14 2 := ⟨Tryd.sizeOf14⟩
instance : ZeroTy Tryd.prog 14 [(.string { data := #[] }), (.int .u64 0)] := ⟨_, Tryd.zeroValue14, by kernel_rfl⟩
instance : FieldTy Tryd.prog 14 0 0 9 := ⟨⟨_, _, Tryd.underlying14, rfl, rfl, rfl⟩, 1, by decide, Tryd.sizeOf9⟩
instance : FieldTy Tryd.prog 14 1 1 12 := ⟨⟨_, _, Tryd.underlying14, rfl, rfl, rfl⟩, 1, by decide, Tryd.sizeOf12⟩
instance : StructTy Tryd.prog 14 [(0, 1), (1, 1)] [(.string { data := #[] }), (.int .u64 0)] := ⟨⟨_, Tryd.underlying14, fun w => by rw [Array.mapM_eq_mapM_toList]; simp only [List.mapM_cons, List.mapM_nil, Sem.run_bind, Sem.run_pure, Sem.run_map, Result.andThen_ok, Tryd.sizeOf9, Tryd.sizeOf12]⟩, _, Tryd.zeroValue14, by kernel_rfl⟩
instance : CellTy Tryd.prog 15 := ⟨Tryd.isAgg15, Tryd.sizeOf15⟩
instance : SizeTy Tryd.prog 15 1 := ⟨Tryd.sizeOf15⟩
instance : ZeroTy Tryd.prog 15 [(.pointer none)] := ⟨_, Tryd.zeroValue15, rfl⟩
instance : UndTy Tryd.prog 15 (.pointer 136) := ⟨Tryd.underlying15⟩
instance : CellTy Tryd.prog 16 := ⟨Tryd.isAgg16, Tryd.sizeOf16⟩
instance : SizeTy Tryd.prog 16 1 := ⟨Tryd.sizeOf16⟩
instance : ZeroTy Tryd.prog 16 [(.pointer none)] := ⟨_, Tryd.zeroValue16, rfl⟩
instance : UndTy Tryd.prog 16 (.pointer 139) := ⟨Tryd.underlying16⟩
instance : CellTy Tryd.prog 17 := ⟨Tryd.isAgg17, Tryd.sizeOf17⟩
instance : SizeTy Tryd.prog 17 1 := ⟨Tryd.sizeOf17⟩
instance : ZeroTy Tryd.prog 17 [(.pointer none)] := ⟨_, Tryd.zeroValue17, rfl⟩
instance : UndTy Tryd.prog 17 (.pointer 147) := ⟨Tryd.underlying17⟩
instance : AggTy Tryd.prog 18 1 := ⟨Tryd.isAgg18, Tryd.sizeOf18⟩
instance : SizeTy Tryd.prog 18 1 := ⟨Tryd.sizeOf18⟩
instance : ZeroTy Tryd.prog 18 [(.pointer none)] := ⟨_, Tryd.zeroValue18, by kernel_rfl⟩
instance : FieldTy Tryd.prog 18 0 0 17 := ⟨⟨_, _, Tryd.underlying18, rfl, rfl, rfl⟩, 1, by decide, Tryd.sizeOf17⟩
instance : StructTy Tryd.prog 18 [(0, 1)] [(.pointer none)] := ⟨⟨_, Tryd.underlying18, fun w => by rw [Array.mapM_eq_mapM_toList]; simp only [List.mapM_cons, List.mapM_nil, Sem.run_bind, Sem.run_pure, Sem.run_map, Result.andThen_ok, Tryd.sizeOf17]⟩, _, Tryd.zeroValue18, by kernel_rfl⟩
instance : AggTy Tryd.prog 19 1 := ⟨Tryd.isAgg19, Tryd.sizeOf19⟩
instance : SizeTy Tryd.prog 19 1 := ⟨Tryd.sizeOf19⟩
instance : ZeroTy Tryd.prog 19 [(.pointer none)] := ⟨_, Tryd.zeroValue19, by kernel_rfl⟩
instance : FieldTy Tryd.prog 19 0 0 17 := ⟨⟨_, _, Tryd.underlying19, rfl, rfl, rfl⟩, 1, by decide, Tryd.sizeOf17⟩
instance : StructTy Tryd.prog 19 [(0, 1)] [(.pointer none)] := ⟨⟨_, Tryd.underlying19, fun w => by rw [Array.mapM_eq_mapM_toList]; simp only [List.mapM_cons, List.mapM_nil, Sem.run_bind, Sem.run_pure, Sem.run_map, Result.andThen_ok, Tryd.sizeOf17]⟩, _, Tryd.zeroValue19, by kernel_rfl⟩
instance : CellTy Tryd.prog 20 := ⟨Tryd.isAgg20, Tryd.sizeOf20⟩
instance : SizeTy Tryd.prog 20 1 := ⟨Tryd.sizeOf20⟩
instance : ZeroTy Tryd.prog 20 [.nilIface] := ⟨_, Tryd.zeroValue20, rfl⟩
instance : CellTy Tryd.prog 21 := ⟨Tryd.isAgg21, Tryd.sizeOf21⟩
instance : SizeTy Tryd.prog 21 1 := ⟨Tryd.sizeOf21⟩
instance : ZeroTy Tryd.prog 21 [(.int .i32 0)] := ⟨_, Tryd.zeroValue21, rfl⟩
instance : UndTy Tryd.prog 21 (.int .i32) := ⟨Tryd.underlying21⟩
instance : CellTy Tryd.prog 22 := ⟨Tryd.isAgg22, Tryd.sizeOf22⟩
instance : SizeTy Tryd.prog 22 1 := ⟨Tryd.sizeOf22⟩
instance : ZeroTy Tryd.prog 22 [(.slice none 0 0)] := ⟨_, Tryd.zeroValue22, rfl⟩
instance : SliceTy Tryd.prog 22 39 5 72 := ⟨Tryd.underlying22, ⟨Tryd.t39, (Tryd.t39.zero).getD undef, by kernel_rfl, by kernel_rfl, by kernel_rfl, by kernel_rfl, by kernel_rfl⟩, by decide⟩
instance : CellTy Tryd.prog 23 := ⟨Tryd.isAgg23, Tryd.sizeOf23⟩
instance : SizeTy Tryd.prog 23 1 := ⟨Tryd.sizeOf23⟩
instance : ZeroTy Tryd.prog 23 [.nilFunc] := ⟨_, Tryd.zeroValue23, rfl⟩
instance : CellTy Tryd.prog 24 := ⟨Tryd.isAgg24, Tryd.sizeOf24⟩
instance : SizeTy Tryd.prog 24 1 := ⟨Tryd.sizeOf24⟩
instance : ZeroTy Tryd.prog 24 [.nilFunc] := ⟨_, Tryd.zeroValue24, rfl⟩
instance : CellTy Tryd.prog 25 := ⟨Tryd.isAgg25, Tryd.sizeOf25⟩
instance : SizeTy Tryd.prog 25 1 := ⟨Tryd.sizeOf25⟩
instance : ZeroTy Tryd.prog 25 [(.pointer none)] := ⟨_, Tryd.zeroValue25, rfl⟩
instance : UndTy Tryd.prog 25 (.pointer 61) := ⟨Tryd.underlying25⟩
instance : CellTy Tryd.prog 26 := ⟨Tryd.isAgg26, Tryd.sizeOf26⟩
instance : SizeTy Tryd.prog 26 1 := ⟨Tryd.sizeOf26⟩
instance : ZeroTy Tryd.prog 26 [.nilFunc] := ⟨_, Tryd.zeroValue26, rfl⟩
instance : CellTy Tryd.prog 27 := ⟨Tryd.isAgg27, Tryd.sizeOf27⟩
instance : SizeTy Tryd.prog 27 1 := ⟨Tryd.sizeOf27⟩
instance : ZeroTy Tryd.prog 27 [(.pointer none)] := ⟨_, Tryd.zeroValue27, rfl⟩
instance : UndTy Tryd.prog 27 (.pointer 54) := ⟨Tryd.underlying27⟩
instance : CellTy Tryd.prog 28 := ⟨Tryd.isAgg28, Tryd.sizeOf28⟩
instance : SizeTy Tryd.prog 28 1 := ⟨Tryd.sizeOf28⟩
instance : ZeroTy Tryd.prog 28 [.nilFunc] := ⟨_, Tryd.zeroValue28, rfl⟩
instance : CellTy Tryd.prog 29 := ⟨Tryd.isAgg29, Tryd.sizeOf29⟩
instance : SizeTy Tryd.prog 29 1 := ⟨Tryd.sizeOf29⟩
instance : ZeroTy Tryd.prog 29 [(.pointer none)] := ⟨_, Tryd.zeroValue29, rfl⟩
instance : UndTy Tryd.prog 29 (.pointer 65) := ⟨Tryd.underlying29⟩
instance : CellTy Tryd.prog 30 := ⟨Tryd.isAgg30, Tryd.sizeOf30⟩
instance : SizeTy Tryd.prog 30 1 := ⟨Tryd.sizeOf30⟩
instance : ZeroTy Tryd.prog 30 [(.int .i64 0)] := ⟨_, Tryd.zeroValue30, rfl⟩
instance : UndTy Tryd.prog 30 (.int .i64) := ⟨Tryd.underlying30⟩
instance : CellTy Tryd.prog 32 := ⟨Tryd.isAgg32, Tryd.sizeOf32⟩
instance : SizeTy Tryd.prog 32 1 := ⟨Tryd.sizeOf32⟩
instance : ZeroTy Tryd.prog 32 [.nilFunc] := ⟨_, Tryd.zeroValue32, rfl⟩
instance : CellTy Tryd.prog 33 := ⟨Tryd.isAgg33, Tryd.sizeOf33⟩
instance : SizeTy Tryd.prog 33 1 := ⟨Tryd.sizeOf33⟩
instance : ZeroTy Tryd.prog 33 [(.pointer none)] := ⟨_, Tryd.zeroValue33, rfl⟩
instance : UndTy Tryd.prog 33 (.pointer 47) := ⟨Tryd.underlying33⟩
instance : CellTy Tryd.prog 35 := ⟨Tryd.isAgg35, Tryd.sizeOf35⟩
instance : SizeTy Tryd.prog 35 1 := ⟨Tryd.sizeOf35⟩
instance : ZeroTy Tryd.prog 35 [.nilFunc] := ⟨_, Tryd.zeroValue35, rfl⟩
instance : CellTy Tryd.prog 36 := ⟨Tryd.isAgg36, Tryd.sizeOf36⟩
instance : SizeTy Tryd.prog 36 1 := ⟨Tryd.sizeOf36⟩
instance : ZeroTy Tryd.prog 36 [(.slice none 0 0)] := ⟨_, Tryd.zeroValue36, rfl⟩
instance : SliceTy Tryd.prog 36 5 1 1 := ⟨Tryd.underlying36, ⟨Tryd.t5, (Tryd.t5.zero).getD undef, by kernel_rfl, by kernel_rfl, by kernel_rfl, by kernel_rfl, by kernel_rfl⟩, by decide⟩
instance : CellTy Tryd.prog 37 := ⟨Tryd.isAgg37, Tryd.sizeOf37⟩
instance : SizeTy Tryd.prog 37 1 := ⟨Tryd.sizeOf37⟩
instance : ZeroTy Tryd.prog 37 [(.slice none 0 0)] := ⟨_, Tryd.zeroValue37, rfl⟩
instance : SliceTy Tryd.prog 37 4 1 1 := ⟨Tryd.underlying37, ⟨Tryd.t4, (Tryd.t4.zero).getD undef, by kernel_rfl, by kernel_rfl, by kernel_rfl, by kernel_rfl, by kernel_rfl⟩, by decide⟩
instance : AggTy Tryd.prog 38 5 := ⟨Tryd.isAgg38, Tryd.sizeOf38⟩
instance : SizeTy Tryd.prog 38 5 := ⟨Tryd.sizeOf38⟩
instance : ZeroTy Tryd.prog 38 [(.int .i64 0), (.int .i64 0), (.int .i64 0), (.slice none 0 0), (.slice none 0 0)] := ⟨_, Tryd.zeroValue38, by kernel_rfl⟩
instance : FieldTy Tryd.prog 38 0 0 3 := ⟨⟨_, _, Tryd.underlying38, rfl, rfl, rfl⟩, 1, by decide, Tryd.sizeOf3⟩
instance : FieldTy Tryd.prog 38 1 1 3 := ⟨⟨_, _, Tryd.underlying38, rfl, rfl, rfl⟩, 1, by decide, Tryd.sizeOf3⟩
instance : FieldTy Tryd.prog 38 2 2 3 := ⟨⟨_, _, Tryd.underlying38, rfl, rfl, rfl⟩, 1, by decide, Tryd.sizeOf3⟩
instance : FieldTy Tryd.prog 38 3 3 36 := ⟨⟨_, _, Tryd.underlying38, rfl, rfl, rfl⟩, 1, by decide, Tryd.sizeOf36⟩
instance : FieldTy Tryd.prog 38 4 4 37 := ⟨⟨_, _, Tryd.underlying38, rfl, rfl, rfl⟩, 1, by decide, Tryd.sizeOf37⟩
instance : StructTy Tryd.prog 38 [(0, 1), (1, 1), (2, 1), (3, 1), (4, 1)] [(.int .i64 0), (.int .i64 0), (.int .i64 0), (.slice none 0 0), (.slice none 0 0)] := ⟨⟨_, Tryd.underlying38, fun w => by rw [Array.mapM_eq_mapM_toList]; simp only [List.mapM_cons, List.mapM_nil, Sem.run_bind, Sem.run_pure, Sem.run_map, Result.andThen_ok, Tryd.sizeOf3, Tryd.sizeOf36, Tryd.sizeOf37]⟩, _, Tryd.zeroValue38, by kernel_rfl⟩
instance : AggTy Tryd.prog 39 5 := ⟨Tryd.isAgg39, Tryd.sizeOf39⟩
instance : SizeTy Tryd.prog 39 5 := ⟨Tryd.sizeOf39⟩
instance : ZeroTy Tryd.prog 39 [(.int .i64 0), (.int .i64 0), (.int .i64 0), (.slice none 0 0), (.slice none 0 0)] := ⟨_, Tryd.zeroValue39, by kernel_rfl⟩
instance : FieldTy Tryd.prog 39 0 0 3 := ⟨⟨_, _, Tryd.underlying39, rfl, rfl, rfl⟩, 1, by decide, Tryd.sizeOf3⟩
instance : FieldTy Tryd.prog 39 1 1 3 := ⟨⟨_, _, Tryd.underlying39, rfl, rfl, rfl⟩, 1, by decide, Tryd.sizeOf3⟩
instance : FieldTy Tryd.prog 39 2 2 3 := ⟨⟨_, _, Tryd.underlying39, rfl, rfl, rfl⟩, 1, by decide, Tryd.sizeOf3⟩
instance : FieldTy Tryd.prog 39 3 3 36 := ⟨⟨_, _, Tryd.underlying39, rfl, rfl, rfl⟩, 1, by decide, Tryd.sizeOf36⟩
instance : FieldTy Tryd.prog 39 4 4 37 := ⟨⟨_, _, Tryd.underlying39, rfl, rfl, rfl⟩, 1, by decide, Tryd.sizeOf37⟩
instance : StructTy Tryd.prog 39 [(0, 1), (1, 1), (2, 1), (3, 1), (4, 1)] [(.int .i64 0), (.int .i64 0), (.int .i64 0), (.slice none 0 0), (.slice none 0 0)] := ⟨⟨_, Tryd.underlying39, fun w => by rw [Array.mapM_eq_mapM_toList]; simp only [List.mapM_cons, List.mapM_nil, Sem.run_bind, Sem.run_pure, Sem.run_map, Result.andThen_ok, Tryd.sizeOf3, Tryd.sizeOf36, Tryd.sizeOf37]⟩, _, Tryd.zeroValue39, by kernel_rfl⟩
instance : CellTy Tryd.prog 40 := ⟨Tryd.isAgg40, Tryd.sizeOf40⟩
instance : SizeTy Tryd.prog 40 1 := ⟨Tryd.sizeOf40⟩
instance : ZeroTy Tryd.prog 40 [.nilFunc] := ⟨_, Tryd.zeroValue40, rfl⟩
instance : CellTy Tryd.prog 41 := ⟨Tryd.isAgg41, Tryd.sizeOf41⟩
instance : SizeTy Tryd.prog 41 1 := ⟨Tryd.sizeOf41⟩
instance : ZeroTy Tryd.prog 41 [.nilFunc] := ⟨_, Tryd.zeroValue41, rfl⟩
instance : CellTy Tryd.prog 42 := ⟨Tryd.isAgg42, Tryd.sizeOf42⟩
instance : SizeTy Tryd.prog 42 1 := ⟨Tryd.sizeOf42⟩
instance : ZeroTy Tryd.prog 42 [.nilFunc] := ⟨_, Tryd.zeroValue42, rfl⟩
instance : CellTy Tryd.prog 43 := ⟨Tryd.isAgg43, Tryd.sizeOf43⟩
instance : SizeTy Tryd.prog 43 1 := ⟨Tryd.sizeOf43⟩
instance : ZeroTy Tryd.prog 43 [.nilFunc] := ⟨_, Tryd.zeroValue43, rfl⟩
instance : CellTy Tryd.prog 44 := ⟨Tryd.isAgg44, Tryd.sizeOf44⟩
instance : SizeTy Tryd.prog 44 1 := ⟨Tryd.sizeOf44⟩
instance : ZeroTy Tryd.prog 44 [.nilFunc] := ⟨_, Tryd.zeroValue44, rfl⟩
instance : CellTy Tryd.prog 45 := ⟨Tryd.isAgg45, Tryd.sizeOf45⟩
instance : SizeTy Tryd.prog 45 1 := ⟨Tryd.sizeOf45⟩
instance : ZeroTy Tryd.prog 45 [.nilFunc] := ⟨_, Tryd.zeroValue45, rfl⟩
instance : AggTy Tryd.prog 46 4 := ⟨Tryd.isAgg46, Tryd.sizeOf46⟩
instance : SizeTy Tryd.prog 46 4 := ⟨Tryd.sizeOf46⟩
instance : ZeroTy Tryd.prog 46 [(.pointer none), (.int .i64 0), (.bool false), (.slice none 0 0)] := ⟨_, Tryd.zeroValue46, by kernel_rfl⟩
instance : FieldTy Tryd.prog 46 0 0 27 := ⟨⟨_, _, Tryd.underlying46, rfl, rfl, rfl⟩, 1, by decide, Tryd.sizeOf27⟩
instance : FieldTy Tryd.prog 46 1 1 3 := ⟨⟨_, _, Tryd.underlying46, rfl, rfl, rfl⟩, 1, by decide, Tryd.sizeOf3⟩
instance : FieldTy Tryd.prog 46 2 2 4 := ⟨⟨_, _, Tryd.underlying46, rfl, rfl, rfl⟩, 1, by decide, Tryd.sizeOf4⟩
instance : FieldTy Tryd.prog 46 3 3 36 := ⟨⟨_, _, Tryd.underlying46, rfl, rfl, rfl⟩, 1, by decide, Tryd.sizeOf36⟩
instance : StructTy Tryd.prog 46 [(0, 1), (1, 1), (2, 1), (3, 1)] [(.pointer none), (.int .i64 0), (.bool false), (.slice none 0 0)] := ⟨⟨_, Tryd.underlying46, fun w => by rw [Array.mapM_eq_mapM_toList]; simp only [List.mapM_cons, List.mapM_nil, Sem.run_bind, Sem.run_pure, Sem.run_map, Result.andThen_ok, Tryd.sizeOf3, Tryd.sizeOf4, Tryd.sizeOf27, Tryd.sizeOf36]⟩, _, Tryd.zeroValue46, by kernel_rfl⟩
instance : AggTy Tryd.prog 47 4 := ⟨Tryd.isAgg47, Tryd.sizeOf47⟩
instance : SizeTy Tryd.prog 47 4 := ⟨Tryd.sizeOf47⟩
instance : ZeroTy Tryd.prog 47 [(.pointer none), (.int .i64 0), (.bool false), (.slice none 0 0)] := ⟨_, Tryd.zeroValue47, by kernel_rfl⟩
instance : FieldTy Tryd.prog 47 0 0 27 := ⟨⟨_, _, Tryd.underlying47, rfl, rfl, rfl⟩, 1, by decide, Tryd.sizeOf27⟩
instance : FieldTy Tryd.prog 47 1 1 3 := ⟨⟨_, _, Tryd.underlying47, rfl, rfl, rfl⟩, 1, by decide, Tryd.sizeOf3⟩
instance : FieldTy Tryd.prog 47 2 2 4 := ⟨⟨_, _, Tryd.underlying47, rfl, rfl, rfl⟩, 1, by decide, Tryd.sizeOf4⟩
instance : FieldTy Tryd.prog 47 3 3 36 := ⟨⟨_, _, Tryd.underlying47, rfl, rfl, rfl⟩, 1, by decide, Tryd.sizeOf36⟩
instance : StructTy Tryd.prog 47 [(0, 1), (1, 1), (2, 1), (3, 1)] [(.pointer none), (.int .i64 0), (.bool false), (.slice none 0 0)] := ⟨⟨_, Tryd.underlying47, fun w => by rw [Array.mapM_eq_mapM_toList]; simp only [List.mapM_cons, List.mapM_nil, Sem.run_bind, Sem.run_pure, Sem.run_map, Result.andThen_ok, Tryd.sizeOf3, Tryd.sizeOf4, Tryd.sizeOf27, Tryd.sizeOf36]⟩, _, Tryd.zeroValue47, by kernel_rfl⟩
instance : CellTy Tryd.prog 48 := ⟨Tryd.isAgg48, Tryd.sizeOf48⟩
instance : SizeTy Tryd.prog 48 1 := ⟨Tryd.sizeOf48⟩
instance : ZeroTy Tryd.prog 48 [.nilFunc] := ⟨_, Tryd.zeroValue48, rfl⟩
instance : CellTy Tryd.prog 49 := ⟨Tryd.isAgg49, Tryd.sizeOf49⟩
instance : SizeTy Tryd.prog 49 1 := ⟨Tryd.sizeOf49⟩
instance : ZeroTy Tryd.prog 49 [.nilFunc] := ⟨_, Tryd.zeroValue49, rfl⟩
instance : CellTy Tryd.prog 50 := ⟨Tryd.isAgg50, Tryd.sizeOf50⟩
instance : SizeTy Tryd.prog 50 1 := ⟨Tryd.sizeOf50⟩
instance : ZeroTy Tryd.prog 50 [.nilFunc] := ⟨_, Tryd.zeroValue50, rfl⟩
instance : CellTy Tryd.prog 51 := ⟨Tryd.isAgg51, Tryd.sizeOf51⟩
instance : SizeTy Tryd.prog 51 1 := ⟨Tryd.sizeOf51⟩
instance : ZeroTy Tryd.prog 51 [(.slice none 0 0)] := ⟨_, Tryd.zeroValue51, rfl⟩
instance : SliceTy Tryd.prog 51 36 1 24 := ⟨Tryd.underlying51, ⟨Tryd.t36, (Tryd.t36.zero).getD undef, by kernel_rfl, by kernel_rfl, by kernel_rfl, by kernel_rfl, by kernel_rfl⟩, by decide⟩
instance : CellTy Tryd.prog 52 := ⟨Tryd.isAgg52, Tryd.sizeOf52⟩
instance : SizeTy Tryd.prog 52 1 := ⟨Tryd.sizeOf52⟩
instance : ZeroTy Tryd.prog 52 [.nilFunc] := ⟨_, Tryd.zeroValue52, rfl⟩
instance : AggTy Tryd.prog 53 4 := ⟨Tryd.isAgg53, Tryd.sizeOf53⟩
instance : SizeTy Tryd.prog 53 4 := ⟨Tryd.sizeOf53⟩
instance : ZeroTy Tryd.prog 53 [(.slice none 0 0), (.slice none 0 0), (.slice none 0 0), (.int .i64 0)] := ⟨_, Tryd.zeroValue53, by kernel_rfl⟩
instance : FieldTy Tryd.prog 53 0 0 51 := ⟨⟨_, _, Tryd.underlying53, rfl, rfl, rfl⟩, 1, by decide, Tryd.sizeOf51⟩
instance : FieldTy Tryd.prog 53 1 1 51 := ⟨⟨_, _, Tryd.underlying53, rfl, rfl, rfl⟩, 1, by decide, Tryd.sizeOf51⟩
instance : FieldTy Tryd.prog 53 2 2 37 := ⟨⟨_, _, Tryd.underlying53, rfl, rfl, rfl⟩, 1, by decide, Tryd.sizeOf37⟩
instance : FieldTy Tryd.prog 53 3 3 3 := ⟨⟨_, _, Tryd.underlying53, rfl, rfl, rfl⟩, 1, by decide, Tryd.sizeOf3⟩
instance : StructTy Tryd.prog 53 [(0, 1), (1, 1), (2, 1), (3, 1)] [(.slice none 0 0), (.slice none 0 0), (.slice none 0 0), (.int .i64 0)] := ⟨⟨_, Tryd.underlying53, fun w => by rw [Array.mapM_eq_mapM_toList]; simp only [List.mapM_cons, List.mapM_nil, Sem.run_bind, Sem.run_pure, Sem.run_map, Result.andThen_ok, Tryd.sizeOf3, Tryd.sizeOf37, Tryd.sizeOf51]⟩, _, Tryd.zeroValue53, by kernel_rfl⟩
instance : AggTy Tryd.prog 54 4 := ⟨Tryd.isAgg54, Tryd.sizeOf54⟩
instance : SizeTy Tryd.prog 54 4 := ⟨Tryd.sizeOf54⟩
instance : ZeroTy Tryd.prog 54 [(.slice none 0 0), (.slice none 0 0), (.slice none 0 0), (.int .i64 0)] := ⟨_, Tryd.zeroValue54, by kernel_rfl⟩
instance : FieldTy Tryd.prog 54 0 0 51 := ⟨⟨_, _, Tryd.underlying54, rfl, rfl, rfl⟩, 1, by decide, Tryd.sizeOf51⟩
instance : FieldTy Tryd.prog 54 1 1 51 := ⟨⟨_, _, Tryd.underlying54, rfl, rfl, rfl⟩, 1, by decide, Tryd.sizeOf51⟩
instance : FieldTy Tryd.prog 54 2 2 37 := ⟨⟨_, _, Tryd.underlying54, rfl, rfl, rfl⟩, 1, by decide, Tryd.sizeOf37⟩
instance : FieldTy Tryd.prog 54 3 3 3 := ⟨⟨_, _, Tryd.underlying54, rfl, rfl, rfl⟩, 1, by decide, Tryd.sizeOf3⟩
instance : StructTy Tryd.prog 54 [(0, 1), (1, 1), (2, 1), (3, 1)] [(.slice none 0 0), (.slice none 0 0), (.slice none 0 0), (.int .i64 0)] := ⟨⟨_, Tryd.underlying54, fun w => by rw [Array.mapM_eq_mapM_toList]; simp only [List.mapM_cons, List.mapM_nil, Sem.run_bind, Sem.run_pure, Sem.run_map, Result.andThen_ok, Tryd.sizeOf3, Tryd.sizeOf37, Tryd.sizeOf51]⟩, _, Tryd.zeroValue54, by kernel_rfl⟩
instance : CellTy Tryd.prog 55 := ⟨Tryd.isAgg55, Tryd.sizeOf55⟩
instance : SizeTy Tryd.prog 55 1 := ⟨Tryd.sizeOf55⟩
instance : ZeroTy Tryd.prog 55 [.nilFunc] := ⟨_, Tryd.zeroValue55, rfl⟩
instance : CellTy Tryd.prog 57 := ⟨Tryd.isAgg57, Tryd.sizeOf57⟩
instance : SizeTy Tryd.prog 57 1 := ⟨Tryd.sizeOf57⟩
instance : ZeroTy Tryd.prog 57 [.nilFunc] := ⟨_, Tryd.zeroValue57, rfl⟩
instance : CellTy Tryd.prog 58 := ⟨Tryd.isAgg58, Tryd.sizeOf58⟩
instance : SizeTy Tryd.prog 58 1 := ⟨Tryd.sizeOf58⟩
instance : ZeroTy Tryd.prog 58 [(.slice none 0 0)] := ⟨_, Tryd.zeroValue58, rfl⟩
instance : SliceTy Tryd.prog 58 83 64 64 := ⟨Tryd.underlying58, ⟨Tryd.t83, (Tryd.t83.zero).getD undef, by kernel_rfl, by kernel_rfl, by kernel_rfl, by kernel_rfl, by kernel_rfl⟩, by decide⟩
instance : CellTy Tryd.prog 59 := ⟨Tryd.isAgg59, Tryd.sizeOf59⟩
instance : SizeTy Tryd.prog 59 1 := ⟨Tryd.sizeOf59⟩
instance : ZeroTy Tryd.prog 59 [(.map none)] := ⟨_, Tryd.zeroValue59, rfl⟩
instance : MapTy Tryd.prog 59 83 (List.replicate 64 (.int .u8 0)) := ⟨⟨_, Tryd.underlying59, Tryd.underlying3⟩, _, Tryd.zeroValue83, by kernel_rfl⟩
instance : AggTy Tryd.prog 60 3 := ⟨Tryd.isAgg60, Tryd.sizeOf60⟩
instance : SizeTy Tryd.prog 60 3 := ⟨Tryd.sizeOf60⟩
instance : ZeroTy Tryd.prog 60 [(.slice none 0 0), (.map none), (.int .i64 0)] := ⟨_, Tryd.zeroValue60, by kernel_rfl⟩
instance : FieldTy Tryd.prog 60 0 0 58 := ⟨⟨_, _, Tryd.underlying60, rfl, rfl, rfl⟩, 1, by decide, Tryd.sizeOf58⟩
instance : FieldTy Tryd.prog 60 1 1 59 := ⟨⟨_, _, Tryd.underlying60, rfl, rfl, rfl⟩, 1, by decide, Tryd.sizeOf59⟩
instance : FieldTy Tryd.prog 60 2 2 3 := ⟨⟨_, _, Tryd.underlying60, rfl, rfl, rfl⟩, 1, by decide, Tryd.sizeOf3⟩
instance : StructTy Tryd.prog 60 [(0, 1), (1, 1), (2, 1)] [(.slice none 0 0), (.map none), (.int .i64 0)] := ⟨⟨_, Tryd.underlying60, fun w => by rw [Array.mapM_eq_mapM_toList]; simp only [List.mapM_cons, List.mapM_nil, Sem.run_bind, Sem.run_pure, Sem.run_map, Result.andThen_ok, Tryd.sizeOf3, Tryd.sizeOf58, Tryd.sizeOf59]⟩, _, Tryd.zeroValue60, by kernel_rfl⟩
instance : AggTy Tryd.prog 61 3 := ⟨Tryd.isAgg61, Tryd.sizeOf61⟩
instance : SizeTy Tryd.prog 61 3 := ⟨Tryd.sizeOf61⟩
instance : ZeroTy Tryd.prog 61 [(.slice none 0 0), (.map none), (.int .i64 0)] := ⟨_, Tryd.zeroValue61, by kernel_rfl⟩
instance : FieldTy Tryd.prog 61 0 0 58 := ⟨⟨_, _, Tryd.underlying61, rfl, rfl, rfl⟩, 1, by decide, Tryd.sizeOf58⟩
instance : FieldTy Tryd.prog 61 1 1 59 := ⟨⟨_, _, Tryd.underlying61, rfl, rfl, rfl⟩, 1, by decide, Tryd.sizeOf59⟩
instance : FieldTy Tryd.prog 61 2 2 3 := ⟨⟨_, _, Tryd.underlying61, rfl, rfl, rfl⟩, 1, by decide, Tryd.sizeOf3⟩
instance : StructTy Tryd.prog 61 [(0, 1), (1, 1), (2, 1)] [(.slice none 0 0), (.map none), (.int .i64 0)] := ⟨⟨_, Tryd.underlying61, fun w => by rw [Array.mapM_eq_mapM_toList]; simp only [List.mapM_cons, List.mapM_nil, Sem.run_bind, Sem.run_pure, Sem.run_map, Result.andThen_ok, Tryd.sizeOf3, Tryd.sizeOf58, Tryd.sizeOf59]⟩, _, Tryd.zeroValue61, by kernel_rfl⟩
instance : AggTy Tryd.prog 62 3 := ⟨Tryd.isAgg62, Tryd.sizeOf62⟩
instance : SizeTy Tryd.prog 62 3 := ⟨Tryd.sizeOf62⟩
instance : ZeroTy Tryd.prog 62 [(.int .i64 0), (.bool false), (.slice none 0 0)] := ⟨_, Tryd.zeroValue62, by kernel_rfl⟩
instance : FieldTy Tryd.prog 62 0 0 3 := ⟨⟨_, _, Tryd.underlying62, rfl, rfl, rfl⟩, 1, by decide, Tryd.sizeOf3⟩
instance : FieldTy Tryd.prog 62 1 1 4 := ⟨⟨_, _, Tryd.underlying62, rfl, rfl, rfl⟩, 1, by decide, Tryd.sizeOf4⟩
instance : FieldTy Tryd.prog 62 2 2 36 := ⟨⟨_, _, Tryd.underlying62, rfl, rfl, rfl⟩, 1, by decide, Tryd.sizeOf36⟩
instance : StructTy Tryd.prog 62 [(0, 1), (1, 1), (2, 1)] [(.int .i64 0), (.bool false), (.slice none 0 0)] := ⟨⟨_, Tryd.underlying62, fun w => by rw [Array.mapM_eq_mapM_toList]; simp only [List.mapM_cons, List.mapM_nil, Sem.run_bind, Sem.run_pure, Sem.run_map, Result.andThen_ok, Tryd.sizeOf3, Tryd.sizeOf4, Tryd.sizeOf36]⟩, _, Tryd.zeroValue62, by kernel_rfl⟩
instance : AggTy Tryd.prog 63 3 := ⟨Tryd.isAgg63, Tryd.sizeOf63⟩
instance : SizeTy Tryd.prog 63 3 := ⟨Tryd.sizeOf63⟩
instance : ZeroTy Tryd.prog 63 [(.int .i64 0), (.bool false), (.slice none 0 0)] := ⟨_, Tryd.zeroValue63, by kernel_rfl⟩
instance : FieldTy Tryd.prog 63 0 0 3 := ⟨⟨_, _, Tryd.underlying63, rfl, rfl, rfl⟩, 1, by decide, Tryd.sizeOf3⟩
instance : FieldTy Tryd.prog 63 1 1 4 := ⟨⟨_, _, Tryd.underlying63, rfl, rfl, rfl⟩, 1, by decide, Tryd.sizeOf4⟩
instance : FieldTy Tryd.prog 63 2 2 36 := ⟨⟨_, _, Tryd.underlying63, rfl, rfl, rfl⟩, 1, by decide, Tryd.sizeOf36⟩
instance : StructTy Tryd.prog 63 [(0, 1), (1, 1), (2, 1)] [(.int .i64 0), (.bool false), (.slice none 0 0)] := ⟨⟨_, Tryd.underlying63, fun w => by rw [Array.mapM_eq_mapM_toList]; simp only [List.mapM_cons, List.mapM_nil, Sem.run_bind, Sem.run_pure, Sem.run_map, Result.andThen_ok, Tryd.sizeOf3, Tryd.sizeOf4, Tryd.sizeOf36]⟩, _, Tryd.zeroValue63, by kernel_rfl⟩
instance : AggTy Tryd.prog 64 4 := ⟨Tryd.isAgg64, Tryd.sizeOf64⟩
instance : SizeTy Tryd.prog 64 4 := ⟨Tryd.sizeOf64⟩
instance : ZeroTy Tryd.prog 64 [(.int .i64 0), (.bool false), (.slice none 0 0), (.pointer none)] := ⟨_, Tryd.zeroValue64, by kernel_rfl⟩
instance : FieldTy Tryd.prog 64 0 0 63 := ⟨⟨_, _, Tryd.underlying64, rfl, rfl, rfl⟩, 3, by decide, Tryd.sizeOf63⟩
instance : FieldTy Tryd.prog 64 1 3 25 := ⟨⟨_, _, Tryd.underlying64, rfl, rfl, rfl⟩, 1, by decide, Tryd.sizeOf25⟩
instance : StructTy Tryd.prog 64 [(0, 3), (3, 1)] [(.int .i64 0), (.bool false), (.slice none 0 0), (.pointer none)] := ⟨⟨_, Tryd.underlying64, fun w => by rw [Array.mapM_eq_mapM_toList]; simp only [List.mapM_cons, List.mapM_nil, Sem.run_bind, Sem.run_pure, Sem.run_map, Result.andThen_ok, Tryd.sizeOf25, Tryd.sizeOf63]⟩, _, Tryd.zeroValue64, by kernel_rfl⟩
instance : AggTy Tryd.prog 65 4 := ⟨Tryd.isAgg65, Tryd.sizeOf65⟩
instance : SizeTy Tryd.prog 65 4 := ⟨Tryd.sizeOf65⟩
instance : ZeroTy Tryd.prog 65 [(.int .i64 0), (.bool false), (.slice none 0 0), (.pointer none)] := ⟨_, Tryd.zeroValue65, by kernel_rfl⟩
instance : FieldTy Tryd.prog 65 0 0 63 := ⟨⟨_, _, Tryd.underlying65, rfl, rfl, rfl⟩, 3, by decide, Tryd.sizeOf63⟩
instance : FieldTy Tryd.prog 65 1 3 25 := ⟨⟨_, _, Tryd.underlying65, rfl, rfl, rfl⟩, 1, by decide, Tryd.sizeOf25⟩
instance : StructTy Tryd.prog 65 [(0, 3), (3, 1)] [(.int .i64 0), (.bool false), (.slice none 0 0), (.pointer none)] := ⟨⟨_, Tryd.underlying65, fun w => by rw [Array.mapM_eq_mapM_toList]; simp only [List.mapM_cons, List.mapM_nil, Sem.run_bind, Sem.run_pure, Sem.run_map, Result.andThen_ok, Tryd.sizeOf25, Tryd.sizeOf63]⟩, _, Tryd.zeroValue65, by kernel_rfl⟩
instance : CellTy Tryd.prog 67 := ⟨Tryd.isAgg67, Tryd.sizeOf67⟩
instance : SizeTy Tryd.prog 67 1 := ⟨Tryd.sizeOf67⟩
instance : ZeroTy Tryd.prog 67 [.nilFunc] := ⟨_, Tryd.zeroValue67, rfl⟩
instance : CellTy Tryd.prog 69 := ⟨Tryd.isAgg69, Tryd.sizeOf69⟩
instance : SizeTy Tryd.prog 69 1 := ⟨Tryd.sizeOf69⟩
instance : ZeroTy Tryd.prog 69 [.nilFunc] := ⟨_, Tryd.zeroValue69, rfl⟩
instance : CellTy Tryd.prog 70 := ⟨Tryd.isAgg70, Tryd.sizeOf70⟩
instance : SizeTy Tryd.prog 70 1 := ⟨Tryd.sizeOf70⟩
instance : ZeroTy Tryd.prog 70 [(.int .u64 0)] := ⟨_, Tryd.zeroValue70, rfl⟩
instance : UndTy Tryd.prog 70 (.int .u64) := ⟨Tryd.underlying70⟩
instance : CellTy Tryd.prog 71 := ⟨Tryd.isAgg71, Tryd.sizeOf71⟩
instance : SizeTy Tryd.prog 71 1 := ⟨Tryd.sizeOf71⟩
instance : ZeroTy Tryd.prog 71 [.nilFunc] := ⟨_, Tryd.zeroValue71, rfl⟩
instance : CellTy Tryd.prog 72 := ⟨Tryd.isAgg72, Tryd.sizeOf72⟩
instance : SizeTy Tryd.prog 72 1 := ⟨Tryd.sizeOf72⟩
instance : ZeroTy Tryd.prog 72 [.nilFunc] := ⟨_, Tryd.zeroValue72, rfl⟩
instance : CellTy Tryd.prog 73 := ⟨Tryd.isAgg73, Tryd.sizeOf73⟩
instance : SizeTy Tryd.prog 73 1 := ⟨Tryd.sizeOf73⟩
instance : ZeroTy Tryd.prog 73 [.nilFunc] := ⟨_, Tryd.zeroValue73, rfl⟩
instance : CellTy Tryd.prog 74 := ⟨Tryd.isAgg74, Tryd.sizeOf74⟩
instance : SizeTy Tryd.prog 74 1 := ⟨Tryd.sizeOf74⟩
instance : ZeroTy Tryd.prog 74 [.nilFunc] := ⟨_, Tryd.zeroValue74, rfl⟩
instance : CellTy Tryd.prog 75 := ⟨Tryd.isAgg75, Tryd.sizeOf75⟩
instance : SizeTy Tryd.prog 75 1 := ⟨Tryd.sizeOf75⟩
instance : ZeroTy Tryd.prog 75 [.nilFunc] := ⟨_, Tryd.zeroValue75, rfl⟩
instance : CellTy Tryd.prog 76 := ⟨Tryd.isAgg76, Tryd.sizeOf76⟩
instance : SizeTy Tryd.prog 76 1 := ⟨Tryd.sizeOf76⟩
instance : ZeroTy Tryd.prog 76 [.nilFunc] := ⟨_, Tryd.zeroValue76, rfl⟩
instance : CellTy Tryd.prog 77 := ⟨Tryd.isAgg77, Tryd.sizeOf77⟩
instance : SizeTy Tryd.prog 77 1 := ⟨Tryd.sizeOf77⟩
instance : ZeroTy Tryd.prog 77 [.nilFunc] := ⟨_, Tryd.zeroValue77, rfl⟩
instance : CellTy Tryd.prog 78 := ⟨Tryd.isAgg78, Tryd.sizeOf78⟩
instance : SizeTy Tryd.prog 78 1 := ⟨Tryd.sizeOf78⟩
instance : ZeroTy Tryd.prog 78 [.nilFunc] := ⟨_, Tryd.zeroValue78, rfl⟩
instance : CellTy Tryd.prog 79 := ⟨Tryd.isAgg79, Tryd.sizeOf79⟩
instance : SizeTy Tryd.prog 79 1 := ⟨Tryd.sizeOf79⟩
instance : ZeroTy Tryd.prog 79 [.nilFunc] := ⟨_, Tryd.zeroValue79, rfl⟩
instance : CellTy Tryd.prog 80 := ⟨Tryd.isAgg80, Tryd.sizeOf80⟩
instance : SizeTy Tryd.prog 80 1 := ⟨Tryd.sizeOf80⟩
instance : ZeroTy Tryd.prog 80 [(.slice none 0 0)] := ⟨_, Tryd.zeroValue80, rfl⟩
instance : SliceTy Tryd.prog 80 3 1 8 := ⟨Tryd.underlying80, ⟨Tryd.t3, (Tryd.t3.zero).getD undef, by kernel_rfl, by kernel_rfl, by kernel_rfl, by kernel_rfl, by kernel_rfl⟩, by decide⟩
instance : CellTy Tryd.prog 81 := ⟨Tryd.isAgg81, Tryd.sizeOf81⟩
instance : SizeTy Tryd.prog 81 1 := ⟨Tryd.sizeOf81⟩
instance : ZeroTy Tryd.prog 81 [.nilFunc] := ⟨_, Tryd.zeroValue81, rfl⟩
instance : AggTy Tryd.prog 82 64 := ⟨Tryd.isAgg82, Tryd.sizeOf82⟩
instance : SizeTy Tryd.prog 82 64 := ⟨Tryd.sizeOf82⟩
instance : ZeroTy Tryd.prog 82 (List.replicate 64 (.int .u8 0)) := ⟨_, Tryd.zeroValue82, by kernel_rfl⟩
instance : ArrTy Tryd.prog 82 64 5 1 := ⟨Tryd.underlying82, Tryd.sizeOf5, by decide⟩
instance : AggTy Tryd.prog 83 64 := ⟨Tryd.isAgg83, Tryd.sizeOf83⟩
instance : SizeTy Tryd.prog 83 64 := ⟨Tryd.sizeOf83⟩
instance : ZeroTy Tryd.prog 83 (List.replicate 64 (.int .u8 0)) := ⟨_, Tryd.zeroValue83, by kernel_rfl⟩
instance : ArrTy Tryd.prog 83 64 5 1 := ⟨Tryd.underlying83, Tryd.sizeOf5, by decide⟩
instance : CellTy Tryd.prog 84 := ⟨Tryd.isAgg84, Tryd.sizeOf84⟩
instance : SizeTy Tryd.prog 84 1 := ⟨Tryd.sizeOf84⟩
instance : ZeroTy Tryd.prog 84 [.nilFunc] := ⟨_, Tryd.zeroValue84, rfl⟩
instance : CellTy Tryd.prog 85 := ⟨Tryd.isAgg85, Tryd.sizeOf85⟩
instance : SizeTy Tryd.prog 85 1 := ⟨Tryd.sizeOf85⟩
instance : ZeroTy Tryd.prog 85 [.nilFunc] := ⟨_, Tryd.zeroValue85, rfl⟩
instance : CellTy Tryd.prog 86 := ⟨Tryd.isAgg86, Tryd.sizeOf86⟩
instance : SizeTy Tryd.prog 86 1 := ⟨Tryd.sizeOf86⟩
instance : ZeroTy Tryd.prog 86 [.nilFunc] := ⟨_, Tryd.zeroValue86, rfl⟩
instance : CellTy Tryd.prog 87 := ⟨Tryd.isAgg87, Tryd.sizeOf87⟩
instance : SizeTy Tryd.prog 87 1 := ⟨Tryd.sizeOf87⟩
instance : ZeroTy Tryd.prog 87 [(.pointer none)] := ⟨_, Tryd.zeroValue87, rfl⟩
instance : UndTy Tryd.prog 87 (.pointer 102) := ⟨Tryd.underlying87⟩
instance : CellTy Tryd.prog 88 := ⟨Tryd.isAgg88, Tryd.sizeOf88⟩
instance : SizeTy Tryd.prog 88 1 := ⟨Tryd.sizeOf88⟩
instance : ZeroTy Tryd.prog 88 [.nilFunc] := ⟨_, Tryd.zeroValue88, rfl⟩
instance : CellTy Tryd.prog 89 := ⟨Tryd.isAgg89, Tryd.sizeOf89⟩
instance : SizeTy Tryd.prog 89 1 := ⟨Tryd.sizeOf89⟩
instance : ZeroTy Tryd.prog 89 [.nilFunc] := ⟨_, Tryd.zeroValue89, rfl⟩
instance : CellTy Tryd.prog 90 := ⟨Tryd.isAgg90, Tryd.sizeOf90⟩
instance : SizeTy Tryd.prog 90 1 := ⟨Tryd.sizeOf90⟩
instance : ZeroTy Tryd.prog 90 [.nilFunc] := ⟨_, Tryd.zeroValue90, rfl⟩
instance : CellTy Tryd.prog 91 := ⟨Tryd.isAgg91, Tryd.sizeOf91⟩
instance : SizeTy Tryd.prog 91 1 := ⟨Tryd.sizeOf91⟩
instance : ZeroTy Tryd.prog 91 [.nilFunc] := ⟨_, Tryd.zeroValue91, rfl⟩
instance : CellTy Tryd.prog 92 := ⟨Tryd.isAgg92, Tryd.sizeOf92⟩
instance : SizeTy Tryd.prog 92 1 := ⟨Tryd.sizeOf92⟩
instance : ZeroTy Tryd.prog 92 [.nilFunc] := ⟨_, Tryd.zeroValue92, rfl⟩
instance : CellTy Tryd.prog 93 := ⟨Tryd.isAgg93, Tryd.sizeOf93⟩
instance : SizeTy Tryd.prog 93 1 := ⟨Tryd.sizeOf93⟩
instance : ZeroTy Tryd.prog 93 [.nilFunc] := ⟨_, Tryd.zeroValue93, rfl⟩
instance : CellTy Tryd.prog 94 := ⟨Tryd.isAgg94, Tryd.sizeOf94⟩
instance : SizeTy Tryd.prog 94 1 := ⟨Tryd.sizeOf94⟩
instance : ZeroTy Tryd.prog 94 [(.int .u32 0)] := ⟨_, Tryd.zeroValue94, rfl⟩
instance : UndTy Tryd.prog 94 (.int .u32) := ⟨Tryd.underlying94⟩
instance : CellTy Tryd.prog 95 := ⟨Tryd.isAgg95, Tryd.sizeOf95⟩
instance : SizeTy Tryd.prog 95 1 := ⟨Tryd.sizeOf95⟩
instance : ZeroTy Tryd.prog 95 [.nilFunc] := ⟨_, Tryd.zeroValue95, rfl⟩
instance : CellTy Tryd.prog 96 := ⟨Tryd.isAgg96, Tryd.sizeOf96⟩
instance : SizeTy Tryd.prog 96 1 := ⟨Tryd.sizeOf96⟩
instance : ZeroTy Tryd.prog 96 [.nilFunc] := ⟨_, Tryd.zeroValue96, rfl⟩
instance : CellTy Tryd.prog 97 := ⟨Tryd.isAgg97, Tryd.sizeOf97⟩
instance : SizeTy Tryd.prog 97 1 := ⟨Tryd.sizeOf97⟩
instance : ZeroTy Tryd.prog 97 [.nilFunc] := ⟨_, Tryd.zeroValue97, rfl⟩
instance : CellTy Tryd.prog 98 := ⟨Tryd.isAgg98, Tryd.sizeOf98⟩
instance : SizeTy Tryd.prog 98 1 := ⟨Tryd.sizeOf98⟩
instance : ZeroTy Tryd.prog 98 [.nilFunc] := ⟨_, Tryd.zeroValue98, rfl⟩
instance : CellTy Tryd.prog 99 := ⟨Tryd.isAgg99, Tryd.sizeOf99⟩
instance : SizeTy Tryd.prog 99 1 := ⟨Tryd.sizeOf99⟩
instance : ZeroTy Tryd.prog 99 [.nilFunc] := ⟨_, Tryd.zeroValue99, rfl⟩
instance : AggTy Tryd.prog 101 2 := ⟨Tryd.isAgg101, Tryd.sizeOf101⟩
instance : SizeTy Tryd.prog 101 2 := ⟨Tryd.sizeOf101⟩
instance : ZeroTy Tryd.prog 101 [(.slice none 0 0), (.int .i64 0)] := ⟨_, Tryd.zeroValue101, by kernel_rfl⟩
instance : FieldTy Tryd.prog 101 0 0 36 := ⟨⟨_, _, Tryd.underlying101, rfl, rfl, rfl⟩, 1, by decide, Tryd.sizeOf36⟩
instance : FieldTy Tryd.prog 101 1 1 30 := ⟨⟨_, _, Tryd.underlying101, rfl, rfl, rfl⟩, 1, by decide, Tryd.sizeOf30⟩
instance : StructTy Tryd.prog 101 [(0, 1), (1, 1)] [(.slice none 0 0), (.int .i64 0)] := ⟨⟨_, Tryd.underlying101, fun w => by rw [Array.mapM_eq_mapM_toList]; simp only [List.mapM_cons, List.mapM_nil, Sem.run_bind, Sem.run_pure, Sem.run_map, Result.andThen_ok, Tryd.sizeOf30, Tryd.sizeOf36]⟩, _, Tryd.zeroValue101, by kernel_rfl⟩
instance : AggTy Tryd.prog 102 2 := ⟨Tryd.isAgg102, Tryd.sizeOf102⟩
instance : SizeTy Tryd.prog 102 2 := ⟨Tryd.sizeOf102⟩
instance : ZeroTy Tryd.prog 102 [(.slice none 0 0), (.int .i64 0)] := ⟨_, Tryd.zeroValue102, by kernel_rfl⟩
instance : FieldTy Tryd.prog 102 0 0 36 := ⟨⟨_, _, Tryd.underlying102, rfl, rfl, rfl⟩, 1, by decide, Tryd.sizeOf36⟩
instance : FieldTy Tryd.prog 102 1 1 30 := ⟨⟨_, _, Tryd.underlying102, rfl, rfl, rfl⟩, 1, by decide, Tryd.sizeOf30⟩
instance : StructTy Tryd.prog 102 [(0, 1), (1, 1)] [(.slice none 0 0), (.int .i64 0)] := ⟨⟨_, Tryd.underlying102, fun w => by rw [Array.mapM_eq_mapM_toList]; simp only [List.mapM_cons, List.mapM_nil, Sem.run_bind, Sem.run_pure, Sem.run_map, Result.andThen_ok, Tryd.sizeOf30, Tryd.sizeOf36]⟩, _, Tryd.zeroValue102, by kernel_rfl⟩
instance : CellTy Tryd.prog 103 := ⟨Tryd.isAgg103, Tryd.sizeOf103⟩
instance : SizeTy Tryd.prog 103 1 := ⟨Tryd.sizeOf103⟩
instance : ZeroTy Tryd.prog 103 [.nilFunc] := ⟨_, Tryd.zeroValue103, rfl⟩
instance : CellTy Tryd.prog 104 := ⟨Tryd.isAgg104, Tryd.sizeOf104⟩
instance : SizeTy Tryd.prog 104 1 := ⟨Tryd.sizeOf104⟩
instance : ZeroTy Tryd.prog 104 [(.int .u64 0)] := ⟨_, Tryd.zeroValue104, rfl⟩
instance : UndTy Tryd.prog 104 (.int .u64) := ⟨Tryd.underlying104⟩
instance : CellTy Tryd.prog 105 := ⟨Tryd.isAgg105, Tryd.sizeOf105⟩
instance : SizeTy Tryd.prog 105 1 := ⟨Tryd.sizeOf105⟩
instance : ZeroTy Tryd.prog 105 [.nilFunc] := ⟨_, Tryd.zeroValue105, rfl⟩
instance : CellTy Tryd.prog 106 := ⟨Tryd.isAgg106, Tryd.sizeOf106⟩
instance : SizeTy Tryd.prog 106 1 := ⟨Tryd.sizeOf106⟩
instance : ZeroTy Tryd.prog 106 [.nilFunc] := ⟨_, Tryd.zeroValue106, rfl⟩
instance : CellTy Tryd.prog 107 := ⟨Tryd.isAgg107, Tryd.sizeOf107⟩
instance : SizeTy Tryd.prog 107 1 := ⟨Tryd.sizeOf107⟩
instance : ZeroTy Tryd.prog 107 [.nilFunc] := ⟨_, Tryd.zeroValue107, rfl⟩
instance : CellTy Tryd.prog 108 := ⟨Tryd.isAgg108, Tryd.sizeOf108⟩
instance : SizeTy Tryd.prog 108 1 := ⟨Tryd.sizeOf108⟩
instance : ZeroTy Tryd.prog 108 [.nilFunc] := ⟨_, Tryd.zeroValue108, rfl⟩
instance : CellTy Tryd.prog 109 := ⟨Tryd.isAgg109, Tryd.sizeOf109⟩
instance : SizeTy Tryd.prog 109 1 := ⟨Tryd.sizeOf109⟩
instance : ZeroTy Tryd.prog 109 [.nilFunc] := ⟨_, Tryd.zeroValue109, rfl⟩
instance : CellTy Tryd.prog 110 := ⟨Tryd.isAgg110, Tryd.sizeOf110⟩
instance : SizeTy Tryd.prog 110 1 := ⟨Tryd.sizeOf110⟩
instance : ZeroTy Tryd.prog 110 [.nilFunc] := ⟨_, Tryd.zeroValue110, rfl⟩
instance : CellTy Tryd.prog 111 := ⟨Tryd.isAgg111, Tryd.sizeOf111⟩
instance : SizeTy Tryd.prog 111 1 := ⟨Tryd.sizeOf111⟩
instance : ZeroTy Tryd.prog 111 [.nilFunc] := ⟨_, Tryd.zeroValue111, rfl⟩
instance : CellTy Tryd.prog 112 := ⟨Tryd.isAgg112, Tryd.sizeOf112⟩
instance : SizeTy Tryd.prog 112 1 := ⟨Tryd.sizeOf112⟩
instance : ZeroTy Tryd.prog 112 [.nilFunc] := ⟨_, Tryd.zeroValue112, rfl⟩
instance : CellTy Tryd.prog 113 := ⟨Tryd.isAgg113, Tryd.sizeOf113⟩
instance : SizeTy Tryd.prog 113 1 := ⟨Tryd.sizeOf113⟩
instance : ZeroTy Tryd.prog 113 [.nilFunc] := ⟨_, Tryd.zeroValue113, rfl⟩
instance : CellTy Tryd.prog 114 := ⟨Tryd.isAgg114, Tryd.sizeOf114⟩
instance : SizeTy Tryd.prog 114 1 := ⟨Tryd.sizeOf114⟩
instance : ZeroTy Tryd.prog 114 [(.int .i64 0)] := ⟨_, Tryd.zeroValue114, rfl⟩
instance : UndTy Tryd.prog 114 (.int .i64) := ⟨Tryd.underlying114⟩
instance : CellTy Tryd.prog 116 := ⟨Tryd.isAgg116, Tryd.sizeOf116⟩
instance : SizeTy Tryd.prog 116 1 := ⟨Tryd.sizeOf116⟩
instance : ZeroTy Tryd.prog 116 [.nilFunc] := ⟨_, Tryd.zeroValue116, rfl⟩
instance : CellTy Tryd.prog 117 := ⟨Tryd.isAgg117, Tryd.sizeOf117⟩
instance : SizeTy Tryd.prog 117 1 := ⟨Tryd.sizeOf117⟩
instance : ZeroTy Tryd.prog 117 [.nilFunc] := ⟨_, Tryd.zeroValue117, rfl⟩
instance : CellTy Tryd.prog 118 := ⟨Tryd.isAgg118, Tryd.sizeOf118⟩
instance : SizeTy Tryd.prog 118 1 := ⟨Tryd.sizeOf118⟩
instance : ZeroTy Tryd.prog 118 [.nilFunc] := ⟨_, Tryd.zeroValue118, rfl⟩
instance : CellTy Tryd.prog 119 := ⟨Tryd.isAgg119, Tryd.sizeOf119⟩
instance : SizeTy Tryd.prog 119 1 := ⟨Tryd.sizeOf119⟩
instance : ZeroTy Tryd.prog 119 [.nilFunc] := ⟨_, Tryd.zeroValue119, rfl⟩
instance : CellTy Tryd.prog 121 := ⟨Tryd.isAgg121, Tryd.sizeOf121⟩
instance : SizeTy Tryd.prog 121 1 := ⟨Tryd.sizeOf121⟩
instance : ZeroTy Tryd.prog 121 [.nilFunc] := ⟨_, Tryd.zeroValue121, rfl⟩
instance : CellTy Tryd.prog 122 := ⟨Tryd.isAgg122, Tryd.sizeOf122⟩
instance : SizeTy Tryd.prog 122 1 := ⟨Tryd.sizeOf122⟩
instance : ZeroTy Tryd.prog 122 [.nilFunc] := ⟨_, Tryd.zeroValue122, rfl⟩
instance : CellTy Tryd.prog 123 := ⟨Tryd.isAgg123, Tryd.sizeOf123⟩
instance : SizeTy Tryd.prog 123 1 := ⟨Tryd.sizeOf123⟩
instance : ZeroTy Tryd.prog 123 [.nilFunc] := ⟨_, Tryd.zeroValue123, rfl⟩
instance : AggTy Tryd.prog 124 16 := ⟨Tryd.isAgg124, Tryd.sizeOf124⟩
instance : SizeTy Tryd.prog 124 16 := ⟨Tryd.sizeOf124⟩
instance : ZeroTy Tryd.prog 124 (List.replicate 16 (.int .u32 0)) := ⟨_, Tryd.zeroValue124, by kernel_rfl⟩
instance : ArrTy Tryd.prog 124 16 94 1 := ⟨Tryd.underlying124, Tryd.sizeOf94, by decide⟩
instance : CellTy Tryd.prog 125 := ⟨Tryd.isAgg125, Tryd.sizeOf125⟩
instance : SizeTy Tryd.prog 125 1 := ⟨Tryd.sizeOf125⟩
instance : ZeroTy Tryd.prog 125 [(.int .u64 0)] := ⟨_, Tryd.zeroValue125, rfl⟩
instance : UndTy Tryd.prog 125 (.int .u64) := ⟨Tryd.underlying125⟩
instance : CellTy Tryd.prog 126 := ⟨Tryd.isAgg126, Tryd.sizeOf126⟩
instance : SizeTy Tryd.prog 126 1 := ⟨Tryd.sizeOf126⟩
instance : ZeroTy Tryd.prog 126 [.nilFunc] := ⟨_, Tryd.zeroValue126, rfl⟩
instance : CellTy Tryd.prog 127 := ⟨Tryd.isAgg127, Tryd.sizeOf127⟩
instance : SizeTy Tryd.prog 127 1 := ⟨Tryd.sizeOf127⟩
instance : ZeroTy Tryd.prog 127 [.nilFunc] := ⟨_, Tryd.zeroValue127, rfl⟩
instance : CellTy Tryd.prog 128 := ⟨Tryd.isAgg128, Tryd.sizeOf128⟩
instance : SizeTy Tryd.prog 128 1 := ⟨Tryd.sizeOf128⟩
instance : ZeroTy Tryd.prog 128 [.nilFunc] := ⟨_, Tryd.zeroValue128, rfl⟩
instance : CellTy Tryd.prog 129 := ⟨Tryd.isAgg129, Tryd.sizeOf129⟩
instance : SizeTy Tryd.prog 129 1 := ⟨Tryd.sizeOf129⟩
instance : ZeroTy Tryd.prog 129 [(.pointer none)] := ⟨_, Tryd.zeroValue129, rfl⟩
instance : UndTy Tryd.prog 129 (.pointer 3) := ⟨Tryd.underlying129⟩
instance : CellTy Tryd.prog 130 := ⟨Tryd.isAgg130, Tryd.sizeOf130⟩
instance : SizeTy Tryd.prog 130 1 := ⟨Tryd.sizeOf130⟩
instance : ZeroTy Tryd.prog 130 [.nilFunc] := ⟨_, Tryd.zeroValue130, rfl⟩
instance : CellTy Tryd.prog 131 := ⟨Tryd.isAgg131, Tryd.sizeOf131⟩
instance : SizeTy Tryd.prog 131 1 := ⟨Tryd.sizeOf131⟩
instance : ZeroTy Tryd.prog 131 [(.pointer none)] := ⟨_, Tryd.zeroValue131, rfl⟩
instance : UndTy Tryd.prog 131 (.pointer 125) := ⟨Tryd.underlying131⟩
instance : CellTy Tryd.prog 133 := ⟨Tryd.isAgg133, Tryd.sizeOf133⟩
instance : SizeTy Tryd.prog 133 1 := ⟨Tryd.sizeOf133⟩
instance : ZeroTy Tryd.prog 133 [.nilFunc] := ⟨_, Tryd.zeroValue133, rfl⟩
instance : CellTy Tryd.prog 134 := ⟨Tryd.isAgg134, Tryd.sizeOf134⟩
instance : SizeTy Tryd.prog 134 1 := ⟨Tryd.sizeOf134⟩
instance : ZeroTy Tryd.prog 134 [.nilFunc] := ⟨_, Tryd.zeroValue134, rfl⟩
instance : AggTy Tryd.prog 135 4 := ⟨Tryd.isAgg135, Tryd.sizeOf135⟩
instance : SizeTy Tryd.prog 135 4 := ⟨Tryd.sizeOf135⟩
instance : ZeroTy Tryd.prog 135 [(.pointer none), (.pointer none), (.pointer none), (.string { data := #[] })] := ⟨_, Tryd.zeroValue135, by kernel_rfl⟩
instance : FieldTy Tryd.prog 135 0 0 17 := ⟨⟨_, _, Tryd.underlying135, rfl, rfl, rfl⟩, 1, by decide, Tryd.sizeOf17⟩
instance : FieldTy Tryd.prog 135 1 1 17 := ⟨⟨_, _, Tryd.underlying135, rfl, rfl, rfl⟩, 1, by decide, Tryd.sizeOf17⟩
instance : FieldTy Tryd.prog 135 2 2 17 := ⟨⟨_, _, Tryd.underlying135, rfl, rfl, rfl⟩, 1, by decide, Tryd.sizeOf17⟩
instance : FieldTy Tryd.prog 135 3 3 9 := ⟨⟨_, _, Tryd.underlying135, rfl, rfl, rfl⟩, 1, by decide, Tryd.sizeOf9⟩
instance : StructTy Tryd.prog 135 [(0, 1), (1, 1), (2, 1), (3, 1)] [(.pointer none), (.pointer none), (.pointer none), (.string { data := #[] })] := ⟨⟨_, Tryd.underlying135, fun w => by rw [Array.mapM_eq_mapM_toList]; simp only [List.mapM_cons, List.mapM_nil, Sem.run_bind, Sem.run_pure, Sem.run_map, Result.andThen_ok, Tryd.sizeOf9, Tryd.sizeOf17]⟩, _, Tryd.zeroValue135, by kernel_rfl⟩
instance : AggTy Tryd.prog 136 4 := ⟨Tryd.isAgg136, Tryd.sizeOf136⟩
instance : SizeTy Tryd.prog 136 4 := ⟨Tryd.sizeOf136⟩
instance : ZeroTy Tryd.prog 136 [(.pointer none), (.pointer none), (.pointer none), (.string { data := #[] })] := ⟨_, Tryd.zeroValue136, by kernel_rfl⟩
instance : FieldTy Tryd.prog 136 0 0 17 := ⟨⟨_, _, Tryd.underlying136, rfl, rfl, rfl⟩, 1, by decide, Tryd.sizeOf17⟩
instance : FieldTy Tryd.prog 136 1 1 17 := ⟨⟨_, _, Tryd.underlying136, rfl, rfl, rfl⟩, 1, by decide, Tryd.sizeOf17⟩
instance : FieldTy Tryd.prog 136 2 2 17 := ⟨⟨_, _, Tryd.underlying136, rfl, rfl, rfl⟩, 1, by decide, Tryd.sizeOf17⟩
instance : FieldTy Tryd.prog 136 3 3 9 := ⟨⟨_, _, Tryd.underlying136, rfl, rfl, rfl⟩, 1, by decide, Tryd.sizeOf9⟩
instance : StructTy Tryd.prog 136 [(0, 1), (1, 1), (2, 1), (3, 1)] [(.pointer none), (.pointer none), (.pointer none), (.string { data := #[] })] := ⟨⟨_, Tryd.underlying136, fun w => by rw [Array.mapM_eq_mapM_toList]; simp only [List.mapM_cons, List.mapM_nil, Sem.run_bind, Sem.run_pure, Sem.run_map, Result.andThen_ok, Tryd.sizeOf9, Tryd.sizeOf17]⟩, _, Tryd.zeroValue136, by kernel_rfl⟩
instance : AggTy Tryd.prog 137 0 := ⟨Tryd.isAgg137, Tryd.sizeOf137⟩
instance : SizeTy Tryd.prog 137 0 := ⟨Tryd.sizeOf137⟩
instance : ZeroTy Tryd.prog 137 [] := ⟨_, Tryd.zeroValue137, by kernel_rfl⟩
instance : AggTy Tryd.prog 138 0 := ⟨Tryd.isAgg138, Tryd.sizeOf138⟩
instance : SizeTy Tryd.prog 138 0 := ⟨Tryd.sizeOf138⟩
instance : ZeroTy Tryd.prog 138 [] := ⟨_, Tryd.zeroValue138, by kernel_rfl⟩
instance : StructTy Tryd.prog 138 [(0, 0)] [] := ⟨⟨_, Tryd.underlying138, fun w => by rw [Array.mapM_eq_mapM_toList]; simp only [List.mapM_cons, List.mapM_nil, Sem.run_bind, Sem.run_pure, Sem.run_map, Result.andThen_ok, Tryd.sizeOf137]⟩, _, Tryd.zeroValue138, by kernel_rfl⟩
instance : AggTy Tryd.prog 139 0 := ⟨Tryd.isAgg139, Tryd.sizeOf139⟩
instance : SizeTy Tryd.prog 139 0 := ⟨Tryd.sizeOf139⟩
instance : ZeroTy Tryd.prog 139 [] := ⟨_, Tryd.zeroValue139, by kernel_rfl⟩
instance : StructTy Tryd.prog 139 [(0, 0)] [] := ⟨⟨_, Tryd.underlying139, fun w => by rw [Array.mapM_eq_mapM_toList]; simp only [List.mapM_cons, List.mapM_nil, Sem.run_bind, Sem.run_pure, Sem.run_map, Result.andThen_ok, Tryd.sizeOf137]⟩, _, Tryd.zeroValue139, by kernel_rfl⟩
instance : CellTy Tryd.prog 140 := ⟨Tryd.isAgg140, Tryd.sizeOf140⟩
instance : SizeTy Tryd.prog 140 1 := ⟨Tryd.sizeOf140⟩
instance : ZeroTy Tryd.prog 140 [(.int .u8 0)] := ⟨_, Tryd.zeroValue140, rfl⟩
instance : UndTy Tryd.prog 140 (.int .u8) := ⟨Tryd.underlying140⟩
instance : CellTy Tryd.prog 141 := ⟨Tryd.isAgg141, Tryd.sizeOf141⟩
instance : SizeTy Tryd.prog 141 1 := ⟨Tryd.sizeOf141⟩
instance : ZeroTy Tryd.prog 141 [(.int .u8 0)] := ⟨_, Tryd.zeroValue141, rfl⟩
instance : UndTy Tryd.prog 141 (.int .u8) := ⟨Tryd.underlying141⟩
instance : CellTy Tryd.prog 142 := ⟨Tryd.isAgg142, Tryd.sizeOf142⟩
instance : SizeTy Tryd.prog 142 1 := ⟨Tryd.sizeOf142⟩
instance : ZeroTy Tryd.prog 142 [.nilFunc] := ⟨_, Tryd.zeroValue142, rfl⟩
instance : CellTy Tryd.prog 143 := ⟨Tryd.isAgg143, Tryd.sizeOf143⟩
instance : SizeTy Tryd.prog 143 1 := ⟨Tryd.sizeOf143⟩
instance : ZeroTy Tryd.prog 143 [(.pointer none)] := ⟨_, Tryd.zeroValue143, rfl⟩
instance : UndTy Tryd.prog 143 (.pointer 5) := ⟨Tryd.underlying143⟩
instance : CellTy Tryd.prog 144 := ⟨Tryd.isAgg144, Tryd.sizeOf144⟩
instance : SizeTy Tryd.prog 144 1 := ⟨Tryd.sizeOf144⟩
instance : ZeroTy Tryd.prog 144 [(.int .i32 0)] := ⟨_, Tryd.zeroValue144, rfl⟩
instance : UndTy Tryd.prog 144 (.int .i32) := ⟨Tryd.underlying144⟩
instance : CellTy Tryd.prog 145 := ⟨Tryd.isAgg145, Tryd.sizeOf145⟩
instance : SizeTy Tryd.prog 145 1 := ⟨Tryd.sizeOf145⟩
instance : ZeroTy Tryd.prog 145 [(.int .i32 0)] := ⟨_, Tryd.zeroValue145, rfl⟩
instance : UndTy Tryd.prog 145 (.int .i32) := ⟨Tryd.underlying145⟩
instance : AggTy Tryd.prog 146 11 := ⟨Tryd.isAgg146, Tryd.sizeOf146⟩
instance : SizeTy Tryd.prog 146 11 := ⟨Tryd.sizeOf146⟩
instance : ZeroTy Tryd.prog 146 [(.int .u64 0), (.int .u64 0), (.int .u32 0), (.int .u8 0), (.int .u8 0), (.int .u8 0), (.int .u8 0), .nilFunc, (.pointer none), (.int .i32 0), (.int .i32 0)] := ⟨_, Tryd.zeroValue146, by kernel_rfl⟩
instance : FieldTy Tryd.prog 146 0 0 12 := ⟨⟨_, _, Tryd.underlying146, rfl, rfl, rfl⟩, 1, by decide, Tryd.sizeOf12⟩
instance : FieldTy Tryd.prog 146 1 1 12 := ⟨⟨_, _, Tryd.underlying146, rfl, rfl, rfl⟩, 1, by decide, Tryd.sizeOf12⟩
instance : FieldTy Tryd.prog 146 2 2 94 := ⟨⟨_, _, Tryd.underlying146, rfl, rfl, rfl⟩, 1, by decide, Tryd.sizeOf94⟩
instance : FieldTy Tryd.prog 146 3 3 140 := ⟨⟨_, _, Tryd.underlying146, rfl, rfl, rfl⟩, 1, by decide, Tryd.sizeOf140⟩
instance : FieldTy Tryd.prog 146 4 4 5 := ⟨⟨_, _, Tryd.underlying146, rfl, rfl, rfl⟩, 1, by decide, Tryd.sizeOf5⟩
instance : FieldTy Tryd.prog 146 5 5 5 := ⟨⟨_, _, Tryd.underlying146, rfl, rfl, rfl⟩, 1, by decide, Tryd.sizeOf5⟩
instance : FieldTy Tryd.prog 146 6 6 141 := ⟨⟨_, _, Tryd.underlying146, rfl, rfl, rfl⟩, 1, by decide, Tryd.sizeOf141⟩
instance : FieldTy Tryd.prog 146 7 7 142 := ⟨⟨_, _, Tryd.underlying146, rfl, rfl, rfl⟩, 1, by decide, Tryd.sizeOf142⟩
instance : FieldTy Tryd.prog 146 8 8 143 := ⟨⟨_, _, Tryd.underlying146, rfl, rfl, rfl⟩, 1, by decide, Tryd.sizeOf143⟩
instance : FieldTy Tryd.prog 146 9 9 144 := ⟨⟨_, _, Tryd.underlying146, rfl, rfl, rfl⟩, 1, by decide, Tryd.sizeOf144⟩
instance : FieldTy Tryd.prog 146 10 10 145 := ⟨⟨_, _, Tryd.underlying146, rfl, rfl, rfl⟩, 1, by decide, Tryd.sizeOf145⟩
instance : StructTy Tryd.prog 146 [(0, 1), (1, 1), (2, 1), (3, 1), (4, 1), (5, 1), (6, 1), (7, 1), (8, 1), (9, 1), (10, 1)] [(.int .u64 0), (.int .u64 0), (.int .u32 0), (.int .u8 0), (.int .u8 0), (.int .u8 0), (.int .u8 0), .nilFunc, (.pointer none), (.int .i32 0), (.int .i32 0)] := ⟨⟨_, Tryd.underlying146, fun w => by rw [Array.mapM_eq_mapM_toList]; simp only [List.mapM_cons, List.mapM_nil, Sem.run_bind, Sem.run_pure, Sem.run_map, Result.andThen_ok, Tryd.sizeOf5, Tryd.sizeOf12, Tryd.sizeOf94, Tryd.sizeOf140, Tryd.sizeOf141, Tryd.sizeOf142, Tryd.sizeOf143, Tryd.sizeOf144, Tryd.sizeOf145]⟩, _, Tryd.zeroValue146, by kernel_rfl⟩
instance : AggTy Tryd.prog 147 11 := ⟨Tryd.isAgg147, Tryd.sizeOf147⟩
instance : SizeTy Tryd.prog 147 11 := ⟨Tryd.sizeOf147⟩
instance : ZeroTy Tryd.prog 147 [(.int .u64 0), (.int .u64 0), (.int .u32 0), (.int .u8 0), (.int .u8 0), (.int .u8 0), (.int .u8 0), .nilFunc, (.pointer none), (.int .i32 0), (.int .i32 0)] := ⟨_, Tryd.zeroValue147, by kernel_rfl⟩
instance : FieldTy Tryd.prog 147 0 0 12 := ⟨⟨_, _, Tryd.underlying147, rfl, rfl, rfl⟩, 1, by decide, Tryd.sizeOf12⟩
instance : FieldTy Tryd.prog 147 1 1 12 := ⟨⟨_, _, Tryd.underlying147, rfl, rfl, rfl⟩, 1, by decide, Tryd.sizeOf12⟩
instance : FieldTy Tryd.prog 147 2 2 94 := ⟨⟨_, _, Tryd.underlying147, rfl, rfl, rfl⟩, 1, by decide, Tryd.sizeOf94⟩
instance : FieldTy Tryd.prog 147 3 3 140 := ⟨⟨_, _, Tryd.underlying147, rfl, rfl, rfl⟩, 1, by decide, Tryd.sizeOf140⟩
instance : FieldTy Tryd.prog 147 4 4 5 := ⟨⟨_, _, Tryd.underlying147, rfl, rfl, rfl⟩, 1, by decide, Tryd.sizeOf5⟩
instance : FieldTy Tryd.prog 147 5 5 5 := ⟨⟨_, _, Tryd.underlying147, rfl, rfl, rfl⟩, 1, by decide, Tryd.sizeOf5⟩
instance : FieldTy Tryd.prog 147 6 6 141 := ⟨⟨_, _, Tryd.underlying147, rfl, rfl, rfl⟩, 1, by decide, Tryd.sizeOf141⟩
instance : FieldTy Tryd.prog 147 7 7 142 := ⟨⟨_, _, Tryd.underlying147, rfl, rfl, rfl⟩, 1, by decide, Tryd.sizeOf142⟩
instance : FieldTy Tryd.prog 147 8 8 143 := ⟨⟨_, _, Tryd.underlying147, rfl, rfl, rfl⟩, 1, by decide, Tryd.sizeOf143⟩
instance : FieldTy Tryd.prog 147 9 9 144 := ⟨⟨_, _, Tryd.underlying147, rfl, rfl, rfl⟩, 1, by decide, Tryd.sizeOf144⟩
instance : FieldTy Tryd.prog 147 10 10 145 := ⟨⟨_, _, Tryd.underlying147, rfl, rfl, rfl⟩, 1, by decide, Tryd.sizeOf145⟩
instance : StructTy Tryd.prog 147 [(0, 1), (1, 1), (2, 1), (3, 1), (4, 1), (5, 1), (6, 1), (7, 1), (8, 1), (9, 1), (10, 1)] [(.int .u64 0), (.int .u64 0), (.int .u32 0), (.int .u8 0), (.int .u8 0), (.int .u8 0), (.int .u8 0), .nilFunc, (.pointer none), (.int .i32 0), (.int .i32 0)] := ⟨⟨_, Tryd.underlying147, fun w => by rw [Array.mapM_eq_mapM_toList]; simp only [List.mapM_cons, List.mapM_nil, Sem.run_bind, Sem.run_pure, Sem.run_map, Result.andThen_ok, Tryd.sizeOf5, Tryd.sizeOf12, Tryd.sizeOf94, Tryd.sizeOf140, Tryd.sizeOf141, Tryd.sizeOf142, Tryd.sizeOf143, Tryd.sizeOf144, Tryd.sizeOf145]⟩, _, Tryd.zeroValue147, by kernel_rfl⟩
instance : CellTy Tryd.prog 148 := ⟨Tryd.isAgg148, Tryd.sizeOf148⟩
instance : SizeTy Tryd.prog 148 1 := ⟨Tryd.sizeOf148⟩
instance : ZeroTy Tryd.prog 148 [(.pointer none)] := ⟨_, Tryd.zeroValue148, rfl⟩
instance : FuncTy Tryd.prog 3 := ⟨Tryd.call3⟩
instance : FuncTy Tryd.prog 4 := ⟨Tryd.call4⟩
instance : FuncTy Tryd.prog 5 := ⟨Tryd.call5⟩
instance : FuncTy Tryd.prog 6 := ⟨Tryd.call6⟩
instance : FuncTy Tryd.prog 7 := ⟨Tryd.call7⟩
instance : FuncTy Tryd.prog 8 := ⟨Tryd.call8⟩
instance : FuncTy Tryd.prog 9 := ⟨Tryd.call9⟩
instance : FuncTy Tryd.prog 10 := ⟨Tryd.call10⟩
instance : FuncTy Tryd.prog 11 := ⟨Tryd.call11⟩
instance : FuncTy Tryd.prog 12 := ⟨Tryd.call12⟩
instance : FuncTy Tryd.prog 13 := ⟨Tryd.call13⟩
instance : FuncTy Tryd.prog 14 := ⟨Tryd.call14⟩
instance : FuncTy Tryd.prog 15 := ⟨Tryd.call15⟩
instance : FuncTy Tryd.prog 16 := ⟨Tryd.call16⟩
instance : FuncTy Tryd.prog 17 := ⟨Tryd.call17⟩
instance : FuncTy Tryd.prog 18 := ⟨Tryd.call18⟩
instance : FuncTy Tryd.prog 19 := ⟨Tryd.call19⟩
instance : FuncTy Tryd.prog 20 := ⟨Tryd.call20⟩
instance : FuncTy Tryd.prog 21 := ⟨Tryd.call21⟩
instance : FuncTy Tryd.prog 22 := ⟨Tryd.call22⟩
instance : FuncTy Tryd.prog 23 := ⟨Tryd.call23⟩
instance : FuncTy Tryd.prog 24 := ⟨Tryd.call24⟩
instance : FuncTy Tryd.prog 25 := ⟨Tryd.call25⟩
instance : FuncTy Tryd.prog 26 := ⟨Tryd.call26⟩
instance : FuncTy Tryd.prog 27 := ⟨Tryd.call27⟩
instance : FuncTy Tryd.prog 28 := ⟨Tryd.call28⟩
instance : FuncTy Tryd.prog 29 := ⟨Tryd.call29⟩
instance : FuncTy Tryd.prog 30 := ⟨Tryd.call30⟩
instance : FuncTy Tryd.prog 31 := ⟨Tryd.call31⟩
instance : FuncTy Tryd.prog 32 := ⟨Tryd.call32⟩
instance : FuncTy Tryd.prog 33 := ⟨Tryd.call33⟩
instance : FuncTy Tryd.prog 34 := ⟨Tryd.call34⟩
instance : FuncTy Tryd.prog 35 := ⟨Tryd.call35⟩
instance : FuncTy Tryd.prog 36 := ⟨Tryd.call36⟩
instance : FuncTy Tryd.prog 37 := ⟨Tryd.call37⟩
instance : FuncTy Tryd.prog 38 := ⟨Tryd.call38⟩
instance : FuncTy Tryd.prog 39 := ⟨Tryd.call39⟩
instance : FuncTy Tryd.prog 40 := ⟨Tryd.call40⟩
instance : FuncTy Tryd.prog 41 := ⟨Tryd.call41⟩
instance : FuncTy Tryd.prog 42 := ⟨Tryd.call42⟩
instance : FuncTy Tryd.prog 43 := ⟨Tryd.call43⟩
instance : FuncTy Tryd.prog 44 := ⟨Tryd.call44⟩
instance : FuncTy Tryd.prog 45 := ⟨Tryd.call45⟩
instance : FuncTy Tryd.prog 46 := ⟨Tryd.call46⟩
instance : FuncTy Tryd.prog 47 := ⟨Tryd.call47⟩
instance : FuncTy Tryd.prog 48 := ⟨Tryd.call48⟩
instance : FuncTy Tryd.prog 49 := ⟨Tryd.call49⟩
instance : FuncTy Tryd.prog 50 := ⟨Tryd.call50⟩
instance : FuncTy Tryd.prog 51 := ⟨Tryd.call51⟩
instance : FuncTy Tryd.prog 52 := ⟨Tryd.call52⟩
instance : FuncTy Tryd.prog 53 := ⟨Tryd.call53⟩
instance : FuncTy Tryd.prog 54 := ⟨Tryd.call54⟩
instance : FuncTy Tryd.prog 55 := ⟨Tryd.call55⟩
instance : FuncTy Tryd.prog 56 := ⟨Tryd.call56⟩
instance : FuncTy Tryd.prog 57 := ⟨Tryd.call57⟩
instance : FuncTy Tryd.prog 58 := ⟨Tryd.call58⟩
instance : FuncTy Tryd.prog 59 := ⟨Tryd.call59⟩
instance : FuncTy Tryd.prog 60 := ⟨Tryd.call60⟩
instance : FuncTy Tryd.prog 61 := ⟨Tryd.call61⟩
instance : FuncTy Tryd.prog 62 := ⟨Tryd.call62⟩
instance : FuncTy Tryd.prog 63 := ⟨Tryd.call63⟩
instance : FuncTy Tryd.prog 64 := ⟨Tryd.call64⟩
instance : FuncTy Tryd.prog 65 := ⟨Tryd.call65⟩
instance : FuncTy Tryd.prog 66 := ⟨Tryd.call66⟩
instance : FuncTy Tryd.prog 67 := ⟨Tryd.call67⟩
instance : FuncTy Tryd.prog 68 := ⟨Tryd.call68⟩
instance : FuncTy Tryd.prog 69 := ⟨Tryd.call69⟩
instance : FuncTy Tryd.prog 70 := ⟨Tryd.call70⟩
instance : FuncTy Tryd.prog 71 := ⟨Tryd.call71⟩
instance : FuncTy Tryd.prog 72 := ⟨Tryd.call72⟩
instance : FuncTy Tryd.prog 73 := ⟨Tryd.call73⟩
instance : FuncTy Tryd.prog 74 := ⟨Tryd.call74⟩
instance : FuncTy Tryd.prog 75 := ⟨Tryd.call75⟩
instance : FuncTy Tryd.prog 76 := ⟨Tryd.call76⟩
instance : FuncTy Tryd.prog 77 := ⟨Tryd.call77⟩
instance : FuncTy Tryd.prog 78 := ⟨Tryd.call78⟩
instance : FuncTy Tryd.prog 79 := ⟨Tryd.call79⟩
instance : FuncTy Tryd.prog 80 := ⟨Tryd.call80⟩
instance : FuncTy Tryd.prog 81 := ⟨Tryd.call81⟩
instance : FuncTy Tryd.prog 82 := ⟨Tryd.call82⟩
instance : FuncTy Tryd.prog 83 := ⟨Tryd.call83⟩
instance : FuncTy Tryd.prog 84 := ⟨Tryd.call84⟩
instance : FuncTy Tryd.prog 85 := ⟨Tryd.call85⟩
instance : FuncTy Tryd.prog 86 := ⟨Tryd.call86⟩
instance : FuncTy Tryd.prog 87 := ⟨Tryd.call87⟩
instance : FuncTy Tryd.prog 88 := ⟨Tryd.call88⟩
instance : FuncTy Tryd.prog 89 := ⟨Tryd.call89⟩
instance : FuncTy Tryd.prog 90 := ⟨Tryd.call90⟩
instance : FuncTy Tryd.prog 91 := ⟨Tryd.call91⟩
instance : FuncTy Tryd.prog 92 := ⟨Tryd.call92⟩
end Go.Proofs
namespace Go.Proofs
set_option linter.unnecessarySimpa false
open Go Go.Sl
attribute [local irreducible] Still T opO Sl.Inv row slc wpSeq Code.wp wpList Exit.then Exit.inBlock
set_option linter.unusedVariables false
set_option linter.unusedSimpArgs false
set_option maxRecDepth 4000
theorem clone_ctr (A : SP) (a : Option Addr) (m c : Nat) (l : List UInt8) (hr : Rd A 1 a m (l.map encB)) (hm : m ≤ 1099511627776) :
    Ctr Tryd.prog 34 [.slice a m c] [A] (fun v L => ∃ a' c', v = .slice a' m c' ∧ L = [slc 5 1 a' m c' (l.map encB), A]) := by
  refine Ctr.of Tryd.func34 rfl rfl (fun w F => ?_)
  simp only [Tryd.ntmps34, env0, List.cons_append, List.nil_append]
  refine T_rdLen hr Pick.here (fun hlen => ?_)
  simp only [List.length_map, Nat.mul_one] at hlen
  refine T_seq ?_; refine T_region ?_; refine T_list ?_; refine kas rfl rfl ?_; refine T_nil ?_; refine T_thenN ?_; refine T_seq ?_; refine T_seq ?_; refine T_region ?_; refine T_list ?_; refine kmv rfl rfl ?_; refine T_list ?_; refine keqSl rfl rfl rfl ?_; refine T_nil ?_; refine T_thenN ?_
  refine T_cond rfl (fun h => ?_) (fun h => ?_)
  · obtain rfl : a = none := by simpa using h
    refine T_rdNone hr Pick.here (fun hl => ?_)
    obtain rfl : l = [] := by simpa using hl
    obtain rfl : m = 0 := hlen.symm
    refine T_seq ?_; refine T_region ?_; refine T_list ?_; refine kas rfl rfl ?_; refine T_nil ?_; refine T_thenN ?_; refine T_ret ?_; refine T_thenR ?_
    refine T_nilS 5 1 ?_
    refine T_fin [_] _ ⟨rfl, trivial⟩ ⟨none, 0, rfl, rfl⟩ ?_
    (repeat (first | exact perm_rest | apply perm_take (by repeat (first | with_reducible apply Pick.here | with_reducible apply Pick.there)) | apply perm_drop))
  · refine T_skip ?_; refine T_thenN ?_; refine T_seq ?_; refine T_region ?_; refine T_list ?_; refine kbs1 rfl rfl (vs := []) rfl (by simp) rfl ?_; intro _a; refine T_list ?_; refine kmv rfl rfl ?_
    refine T_list ?_; refine kapR hr rfl rfl rfl (by repeat (first | with_reducible apply Pick.here | with_reducible apply Pick.there)) (by repeat (first | with_reducible apply Pick.here | with_reducible apply Pick.there)) (ones_encB l) (by omega) (by omega) (fun a' c' => ?_)
    rw [Nat.zero_add, List.nil_append]
    refine T_list ?_; refine kas rfl rfl ?_; refine T_nil ?_; refine T_thenN ?_; refine T_ret ?_
    refine T_fin [_] _ ⟨rfl, trivial⟩ ⟨_, _, rfl, rfl⟩ ?_
    (repeat (first | exact perm_rest | apply perm_take (by repeat (first | with_reducible apply Pick.here | with_reducible apply Pick.there)) | apply perm_drop))
theorem byteArray_beq (l k : List UInt8) : ((⟨l.toArray⟩ : ByteArray) == ⟨k.toArray⟩) = decide (l = k) := by
  show (l.toArray == k.toArray) = _
  by_cases h : l = k
  · subst h; simp
  · simp [h]
theorem equal_ctr (A B : SP) (a b : Option Addr) (m c m2 c2 : Nat) (l k : List UInt8) (hr : Rd A 1 a m (l.map encB)) (hr2 : Rd B 1 b m2 (k.map encB)) :
    Ctr Tryd.prog 53 [.slice a m c, .slice b m2 c2] [A, B] (fun v L => v = .bool (decide (l = k)) ∧ L = [A, B]) := by
  refine Ctr.of Tryd.func53 rfl rfl (fun w F => ?_)
  simp only [Tryd.ntmps53, env0, List.cons_append, List.nil_append]
  refine T_seq ?_; refine T_region ?_; refine T_list ?_; refine kas rfl rfl ?_; refine T_nil ?_; refine T_thenN ?_; refine T_seq ?_; refine T_region ?_; refine T_list ?_; refine kmv rfl rfl ?_; refine T_list ?_; refine kcvS hr (by repeat (first | with_reducible apply Pick.here | with_reducible apply Pick.there)) rfl rfl ?_; refine T_list ?_; refine kmv rfl rfl ?_; refine T_list ?_; refine kcvS hr2 (by repeat (first | with_reducible apply Pick.here | with_reducible apply Pick.there)) rfl rfl ?_; refine T_list ?_; refine keqS rfl rfl rfl ?_; refine T_list ?_; refine kas rfl rfl ?_; refine T_nil ?_; refine T_thenN ?_; refine T_ret ?_
  refine T_fin [_] _ ⟨rfl, trivial⟩ ⟨?_, rfl⟩ ?_
  · rw [← byteArray_beq]; rfl
  · (repeat (first | exact perm_rest | apply perm_take (by repeat (first | with_reducible apply Pick.here | with_reducible apply Pick.there)) | apply perm_drop))
theorem take_snoc {α : Type} {l : List α} {i : Nat} (h : i < l.length) : l.take (i + 1) = l.take i ++ [l[i]] := by simp
theorem encB_inj {a b : UInt8} : ((a.toNat : Int) = (b.toNat : Int)) ↔ a = b := by
  rw [Int.ofNat_inj, UInt8.toNat_inj]
theorem same_ctr (A B : SP) (a b : Option Addr) (m c m2 c2 : Nat) (l k : List UInt8) (hr : Rd A 1 a m (l.map encB)) (hr2 : Rd B 1 b m2 (k.map encB)) (hm : m ≤ 1099511627776) :
    Ctr Tryd.prog 32 [.slice a m c, .slice b m2 c2] [A, B] (fun v L => v = .bool (decide (l = k)) ∧ L = [A, B]) := by
  refine Ctr.of Tryd.func32 rfl rfl (fun w F => ?_)
  simp only [Tryd.ntmps32, env0, List.cons_append, List.nil_append]
  refine T_rdLen hr Pick.here (fun hlen => ?_)
  refine T_rdLen hr2 Pick.here.there (fun hlen2 => ?_)
  simp only [List.length_map, Nat.mul_one] at hlen hlen2
  refine T_seq ?_; refine T_region ?_; refine T_list ?_; refine kas rfl rfl ?_; refine T_nil ?_; refine T_thenN ?_; refine T_seq ?_; refine T_seq ?_; refine T_region ?_; refine T_list ?_; refine kmv rfl rfl ?_; refine T_list ?_; refine klen rfl rfl ?_; refine T_list ?_; refine kmv rfl rfl ?_; refine T_list ?_; refine klen rfl rfl ?_; refine T_list ?_; refine kcmp rfl rfl rfl rfl ?_; refine T_nil ?_; refine T_thenN ?_
  refine T_cond rfl (fun h => ?_) (fun h => ?_) <;> simp only [decide_eq_true_eq, decide_eq_false_iff_not, ne_eq, Decidable.not_not, Bool.not_eq_true', Bool.not_eq_false', Bool.cond_eq_true_distrib, Bool.cond_eq_false_distrib] at h
  · refine T_seq ?_; refine T_region ?_; refine T_list ?_; refine kas rfl rfl ?_; refine T_nil ?_; refine T_thenN ?_; refine T_ret ?_; refine T_thenR ?_
    refine T_fin [_] _ ⟨rfl, trivial⟩ ⟨?_, rfl⟩ ?_
    · have : ¬ l = k := fun e => by subst e; omega
      rw [decide_eq_false this]; rfl
    · (repeat (first | exact perm_rest | apply perm_take (by repeat (first | with_reducible apply Pick.here | with_reducible apply Pick.there)) | apply perm_drop))
  · refine T_skip ?_; refine T_thenN ?_; refine T_seq ?_; refine T_seq ?_; refine T_region ?_; refine T_list ?_; refine kas rfl rfl ?_; refine T_nil ?_; refine T_thenN ?_; refine T_block ?_
    refine T_loop (fun i : Nat => i ≤ m ∧ l.take i = k.take i) (fun i => [(5, .int .i64 (i : Int)), (0, .slice a m c), (1, .slice b m2 c2)]) (fun _ => A :: B :: F) (fun i => m - i) ?_ ?_
    · exact T_inv 0 ⟨Nat.zero_le _, rfl⟩ ⟨rfl, rfl, rfl, trivial⟩ perm_rest
    · rintro i ⟨hi, he⟩
      refine T_seq ?_; refine T_seq ?_; refine T_region ?_; refine T_list ?_; refine kmv rfl rfl ?_; refine T_list ?_; refine kmv rfl rfl ?_; refine T_list ?_; refine klen rfl rfl ?_; refine T_list ?_; refine kcmp rfl rfl rfl rfl ?_; refine T_nil ?_; refine T_thenN ?_
      refine T_cond rfl (fun h => ?_) (fun h => ?_) <;> simp only [decide_eq_true_eq, decide_eq_false_iff_not, ne_eq, Decidable.not_not, Bool.not_eq_true', Bool.not_eq_false', Bool.cond_eq_true_distrib, Bool.cond_eq_false_distrib] at h
      · have h1 : i < l.length := by omega
        have h2 : i < k.length := by omega
        refine T_skip ?_; refine T_thenN ?_; refine T_seq ?_; refine T_block ?_; refine T_seq ?_
        refine T_draw [] [(0, true), (1, true), (2, true), (3, true), (4, true), (5, true), (6, true), (7, true), (8, true)] mixedT rfl (by kernel_rfl) ?_
        refine d_stillX rfl rfl ?_; refine ⟨_, (S_move rfl), ?_⟩; refine d_stillX rfl rfl ?_; refine ⟨_, (S_move rfl), ?_⟩; refine d_stillX rfl rfl ?_; refine ⟨_, (S_ixR1 hr (by repeat (first | with_reducible apply Pick.here | with_reducible apply Pick.there)) rfl rfl (by omega)), ?_⟩; refine d_stillX rfl rfl ?_; refine ⟨_, (S_ldRM hr (by repeat (first | with_reducible apply Pick.here | with_reducible apply Pick.there)) rfl (by omega)), ?_⟩; refine d_stillX rfl rfl ?_; refine ⟨_, (S_move rfl), ?_⟩; refine d_stillX rfl rfl ?_; refine ⟨_, (S_move rfl), ?_⟩; refine d_stillX rfl rfl ?_; refine ⟨_, (S_ixR1 hr2 (by repeat (first | with_reducible apply Pick.here | with_reducible apply Pick.there)) rfl rfl (by omega)), ?_⟩; refine d_stillX rfl rfl ?_; refine ⟨_, (S_ldRM hr2 (by repeat (first | with_reducible apply Pick.here | with_reducible apply Pick.there)) rfl (by omega)), ?_⟩; refine d_stillX rfl rfl ?_; refine ⟨_, (S_cmp rfl rfl rfl), ?_⟩; refine T_seqNil ?_; refine T_thenN ?_
        have h1' : (l.map encB).length = m := by simpa using hlen
        refine T_cond rfl (fun hc => ?_) (fun hc => ?_) <;> simp only [decide_eq_true_eq, decide_eq_false_iff_not, ne_eq, Decidable.not_not, Bool.not_eq_true', Bool.not_eq_false', Bool.cond_eq_true_distrib, Bool.cond_eq_false_distrib] at hc
        · refine T_seq ?_; refine T_region ?_; refine T_list ?_; refine kas rfl rfl ?_; refine T_nil ?_; refine T_thenN ?_; refine T_ret ?_; refine T_inR ?_; refine T_thenR ?_; refine T_thenR ?_; refine T_inR ?_; refine T_thenR ?_
          refine T_fin [_] _ ⟨rfl, trivial⟩ ⟨?_, rfl⟩ ?_
          · have : ¬ l = k := fun e => by subst e; exact hc rfl
            rw [decide_eq_false this]; rfl
          · (repeat (first | exact perm_rest | apply perm_take (by repeat (first | with_reducible apply Pick.here | with_reducible apply Pick.there)) | apply perm_drop))
        · rw [encB_inj] at hc
          refine T_skip ?_; refine T_inN ?_; refine T_thenN ?_; refine T_region ?_; refine T_list ?_; refine kmv rfl rfl ?_; refine T_list ?_; refine kar rfl rfl rfl rfl (by simp only [fits]; omega) ?_; refine T_list ?_; refine kas rfl rfl ?_; refine T_nil ?_; refine T_thenN ?_
          refine T_inv (i + 1) ⟨⟨(by first | omega | (dsimp only; omega)), ?_⟩, (by first | omega | (dsimp only; omega))⟩ ⟨rfl, rfl, rfl, trivial⟩ perm_rest
          rw [take_snoc h1, take_snoc h2, he, hc]
      · refine T_exit ?_; refine T_thenE ?_; refine T_thenE ?_; refine T_inE ?_; refine T_thenN ?_; refine T_seq ?_; refine T_region ?_; refine T_list ?_; refine kas rfl rfl ?_; refine T_nil ?_; refine T_thenN ?_; refine T_ret ?_
        refine T_fin [_] _ ⟨rfl, trivial⟩ ⟨?_, rfl⟩ ?_
        · have : l = k := by
            rw [List.take_of_length_le (by omega), List.take_of_length_le (by omega)] at he; exact he
          rw [decide_eq_true this]; rfl
        · (repeat (first | exact perm_rest | apply perm_take (by repeat (first | with_reducible apply Pick.here | with_reducible apply Pick.there)) | apply perm_drop))
def held (n : Int) : Int := max 1 (min n 8)
theorem held_ctr (n : Int) : Ctr Tryd.prog 60 [.int .i64 n] [] (fun v L => v = .int .i64 (held n) ∧ L = []) := by
  refine Ctr.of Tryd.func60 rfl rfl (fun w F => ?_)
  simp only [Tryd.ntmps60, env0, List.nil_append]
  refine T_seq ?_; refine T_region ?_; refine T_list ?_; refine kas rfl rfl ?_; refine T_nil ?_; refine T_thenN ?_; refine T_seq ?_; refine T_region ?_; refine T_list ?_; refine kmv rfl rfl ?_; refine T_list ?_; refine kmin rfl rfl rfl ?_; refine T_list ?_; refine kmax rfl rfl rfl ?_; refine T_list ?_; refine kas rfl rfl ?_; refine T_nil ?_; refine T_thenN ?_; refine T_ret ?_
  exact T_fin [_] _ ⟨rfl, trivial⟩ ⟨rfl, rfl⟩ perm_rest
theorem width_ctr (n : Int) : Ctr Tryd.prog 63 [.int .i64 n] [] (fun v L => v = .int .i64 (held n) ∧ L = []) := by
  refine Ctr.of Tryd.func63 rfl rfl (fun w F => ?_)
  simp only [Tryd.ntmps63, env0, List.nil_append]
  refine T_seq ?_; refine T_region ?_; refine T_list ?_; refine kas rfl rfl ?_; refine T_nil ?_; refine T_thenN ?_; refine T_seq ?_; refine T_region ?_; refine T_list ?_; refine kmv rfl rfl ?_; refine T_list ?_; refine kmin rfl rfl rfl ?_; refine T_list ?_; refine kmax rfl rfl rfl ?_; refine T_list ?_; refine kas rfl rfl ?_; refine T_nil ?_; refine T_thenN ?_; refine T_ret ?_
  exact T_fin [_] _ ⟨rfl, trivial⟩ ⟨rfl, rfl⟩ perm_rest
/-- The bytes of a number, the lowest one first. -/
def leBytes : Nat → Nat → List UInt8
  | 0, _ => []
  | k + 1, n => UInt8.ofNat n :: leBytes k (n / 256)
/-- What bytes tell, the lowest one first. -/
def leNum : List UInt8 → Nat
  | [] => 0
  | b :: l => b.toNat + 256 * leNum l
theorem leBytes_length : ∀ k n, (leBytes k n).length = k
  | 0, _ => rfl
  | k + 1, n => by simp [leBytes, leBytes_length k]
theorem leBytes_snoc : ∀ k n, leBytes (k + 1) n = leBytes k n ++ [UInt8.ofNat (n / 256 ^ k)]
  | 0, n => by simp [leBytes]
  | k + 1, n => by
    rw [leBytes, leBytes_snoc k (n / 256), leBytes, Nat.div_div_eq_div_mul, Nat.pow_succ', List.cons_append]
theorem leNum_lt : ∀ l : List UInt8, leNum l < 256 ^ l.length
  | [] => by simp [leNum]
  | b :: l => by
    have h1 := leNum_lt l
    have h2 := b.toNat_lt
    simp only [leNum, List.length_cons, Nat.pow_succ]
    omega
theorem leNum_append : ∀ l k : List UInt8, leNum (l ++ k) = leNum l + 256 ^ l.length * leNum k
  | [], k => by simp [leNum]
  | b :: l, k => by
    simp only [List.cons_append, leNum, leNum_append l k, List.length_cons, Nat.pow_succ]
    rw [Nat.mul_add, ← Nat.mul_assoc, Nat.mul_comm 256 (256 ^ l.length)]; omega
theorem leNum_leBytes : ∀ k n, leNum (leBytes k n) = n % 256 ^ k
  | 0, n => by simp [leNum, leBytes, Nat.mod_one]
  | k + 1, n => by
    simp only [leBytes, leNum, leNum_leBytes k, UInt8.toNat_ofNat']
    rw [show n % 2 ^ 8 = n % 256 from rfl, Nat.pow_succ', Nat.mod_mul]
theorem encB_ofNat (n : Nat) : Value.int .u8 (IntKind.u8.wrap (n : Int)) = encB (UInt8.ofNat n) := by
  simp only [encB, UInt8.toNat_ofNat', IntKind.wrap, IntKind.signed, IntKind.bits, Bool.false_and, Bool.false_eq_true, if_false]
  congr 1
theorem encB_mod (n : Nat) : Value.int .u8 ((n % 256 : Nat) : Int) = encB (UInt8.ofNat n) := by simp [encB]
theorem put_ctr (a : Option Addr) (m c : Nat) (out : List UInt8) (num : Nat) (width : Int) (hm : m ≤ 1099511627776) (hn : num < 18446744073709551616) :
    Ctr Tryd.prog 62 [.slice a m c, .int .u64 num, .int .i64 width] [slc 5 1 a m c (out.map encB)]
      (fun v L => ∃ a' c', v = .slice a' (m + (held width).toNat) c' ∧ L = [slc 5 1 a' (m + (held width).toNat) c' ((out ++ leBytes (held width).toNat num).map encB)]) := by
  have hh : 1 ≤ held width ∧ held width ≤ 8 := by unfold held; omega
  obtain ⟨W, hW⟩ : ∃ W : Nat, held width = W := ⟨(held width).toNat, by omega⟩
  have hW8 : W ≤ 8 := by omega
  refine Ctr.of Tryd.func62 rfl rfl (fun w F => ?_)
  simp only [Tryd.ntmps62, env0, List.cons_append, List.nil_append, hW, Int.toNat_natCast]
  refine T_seq ?_; refine T_region ?_; refine T_list ?_; refine kas rfl rfl ?_; refine T_nil ?_; refine T_thenN ?_
  refine T_scope (ι := Option Addr × Nat × Nat) 0 (fun x => x.2.2 ≤ W) (fun x => [(0, .slice x.1 (m + x.2.2) x.2.1), (1, .int .u64 ((num / 256 ^ x.2.2 : Nat) : Int)), (7, .int .i64 ((W - x.2.2 : Nat) : Int))])
    (fun x => slc 5 1 x.1 (m + x.2.2) x.2.1 ((out ++ leBytes x.2.2 num).map encB) :: F) (fun x => W - x.2.2) rfl ?first ?pass
  case first =>
    intro pass
    refine T_seq ?_; refine T_region ?_; refine T_list ?_; refine kmv rfl rfl ?_
    refine T_list ?_; refine T_call rfl (held_ctr _) (by repeat (first | with_reducible apply Take.nil | apply Take.cons (by repeat (first | with_reducible apply Pick.here | with_reducible apply Pick.there)))) rfl ?_
    rintro v L' ⟨rfl, rfl⟩
    simp only [List.nil_append]
    refine T_list ?_; refine kas rfl rfl ?_; refine T_nil ?_; refine T_thenN ?_; refine T_seq ?_
    refine T_atLabel pass ?_
    refine T_inv (a, c, 0) (Nat.zero_le _) ⟨rfl, ?_, ?_, trivial⟩ ?_
    · rw [Nat.pow_zero, Nat.div_one]; rfl
    · rw [hW]; rfl
    · rw [leBytes, List.append_nil]; exact perm_rest
  case pass =>
    rintro ⟨a', c', j⟩ hj
    dsimp only at hj ⊢
    refine T_seq ?_; refine T_seq ?_; refine T_region ?_; refine T_list ?_; refine kmv rfl rfl ?_; refine T_list ?_; refine kcmp rfl rfl rfl rfl ?_; refine T_nil ?_; refine T_thenN ?_
    refine T_cond rfl (fun h => ?_) (fun h => ?_) <;> simp only [decide_eq_true_eq, decide_eq_false_iff_not, ne_eq, Decidable.not_not, Bool.not_eq_true', Bool.not_eq_false', Bool.cond_eq_true_distrib, Bool.cond_eq_false_distrib] at h
    · obtain rfl : j = W := by omega
      refine T_seq ?_; refine T_region ?_; refine T_list ?_; refine kmv rfl rfl ?_; refine T_list ?_; refine kas rfl rfl ?_; refine T_nil ?_; refine T_thenN ?_; refine T_ret ?_; refine T_thenR ?_; refine T_jumpR ?_
      exact T_fin [_] _ ⟨rfl, trivial⟩ ⟨a', c', rfl, rfl⟩ perm_rest
    · refine T_skip ?_; refine T_thenN ?_; refine T_seq ?_; refine T_region ?_; refine T_list ?_; refine kmv rfl rfl ?_; refine T_list ?_; refine kmv rfl rfl ?_
      refine T_list ?_; refine kcvw rfl rfl ?_
      rw [encB_ofNat]
      refine T_list ?_; refine kbs1 rfl rfl (vs := [_]) rfl (by simp [encB, Value.oneCell']) rfl (fun b => ?_)
      refine T_list ?_; refine kap rfl rfl rfl (by repeat (first | with_reducible apply Pick.here | with_reducible apply Pick.there)) (by repeat (first | with_reducible apply Pick.here | with_reducible apply Pick.there)) (by simp [encB, Value.oneCell']) (by omega) (by omega) (fun a2 c2 => ?_)
      refine T_list ?_; refine kas rfl rfl ?_; refine T_nil ?_; refine T_thenN ?_; refine T_seq ?_; refine T_region ?_; refine T_list ?_; refine kmv rfl rfl ?_; refine T_list ?_; refine kshrN rfl rfl (q := 8) rfl (s := 256) rfl ?_; refine T_list ?_; refine kas rfl rfl ?_; refine T_nil ?_; refine T_thenN ?_; refine T_seq ?_; refine T_region ?_; refine T_list ?_; refine kmv rfl rfl ?_; refine T_list ?_; refine kar rfl rfl rfl rfl (by simp only [fits]; omega) ?_; refine T_list ?_; refine kas rfl rfl ?_; refine T_nil ?_; refine T_thenN ?_; refine T_goto ?_; refine T_jumpG ?_
      refine T_inv (a2, c2, j + 1) ⟨(by first | omega | (dsimp only; omega)), (by first | omega | (dsimp only; omega))⟩ ⟨rfl, ?_, ?_, trivial⟩ ?_
      · rw [Nat.pow_succ, ← Nat.div_div_eq_div_mul]; rfl
      · rw [show ((W - (j + 1) : Nat) : Int) = ((W - j : Nat) : Int) - 1 by omega]; rfl
      · dsimp only
        rw [← Nat.add_assoc, leBytes_snoc, ← List.append_assoc, List.map_append (l₁ := out ++ leBytes j num), List.map_cons, List.map_nil]
        (repeat (first | exact perm_rest | apply perm_take (by repeat (first | with_reducible apply Pick.here | with_reducible apply Pick.there)) | apply perm_drop))
theorem digits_ctr (num : Nat) (width : Int) (hn : num < 18446744073709551616) :
    Ctr Tryd.prog 54 [.int .u64 num, .int .i64 width] []
      (fun v L => ∃ a c, v = .slice a (held width).toNat c ∧ L = [slc 5 1 a (held width).toNat c ((leBytes (held width).toNat num).map encB)]) := by
  have hh : 1 ≤ held width ∧ held width ≤ 8 := by unfold held; omega
  obtain ⟨W, hW⟩ : ∃ W : Nat, held width = W := ⟨(held width).toNat, by omega⟩
  have hW8 : W ≤ 8 := by omega
  refine Ctr.of Tryd.func54 rfl rfl (fun w F => ?_)
  simp only [Tryd.ntmps54, env0, List.cons_append, List.nil_append, hW, Int.toNat_natCast]
  refine T_seq ?_; refine T_region ?_; refine T_list ?_; refine kas rfl rfl ?_; refine T_nil ?_; refine T_thenN ?_; refine T_seq ?_; refine T_region ?_; refine T_list ?_; refine kas rfl rfl ?_; refine T_nil ?_; refine T_thenN ?_; refine T_seq ?_; refine T_seq ?_; refine T_region ?_; refine T_list ?_; refine kas rfl rfl ?_; refine T_nil ?_; refine T_thenN ?_; refine T_block ?_
  refine T_nilS 5 1 ?_
  refine T_loop (ι := Option Addr × Nat × Nat) (fun x => x.2.2 ≤ W) (fun x => [(5, .slice x.1 x.2.2 x.2.1), (0, .int .u64 ((num / 256 ^ x.2.2 : Nat) : Int)), (6, .int .i64 (x.2.2 : Nat)), (1, .int .i64 width)])
    (fun x => slc 5 1 x.1 x.2.2 x.2.1 ((leBytes x.2.2 num).map encB) :: F) (fun x => W - x.2.2) ?_ ?_
  · refine T_inv (none, 0, 0) (Nat.zero_le _) ⟨rfl, ?_, rfl, rfl, trivial⟩ perm_rest
    rw [Nat.pow_zero, Nat.div_one]; rfl
  · rintro ⟨a', c', j⟩ hj
    dsimp only at hj ⊢
    have hb : num / 256 ^ j < 18446744073709551616 := Nat.lt_of_le_of_lt (Nat.div_le_self _ _) hn
    generalize hq : num / 256 ^ j = q at hb ⊢
    refine T_seq ?_; refine T_seq ?_; refine T_region ?_; refine T_list ?_; refine kmv rfl rfl ?_; refine T_list ?_; refine kmv rfl rfl ?_
    refine T_list ?_; refine T_call rfl (width_ctr _) (by repeat (first | with_reducible apply Take.nil | apply Take.cons (by repeat (first | with_reducible apply Pick.here | with_reducible apply Pick.there)))) rfl ?_
    rintro v L' ⟨rfl, rfl⟩
    simp only [List.nil_append, hW]
    refine T_list ?_; refine kcmp rfl rfl rfl rfl ?_; refine T_nil ?_; refine T_thenN ?_
    refine T_cond rfl (fun h => ?_) (fun h => ?_) <;> simp only [decide_eq_true_eq, decide_eq_false_iff_not, ne_eq, Decidable.not_not, Bool.not_eq_true', Bool.not_eq_false', Bool.cond_eq_true_distrib, Bool.cond_eq_false_distrib] at h
    · refine T_skip ?_; refine T_thenN ?_; refine T_seq ?_; refine T_block ?_; refine T_seq ?_; refine T_region ?_; refine T_list ?_; refine kmv rfl rfl ?_; refine T_list ?_; refine kmv rfl rfl ?_; refine T_list ?_; refine kremN rfl rfl (q := 256) rfl rfl ?_; refine T_list ?_; refine kcv rfl rfl (by simp only [fits]; omega) ?_
      rw [encB_mod]
      refine T_list ?_; refine kbs1 rfl rfl (vs := [_]) rfl (by simp [encB, Value.oneCell']) rfl (fun b => ?_)
      refine T_list ?_; refine kap rfl rfl rfl (by repeat (first | with_reducible apply Pick.here | with_reducible apply Pick.there)) (by repeat (first | with_reducible apply Pick.here | with_reducible apply Pick.there)) (by simp [encB, Value.oneCell']) (by omega) (by omega) (fun a2 c2 => ?_)
      refine T_list ?_; refine kas rfl rfl ?_; refine T_nil ?_; refine T_thenN ?_; refine T_region ?_; refine T_list ?_; refine kmv rfl rfl ?_; refine T_list ?_; refine kquoN rfl rfl (q := 256) rfl rfl (by simp only [fits]; omega) ?_; refine T_list ?_; refine kas rfl rfl ?_; refine T_nil ?_; refine T_inN ?_; refine T_thenN ?_; refine T_region ?_; refine T_list ?_; refine kmv rfl rfl ?_; refine T_list ?_; refine kar rfl rfl rfl rfl (by simp only [fits]; omega) ?_; refine T_list ?_; refine kas rfl rfl ?_; refine T_nil ?_; refine T_thenN ?_
      refine T_inv (a2, c2, j + 1) ⟨(by first | omega | (dsimp only; omega)), (by first | omega | (dsimp only; omega))⟩ ⟨rfl, ?_, rfl, rfl, trivial⟩ ?_
      · dsimp only; rw [Nat.pow_succ, ← Nat.div_div_eq_div_mul, hq]; rfl
      · dsimp only
        rw [leBytes_snoc, List.map_append, List.map_cons, List.map_nil, hq]
        (repeat (first | exact perm_rest | apply perm_take (by repeat (first | with_reducible apply Pick.here | with_reducible apply Pick.there)) | apply perm_drop))
    · obtain rfl : j = W := by omega
      refine T_exit ?_; refine T_thenE ?_; refine T_thenE ?_; refine T_inE ?_; refine T_thenN ?_; refine T_seq ?_; refine T_region ?_; refine T_list ?_; refine kmv rfl rfl ?_; refine T_list ?_; refine kas rfl rfl ?_; refine T_nil ?_; refine T_thenN ?_; refine T_ret ?_
      exact T_fin [_] _ ⟨rfl, trivial⟩ ⟨a', c', rfl, rfl⟩ perm_rest
end Go.Proofs
