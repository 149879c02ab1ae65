/- Facts on this program's types. -/
import Derived.Test.YtbfllafbklfcjaaStW
set_option linter.unusedVariables false
set_option maxRecDepth 100000
namespace Go.Proofs.Ytbfllafbklfcjaa
open Go.RowKit

theorem tyOne_2 : OneT Try.prog 2 := ⟨_, Try.underlying2, rfl, by kernel_rfl⟩
theorem tyZero_2 : ZeroT Try.prog 2 [.int .i64 0] := ⟨.int .i64 0, by kernel_rfl, rfl⟩
theorem tyOne_3 : OneT Try.prog 3 := ⟨_, Try.underlying3, rfl, by kernel_rfl⟩
theorem tyZero_3 : ZeroT Try.prog 3 [.int .i64 0] := ⟨.int .i64 0, by kernel_rfl, rfl⟩
theorem tyOne_4 : OneT Try.prog 4 := ⟨_, Try.underlying4, rfl, by kernel_rfl⟩
theorem tyZero_4 : ZeroT Try.prog 4 [.bool false] := ⟨.bool false, by kernel_rfl, rfl⟩
theorem tyOne_5 : OneT Try.prog 5 := ⟨_, Try.underlying5, rfl, by kernel_rfl⟩
theorem tyZero_5 : ZeroT Try.prog 5 [.int .u8 0] := ⟨.int .u8 0, by kernel_rfl, rfl⟩
theorem tyOne_9 : OneT Try.prog 9 := ⟨_, Try.underlying9, rfl, by kernel_rfl⟩
theorem tyZero_9 : ZeroT Try.prog 9 [.string ⟨#[]⟩] := ⟨.string ⟨#[]⟩, by kernel_rfl, rfl⟩
theorem tyOne_12 : OneT Try.prog 12 := ⟨_, Try.underlying12, rfl, by kernel_rfl⟩
theorem tyZero_12 : ZeroT Try.prog 12 [.int .u64 0] := ⟨.int .u64 0, by kernel_rfl, rfl⟩
theorem tyRow_13 : RowTy Try.prog 13 2 := ⟨_, Try.underlying13, rfl, by kernel_rfl⟩
theorem tyZero_13 : ZeroT Try.prog 13 [.string ⟨#[]⟩, .int .u64 0] := ⟨.agg #[.string ⟨#[]⟩, .int .u64 0], by kernel_rfl, rfl⟩
theorem tyOne_21 : OneT Try.prog 21 := ⟨_, Try.underlying21, rfl, by kernel_rfl⟩
theorem tyZero_21 : ZeroT Try.prog 21 [.int .i32 0] := ⟨.int .i32 0, by kernel_rfl, rfl⟩
theorem tyOne_22 : OneT Try.prog 22 := ⟨_, Try.underlying22, rfl, by kernel_rfl⟩
theorem tyZero_22 : ZeroT Try.prog 22 [.slice none 0 0] := ⟨.slice none 0 0, by kernel_rfl, rfl⟩
theorem tySl_22 : SlT Try.prog 22 30 (.agg #[.int .i64 0, .int .u32 0, .int .i64 0, .int .i64 0, .int .i64 0, .int .i64 0, .int .u32 0, .int .u32 0, .int .i64 0, .int .i64 0, .int .u32 0, .int .u32 0, .int .u32 0, .int .i64 0, .int .i64 0, .bool false, .bool false]) 17 120 := ⟨Try.underlying22, by kernel_rfl, rfl, by decide⟩
theorem tyOne_26 : OneT Try.prog 26 := ⟨_, Try.underlying26, rfl, by kernel_rfl⟩
theorem tyZero_26 : ZeroT Try.prog 26 [.int .u32 0] := ⟨.int .u32 0, by kernel_rfl, rfl⟩
theorem tyRow_27 : RowTy Try.prog 27 5 := ⟨_, Try.underlying27, rfl, by kernel_rfl⟩
theorem tyZero_27 : ZeroT Try.prog 27 [.int .i64 0, .int .i64 0, .int .i64 0, .int .i64 0, .int .u32 0] := ⟨.agg #[.int .i64 0, .int .i64 0, .int .i64 0, .int .i64 0, .int .u32 0], by kernel_rfl, rfl⟩
theorem tyRow_28 : RowTy Try.prog 28 5 := ⟨_, Try.underlying28, rfl, by kernel_rfl⟩
theorem tyZero_28 : ZeroT Try.prog 28 [.int .i64 0, .int .i64 0, .int .i64 0, .int .i64 0, .int .u32 0] := ⟨.agg #[.int .i64 0, .int .i64 0, .int .i64 0, .int .i64 0, .int .u32 0], by kernel_rfl, rfl⟩
theorem tyFld_28_0 : FldT Try.prog 28 0 0 := ⟨_, _, 1, Try.underlying28, rfl, rfl, by kernel_rfl, by decide⟩
theorem tyFld_28_1 : FldT Try.prog 28 1 1 := ⟨_, _, 1, Try.underlying28, rfl, rfl, by kernel_rfl, by decide⟩
theorem tyFld_28_2 : FldT Try.prog 28 2 2 := ⟨_, _, 1, Try.underlying28, rfl, rfl, by kernel_rfl, by decide⟩
theorem tyFld_28_3 : FldT Try.prog 28 3 3 := ⟨_, _, 1, Try.underlying28, rfl, rfl, by kernel_rfl, by decide⟩
theorem tyFld_28_4 : FldT Try.prog 28 4 4 := ⟨_, _, 1, Try.underlying28, rfl, rfl, by kernel_rfl, by decide⟩
theorem tyRow_29 : RowTy Try.prog 29 17 := ⟨_, Try.underlying29, rfl, by kernel_rfl⟩
theorem tyZero_29 : ZeroT Try.prog 29 [.int .i64 0, .int .u32 0, .int .i64 0, .int .i64 0, .int .i64 0, .int .i64 0, .int .u32 0, .int .u32 0, .int .i64 0, .int .i64 0, .int .u32 0, .int .u32 0, .int .u32 0, .int .i64 0, .int .i64 0, .bool false, .bool false] := ⟨.agg #[.int .i64 0, .int .u32 0, .int .i64 0, .int .i64 0, .int .i64 0, .int .i64 0, .int .u32 0, .int .u32 0, .int .i64 0, .int .i64 0, .int .u32 0, .int .u32 0, .int .u32 0, .int .i64 0, .int .i64 0, .bool false, .bool false], by kernel_rfl, rfl⟩
theorem tyRow_30 : RowTy Try.prog 30 17 := ⟨_, Try.underlying30, rfl, by kernel_rfl⟩
theorem tyZero_30 : ZeroT Try.prog 30 [.int .i64 0, .int .u32 0, .int .i64 0, .int .i64 0, .int .i64 0, .int .i64 0, .int .u32 0, .int .u32 0, .int .i64 0, .int .i64 0, .int .u32 0, .int .u32 0, .int .u32 0, .int .i64 0, .int .i64 0, .bool false, .bool false] := ⟨.agg #[.int .i64 0, .int .u32 0, .int .i64 0, .int .i64 0, .int .i64 0, .int .i64 0, .int .u32 0, .int .u32 0, .int .i64 0, .int .i64 0, .int .u32 0, .int .u32 0, .int .u32 0, .int .i64 0, .int .i64 0, .bool false, .bool false], by kernel_rfl, rfl⟩
theorem tyFld_30_0 : FldT Try.prog 30 0 0 := ⟨_, _, 1, Try.underlying30, rfl, rfl, by kernel_rfl, by decide⟩
theorem tyFld_30_1 : FldT Try.prog 30 1 1 := ⟨_, _, 1, Try.underlying30, rfl, rfl, by kernel_rfl, by decide⟩
theorem tyFld_30_2 : FldT Try.prog 30 2 2 := ⟨_, _, 5, Try.underlying30, rfl, rfl, by kernel_rfl, by decide⟩
theorem tyFld_30_3 : FldT Try.prog 30 3 7 := ⟨_, _, 1, Try.underlying30, rfl, rfl, by kernel_rfl, by decide⟩
theorem tyFld_30_4 : FldT Try.prog 30 4 8 := ⟨_, _, 1, Try.underlying30, rfl, rfl, by kernel_rfl, by decide⟩
theorem tyFld_30_5 : FldT Try.prog 30 5 9 := ⟨_, _, 1, Try.underlying30, rfl, rfl, by kernel_rfl, by decide⟩
theorem tyFld_30_6 : FldT Try.prog 30 6 10 := ⟨_, _, 1, Try.underlying30, rfl, rfl, by kernel_rfl, by decide⟩
theorem tyFld_30_7 : FldT Try.prog 30 7 11 := ⟨_, _, 1, Try.underlying30, rfl, rfl, by kernel_rfl, by decide⟩
theorem tyFld_30_8 : FldT Try.prog 30 8 12 := ⟨_, _, 1, Try.underlying30, rfl, rfl, by kernel_rfl, by decide⟩
theorem tyFld_30_9 : FldT Try.prog 30 9 13 := ⟨_, _, 1, Try.underlying30, rfl, rfl, by kernel_rfl, by decide⟩
theorem tyFld_30_10 : FldT Try.prog 30 10 14 := ⟨_, _, 1, Try.underlying30, rfl, rfl, by kernel_rfl, by decide⟩
theorem tyFld_30_11 : FldT Try.prog 30 11 15 := ⟨_, _, 1, Try.underlying30, rfl, rfl, by kernel_rfl, by decide⟩
theorem tyFld_30_12 : FldT Try.prog 30 12 16 := ⟨_, _, 1, Try.underlying30, rfl, rfl, by kernel_rfl, by decide⟩
theorem tyOne_34 : OneT Try.prog 34 := ⟨_, Try.underlying34, rfl, by kernel_rfl⟩
theorem tyZero_34 : ZeroT Try.prog 34 [.slice none 0 0] := ⟨.slice none 0 0, by kernel_rfl, rfl⟩
theorem tySl_34 : SlT Try.prog 34 4 (.bool false) 1 1 := ⟨Try.underlying34, by kernel_rfl, rfl, by decide⟩
theorem tyOne_35 : OneT Try.prog 35 := ⟨_, Try.underlying35, rfl, by kernel_rfl⟩
theorem tyZero_35 : ZeroT Try.prog 35 [.slice none 0 0] := ⟨.slice none 0 0, by kernel_rfl, rfl⟩
theorem tySl_35 : SlT Try.prog 35 3 (.int .i64 0) 1 8 := ⟨Try.underlying35, by kernel_rfl, rfl, by decide⟩

end Go.Proofs.Ytbfllafbklfcjaa
