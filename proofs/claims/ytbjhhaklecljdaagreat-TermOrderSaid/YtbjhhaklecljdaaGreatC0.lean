/-
  The codes and tables of the functions of this seat, compared with the loaded program by the kernel.
-/
import Derived.Test.YtbjhhaklecljdaaGreatProg
import Derived.Test.YtbjhhaklecljdaaGreatL0
import Derived.KernelRfl
import Derived.RowKit
section
set_option linter.unusedVariables false
namespace Go.Proofs.YtbjhhaklecljdaaGreat
open Go.Aw Go.RowKit
set_option maxRecDepth 100000
noncomputable section
theorem mixed : Tryz.prog.follows .mixedOrders = true := by kernel_rfl
theorem t_agg_23 : tAgg Tryz.prog 23 = some false := by kernel_rfl
theorem t_agg_25 : tAgg Tryz.prog 25 = some true := by kernel_rfl
theorem t_agg_3 : tAgg Tryz.prog 3 = some false := by kernel_rfl
theorem t_agg_39 : tAgg Tryz.prog 39 = some false := by kernel_rfl
theorem t_agg_4 : tAgg Tryz.prog 4 = some false := by kernel_rfl
theorem t_agg_43 : tAgg Tryz.prog 43 = some true := by kernel_rfl
theorem t_agg_45 : tAgg Tryz.prog 45 = some true := by kernel_rfl
theorem t_agg_51 : tAgg Tryz.prog 51 = some true := by kernel_rfl
theorem t_agg_65 : tAgg Tryz.prog 65 = some true := by kernel_rfl
theorem t_agg_78 : tAgg Tryz.prog 78 = some false := by kernel_rfl
theorem t_agg_9 : tAgg Tryz.prog 9 = some false := by kernel_rfl
theorem t_agg_94 : tAgg Tryz.prog 94 = some true := by kernel_rfl
theorem t_bytes_23 : tBytes Tryz.prog 23 = some 24 := by kernel_rfl
theorem t_bytes_3 : tBytes Tryz.prog 3 = some 8 := by kernel_rfl
theorem t_bytes_45 : tBytes Tryz.prog 45 = some 40 := by kernel_rfl
theorem t_bytes_51 : tBytes Tryz.prog 51 = some 48 := by kernel_rfl
theorem t_bytes_65 : tBytes Tryz.prog 65 = some 16 := by kernel_rfl
theorem t_elem_100 : tElem Tryz.prog 100 = none := by kernel_rfl
theorem t_elem_101 : tElem Tryz.prog 101 = some 3 := by kernel_rfl
theorem t_elem_23 : tElem Tryz.prog 23 = some 65 := by kernel_rfl
theorem t_elem_28 : tElem Tryz.prog 28 = some 51 := by kernel_rfl
theorem t_elem_29 : tElem Tryz.prog 29 = some 51 := by kernel_rfl
theorem t_elem_3 : tElem Tryz.prog 3 = none := by kernel_rfl
theorem t_elem_39 : tElem Tryz.prog 39 = some 45 := by kernel_rfl
theorem t_elem_78 : tElem Tryz.prog 78 = some 23 := by kernel_rfl
theorem t_elem_9 : tElem Tryz.prog 9 = none := by kernel_rfl
theorem t_eq_29 : tEq Tryz.prog 29 = none := by kernel_rfl
theorem t_eq_3 : tEq Tryz.prog 3 = none := by kernel_rfl
theorem t_eq_35 : tEq Tryz.prog 35 = none := by kernel_rfl
theorem t_eq_4 : tEq Tryz.prog 4 = none := by kernel_rfl
theorem t_eq_65 : tEq Tryz.prog 65 = some [.int .i64, .int .i64] := by kernel_rfl
theorem t_eq_9 : tEq Tryz.prog 9 = none := by kernel_rfl
theorem t_field_25_0 : tField Tryz.prog 25 0 = some (0, 1) := by kernel_rfl
theorem t_field_25_1 : tField Tryz.prog 25 1 = some (1, 1) := by kernel_rfl
theorem t_field_43_0 : tField Tryz.prog 43 0 = some (0, 1) := by kernel_rfl
theorem t_field_43_1 : tField Tryz.prog 43 1 = some (1, 1) := by kernel_rfl
theorem t_field_43_2 : tField Tryz.prog 43 2 = some (2, 1) := by kernel_rfl
theorem t_field_45_0 : tField Tryz.prog 45 0 = some (0, 1) := by kernel_rfl
theorem t_field_45_1 : tField Tryz.prog 45 1 = some (1, 3) := by kernel_rfl
theorem t_field_51_0 : tField Tryz.prog 51 0 = some (0, 1) := by kernel_rfl
theorem t_field_51_1 : tField Tryz.prog 51 1 = some (1, 1) := by kernel_rfl
theorem t_field_51_2 : tField Tryz.prog 51 2 = some (2, 1) := by kernel_rfl
theorem t_field_65_0 : tField Tryz.prog 65 0 = some (0, 1) := by kernel_rfl
theorem t_field_65_1 : tField Tryz.prog 65 1 = some (1, 1) := by kernel_rfl
theorem t_fok_25 : tFieldsOk Tryz.prog 25 = true := by kernel_rfl
theorem t_fok_43 : tFieldsOk Tryz.prog 43 = true := by kernel_rfl
theorem t_fok_45 : tFieldsOk Tryz.prog 45 = true := by kernel_rfl
theorem t_fok_51 : tFieldsOk Tryz.prog 51 = true := by kernel_rfl
theorem t_fok_65 : tFieldsOk Tryz.prog 65 = true := by kernel_rfl
theorem t_kind_100 : tKind Tryz.prog 100 = some (.map 3 3) := by kernel_rfl
theorem t_kind_101 : tKind Tryz.prog 101 = some (.slice 3) := by kernel_rfl
theorem t_kind_23 : tKind Tryz.prog 23 = some (.slice 65) := by kernel_rfl
theorem t_kind_25 : tKind Tryz.prog 25 = some (.struct) := by kernel_rfl
theorem t_kind_28 : tKind Tryz.prog 28 = some (.slice 51) := by kernel_rfl
theorem t_kind_29 : tKind Tryz.prog 29 = some (.slice 51) := by kernel_rfl
theorem t_kind_3 : tKind Tryz.prog 3 = some (.int .i64) := by kernel_rfl
theorem t_kind_39 : tKind Tryz.prog 39 = some (.slice 45) := by kernel_rfl
theorem t_kind_43 : tKind Tryz.prog 43 = some (.struct) := by kernel_rfl
theorem t_kind_45 : tKind Tryz.prog 45 = some (.struct) := by kernel_rfl
theorem t_kind_51 : tKind Tryz.prog 51 = some (.struct) := by kernel_rfl
theorem t_kind_55 : tKind Tryz.prog 55 = some (.int .u32) := by kernel_rfl
theorem t_kind_65 : tKind Tryz.prog 65 = some (.struct) := by kernel_rfl
theorem t_kind_78 : tKind Tryz.prog 78 = some (.slice 23) := by kernel_rfl
theorem t_kind_9 : tKind Tryz.prog 9 = some (.str) := by kernel_rfl
theorem t_kind_94 : tKind Tryz.prog 94 = some (.arr 3 3) := by kernel_rfl
theorem t_kind_99 : tKind Tryz.prog 99 = some (.int .u64) := by kernel_rfl
theorem t_map_100 : tMapKV Tryz.prog 100 = some (3, 3) := by kernel_rfl
theorem t_map_101 : tMapKV Tryz.prog 101 = none := by kernel_rfl
theorem t_map_23 : tMapKV Tryz.prog 23 = none := by kernel_rfl
theorem t_map_28 : tMapKV Tryz.prog 28 = none := by kernel_rfl
theorem t_map_29 : tMapKV Tryz.prog 29 = none := by kernel_rfl
theorem t_map_3 : tMapKV Tryz.prog 3 = none := by kernel_rfl
theorem t_map_39 : tMapKV Tryz.prog 39 = none := by kernel_rfl
theorem t_map_56 : tMapKV Tryz.prog 56 = some (9, 3) := by kernel_rfl
theorem t_map_78 : tMapKV Tryz.prog 78 = none := by kernel_rfl
theorem t_map_85 : tMapKV Tryz.prog 85 = some (9, 51) := by kernel_rfl
theorem t_map_9 : tMapKV Tryz.prog 9 = none := by kernel_rfl
theorem t_nil_29 : tNil Tryz.prog 29 = 1 := by kernel_rfl
theorem t_nil_3 : tNil Tryz.prog 3 = 0 := by kernel_rfl
theorem t_nil_35 : tNil Tryz.prog 35 = 0 := by kernel_rfl
theorem t_nil_4 : tNil Tryz.prog 4 = 5 := by kernel_rfl
theorem t_nil_65 : tNil Tryz.prog 65 = 0 := by kernel_rfl
theorem t_nil_9 : tNil Tryz.prog 9 = 0 := by kernel_rfl
theorem t_size_23 : tSize Tryz.prog 23 = some 1 := by kernel_rfl
theorem t_size_25 : tSize Tryz.prog 25 = some 2 := by kernel_rfl
theorem t_size_3 : tSize Tryz.prog 3 = some 1 := by kernel_rfl
theorem t_size_39 : tSize Tryz.prog 39 = some 1 := by kernel_rfl
theorem t_size_4 : tSize Tryz.prog 4 = some 1 := by kernel_rfl
theorem t_size_43 : tSize Tryz.prog 43 = some 3 := by kernel_rfl
theorem t_size_45 : tSize Tryz.prog 45 = some 4 := by kernel_rfl
theorem t_size_51 : tSize Tryz.prog 51 = some 3 := by kernel_rfl
theorem t_size_65 : tSize Tryz.prog 65 = some 2 := by kernel_rfl
theorem t_size_78 : tSize Tryz.prog 78 = some 1 := by kernel_rfl
theorem t_size_9 : tSize Tryz.prog 9 = some 1 := by kernel_rfl
theorem t_size_94 : tSize Tryz.prog 94 = some 3 := by kernel_rfl
theorem t_zeroV_3 : tZeroV Tryz.prog 3 = some (.int .i64 0) := by kernel_rfl
theorem t_zeroV_51 : tZeroV Tryz.prog 51 = some (.agg [.str ByteArray.empty, .bool false, .isl .nil []]) := by kernel_rfl
theorem t_zero_23 : tZero Tryz.prog 23 = some [.isl .nil []] := by kernel_rfl
theorem t_zero_25 : tZero Tryz.prog 25 = some [.str ByteArray.empty, .isl .nil []] := by kernel_rfl
theorem t_zero_3 : tZero Tryz.prog 3 = some [.int .i64 0] := by kernel_rfl
theorem t_zero_43 : tZero Tryz.prog 43 = some [.int .i64 0, .int .i64 0, .int .i64 0] := by kernel_rfl
theorem t_zero_45 : tZero Tryz.prog 45 = some [.str ByteArray.empty, .int .i64 0, .int .i64 0, .int .i64 0] := by kernel_rfl
theorem t_zero_51 : tZero Tryz.prog 51 = some [.str ByteArray.empty, .bool false, .isl .nil []] := by kernel_rfl
theorem t_zero_65 : tZero Tryz.prog 65 = some [.int .i64 0, .int .i64 0] := by kernel_rfl
theorem t_zero_94 : tZero Tryz.prog 94 = some [.int .i64 0, .int .i64 0, .int .i64 0] := by kernel_rfl
def c57_L0 : ACode :=
  .seq (.ops 3000 [⟨some 8, (.binOp .lss 3 (.tmp 7) (.const (.int .i64 3)) 3), none⟩]) (.seq (.cond (.tmp 8) (.skip) (.exit 0)) (.seq (.block 1 (.seq (.ops 4000 [⟨some 9, (.index 94 (.tmp 6) (.tmp 7)), none⟩,
  ⟨some 4, (.assign (.tmp 9)), none⟩]) (.seq (.ops 5000 [⟨some 10, (.move (.tmp 4)), none⟩,
  ⟨some 11, (.binOp .lss 3 (.tmp 10) (.const (.int .i64 0)) 3), none⟩,
  ⟨some 12, (.move (.tmp 11)), none⟩,
  ⟨some 13, (.move (.tmp 4)), some (12, false)⟩,
  ⟨some 14, (.binOp .gtr 3 (.tmp 13) (.const (.int .i64 999)) 3), some (12, false)⟩,
  ⟨some 15, (.pick (.tmp 12) (.const (.bool true)) (.tmp 14)), none⟩]) (.cond (.tmp 15) (.seq (.ops 6000 [⟨some 2, (.assign (.const (.bool false))), none⟩]) (.ret)) (.skip))))) (.ops 7000 [⟨some 16, (.binOp .add 3 (.tmp 7) (.const (.int .i64 1)) 3), none⟩,
  ⟨some 7, (.move (.tmp 16)), none⟩])))
def c57 : ACode :=
  .seq (.ops 1000 [⟨some 1, (.box 43 (.tmp 0)), none⟩,
  ⟨some 2, (.assign (.const (.bool false))), none⟩]) (.seq (.seq (.ops 2000 [⟨some 5, (.load 43 (.tmp 1)), none⟩,
  ⟨some 6, (.call { callee := (.value (.func 80)), args := #[.tmp 5], argTypes := #[43] }), none⟩,
  ⟨some 7, (.move (.const (.int .i64 0))), none⟩]) (.block 0 (.loop c57_L0))) (.seq (.ops 8000 [⟨some 2, (.assign (.const (.bool true))), none⟩]) (.ret)))
theorem c57_ok : Tryz.f57.body.bind (absCode Tryz.f57.ntmps) = some c57 := by kernel_rfl
theorem r57 : Tryz.f57.results.toList = [.tmp 2] := by kernel_rfl
theorem e57 : Enters Tryz.prog 57 := enters_of Tryz.func57 (by kernel_rfl) rfl
def c80 : ACode :=
  .seq (.ops 1000 [⟨some 1, (.box 43 (.tmp 0)), none⟩,
  ⟨some 2, (.alloc 94), none⟩]) (.seq (.ops 2000 [⟨some 3, (.fieldAddr 43 (.tmp 1) 0), none⟩,
  ⟨some 4, (.load 3 (.tmp 3)), none⟩,
  ⟨some 5, (.fieldAddr 43 (.tmp 1) 1), none⟩,
  ⟨some 6, (.load 3 (.tmp 5)), none⟩,
  ⟨some 7, (.fieldAddr 43 (.tmp 1) 2), none⟩,
  ⟨some 8, (.load 3 (.tmp 7)), none⟩,
  ⟨some 9, (.build 94 #[(0, .tmp 4), (1, .tmp 6), (2, .tmp 8)]), none⟩,
  ⟨none, (.store 94 (.tmp 2) (.tmp 9)), none⟩]) (.ret))
theorem c80_ok : Tryz.f80.body.bind (absCode Tryz.f80.ntmps) = some c80 := by kernel_rfl
theorem r80 : Tryz.f80.results.toList = [(.cell 2 94)] := by kernel_rfl
theorem e80 : Enters Tryz.prog 80 := enters_of Tryz.func80 (by kernel_rfl) rfl
def c60 : ACode :=
  .seq (.ops 1000 [⟨some 2, (.box 65 (.tmp 0)), none⟩,
  ⟨some 3, (.assign (.const (.bool false))), none⟩]) (.seq (.ops 2000 [⟨some 4, (.fieldAddr 65 (.tmp 2) 0), none⟩,
  ⟨some 5, (.load 3 (.tmp 4)), none⟩,
  ⟨some 6, (.load 3 (.tmp 1)), none⟩,
  ⟨some 7, (.binOp .leq 3 (.tmp 5) (.tmp 6) 3), none⟩,
  ⟨some 8, (.move (.tmp 7)), none⟩,
  ⟨some 9, (.load 3 (.tmp 1)), some (8, true)⟩,
  ⟨some 10, (.fieldAddr 65 (.tmp 2) 1), some (8, true)⟩,
  ⟨some 11, (.load 3 (.tmp 10)), some (8, true)⟩,
  ⟨some 12, (.binOp .lss 3 (.tmp 9) (.tmp 11) 3), some (8, true)⟩,
  ⟨some 13, (.pick (.tmp 8) (.tmp 12) (.const (.bool false))), none⟩,
  ⟨some 3, (.assign (.tmp 13)), none⟩]) (.ret))
theorem c60_ok : Tryz.f60.body.bind (absCode Tryz.f60.ntmps) = some c60 := by kernel_rfl
theorem r60 : Tryz.f60.results.toList = [.tmp 3] := by kernel_rfl
theorem e60 : Enters Tryz.prog 60 := enters_of Tryz.func60 (by kernel_rfl) rfl
def c58 : ACode :=
  .seq (.ops 1000 [⟨some 2, (.box 45 (.tmp 0)), none⟩,
  ⟨some 3, (.assign (.const (.bool false))), none⟩]) (.seq (.ops 2000 [⟨some 4, (.fieldAddr 45 (.tmp 2) 0), none⟩,
  ⟨some 5, (.load 9 (.tmp 4)), none⟩,
  ⟨some 6, (.fieldAddr 51 (.tmp 1) 0), none⟩,
  ⟨some 7, (.load 9 (.tmp 6)), none⟩,
  ⟨some 8, (.binOp .eql 9 (.tmp 5) (.tmp 7) 9), none⟩,
  ⟨some 3, (.assign (.tmp 8)), none⟩]) (.ret))
theorem c58_ok : Tryz.f58.body.bind (absCode Tryz.f58.ntmps) = some c58 := by kernel_rfl
theorem r58 : Tryz.f58.results.toList = [.tmp 3] := by kernel_rfl
theorem e58 : Enters Tryz.prog 58 := enters_of Tryz.func58 (by kernel_rfl) rfl
def c25 : ACode :=
  .seq (.ops 1000 [⟨some 1, (.box 43 (.tmp 0)), none⟩,
  ⟨some 2, (.assign (.const (.int .i64 0))), none⟩,
  ⟨some 3, (.assign (.const (.int .i64 0))), none⟩]) (.seq (.seq (.ops 2000 [⟨some 4, (.load 43 (.tmp 1)), none⟩,
  ⟨some 5, (.call { callee := (.value (.func 57)), args := #[.tmp 4], argTypes := #[43] }), none⟩,
  ⟨some 6, (.unOp .not 4 (.tmp 5)), none⟩]) (.cond (.tmp 6) (.seq (.ops 3000 [⟨some 2, (.assign (.const (.int .i64 0))), none⟩,
  ⟨some 3, (.assign (.const (.int .i64 2))), none⟩]) (.ret)) (.skip))) (.seq (.ops 4000 [⟨some 7, (.fieldAddr 43 (.tmp 1) 1), none⟩,
  ⟨some 8, (.load 3 (.tmp 7)), none⟩,
  ⟨some 9, (.binOp .mul 3 (.const (.int .i64 1000)) (.tmp 8) 3), none⟩,
  ⟨some 10, (.fieldAddr 43 (.tmp 1) 2), none⟩,
  ⟨some 11, (.load 3 (.tmp 10)), none⟩,
  ⟨some 12, (.binOp .add 3 (.tmp 9) (.tmp 11) 3), none⟩,
  ⟨some 2, (.assign (.tmp 12)), none⟩,
  ⟨some 3, (.assign (.const (.int .i64 0))), none⟩]) (.ret)))
theorem c25_ok : Tryz.f25.body.bind (absCode Tryz.f25.ntmps) = some c25 := by kernel_rfl
theorem r25 : Tryz.f25.results.toList = [.tmp 2, .tmp 3] := by kernel_rfl
theorem e25 : Enters Tryz.prog 25 := enters_of Tryz.func25 (by kernel_rfl) rfl
def c59 : ACode :=
  .seq (.ops 1000 [⟨some 4, (.assign (.const (.bool false))), none⟩]) (.seq (.ops 2000 [⟨some 5, (.move (.tmp 0)), none⟩,
  ⟨some 6, (.move (.tmp 1)), none⟩,
  ⟨some 7, (.call { callee := (.value (.func 81)), args := #[.tmp 5, .tmp 6], argTypes := #[23, 84] }), none⟩,
  ⟨some 8, (.binOp .geq 3 (.tmp 7) (.const (.int .i64 0)) 3), none⟩,
  ⟨some 4, (.assign (.tmp 8)), none⟩]) (.ret))
theorem c59_ok : Tryz.f59.body.bind (absCode Tryz.f59.ntmps) = some c59 := by kernel_rfl
theorem r59 : Tryz.f59.results.toList = [.tmp 4] := by kernel_rfl
theorem e59 : Enters Tryz.prog 59 := enters_of Tryz.func59 (by kernel_rfl) rfl
def c81_L0 : ACode :=
  .seq (.ops 3000 [⟨some 9, (.binOp .lss 3 (.tmp 8) (.tmp 7) 3), none⟩]) (.seq (.cond (.tmp 9) (.skip) (.exit 0)) (.seq (.block 1 (.seq (.ops 4000 [⟨some 10, (.move (.tmp 8)), none⟩,
  ⟨some 5, (.assign (.tmp 10)), none⟩]) (.seq (.ops 5000 [⟨some 11, (.move (.tmp 1)), none⟩,
  ⟨some 12, (.move (.tmp 0)), none⟩,
  ⟨some 13, (.move (.tmp 5)), none⟩,
  ⟨some 14, (.indexAddr 23 (.tmp 12) (.tmp 13)), none⟩,
  ⟨some 15, (.load 65 (.tmp 14)), none⟩,
  ⟨some 16, (.call { callee := (.value (.tmp 11)), args := #[.tmp 15], argTypes := #[65] }), none⟩]) (.cond (.tmp 16) (.seq (.ops 6000 [⟨some 17, (.move (.tmp 5)), none⟩,
  ⟨some 4, (.assign (.tmp 17)), none⟩]) (.ret)) (.skip))))) (.ops 7000 [⟨some 18, (.binOp .add 3 (.tmp 8) (.const (.int .i64 1)) 3), none⟩,
  ⟨some 8, (.move (.tmp 18)), none⟩])))
def c81 : ACode :=
  .seq (.ops 1000 [⟨some 4, (.assign (.const (.int .i64 0))), none⟩]) (.seq (.seq (.ops 2000 [⟨some 6, (.move (.tmp 0)), none⟩,
  ⟨some 7, (.call { callee := (.builtin .len), args := #[.tmp 6], argTypes := #[23] }), none⟩,
  ⟨some 8, (.move (.const (.int .i64 0))), none⟩]) (.block 0 (.loop c81_L0))) (.seq (.ops 8000 [⟨some 4, (.assign (.const (.int .i64 (-1)))), none⟩]) (.ret)))
theorem c81_ok : Tryz.f81.body.bind (absCode Tryz.f81.ntmps) = some c81 := by kernel_rfl
theorem r81 : Tryz.f81.results.toList = [.tmp 4] := by kernel_rfl
theorem e81 : Enters Tryz.prog 81 := enters_of Tryz.func81 (by kernel_rfl) rfl
def c30 : ACode :=
  .seq (.ops 1000 [⟨some 3, (.box 3 (.tmp 1)), none⟩,
  ⟨some 4, (.assign (.const (.bool false))), none⟩]) (.seq (.ops 2000 [⟨some 5, (.load 3 (.tmp 3)), none⟩,
  ⟨some 6, (.binOp .geq 3 (.tmp 5) (.const (.int .i64 0)) 3), none⟩,
  ⟨some 7, (.move (.tmp 6)), none⟩,
  ⟨some 8, (.load 3 (.tmp 3)), some (7, true)⟩,
  ⟨some 9, (.binOp .lss 3 (.tmp 8) (.const (.int .i64 1000000)) 3), some (7, true)⟩,
  ⟨some 10, (.pick (.tmp 7) (.tmp 9) (.const (.bool false))), none⟩,
  ⟨some 11, (.move (.tmp 10)), none⟩,
  ⟨some 12, (.move (.tmp 0)), some (11, true)⟩,
  ⟨some 13, (.makeFunc (.func 60) #[] #[.tmp 3]), some (11, true)⟩,
  ⟨some 14, (.call { callee := (.value (.func 59)), args := #[.tmp 12, .tmp 13], argTypes := #[23, 84] }), some (11, true)⟩,
  ⟨some 15, (.pick (.tmp 11) (.tmp 14) (.const (.bool false))), none⟩,
  ⟨some 4, (.assign (.tmp 15)), none⟩]) (.ret))
theorem c30_ok : Tryz.f30.body.bind (absCode Tryz.f30.ntmps) = some c30 := by kernel_rfl
theorem r30 : Tryz.f30.results.toList = [.tmp 4] := by kernel_rfl
theorem e30 : Enters Tryz.prog 30 := enters_of Tryz.func30 (by kernel_rfl) rfl
def c56_L0 : ACode :=
  .seq (.ops 3000 [⟨some 9, (.binOp .lss 3 (.tmp 8) (.tmp 7) 3), none⟩]) (.seq (.cond (.tmp 9) (.skip) (.exit 0)) (.seq (.block 1 (.seq (.ops 4000 [⟨some 10, (.move (.tmp 8)), none⟩,
  ⟨some 5, (.assign (.tmp 10)), none⟩]) (.seq (.ops 5000 [⟨some 11, (.move (.tmp 1)), none⟩,
  ⟨some 12, (.move (.tmp 0)), none⟩,
  ⟨some 13, (.move (.tmp 5)), none⟩,
  ⟨some 14, (.indexAddr 39 (.tmp 12) (.tmp 13)), none⟩,
  ⟨some 15, (.load 45 (.tmp 14)), none⟩,
  ⟨some 16, (.call { callee := (.value (.tmp 11)), args := #[.tmp 15], argTypes := #[45] }), none⟩]) (.cond (.tmp 16) (.seq (.ops 6000 [⟨some 17, (.move (.tmp 5)), none⟩,
  ⟨some 4, (.assign (.tmp 17)), none⟩]) (.ret)) (.skip))))) (.ops 7000 [⟨some 18, (.binOp .add 3 (.tmp 8) (.const (.int .i64 1)) 3), none⟩,
  ⟨some 8, (.move (.tmp 18)), none⟩])))
def c56 : ACode :=
  .seq (.ops 1000 [⟨some 4, (.assign (.const (.int .i64 0))), none⟩]) (.seq (.seq (.ops 2000 [⟨some 6, (.move (.tmp 0)), none⟩,
  ⟨some 7, (.call { callee := (.builtin .len), args := #[.tmp 6], argTypes := #[39] }), none⟩,
  ⟨some 8, (.move (.const (.int .i64 0))), none⟩]) (.block 0 (.loop c56_L0))) (.seq (.ops 8000 [⟨some 4, (.assign (.const (.int .i64 (-1)))), none⟩]) (.ret)))
theorem c56_ok : Tryz.f56.body.bind (absCode Tryz.f56.ntmps) = some c56 := by kernel_rfl
theorem r56 : Tryz.f56.results.toList = [.tmp 4] := by kernel_rfl
theorem e56 : Enters Tryz.prog 56 := enters_of Tryz.func56 (by kernel_rfl) rfl
def c23 : ACode :=
  .seq (.ops 1000 [⟨some 4, (.assign (.const (.bool false))), none⟩]) (.seq (.ops 2000 [⟨some 5, (.move (.tmp 0)), none⟩,
  ⟨some 6, (.move (.tmp 1)), none⟩,
  ⟨some 7, (.call { callee := (.value (.func 56)), args := #[.tmp 5, .tmp 6], argTypes := #[39, 48] }), none⟩,
  ⟨some 8, (.binOp .geq 3 (.tmp 7) (.const (.int .i64 0)) 3), none⟩,
  ⟨some 4, (.assign (.tmp 8)), none⟩]) (.ret))
theorem c23_ok : Tryz.f23.body.bind (absCode Tryz.f23.ntmps) = some c23 := by kernel_rfl
theorem r23 : Tryz.f23.results.toList = [.tmp 4] := by kernel_rfl
theorem e23 : Enters Tryz.prog 23 := enters_of Tryz.func23 (by kernel_rfl) rfl
def c29 : ACode :=
  .seq (.ops 1000 [⟨some 2, (.box 51 (.tmp 0)), none⟩,
  ⟨some 4, (.assign (.const (.bool false))), none⟩]) (.seq (.ops 2000 [⟨some 8, (.move (.tmp 1)), none⟩,
  ⟨some 9, (.makeFunc (.func 58) #[] #[.tmp 2]), none⟩,
  ⟨some 10, (.call { callee := (.value (.func 56)), args := #[.tmp 8, .tmp 9], argTypes := #[39, 48] }), none⟩,
  ⟨some 5, (.assign (.tmp 10)), none⟩]) (.seq (.seq (.ops 3000 [⟨some 11, (.move (.tmp 5)), none⟩,
  ⟨some 12, (.binOp .lss 3 (.tmp 11) (.const (.int .i64 0)) 3), none⟩]) (.cond (.tmp 12) (.seq (.ops 4000 [⟨some 13, (.fieldAddr 51 (.tmp 2) 1), none⟩,
  ⟨some 14, (.load 4 (.tmp 13)), none⟩,
  ⟨some 4, (.assign (.tmp 14)), none⟩]) (.ret)) (.skip))) (.seq (.ops 5000 [⟨some 16, (.move (.tmp 1)), none⟩,
  ⟨some 17, (.move (.tmp 5)), none⟩,
  ⟨some 18, (.indexAddr 39 (.tmp 16) (.tmp 17)), none⟩,
  ⟨some 19, (.fieldAddr 45 (.tmp 18) 1), none⟩,
  ⟨some 20, (.load 43 (.tmp 19)), none⟩,
  ⟨some 21, (.call { callee := (.value (.func 25)), args := #[.tmp 20], argTypes := #[43] }), none⟩,
  ⟨some 15, (.move (.tmp 21)), none⟩,
  ⟨some 22, (.extract (.tmp 15) 0), none⟩,
  ⟨some 23, (.extract (.tmp 15) 1), none⟩,
  ⟨some 6, (.assign (.tmp 22)), none⟩,
  ⟨some 7, (.assign (.tmp 23)), none⟩]) (.seq (.ops 6000 [⟨some 24, (.move (.tmp 7)), none⟩,
  ⟨some 25, (.binOp .eql 35 (.tmp 24) (.const (.int .i64 0)) 35), none⟩,
  ⟨some 26, (.move (.tmp 25)), none⟩,
  ⟨some 27, (.fieldAddr 51 (.tmp 2) 2), some (26, true)⟩,
  ⟨some 28, (.load 23 (.tmp 27)), some (26, true)⟩,
  ⟨some 29, (.move (.tmp 6)), some (26, true)⟩,
  ⟨some 30, (.call { callee := (.value (.func 30)), args := #[.tmp 28, .tmp 29], argTypes := #[23, 3] }), some (26, true)⟩,
  ⟨some 31, (.pick (.tmp 26) (.tmp 30) (.const (.bool false))), none⟩,
  ⟨some 4, (.assign (.tmp 31)), none⟩]) (.ret)))))
theorem c29_ok : Tryz.f29.body.bind (absCode Tryz.f29.ntmps) = some c29 := by kernel_rfl
theorem r29 : Tryz.f29.results.toList = [.tmp 4] := by kernel_rfl
theorem e29 : Enters Tryz.prog 29 := enters_of Tryz.func29 (by kernel_rfl) rfl
def c22_L0 : ACode :=
  .seq (.ops 3000 [⟨some 9, (.binOp .lss 3 (.tmp 8) (.tmp 7) 3), none⟩]) (.seq (.cond (.tmp 9) (.skip) (.exit 0)) (.seq (.block 1 (.seq (.ops 4000 [⟨some 10, (.move (.tmp 8)), none⟩,
  ⟨some 5, (.assign (.tmp 10)), none⟩]) (.seq (.ops 5000 [⟨some 11, (.move (.tmp 0)), none⟩,
  ⟨some 12, (.move (.tmp 5)), none⟩,
  ⟨some 13, (.indexAddr 29 (.tmp 11) (.tmp 12)), none⟩,
  ⟨some 14, (.load 51 (.tmp 13)), none⟩,
  ⟨some 15, (.move (.tmp 1)), none⟩,
  ⟨some 16, (.call { callee := (.value (.func 29)), args := #[.tmp 14, .tmp 15], argTypes := #[51, 39] }), none⟩,
  ⟨some 17, (.unOp .not 4 (.tmp 16)), none⟩]) (.cond (.tmp 17) (.seq (.ops 6000 [⟨some 4, (.assign (.const (.bool false))), none⟩]) (.ret)) (.skip))))) (.ops 7000 [⟨some 18, (.binOp .add 3 (.tmp 8) (.const (.int .i64 1)) 3), none⟩,
  ⟨some 8, (.move (.tmp 18)), none⟩])))
def c22 : ACode :=
  .seq (.ops 1000 [⟨some 4, (.assign (.const (.bool false))), none⟩]) (.seq (.seq (.ops 2000 [⟨some 6, (.move (.tmp 0)), none⟩,
  ⟨some 7, (.call { callee := (.builtin .len), args := #[.tmp 6], argTypes := #[29] }), none⟩,
  ⟨some 8, (.move (.const (.int .i64 0))), none⟩]) (.block 0 (.loop c22_L0))) (.seq (.ops 8000 [⟨some 4, (.assign (.const (.bool true))), none⟩]) (.ret)))
theorem c22_ok : Tryz.f22.body.bind (absCode Tryz.f22.ntmps) = some c22 := by kernel_rfl
theorem r22 : Tryz.f22.results.toList = [.tmp 4] := by kernel_rfl
theorem e22 : Enters Tryz.prog 22 := enters_of Tryz.func22 (by kernel_rfl) rfl
def c52_L0 : ACode :=
  .seq (.ops 3000 [⟨some 9, (.binOp .lss 3 (.tmp 8) (.tmp 7) 3), none⟩]) (.seq (.cond (.tmp 9) (.skip) (.exit 0)) (.seq (.block 1 (.seq (.ops 4000 [⟨some 10, (.move (.tmp 8)), none⟩,
  ⟨some 5, (.assign (.tmp 10)), none⟩]) (.seq (.ops 5000 [⟨some 11, (.move (.tmp 1)), none⟩,
  ⟨some 12, (.move (.tmp 0)), none⟩,
  ⟨some 13, (.move (.tmp 5)), none⟩,
  ⟨some 14, (.indexAddr 29 (.tmp 12) (.tmp 13)), none⟩,
  ⟨some 15, (.load 51 (.tmp 14)), none⟩,
  ⟨some 16, (.call { callee := (.value (.tmp 11)), args := #[.tmp 15], argTypes := #[51] }), none⟩]) (.cond (.tmp 16) (.seq (.ops 6000 [⟨some 17, (.move (.tmp 5)), none⟩,
  ⟨some 4, (.assign (.tmp 17)), none⟩]) (.ret)) (.skip))))) (.ops 7000 [⟨some 18, (.binOp .add 3 (.tmp 8) (.const (.int .i64 1)) 3), none⟩,
  ⟨some 8, (.move (.tmp 18)), none⟩])))
def c52 : ACode :=
  .seq (.ops 1000 [⟨some 4, (.assign (.const (.int .i64 0))), none⟩]) (.seq (.seq (.ops 2000 [⟨some 6, (.move (.tmp 0)), none⟩,
  ⟨some 7, (.call { callee := (.builtin .len), args := #[.tmp 6], argTypes := #[29] }), none⟩,
  ⟨some 8, (.move (.const (.int .i64 0))), none⟩]) (.block 0 (.loop c52_L0))) (.seq (.ops 8000 [⟨some 4, (.assign (.const (.int .i64 (-1)))), none⟩]) (.ret)))
theorem c52_ok : Tryz.f52.body.bind (absCode Tryz.f52.ntmps) = some c52 := by kernel_rfl
theorem r52 : Tryz.f52.results.toList = [.tmp 4] := by kernel_rfl
theorem e52 : Enters Tryz.prog 52 := enters_of Tryz.func52 (by kernel_rfl) rfl
def c27 : ACode :=
  .seq (.ops 1000 [⟨some 4, (.assign (.const (.bool false))), none⟩]) (.seq (.ops 2000 [⟨some 5, (.move (.tmp 0)), none⟩,
  ⟨some 6, (.move (.tmp 1)), none⟩,
  ⟨some 7, (.call { callee := (.value (.func 52)), args := #[.tmp 5, .tmp 6], argTypes := #[29, 53] }), none⟩,
  ⟨some 8, (.binOp .geq 3 (.tmp 7) (.const (.int .i64 0)) 3), none⟩,
  ⟨some 4, (.assign (.tmp 8)), none⟩]) (.ret))
theorem c27_ok : Tryz.f27.body.bind (absCode Tryz.f27.ntmps) = some c27 := by kernel_rfl
theorem r27 : Tryz.f27.results.toList = [.tmp 4] := by kernel_rfl
theorem e27 : Enters Tryz.prog 27 := enters_of Tryz.func27 (by kernel_rfl) rfl
def c37_L0 : ACode :=
  .seq (.seq (.ops 5000 [⟨some 11, (.move (.tmp 5)), none⟩,
  ⟨some 12, (.move (.tmp 0)), none⟩,
  ⟨some 13, (.call { callee := (.builtin .len), args := #[.tmp 12], argTypes := #[23] }), none⟩,
  ⟨some 14, (.binOp .lss 3 (.tmp 11) (.tmp 13) 3), none⟩]) (.cond (.tmp 14) (.skip) (.exit 0))) (.seq (.block 1 (.seq (.dops 7000 [⟨some 17, (.move (.tmp 0)), none⟩,
  ⟨some 18, (.move (.tmp 5)), none⟩,
  ⟨some 19, (.indexAddr 23 (.tmp 17) (.tmp 18)), none⟩,
  ⟨some 20, (.load 65 (.tmp 19)), none⟩,
  ⟨some 21, (.move (.tmp 1)), none⟩,
  ⟨some 22, (.move (.tmp 5)), none⟩,
  ⟨some 23, (.indexAddr 23 (.tmp 21) (.tmp 22)), none⟩,
  ⟨some 24, (.load 65 (.tmp 23)), none⟩,
  ⟨some 25, (.binOp .neq 65 (.tmp 20) (.tmp 24) 65), none⟩] [[], [], [0, 1], [2, 0, 1], [], [], [4, 5], [6, 4, 5], [3, 2, 0, 1, 7, 6, 4, 5]]) (.cond (.tmp 25) (.seq (.ops 8000 [⟨some 4, (.assign (.const (.bool false))), none⟩]) (.ret)) (.skip)))) (.ops 6000 [⟨some 15, (.move (.tmp 5)), none⟩,
  ⟨some 16, (.binOp .add 3 (.tmp 15) (.const (.int .i64 1)) 3), none⟩,
  ⟨some 5, (.assign (.tmp 16)), none⟩]))
def c37 : ACode :=
  .seq (.ops 1000 [⟨some 4, (.assign (.const (.bool false))), none⟩]) (.seq (.seq (.ops 2000 [⟨some 6, (.move (.tmp 0)), none⟩,
  ⟨some 7, (.call { callee := (.builtin .len), args := #[.tmp 6], argTypes := #[23] }), none⟩,
  ⟨some 8, (.move (.tmp 1)), none⟩,
  ⟨some 9, (.call { callee := (.builtin .len), args := #[.tmp 8], argTypes := #[23] }), none⟩,
  ⟨some 10, (.binOp .neq 3 (.tmp 7) (.tmp 9) 3), none⟩]) (.cond (.tmp 10) (.seq (.ops 3000 [⟨some 4, (.assign (.const (.bool false))), none⟩]) (.ret)) (.skip))) (.seq (.seq (.ops 4000 [⟨some 5, (.assign (.const (.int .i64 0))), none⟩]) (.block 0 (.loop c37_L0))) (.seq (.ops 9000 [⟨some 4, (.assign (.const (.bool true))), none⟩]) (.ret))))
theorem c37_ok : Tryz.f37.body.bind (absCode Tryz.f37.ntmps) = some c37 := by kernel_rfl
theorem r37 : Tryz.f37.results.toList = [.tmp 4] := by kernel_rfl
theorem e37 : Enters Tryz.prog 37 := enters_of Tryz.func37 (by kernel_rfl) rfl
def c10_L0 : ACode :=
  .seq (.seq (.ops 5000 [⟨some 11, (.move (.tmp 5)), none⟩,
  ⟨some 12, (.move (.tmp 0)), none⟩,
  ⟨some 13, (.call { callee := (.builtin .len), args := #[.tmp 12], argTypes := #[29] }), none⟩,
  ⟨some 14, (.binOp .lss 3 (.tmp 11) (.tmp 13) 3), none⟩]) (.cond (.tmp 14) (.skip) (.exit 0))) (.seq (.block 1 (.seq (.dops 7000 [⟨some 17, (.move (.tmp 0)), none⟩,
  ⟨some 18, (.move (.tmp 5)), none⟩,
  ⟨some 19, (.indexAddr 29 (.tmp 17) (.tmp 18)), none⟩,
  ⟨some 20, (.fieldAddr 51 (.tmp 19) 0), none⟩,
  ⟨some 21, (.load 9 (.tmp 20)), none⟩,
  ⟨some 22, (.move (.tmp 1)), none⟩,
  ⟨some 23, (.move (.tmp 5)), none⟩,
  ⟨some 24, (.indexAddr 29 (.tmp 22) (.tmp 23)), none⟩,
  ⟨some 25, (.fieldAddr 51 (.tmp 24) 0), none⟩,
  ⟨some 26, (.load 9 (.tmp 25)), none⟩,
  ⟨some 27, (.binOp .neq 9 (.tmp 21) (.tmp 26) 9), none⟩,
  ⟨some 28, (.move (.tmp 27)), none⟩,
  ⟨some 29, (.move (.tmp 0)), some (28, false)⟩,
  ⟨some 30, (.move (.tmp 5)), some (28, false)⟩,
  ⟨some 31, (.indexAddr 29 (.tmp 29) (.tmp 30)), some (28, false)⟩,
  ⟨some 32, (.fieldAddr 51 (.tmp 31) 1), some (28, false)⟩,
  ⟨some 33, (.load 4 (.tmp 32)), some (28, false)⟩,
  ⟨some 34, (.move (.tmp 1)), some (28, false)⟩,
  ⟨some 35, (.move (.tmp 5)), some (28, false)⟩,
  ⟨some 36, (.indexAddr 29 (.tmp 34) (.tmp 35)), some (28, false)⟩,
  ⟨some 37, (.fieldAddr 51 (.tmp 36) 1), some (28, false)⟩,
  ⟨some 38, (.load 4 (.tmp 37)), some (28, false)⟩,
  ⟨some 39, (.binOp .neq 4 (.tmp 33) (.tmp 38) 4), some (28, false)⟩,
  ⟨some 40, (.pick (.tmp 28) (.const (.bool true)) (.tmp 39)), none⟩,
  ⟨some 41, (.move (.tmp 40)), none⟩,
  ⟨some 42, (.move (.tmp 0)), some (41, false)⟩,
  ⟨some 43, (.move (.tmp 5)), some (41, false)⟩,
  ⟨some 44, (.indexAddr 29 (.tmp 42) (.tmp 43)), some (41, false)⟩,
  ⟨some 45, (.fieldAddr 51 (.tmp 44) 2), some (41, false)⟩,
  ⟨some 46, (.load 23 (.tmp 45)), some (41, false)⟩,
  ⟨some 47, (.move (.tmp 1)), some (41, false)⟩,
  ⟨some 48, (.move (.tmp 5)), some (41, false)⟩,
  ⟨some 49, (.indexAddr 29 (.tmp 47) (.tmp 48)), some (41, false)⟩,
  ⟨some 50, (.fieldAddr 51 (.tmp 49) 2), some (41, false)⟩,
  ⟨some 51, (.load 23 (.tmp 50)), some (41, false)⟩,
  ⟨some 52, (.call { callee := (.value (.func 37)), args := #[.tmp 46, .tmp 51], argTypes := #[23, 23] }), some (41, false)⟩,
  ⟨some 53, (.unOp .not 4 (.tmp 52)), some (41, false)⟩,
  ⟨some 54, (.pick (.tmp 41) (.const (.bool true)) (.tmp 53)), none⟩] [[], [], [0, 1], [2, 0, 1], [3, 2, 0, 1], [], [], [5, 6], [7, 5, 6], [8, 7, 5, 6], [4, 3, 2, 0, 1, 9, 8, 7, 5, 6], [10, 4, 3, 2, 0, 1, 9, 8, 7, 5, 6], [11, 10, 4, 3, 2, 0, 1, 9, 8, 7, 5, 6], [11, 10, 4, 3, 2, 0, 1, 9, 8, 7, 5, 6], [12, 13, 11, 10, 4, 3, 2, 0, 1, 9, 8, 7, 5, 6], [14, 12, 13, 11, 10, 4, 3, 2, 0, 1, 9, 8, 7, 5, 6], [15, 14, 12, 13, 11, 10, 4, 3, 2, 0, 1, 9, 8, 7, 5, 6], [11, 10, 4, 3, 2, 0, 1, 9, 8, 7, 5, 6], [11, 10, 4, 3, 2, 0, 1, 9, 8, 7, 5, 6], [17, 18, 11, 10, 4, 3, 2, 0, 1, 9, 8, 7, 5, 6], [19, 17, 18, 11, 10, 4, 3, 2, 0, 1, 9, 8, 7, 5, 6], [20, 19, 17, 18, 11, 10, 4, 3, 2, 0, 1, 9, 8, 7, 5, 6], [16, 15, 14, 12, 13, 21, 20, 19, 17, 18, 11, 10, 4, 3, 2, 0, 1, 9, 8, 7, 5, 6], [22, 16, 15, 14, 12, 13, 21, 20, 19, 17, 18, 11, 10, 4, 3, 2, 0, 1, 9, 8, 7, 5, 6], [23, 22, 16, 15, 14, 12, 13, 21, 20, 19, 17, 18, 11, 10, 4, 3, 2, 0, 1, 9, 8, 7, 5, 6], [24, 23, 22, 16, 15, 14, 12, 13, 21, 20, 19, 17, 18, 11, 10, 4, 3, 2, 0, 1, 9, 8, 7, 5, 6], [24, 23, 22, 16, 15, 14, 12, 13, 21, 20, 19, 17, 18, 11, 10, 4, 3, 2, 0, 1, 9, 8, 7, 5, 6], [25, 26, 24, 23, 22, 16, 15, 14, 12, 13, 21, 20, 19, 17, 18, 11, 10, 4, 3, 2, 0, 1, 9, 8, 7, 5, 6], [27, 25, 26, 24, 23, 22, 16, 15, 14, 12, 13, 21, 20, 19, 17, 18, 11, 10, 4, 3, 2, 0, 1, 9, 8, 7, 5, 6], [28, 27, 25, 26, 24, 23, 22, 16, 15, 14, 12, 13, 21, 20, 19, 17, 18, 11, 10, 4, 3, 2, 0, 1, 9, 8, 7, 5, 6], [24, 23, 22, 16, 15, 14, 12, 13, 21, 20, 19, 17, 18, 11, 10, 4, 3, 2, 0, 1, 9, 8, 7, 5, 6], [24, 23, 22, 16, 15, 14, 12, 13, 21, 20, 19, 17, 18, 11, 10, 4, 3, 2, 0, 1, 9, 8, 7, 5, 6], [30, 31, 24, 23, 22, 16, 15, 14, 12, 13, 21, 20, 19, 17, 18, 11, 10, 4, 3, 2, 0, 1, 9, 8, 7, 5, 6], [32, 30, 31, 24, 23, 22, 16, 15, 14, 12, 13, 21, 20, 19, 17, 18, 11, 10, 4, 3, 2, 0, 1, 9, 8, 7, 5, 6], [33, 32, 30, 31, 24, 23, 22, 16, 15, 14, 12, 13, 21, 20, 19, 17, 18, 11, 10, 4, 3, 2, 0, 1, 9, 8, 7, 5, 6], [29, 28, 27, 25, 26, 34, 33, 32, 30, 31, 24, 23, 22, 16, 15, 14, 12, 13, 21, 20, 19, 17, 18, 11, 10, 4, 3, 2, 0, 1, 9, 8, 7, 5, 6], [35, 29, 28, 27, 25, 26, 34, 33, 32, 30, 31, 24, 23, 22, 16, 15, 14, 12, 13, 21, 20, 19, 17, 18, 11, 10, 4, 3, 2, 0, 1, 9, 8, 7, 5, 6], [36, 35, 29, 28, 27, 25, 26, 34, 33, 32, 30, 31, 24, 23, 22, 16, 15, 14, 12, 13, 21, 20, 19, 17, 18, 11, 10, 4, 3, 2, 0, 1, 9, 8, 7, 5, 6]]) (.cond (.tmp 54) (.seq (.ops 8000 [⟨some 4, (.assign (.const (.bool false))), none⟩]) (.ret)) (.skip)))) (.ops 6000 [⟨some 15, (.move (.tmp 5)), none⟩,
  ⟨some 16, (.binOp .add 3 (.tmp 15) (.const (.int .i64 1)) 3), none⟩,
  ⟨some 5, (.assign (.tmp 16)), none⟩]))
def c10 : ACode :=
  .seq (.ops 1000 [⟨some 4, (.assign (.const (.bool false))), none⟩]) (.seq (.seq (.ops 2000 [⟨some 6, (.move (.tmp 0)), none⟩,
  ⟨some 7, (.call { callee := (.builtin .len), args := #[.tmp 6], argTypes := #[29] }), none⟩,
  ⟨some 8, (.move (.tmp 1)), none⟩,
  ⟨some 9, (.call { callee := (.builtin .len), args := #[.tmp 8], argTypes := #[29] }), none⟩,
  ⟨some 10, (.binOp .neq 3 (.tmp 7) (.tmp 9) 3), none⟩]) (.cond (.tmp 10) (.seq (.ops 3000 [⟨some 4, (.assign (.const (.bool false))), none⟩]) (.ret)) (.skip))) (.seq (.seq (.ops 4000 [⟨some 5, (.assign (.const (.int .i64 0))), none⟩]) (.block 0 (.loop c10_L0))) (.seq (.ops 9000 [⟨some 4, (.assign (.const (.bool true))), none⟩]) (.ret))))
theorem c10_ok : Tryz.f10.body.bind (absCode Tryz.f10.ntmps) = some c10 := by kernel_rfl
theorem r10 : Tryz.f10.results.toList = [.tmp 4] := by kernel_rfl
theorem e10 : Enters Tryz.prog 10 := enters_of Tryz.func10 (by kernel_rfl) rfl
def c17_L0 : ACode :=
  .seq (.seq (.ops 3000 [⟨some 4, (.move (.tmp 3)), none⟩,
  ⟨some 5, (.move (.tmp 0)), none⟩,
  ⟨some 6, (.call { callee := (.builtin .len), args := #[.tmp 5], argTypes := #[29] }), none⟩,
  ⟨some 7, (.binOp .lss 3 (.tmp 4) (.tmp 6) 3), none⟩]) (.cond (.tmp 7) (.skip) (.exit 0))) (.seq (.block 1 (.seq (.ops 5000 [⟨some 10, (.move (.tmp 0)), none⟩,
  ⟨some 11, (.move (.tmp 3)), none⟩,
  ⟨some 12, (.indexAddr 29 (.tmp 10) (.tmp 11)), none⟩,
  ⟨some 13, (.fieldAddr 51 (.tmp 12) 0), none⟩,
  ⟨some 14, (.load 9 (.tmp 13)), none⟩,
  ⟨some 15, (.call { callee := (.builtin .len), args := #[.tmp 14], argTypes := #[9] }), none⟩,
  ⟨some 16, (.binOp .gtr 3 (.tmp 15) (.const (.int .i64 100)) 3), none⟩,
  ⟨some 17, (.move (.tmp 16)), none⟩,
  ⟨some 18, (.move (.tmp 0)), some (17, false)⟩,
  ⟨some 19, (.move (.tmp 3)), some (17, false)⟩,
  ⟨some 20, (.indexAddr 29 (.tmp 18) (.tmp 19)), some (17, false)⟩,
  ⟨some 21, (.fieldAddr 51 (.tmp 20) 2), some (17, false)⟩,
  ⟨some 22, (.load 23 (.tmp 21)), some (17, false)⟩,
  ⟨some 23, (.call { callee := (.builtin .len), args := #[.tmp 22], argTypes := #[23] }), some (17, false)⟩,
  ⟨some 24, (.binOp .gtr 3 (.tmp 23) (.const (.int .i64 12)) 3), some (17, false)⟩,
  ⟨some 25, (.pick (.tmp 17) (.const (.bool true)) (.tmp 24)), none⟩]) (.cond (.tmp 25) (.seq (.ops 6000 [⟨some 2, (.assign (.const (.bool false))), none⟩]) (.ret)) (.skip)))) (.ops 4000 [⟨some 8, (.move (.tmp 3)), none⟩,
  ⟨some 9, (.binOp .add 3 (.tmp 8) (.const (.int .i64 1)) 3), none⟩,
  ⟨some 3, (.assign (.tmp 9)), none⟩]))
def c17 : ACode :=
  .seq (.ops 1000 [⟨some 2, (.assign (.const (.bool false))), none⟩]) (.seq (.seq (.ops 2000 [⟨some 3, (.assign (.const (.int .i64 0))), none⟩]) (.block 0 (.loop c17_L0))) (.seq (.ops 7000 [⟨some 26, (.move (.tmp 0)), none⟩,
  ⟨some 27, (.call { callee := (.builtin .len), args := #[.tmp 26], argTypes := #[29] }), none⟩,
  ⟨some 28, (.binOp .leq 3 (.tmp 27) (.const (.int .i64 12)) 3), none⟩,
  ⟨some 2, (.assign (.tmp 28)), none⟩]) (.ret)))
theorem c17_ok : Tryz.f17.body.bind (absCode Tryz.f17.ntmps) = some c17 := by kernel_rfl
theorem r17 : Tryz.f17.results.toList = [.tmp 2] := by kernel_rfl
theorem e17 : Enters Tryz.prog 17 := enters_of Tryz.func17 (by kernel_rfl) rfl
def c49_L0 : ACode :=
  .seq (.seq (.ops 3000 [⟨some 7, (.move (.tmp 6)), none⟩,
  ⟨some 8, (.move (.tmp 0)), none⟩,
  ⟨some 9, (.call { callee := (.builtin .len), args := #[.tmp 8], argTypes := #[29] }), none⟩,
  ⟨some 10, (.binOp .lss 3 (.tmp 7) (.tmp 9) 3), none⟩]) (.cond (.tmp 10) (.skip) (.exit 0))) (.seq (.block 1 (.seq (.ops 5000 [⟨some 13, (.move (.tmp 0)), none⟩,
  ⟨some 14, (.move (.tmp 6)), none⟩,
  ⟨some 15, (.indexAddr 29 (.tmp 13) (.tmp 14)), none⟩,
  ⟨some 16, (.fieldAddr 51 (.tmp 15) 0), none⟩,
  ⟨some 17, (.load 9 (.tmp 16)), none⟩,
  ⟨some 18, (.move (.tmp 1)), none⟩,
  ⟨some 19, (.binOp .eql 9 (.tmp 17) (.tmp 18) 9), none⟩]) (.cond (.tmp 19) (.seq (.ops 6000 [⟨some 20, (.move (.tmp 0)), none⟩,
  ⟨some 21, (.move (.tmp 6)), none⟩,
  ⟨some 22, (.indexAddr 29 (.tmp 20) (.tmp 21)), none⟩,
  ⟨some 23, (.load 51 (.tmp 22)), none⟩,
  ⟨none, (.store 51 (.tmp 4) (.tmp 23)), none⟩,
  ⟨some 5, (.assign (.const (.bool true))), none⟩]) (.ret)) (.skip)))) (.ops 4000 [⟨some 11, (.move (.tmp 6)), none⟩,
  ⟨some 12, (.binOp .add 3 (.tmp 11) (.const (.int .i64 1)) 3), none⟩,
  ⟨some 6, (.assign (.tmp 12)), none⟩]))
def c49 : ACode :=
  .seq (.ops 1000 [⟨some 4, (.alloc 51), none⟩,
  ⟨some 5, (.assign (.const (.bool false))), none⟩]) (.seq (.seq (.ops 2000 [⟨some 6, (.assign (.const (.int .i64 0))), none⟩]) (.block 0 (.loop c49_L0))) (.seq (.ops 7000 [⟨some 24, (.build 51 #[]), none⟩,
  ⟨none, (.store 51 (.tmp 4) (.tmp 24)), none⟩,
  ⟨some 5, (.assign (.const (.bool false))), none⟩]) (.ret)))
theorem c49_ok : Tryz.f49.body.bind (absCode Tryz.f49.ntmps) = some c49 := by kernel_rfl
theorem r49 : Tryz.f49.results.toList = [(.cell 4 51), .tmp 5] := by kernel_rfl
theorem e49 : Enters Tryz.prog 49 := enters_of Tryz.func49 (by kernel_rfl) rfl
def c51_L0 : ACode :=
  .seq (.seq (.ops 4000 [⟨some 8, (.move (.tmp 6)), none⟩,
  ⟨some 9, (.move (.tmp 0)), none⟩,
  ⟨some 10, (.call { callee := (.builtin .len), args := #[.tmp 9], argTypes := #[29] }), none⟩,
  ⟨some 11, (.binOp .lss 3 (.tmp 8) (.tmp 10) 3), none⟩]) (.cond (.tmp 11) (.skip) (.exit 0))) (.seq (.block 1 (.seq (.ops 6000 [⟨some 14, (.move (.tmp 0)), none⟩,
  ⟨some 15, (.move (.tmp 6)), none⟩,
  ⟨some 16, (.indexAddr 29 (.tmp 14) (.tmp 15)), none⟩,
  ⟨some 17, (.fieldAddr 51 (.tmp 16) 0), none⟩,
  ⟨some 18, (.load 9 (.tmp 17)), none⟩,
  ⟨some 19, (.move (.tmp 1)), none⟩,
  ⟨some 20, (.binOp .neq 9 (.tmp 18) (.tmp 19) 9), none⟩]) (.cond (.tmp 20) (.ops 7000 [⟨some 21, (.move (.tmp 5)), none⟩,
  ⟨some 22, (.move (.tmp 0)), none⟩,
  ⟨some 23, (.move (.tmp 6)), none⟩,
  ⟨some 24, (.indexAddr 29 (.tmp 22) (.tmp 23)), none⟩,
  ⟨some 25, (.load 51 (.tmp 24)), none⟩,
  ⟨some 26, (.buildSlice 29 1 #[(0, .tmp 25)]), none⟩,
  ⟨some 27, (.call { callee := (.builtin .append), args := #[.tmp 21, .tmp 26], argTypes := #[29, 29] }), none⟩,
  ⟨some 5, (.assign (.tmp 27)), none⟩]) (.skip)))) (.ops 5000 [⟨some 12, (.move (.tmp 6)), none⟩,
  ⟨some 13, (.binOp .add 3 (.tmp 12) (.const (.int .i64 1)) 3), none⟩,
  ⟨some 6, (.assign (.tmp 13)), none⟩]))
def c51 : ACode :=
  .seq (.ops 1000 [⟨some 4, (.assign (.const (.slice none 0 0))), none⟩]) (.seq (.ops 2000 [⟨some 7, (.buildSlice 29 0 #[]), none⟩,
  ⟨some 5, (.assign (.tmp 7)), none⟩]) (.seq (.seq (.ops 3000 [⟨some 6, (.assign (.const (.int .i64 0))), none⟩]) (.block 0 (.loop c51_L0))) (.seq (.ops 8000 [⟨some 28, (.move (.tmp 5)), none⟩,
  ⟨some 4, (.assign (.tmp 28)), none⟩]) (.ret))))
theorem c51_ok : Tryz.f51.body.bind (absCode Tryz.f51.ntmps) = some c51 := by kernel_rfl
theorem r51 : Tryz.f51.results.toList = [.tmp 4] := by kernel_rfl
theorem e51 : Enters Tryz.prog 51 := enters_of Tryz.func51 (by kernel_rfl) rfl
def c32_L0 : ACode :=
  .seq (.seq (.dops 9000 [⟨some 37, (.move (.tmp 6)), none⟩,
  ⟨some 38, (.binOp .gtr 3 (.tmp 37) (.const (.int .i64 0)) 3), none⟩,
  ⟨some 39, (.move (.tmp 38)), none⟩,
  ⟨some 40, (.move (.tmp 3)), some (39, true)⟩,
  ⟨some 41, (.move (.tmp 6)), some (39, true)⟩,
  ⟨some 42, (.binOp .sub 3 (.tmp 41) (.const (.int .i64 1)) 3), some (39, true)⟩,
  ⟨some 43, (.indexAddr 23 (.tmp 40) (.tmp 42)), some (39, true)⟩,
  ⟨some 44, (.fieldAddr 65 (.tmp 43) 0), some (39, true)⟩,
  ⟨some 45, (.load 3 (.tmp 44)), some (39, true)⟩,
  ⟨some 46, (.fieldAddr 65 (.tmp 5) 0), some (39, true)⟩,
  ⟨some 47, (.load 3 (.tmp 46)), some (39, true)⟩,
  ⟨some 48, (.binOp .gtr 3 (.tmp 45) (.tmp 47) 3), some (39, true)⟩,
  ⟨some 49, (.pick (.tmp 39) (.tmp 48) (.const (.bool false))), none⟩] [[], [0], [1, 0], [2, 1, 0], [2, 1, 0], [4, 2, 1, 0], [3, 5, 4, 2, 1, 0], [6, 3, 5, 4, 2, 1, 0], [7, 6, 3, 5, 4, 2, 1, 0], [2, 1, 0], [9, 2, 1, 0], [8, 7, 6, 3, 5, 4, 10, 9, 2, 1, 0], [11, 8, 7, 6, 3, 5, 4, 10, 9, 2, 1, 0]]) (.cond (.tmp 49) (.skip) (.exit 2))) (.block 3 (.ops 10000 [⟨some 50, (.move (.tmp 6)), none⟩,
  ⟨some 51, (.binOp .sub 3 (.tmp 50) (.const (.int .i64 1)) 3), none⟩,
  ⟨some 6, (.assign (.tmp 51)), none⟩]))
def c32_L1 : ACode :=
  .seq (.seq (.ops 4000 [⟨some 11, (.move (.tmp 4)), none⟩,
  ⟨some 12, (.move (.tmp 0)), none⟩,
  ⟨some 13, (.call { callee := (.builtin .len), args := #[.tmp 12], argTypes := #[23] }), none⟩,
  ⟨some 14, (.binOp .lss 3 (.tmp 11) (.tmp 13) 3), none⟩]) (.cond (.tmp 14) (.skip) (.exit 0))) (.seq (.block 1 (.seq (.dops 6000 [⟨some 17, (.move (.tmp 0)), none⟩,
  ⟨some 18, (.move (.tmp 4)), none⟩,
  ⟨some 19, (.indexAddr 23 (.tmp 17) (.tmp 18)), none⟩,
  ⟨some 20, (.fieldAddr 65 (.tmp 19) 0), none⟩,
  ⟨some 21, (.load 3 (.tmp 20)), none⟩,
  ⟨some 22, (.call { callee := (.builtin .max), args := #[(.const (.int .i64 0)), .tmp 21], argTypes := #[3, 3] }), none⟩,
  ⟨some 23, (.move (.tmp 0)), none⟩,
  ⟨some 24, (.move (.tmp 4)), none⟩,
  ⟨some 25, (.indexAddr 23 (.tmp 23) (.tmp 24)), none⟩,
  ⟨some 26, (.fieldAddr 65 (.tmp 25) 1), none⟩,
  ⟨some 27, (.load 3 (.tmp 26)), none⟩,
  ⟨some 28, (.call { callee := (.builtin .min), args := #[(.const (.int .i64 1000000)), .tmp 27], argTypes := #[3, 3] }), none⟩,
  ⟨some 29, (.build 65 #[(0, .tmp 22), (1, .tmp 28)]), none⟩,
  ⟨some 5, (.alloc 65), none⟩,
  ⟨none, (.store 65 (.tmp 5) (.tmp 29)), none⟩] [[], [], [0, 1], [2, 0, 1], [3, 2, 0, 1], [4, 3, 2, 0, 1], [], [], [6, 7], [8, 6, 7], [9, 8, 6, 7], [10, 9, 8, 6, 7], [5, 4, 3, 2, 0, 1, 11, 10, 9, 8, 6, 7], [], [12, 5, 4, 3, 2, 0, 1, 11, 10, 9, 8, 6, 7, 13]]) (.seq (.seq (.ops 7000 [⟨some 30, (.fieldAddr 65 (.tmp 5) 0), none⟩,
  ⟨some 31, (.load 3 (.tmp 30)), none⟩,
  ⟨some 32, (.fieldAddr 65 (.tmp 5) 1), none⟩,
  ⟨some 33, (.load 3 (.tmp 32)), none⟩,
  ⟨some 34, (.binOp .geq 3 (.tmp 31) (.tmp 33) 3), none⟩]) (.cond (.tmp 34) (.exit 1) (.skip))) (.seq (.ops 8000 [⟨some 35, (.move (.tmp 3)), none⟩,
  ⟨some 36, (.call { callee := (.builtin .len), args := #[.tmp 35], argTypes := #[23] }), none⟩,
  ⟨some 6, (.assign (.tmp 36)), none⟩]) (.seq (.block 2 (.loop c32_L0)) (.dops 11000 [⟨some 52, (.move (.tmp 3)), none⟩,
  ⟨some 53, (.move (.tmp 6)), none⟩,
  ⟨some 54, (.move (.tmp 6)), none⟩,
  ⟨some 55, (.slice 23 (.tmp 52) none (some (.tmp 53)) (some (.tmp 54))), none⟩,
  ⟨some 56, (.load 65 (.tmp 5)), none⟩,
  ⟨some 57, (.buildSlice 23 1 #[(0, .tmp 56)]), none⟩,
  ⟨some 58, (.move (.tmp 3)), none⟩,
  ⟨some 59, (.move (.tmp 6)), none⟩,
  ⟨some 60, (.slice 23 (.tmp 58) (some (.tmp 59)) none none), none⟩,
  ⟨some 61, (.call { callee := (.builtin .append), args := #[.tmp 57, .tmp 60], argTypes := #[23, 23] }), none⟩,
  ⟨some 62, (.call { callee := (.builtin .append), args := #[.tmp 55, .tmp 61], argTypes := #[23, 23] }), none⟩,
  ⟨some 3, (.assign (.tmp 62)), none⟩] [[], [], [], [0, 1, 2], [], [4], [], [], [6, 7], [5, 4, 8, 6, 7], [3, 0, 1, 2, 9, 5, 4, 8, 6, 7], [10, 3, 0, 1, 2, 9, 5, 4, 8, 6, 7]])))))) (.ops 5000 [⟨some 15, (.move (.tmp 4)), none⟩,
  ⟨some 16, (.binOp .add 3 (.tmp 15) (.const (.int .i64 1)) 3), none⟩,
  ⟨some 4, (.assign (.tmp 16)), none⟩]))
def c32_L2 : ACode :=
  .seq (.seq (.ops 14000 [⟨some 64, (.move (.tmp 8)), none⟩,
  ⟨some 65, (.move (.tmp 3)), none⟩,
  ⟨some 66, (.call { callee := (.builtin .len), args := #[.tmp 65], argTypes := #[23] }), none⟩,
  ⟨some 67, (.binOp .lss 3 (.tmp 64) (.tmp 66) 3), none⟩]) (.cond (.tmp 67) (.skip) (.exit 4))) (.seq (.block 5 (.seq (.ops 16000 [⟨some 70, (.move (.tmp 7)), none⟩,
  ⟨some 71, (.call { callee := (.builtin .len), args := #[.tmp 70], argTypes := #[23] }), none⟩,
  ⟨some 9, (.assign (.tmp 71)), none⟩]) (.seq (.dops 17000 [⟨some 72, (.move (.tmp 9)), none⟩,
  ⟨some 73, (.binOp .gtr 3 (.tmp 72) (.const (.int .i64 0)) 3), none⟩,
  ⟨some 74, (.move (.tmp 73)), none⟩,
  ⟨some 75, (.move (.tmp 3)), some (74, true)⟩,
  ⟨some 76, (.move (.tmp 8)), some (74, true)⟩,
  ⟨some 77, (.indexAddr 23 (.tmp 75) (.tmp 76)), some (74, true)⟩,
  ⟨some 78, (.fieldAddr 65 (.tmp 77) 0), some (74, true)⟩,
  ⟨some 79, (.load 3 (.tmp 78)), some (74, true)⟩,
  ⟨some 80, (.move (.tmp 7)), some (74, true)⟩,
  ⟨some 81, (.move (.tmp 9)), some (74, true)⟩,
  ⟨some 82, (.binOp .sub 3 (.tmp 81) (.const (.int .i64 1)) 3), some (74, true)⟩,
  ⟨some 83, (.indexAddr 23 (.tmp 80) (.tmp 82)), some (74, true)⟩,
  ⟨some 84, (.fieldAddr 65 (.tmp 83) 1), some (74, true)⟩,
  ⟨some 85, (.load 3 (.tmp 84)), some (74, true)⟩,
  ⟨some 86, (.binOp .leq 3 (.tmp 79) (.tmp 85) 3), some (74, true)⟩,
  ⟨some 87, (.pick (.tmp 74) (.tmp 86) (.const (.bool false))), none⟩] [[], [0], [1, 0], [2, 1, 0], [2, 1, 0], [3, 4, 2, 1, 0], [5, 3, 4, 2, 1, 0], [6, 5, 3, 4, 2, 1, 0], [2, 1, 0], [2, 1, 0], [9, 2, 1, 0], [8, 10, 9, 2, 1, 0], [11, 8, 10, 9, 2, 1, 0], [12, 11, 8, 10, 9, 2, 1, 0], [7, 6, 5, 3, 4, 13, 12, 11, 8, 10, 9, 2, 1, 0], [14, 7, 6, 5, 3, 4, 13, 12, 11, 8, 10, 9, 2, 1, 0]]) (.cond (.tmp 87) (.dops 18000 [⟨some 88, (.move (.tmp 7)), none⟩,
  ⟨some 89, (.move (.tmp 9)), none⟩,
  ⟨some 90, (.binOp .sub 3 (.tmp 89) (.const (.int .i64 1)) 3), none⟩,
  ⟨some 91, (.move (.tmp 7)), none⟩,
  ⟨some 92, (.move (.tmp 9)), none⟩,
  ⟨some 93, (.binOp .sub 3 (.tmp 92) (.const (.int .i64 1)) 3), none⟩,
  ⟨some 94, (.indexAddr 23 (.tmp 91) (.tmp 93)), none⟩,
  ⟨some 95, (.fieldAddr 65 (.tmp 94) 1), none⟩,
  ⟨some 96, (.load 3 (.tmp 95)), none⟩,
  ⟨some 97, (.move (.tmp 3)), none⟩,
  ⟨some 98, (.move (.tmp 8)), none⟩,
  ⟨some 99, (.indexAddr 23 (.tmp 97) (.tmp 98)), none⟩,
  ⟨some 100, (.fieldAddr 65 (.tmp 99) 1), none⟩,
  ⟨some 101, (.load 3 (.tmp 100)), none⟩,
  ⟨some 102, (.call { callee := (.builtin .max), args := #[.tmp 96, .tmp 101], argTypes := #[3, 3] }), none⟩,
  ⟨some 103, (.indexAddr 23 (.tmp 88) (.tmp 90)), none⟩,
  ⟨some 104, (.fieldAddr 65 (.tmp 103) 1), none⟩,
  ⟨none, (.store 3 (.tmp 104) (.tmp 102)), none⟩] [[], [], [1], [], [], [4], [3, 5, 4], [6, 3, 5, 4], [7, 6, 3, 5, 4], [], [], [9, 10], [11, 9, 10], [12, 11, 9, 10], [8, 7, 6, 3, 5, 4, 13, 12, 11, 9, 10], [0, 2, 1, 14, 8, 7, 6, 3, 5, 4, 13, 12, 11, 9, 10], [15, 0, 2, 1, 14, 8, 7, 6, 3, 5, 4, 13, 12, 11, 9, 10], [16, 15, 0, 2, 1, 14, 8, 7, 6, 3, 5, 4, 13, 12, 11, 9, 10]]) (.ops 19000 [⟨some 105, (.move (.tmp 7)), none⟩,
  ⟨some 106, (.move (.tmp 3)), none⟩,
  ⟨some 107, (.move (.tmp 8)), none⟩,
  ⟨some 108, (.indexAddr 23 (.tmp 106) (.tmp 107)), none⟩,
  ⟨some 109, (.load 65 (.tmp 108)), none⟩,
  ⟨some 110, (.buildSlice 23 1 #[(0, .tmp 109)]), none⟩,
  ⟨some 111, (.call { callee := (.builtin .append), args := #[.tmp 105, .tmp 110], argTypes := #[23, 23] }), none⟩,
  ⟨some 7, (.assign (.tmp 111)), none⟩]))))) (.ops 15000 [⟨some 68, (.move (.tmp 8)), none⟩,
  ⟨some 69, (.binOp .add 3 (.tmp 68) (.const (.int .i64 1)) 3), none⟩,
  ⟨some 8, (.assign (.tmp 69)), none⟩]))
def c32 : ACode :=
  .seq (.ops 1000 [⟨some 2, (.assign (.const (.slice none 0 0))), none⟩]) (.seq (.ops 2000 [⟨some 10, (.buildSlice 23 0 #[]), none⟩,
  ⟨some 3, (.assign (.tmp 10)), none⟩]) (.seq (.seq (.ops 3000 [⟨some 4, (.assign (.const (.int .i64 0))), none⟩]) (.block 0 (.loop c32_L1))) (.seq (.ops 12000 [⟨some 63, (.buildSlice 23 0 #[]), none⟩,
  ⟨some 7, (.assign (.tmp 63)), none⟩]) (.seq (.seq (.ops 13000 [⟨some 8, (.assign (.const (.int .i64 0))), none⟩]) (.block 4 (.loop c32_L2))) (.seq (.ops 20000 [⟨some 112, (.move (.tmp 7)), none⟩,
  ⟨some 2, (.assign (.tmp 112)), none⟩]) (.ret))))))
theorem c32_ok : Tryz.f32.body.bind (absCode Tryz.f32.ntmps) = some c32 := by kernel_rfl
theorem r32 : Tryz.f32.results.toList = [.tmp 2] := by kernel_rfl
theorem e32 : Enters Tryz.prog 32 := enters_of Tryz.func32 (by kernel_rfl) rfl
def c45_L0 : ACode :=
  .seq (.seq (.ops 6000 [⟨some 10, (.move (.tmp 6)), none⟩,
  ⟨some 11, (.move (.tmp 3)), none⟩,
  ⟨some 12, (.call { callee := (.builtin .len), args := #[.tmp 11], argTypes := #[23] }), none⟩,
  ⟨some 13, (.binOp .lss 3 (.tmp 10) (.tmp 12) 3), none⟩]) (.cond (.tmp 13) (.skip) (.exit 0))) (.seq (.block 1 (.seq (.seq (.ops 8000 [⟨some 16, (.move (.tmp 3)), none⟩,
  ⟨some 17, (.move (.tmp 6)), none⟩,
  ⟨some 18, (.indexAddr 23 (.tmp 16) (.tmp 17)), none⟩,
  ⟨some 19, (.fieldAddr 65 (.tmp 18) 0), none⟩,
  ⟨some 20, (.load 3 (.tmp 19)), none⟩,
  ⟨some 21, (.move (.tmp 5)), none⟩,
  ⟨some 22, (.binOp .gtr 3 (.tmp 20) (.tmp 21) 3), none⟩]) (.cond (.tmp 22) (.ops 9000 [⟨some 23, (.move (.tmp 4)), none⟩,
  ⟨some 24, (.move (.tmp 5)), none⟩,
  ⟨some 25, (.move (.tmp 3)), none⟩,
  ⟨some 26, (.move (.tmp 6)), none⟩,
  ⟨some 27, (.indexAddr 23 (.tmp 25) (.tmp 26)), none⟩,
  ⟨some 28, (.fieldAddr 65 (.tmp 27) 0), none⟩,
  ⟨some 29, (.load 3 (.tmp 28)), none⟩,
  ⟨some 30, (.build 65 #[(0, .tmp 24), (1, .tmp 29)]), none⟩,
  ⟨some 31, (.buildSlice 23 1 #[(0, .tmp 30)]), none⟩,
  ⟨some 32, (.call { callee := (.builtin .append), args := #[.tmp 23, .tmp 31], argTypes := #[23, 23] }), none⟩,
  ⟨some 4, (.assign (.tmp 32)), none⟩]) (.skip))) (.ops 10000 [⟨some 33, (.move (.tmp 3)), none⟩,
  ⟨some 34, (.move (.tmp 6)), none⟩,
  ⟨some 35, (.indexAddr 23 (.tmp 33) (.tmp 34)), none⟩,
  ⟨some 36, (.fieldAddr 65 (.tmp 35) 1), none⟩,
  ⟨some 37, (.load 3 (.tmp 36)), none⟩,
  ⟨some 5, (.assign (.tmp 37)), none⟩]))) (.ops 7000 [⟨some 14, (.move (.tmp 6)), none⟩,
  ⟨some 15, (.binOp .add 3 (.tmp 14) (.const (.int .i64 1)) 3), none⟩,
  ⟨some 6, (.assign (.tmp 15)), none⟩]))
def c45 : ACode :=
  .seq (.ops 1000 [⟨some 2, (.assign (.const (.slice none 0 0))), none⟩]) (.seq (.ops 2000 [⟨some 7, (.move (.tmp 0)), none⟩,
  ⟨some 8, (.call { callee := (.value (.func 32)), args := #[.tmp 7], argTypes := #[23] }), none⟩,
  ⟨some 3, (.assign (.tmp 8)), none⟩]) (.seq (.ops 3000 [⟨some 9, (.buildSlice 23 0 #[]), none⟩,
  ⟨some 4, (.assign (.tmp 9)), none⟩]) (.seq (.ops 4000 [⟨some 5, (.assign (.const (.int .i64 0))), none⟩]) (.seq (.seq (.ops 5000 [⟨some 6, (.assign (.const (.int .i64 0))), none⟩]) (.block 0 (.loop c45_L0))) (.seq (.seq (.ops 11000 [⟨some 38, (.move (.tmp 5)), none⟩,
  ⟨some 39, (.binOp .lss 3 (.tmp 38) (.const (.int .i64 1000000)) 3), none⟩]) (.cond (.tmp 39) (.ops 12000 [⟨some 40, (.move (.tmp 4)), none⟩,
  ⟨some 41, (.move (.tmp 5)), none⟩,
  ⟨some 42, (.build 65 #[(0, .tmp 41), (1, (.const (.int .i64 1000000)))]), none⟩,
  ⟨some 43, (.buildSlice 23 1 #[(0, .tmp 42)]), none⟩,
  ⟨some 44, (.call { callee := (.builtin .append), args := #[.tmp 40, .tmp 43], argTypes := #[23, 23] }), none⟩,
  ⟨some 4, (.assign (.tmp 44)), none⟩]) (.skip))) (.seq (.ops 13000 [⟨some 45, (.move (.tmp 4)), none⟩,
  ⟨some 2, (.assign (.tmp 45)), none⟩]) (.ret)))))))
theorem c45_ok : Tryz.f45.body.bind (absCode Tryz.f45.ntmps) = some c45 := by kernel_rfl
theorem r45 : Tryz.f45.results.toList = [.tmp 2] := by kernel_rfl
theorem e45 : Enters Tryz.prog 45 := enters_of Tryz.func45 (by kernel_rfl) rfl
def c50_L0 : ACode :=
  .seq (.seq (.ops 4000 [⟨some 6, (.move (.tmp 4)), none⟩,
  ⟨some 7, (.move (.tmp 0)), none⟩,
  ⟨some 8, (.call { callee := (.builtin .len), args := #[.tmp 7], argTypes := #[78] }), none⟩,
  ⟨some 9, (.binOp .lss 3 (.tmp 6) (.tmp 8) 3), none⟩]) (.cond (.tmp 9) (.skip) (.exit 0))) (.seq (.block 1 (.ops 6000 [⟨some 12, (.move (.tmp 3)), none⟩,
  ⟨some 13, (.move (.tmp 0)), none⟩,
  ⟨some 14, (.move (.tmp 4)), none⟩,
  ⟨some 15, (.indexAddr 78 (.tmp 13) (.tmp 14)), none⟩,
  ⟨some 16, (.load 23 (.tmp 15)), none⟩,
  ⟨some 17, (.call { callee := (.builtin .append), args := #[.tmp 12, .tmp 16], argTypes := #[23, 23] }), none⟩,
  ⟨some 3, (.assign (.tmp 17)), none⟩])) (.ops 5000 [⟨some 10, (.move (.tmp 4)), none⟩,
  ⟨some 11, (.binOp .add 3 (.tmp 10) (.const (.int .i64 1)) 3), none⟩,
  ⟨some 4, (.assign (.tmp 11)), none⟩]))
def c50 : ACode :=
  .seq (.ops 1000 [⟨some 2, (.assign (.const (.slice none 0 0))), none⟩]) (.seq (.ops 2000 [⟨some 5, (.buildSlice 23 0 #[]), none⟩,
  ⟨some 3, (.assign (.tmp 5)), none⟩]) (.seq (.seq (.ops 3000 [⟨some 4, (.assign (.const (.int .i64 0))), none⟩]) (.block 0 (.loop c50_L0))) (.seq (.ops 7000 [⟨some 18, (.move (.tmp 3)), none⟩,
  ⟨some 19, (.call { callee := (.value (.func 32)), args := #[.tmp 18], argTypes := #[23] }), none⟩,
  ⟨some 2, (.assign (.tmp 19)), none⟩]) (.ret))))
theorem c50_ok : Tryz.f50.body.bind (absCode Tryz.f50.ntmps) = some c50 := by kernel_rfl
theorem r50 : Tryz.f50.results.toList = [.tmp 2] := by kernel_rfl
theorem e50 : Enters Tryz.prog 50 := enters_of Tryz.func50 (by kernel_rfl) rfl
def c70_L0 : ACode :=
  .seq (.seq (.ops 4000 [⟨some 6, (.move (.tmp 4)), none⟩,
  ⟨some 7, (.move (.tmp 0)), none⟩,
  ⟨some 8, (.call { callee := (.builtin .len), args := #[.tmp 7], argTypes := #[78] }), none⟩,
  ⟨some 9, (.binOp .lss 3 (.tmp 6) (.tmp 8) 3), none⟩]) (.cond (.tmp 9) (.skip) (.exit 0))) (.seq (.block 1 (.ops 6000 [⟨some 12, (.move (.tmp 3)), none⟩,
  ⟨some 13, (.move (.tmp 0)), none⟩,
  ⟨some 14, (.move (.tmp 4)), none⟩,
  ⟨some 15, (.indexAddr 78 (.tmp 13) (.tmp 14)), none⟩,
  ⟨some 16, (.load 23 (.tmp 15)), none⟩,
  ⟨some 17, (.call { callee := (.value (.func 45)), args := #[.tmp 16], argTypes := #[23] }), none⟩,
  ⟨some 18, (.buildSlice 78 1 #[(0, .tmp 17)]), none⟩,
  ⟨some 19, (.call { callee := (.builtin .append), args := #[.tmp 12, .tmp 18], argTypes := #[78, 78] }), none⟩,
  ⟨some 3, (.assign (.tmp 19)), none⟩])) (.ops 5000 [⟨some 10, (.move (.tmp 4)), none⟩,
  ⟨some 11, (.binOp .add 3 (.tmp 10) (.const (.int .i64 1)) 3), none⟩,
  ⟨some 4, (.assign (.tmp 11)), none⟩]))
def c70 : ACode :=
  .seq (.ops 1000 [⟨some 2, (.assign (.const (.slice none 0 0))), none⟩]) (.seq (.ops 2000 [⟨some 5, (.buildSlice 78 0 #[]), none⟩,
  ⟨some 3, (.assign (.tmp 5)), none⟩]) (.seq (.seq (.ops 3000 [⟨some 4, (.assign (.const (.int .i64 0))), none⟩]) (.block 0 (.loop c70_L0))) (.seq (.ops 7000 [⟨some 20, (.move (.tmp 3)), none⟩,
  ⟨some 21, (.call { callee := (.value (.func 50)), args := #[.tmp 20], argTypes := #[78] }), none⟩,
  ⟨some 22, (.call { callee := (.value (.func 45)), args := #[.tmp 21], argTypes := #[23] }), none⟩,
  ⟨some 2, (.assign (.tmp 22)), none⟩]) (.ret))))
theorem c70_ok : Tryz.f70.body.bind (absCode Tryz.f70.ntmps) = some c70 := by kernel_rfl
theorem r70 : Tryz.f70.results.toList = [.tmp 2] := by kernel_rfl
theorem e70 : Enters Tryz.prog 70 := enters_of Tryz.func70 (by kernel_rfl) rfl
def c42 : ACode :=
  .seq (.ops 1000 [⟨some 4, (.assign (.const (.slice none 0 0))), none⟩]) (.seq (.ops 2000 [⟨some 5, (.move (.tmp 0)), none⟩,
  ⟨some 6, (.move (.tmp 1)), none⟩,
  ⟨some 7, (.call { callee := (.value (.func 45)), args := #[.tmp 6], argTypes := #[23] }), none⟩,
  ⟨some 8, (.buildSlice 78 2 #[(0, .tmp 5), (1, .tmp 7)]), none⟩,
  ⟨some 9, (.call { callee := (.value (.func 70)), args := #[.tmp 8], argTypes := #[78] }), none⟩,
  ⟨some 4, (.assign (.tmp 9)), none⟩]) (.ret))
theorem c42_ok : Tryz.f42.body.bind (absCode Tryz.f42.ntmps) = some c42 := by kernel_rfl
theorem r42 : Tryz.f42.results.toList = [.tmp 4] := by kernel_rfl
theorem e42 : Enters Tryz.prog 42 := enters_of Tryz.func42 (by kernel_rfl) rfl
def c43 : ACode :=
  .seq (.ops 1000 [⟨some 2, (.assign (.const (.slice none 0 0))), none⟩]) (.seq (.ops 2000 [⟨some 3, (.move (.tmp 0)), none⟩,
  ⟨some 4, (.build 65 #[(0, .tmp 3), (1, (.const (.int .i64 1000000)))]), none⟩,
  ⟨some 5, (.buildSlice 23 1 #[(0, .tmp 4)]), none⟩,
  ⟨some 6, (.call { callee := (.value (.func 32)), args := #[.tmp 5], argTypes := #[23] }), none⟩,
  ⟨some 2, (.assign (.tmp 6)), none⟩]) (.ret))
theorem c43_ok : Tryz.f43.body.bind (absCode Tryz.f43.ntmps) = some c43 := by kernel_rfl
theorem r43 : Tryz.f43.results.toList = [.tmp 2] := by kernel_rfl
theorem e43 : Enters Tryz.prog 43 := enters_of Tryz.func43 (by kernel_rfl) rfl
def c55 : ACode :=
  .seq (.ops 1000 [⟨some 4, (.assign (.const (.bool false))), none⟩]) (.seq (.ops 2000 [⟨some 5, (.move (.tmp 0)), none⟩,
  ⟨some 6, (.move (.tmp 1)), none⟩,
  ⟨some 7, (.call { callee := (.value (.func 42)), args := #[.tmp 5, .tmp 6], argTypes := #[23, 23] }), none⟩,
  ⟨some 8, (.call { callee := (.builtin .len), args := #[.tmp 7], argTypes := #[23] }), none⟩,
  ⟨some 9, (.binOp .eql 3 (.tmp 8) (.const (.int .i64 0)) 3), none⟩,
  ⟨some 4, (.assign (.tmp 9)), none⟩]) (.ret))
theorem c55_ok : Tryz.f55.body.bind (absCode Tryz.f55.ntmps) = some c55 := by kernel_rfl
theorem r55 : Tryz.f55.results.toList = [.tmp 4] := by kernel_rfl
theorem e55 : Enters Tryz.prog 55 := enters_of Tryz.func55 (by kernel_rfl) rfl
def c48_L0 : ACode :=
  .seq (.seq (.dops 8000 [⟨some 34, (.move (.tmp 7)), none⟩,
  ⟨some 35, (.move (.tmp 4)), none⟩,
  ⟨some 36, (.call { callee := (.builtin .len), args := #[.tmp 35], argTypes := #[29] }), none⟩,
  ⟨some 37, (.binOp .lss 3 (.tmp 34) (.tmp 36) 3), none⟩,
  ⟨some 38, (.move (.tmp 37)), none⟩,
  ⟨some 39, (.move (.tmp 4)), some (38, true)⟩,
  ⟨some 40, (.move (.tmp 7)), some (38, true)⟩,
  ⟨some 41, (.indexAddr 29 (.tmp 39) (.tmp 40)), some (38, true)⟩,
  ⟨some 42, (.fieldAddr 51 (.tmp 41) 0), some (38, true)⟩,
  ⟨some 43, (.load 9 (.tmp 42)), some (38, true)⟩,
  ⟨some 44, (.fieldAddr 51 (.tmp 6) 0), some (38, true)⟩,
  ⟨some 45, (.load 9 (.tmp 44)), some (38, true)⟩,
  ⟨some 46, (.binOp .lss 9 (.tmp 43) (.tmp 45) 9), some (38, true)⟩,
  ⟨some 47, (.pick (.tmp 38) (.tmp 46) (.const (.bool false))), none⟩] [[], [], [1], [0, 2, 1], [3, 0, 2, 1], [4, 3, 0, 2, 1], [4, 3, 0, 2, 1], [5, 6, 4, 3, 0, 2, 1], [7, 5, 6, 4, 3, 0, 2, 1], [8, 7, 5, 6, 4, 3, 0, 2, 1], [4, 3, 0, 2, 1], [10, 4, 3, 0, 2, 1], [9, 8, 7, 5, 6, 11, 10, 4, 3, 0, 2, 1], [12, 9, 8, 7, 5, 6, 11, 10, 4, 3, 0, 2, 1]]) (.cond (.tmp 47) (.skip) (.exit 2))) (.block 3 (.ops 9000 [⟨some 48, (.move (.tmp 7)), none⟩,
  ⟨some 49, (.binOp .add 3 (.tmp 48) (.const (.int .i64 1)) 3), none⟩,
  ⟨some 7, (.assign (.tmp 49)), none⟩]))
def c48_L1 : ACode :=
  .seq (.seq (.ops 4000 [⟨some 11, (.move (.tmp 5)), none⟩,
  ⟨some 12, (.move (.tmp 0)), none⟩,
  ⟨some 13, (.call { callee := (.builtin .len), args := #[.tmp 12], argTypes := #[29] }), none⟩,
  ⟨some 14, (.binOp .lss 3 (.tmp 11) (.tmp 13) 3), none⟩]) (.cond (.tmp 14) (.skip) (.exit 0))) (.seq (.block 1 (.seq (.dops 6000 [⟨some 17, (.move (.tmp 0)), none⟩,
  ⟨some 18, (.move (.tmp 5)), none⟩,
  ⟨some 19, (.indexAddr 29 (.tmp 17) (.tmp 18)), none⟩,
  ⟨some 20, (.fieldAddr 51 (.tmp 19) 0), none⟩,
  ⟨some 21, (.load 9 (.tmp 20)), none⟩,
  ⟨some 22, (.move (.tmp 0)), none⟩,
  ⟨some 23, (.move (.tmp 5)), none⟩,
  ⟨some 24, (.indexAddr 29 (.tmp 22) (.tmp 23)), none⟩,
  ⟨some 25, (.fieldAddr 51 (.tmp 24) 1), none⟩,
  ⟨some 26, (.load 4 (.tmp 25)), none⟩,
  ⟨some 27, (.move (.tmp 0)), none⟩,
  ⟨some 28, (.move (.tmp 5)), none⟩,
  ⟨some 29, (.indexAddr 29 (.tmp 27) (.tmp 28)), none⟩,
  ⟨some 30, (.fieldAddr 51 (.tmp 29) 2), none⟩,
  ⟨some 31, (.load 23 (.tmp 30)), none⟩,
  ⟨some 32, (.call { callee := (.value (.func 32)), args := #[.tmp 31], argTypes := #[23] }), none⟩,
  ⟨some 33, (.build 51 #[(0, .tmp 21), (1, .tmp 26), (2, .tmp 32)]), none⟩,
  ⟨some 6, (.alloc 51), none⟩,
  ⟨none, (.store 51 (.tmp 6) (.tmp 33)), none⟩] [[], [], [0, 1], [2, 0, 1], [3, 2, 0, 1], [], [], [5, 6], [7, 5, 6], [8, 7, 5, 6], [], [], [10, 11], [12, 10, 11], [13, 12, 10, 11], [14, 13, 12, 10, 11], [4, 3, 2, 0, 1, 9, 8, 7, 5, 6, 15, 14, 13, 12, 10, 11], [], [16, 4, 3, 2, 0, 1, 9, 8, 7, 5, 6, 15, 14, 13, 12, 10, 11, 17]]) (.seq (.ops 7000 [⟨some 7, (.assign (.const (.int .i64 0))), none⟩]) (.seq (.block 2 (.loop c48_L0)) (.seq (.dops 10000 [⟨some 50, (.move (.tmp 7)), none⟩,
  ⟨some 51, (.move (.tmp 4)), none⟩,
  ⟨some 52, (.call { callee := (.builtin .len), args := #[.tmp 51], argTypes := #[29] }), none⟩,
  ⟨some 53, (.binOp .lss 3 (.tmp 50) (.tmp 52) 3), none⟩,
  ⟨some 54, (.move (.tmp 53)), none⟩,
  ⟨some 55, (.move (.tmp 4)), some (54, true)⟩,
  ⟨some 56, (.move (.tmp 7)), some (54, true)⟩,
  ⟨some 57, (.indexAddr 29 (.tmp 55) (.tmp 56)), some (54, true)⟩,
  ⟨some 58, (.fieldAddr 51 (.tmp 57) 0), some (54, true)⟩,
  ⟨some 59, (.load 9 (.tmp 58)), some (54, true)⟩,
  ⟨some 60, (.fieldAddr 51 (.tmp 6) 0), some (54, true)⟩,
  ⟨some 61, (.load 9 (.tmp 60)), some (54, true)⟩,
  ⟨some 62, (.binOp .eql 9 (.tmp 59) (.tmp 61) 9), some (54, true)⟩,
  ⟨some 63, (.pick (.tmp 54) (.tmp 62) (.const (.bool false))), none⟩] [[], [], [1], [0, 2, 1], [3, 0, 2, 1], [4, 3, 0, 2, 1], [4, 3, 0, 2, 1], [5, 6, 4, 3, 0, 2, 1], [7, 5, 6, 4, 3, 0, 2, 1], [8, 7, 5, 6, 4, 3, 0, 2, 1], [4, 3, 0, 2, 1], [10, 4, 3, 0, 2, 1], [9, 8, 7, 5, 6, 11, 10, 4, 3, 0, 2, 1], [12, 9, 8, 7, 5, 6, 11, 10, 4, 3, 0, 2, 1]]) (.cond (.tmp 63) (.seq (.ops 11000 [⟨some 64, (.move (.tmp 4)), none⟩,
  ⟨some 65, (.move (.tmp 7)), none⟩,
  ⟨some 66, (.move (.tmp 4)), none⟩,
  ⟨some 67, (.move (.tmp 7)), none⟩,
  ⟨some 68, (.indexAddr 29 (.tmp 66) (.tmp 67)), none⟩,
  ⟨some 69, (.fieldAddr 51 (.tmp 68) 1), none⟩,
  ⟨some 70, (.load 4 (.tmp 69)), none⟩,
  ⟨some 71, (.move (.tmp 70)), none⟩,
  ⟨some 72, (.fieldAddr 51 (.tmp 6) 1), some (71, true)⟩,
  ⟨some 73, (.load 4 (.tmp 72)), some (71, true)⟩,
  ⟨some 74, (.pick (.tmp 71) (.tmp 73) (.const (.bool false))), none⟩,
  ⟨some 75, (.indexAddr 29 (.tmp 64) (.tmp 65)), none⟩,
  ⟨some 76, (.fieldAddr 51 (.tmp 75) 1), none⟩,
  ⟨none, (.store 4 (.tmp 76) (.tmp 74)), none⟩]) (.dops 12000 [⟨some 77, (.move (.tmp 4)), none⟩,
  ⟨some 78, (.move (.tmp 7)), none⟩,
  ⟨some 79, (.move (.tmp 4)), none⟩,
  ⟨some 80, (.move (.tmp 7)), none⟩,
  ⟨some 81, (.indexAddr 29 (.tmp 79) (.tmp 80)), none⟩,
  ⟨some 82, (.fieldAddr 51 (.tmp 81) 2), none⟩,
  ⟨some 83, (.load 23 (.tmp 82)), none⟩,
  ⟨some 84, (.fieldAddr 51 (.tmp 6) 2), none⟩,
  ⟨some 85, (.load 23 (.tmp 84)), none⟩,
  ⟨some 86, (.buildSlice 78 2 #[(0, .tmp 83), (1, .tmp 85)]), none⟩,
  ⟨some 87, (.call { callee := (.value (.func 70)), args := #[.tmp 86], argTypes := #[78] }), none⟩,
  ⟨some 88, (.indexAddr 29 (.tmp 77) (.tmp 78)), none⟩,
  ⟨some 89, (.fieldAddr 51 (.tmp 88) 2), none⟩,
  ⟨none, (.store 23 (.tmp 89) (.tmp 87)), none⟩] [[], [], [], [], [2, 3], [4, 2, 3], [5, 4, 2, 3], [], [7], [6, 5, 4, 2, 3, 8, 7], [9, 6, 5, 4, 2, 3, 8, 7], [0, 1, 10, 9, 6, 5, 4, 2, 3, 8, 7], [11, 0, 1, 10, 9, 6, 5, 4, 2, 3, 8, 7], [12, 11, 0, 1, 10, 9, 6, 5, 4, 2, 3, 8, 7]])) (.dops 13000 [⟨some 90, (.move (.tmp 4)), none⟩,
  ⟨some 91, (.move (.tmp 7)), none⟩,
  ⟨some 92, (.move (.tmp 7)), none⟩,
  ⟨some 93, (.slice 29 (.tmp 90) none (some (.tmp 91)) (some (.tmp 92))), none⟩,
  ⟨some 94, (.load 51 (.tmp 6)), none⟩,
  ⟨some 95, (.buildSlice 29 1 #[(0, .tmp 94)]), none⟩,
  ⟨some 96, (.move (.tmp 4)), none⟩,
  ⟨some 97, (.move (.tmp 7)), none⟩,
  ⟨some 98, (.slice 29 (.tmp 96) (some (.tmp 97)) none none), none⟩,
  ⟨some 99, (.call { callee := (.builtin .append), args := #[.tmp 95, .tmp 98], argTypes := #[29, 29] }), none⟩,
  ⟨some 100, (.call { callee := (.builtin .append), args := #[.tmp 93, .tmp 99], argTypes := #[29, 29] }), none⟩,
  ⟨some 4, (.assign (.tmp 100)), none⟩] [[], [], [], [0, 1, 2], [], [4], [], [], [6, 7], [5, 4, 8, 6, 7], [3, 0, 1, 2, 9, 5, 4, 8, 6, 7], [10, 3, 0, 1, 2, 9, 5, 4, 8, 6, 7]]))))))) (.ops 5000 [⟨some 15, (.move (.tmp 5)), none⟩,
  ⟨some 16, (.binOp .add 3 (.tmp 15) (.const (.int .i64 1)) 3), none⟩,
  ⟨some 5, (.assign (.tmp 16)), none⟩]))
def c48_L2 : ACode :=
  .seq (.seq (.ops 16000 [⟨some 102, (.move (.tmp 9)), none⟩,
  ⟨some 103, (.move (.tmp 4)), none⟩,
  ⟨some 104, (.call { callee := (.builtin .len), args := #[.tmp 103], argTypes := #[29] }), none⟩,
  ⟨some 105, (.binOp .lss 3 (.tmp 102) (.tmp 104) 3), none⟩]) (.cond (.tmp 105) (.skip) (.exit 4))) (.seq (.block 5 (.seq (.seq (.ops 18000 [⟨some 108, (.move (.tmp 4)), none⟩,
  ⟨some 109, (.move (.tmp 9)), none⟩,
  ⟨some 110, (.indexAddr 29 (.tmp 108) (.tmp 109)), none⟩,
  ⟨some 111, (.load 51 (.tmp 110)), none⟩,
  ⟨some 112, (.call { callee := (.value (.func 77)), args := #[.tmp 111], argTypes := #[51] }), none⟩]) (.cond (.tmp 112) (.seq (.ops 19000 [⟨some 2, (.assign (.const (.slice none 0 0))), none⟩,
  ⟨some 3, (.assign (.const (.bool false))), none⟩]) (.ret)) (.skip))) (.seq (.ops 20000 [⟨some 113, (.move (.tmp 4)), none⟩,
  ⟨some 114, (.move (.tmp 9)), none⟩,
  ⟨some 115, (.indexAddr 29 (.tmp 113) (.tmp 114)), none⟩,
  ⟨some 116, (.load 51 (.tmp 115)), none⟩,
  ⟨some 117, (.call { callee := (.value (.func 78)), args := #[.tmp 116], argTypes := #[51] }), none⟩,
  ⟨some 118, (.unOp .not 4 (.tmp 117)), none⟩]) (.cond (.tmp 118) (.ops 21000 [⟨some 119, (.move (.tmp 8)), none⟩,
  ⟨some 120, (.move (.tmp 4)), none⟩,
  ⟨some 121, (.move (.tmp 9)), none⟩,
  ⟨some 122, (.indexAddr 29 (.tmp 120) (.tmp 121)), none⟩,
  ⟨some 123, (.load 51 (.tmp 122)), none⟩,
  ⟨some 124, (.buildSlice 29 1 #[(0, .tmp 123)]), none⟩,
  ⟨some 125, (.call { callee := (.builtin .append), args := #[.tmp 119, .tmp 124], argTypes := #[29, 29] }), none⟩,
  ⟨some 8, (.assign (.tmp 125)), none⟩]) (.skip))))) (.ops 17000 [⟨some 106, (.move (.tmp 9)), none⟩,
  ⟨some 107, (.binOp .add 3 (.tmp 106) (.const (.int .i64 1)) 3), none⟩,
  ⟨some 9, (.assign (.tmp 107)), none⟩]))
def c48 : ACode :=
  .seq (.ops 1000 [⟨some 2, (.assign (.const (.slice none 0 0))), none⟩,
  ⟨some 3, (.assign (.const (.bool false))), none⟩]) (.seq (.ops 2000 [⟨some 10, (.buildSlice 29 0 #[]), none⟩,
  ⟨some 4, (.assign (.tmp 10)), none⟩]) (.seq (.seq (.ops 3000 [⟨some 5, (.assign (.const (.int .i64 0))), none⟩]) (.block 0 (.loop c48_L1))) (.seq (.ops 14000 [⟨some 101, (.buildSlice 29 0 #[]), none⟩,
  ⟨some 8, (.assign (.tmp 101)), none⟩]) (.seq (.seq (.ops 15000 [⟨some 9, (.assign (.const (.int .i64 0))), none⟩]) (.block 4 (.loop c48_L2))) (.seq (.ops 22000 [⟨some 126, (.move (.tmp 8)), none⟩,
  ⟨some 2, (.assign (.tmp 126)), none⟩,
  ⟨some 3, (.assign (.const (.bool true))), none⟩]) (.ret))))))
theorem c48_ok : Tryz.f48.body.bind (absCode Tryz.f48.ntmps) = some c48 := by kernel_rfl
theorem r48 : Tryz.f48.results.toList = [.tmp 2, .tmp 3] := by kernel_rfl
theorem e48 : Enters Tryz.prog 48 := enters_of Tryz.func48 (by kernel_rfl) rfl
def c40 : ACode :=
  .seq (.ops 1000 [⟨some 2, (.assign (.const (.slice none 0 0))), none⟩]) (.seq (.ops 2000 [⟨some 6, (.move (.tmp 0)), none⟩,
  ⟨some 7, (.call { callee := (.value (.func 48)), args := #[.tmp 6], argTypes := #[29] }), none⟩,
  ⟨some 5, (.move (.tmp 7)), none⟩,
  ⟨some 8, (.extract (.tmp 5) 0), none⟩,
  ⟨some 9, (.extract (.tmp 5) 1), none⟩,
  ⟨some 3, (.assign (.tmp 8)), none⟩,
  ⟨some 4, (.assign (.tmp 9)), none⟩]) (.seq (.ops 3000 [⟨some 10, (.move (.tmp 3)), none⟩,
  ⟨some 2, (.assign (.tmp 10)), none⟩]) (.ret)))
theorem c40_ok : Tryz.f40.body.bind (absCode Tryz.f40.ntmps) = some c40 := by kernel_rfl
theorem r40 : Tryz.f40.results.toList = [.tmp 2] := by kernel_rfl
theorem e40 : Enters Tryz.prog 40 := enters_of Tryz.func40 (by kernel_rfl) rfl
def c41 : ACode :=
  .seq (.ops 1000 [⟨some 1, (.box 25 (.tmp 0)), none⟩,
  ⟨some 2, (.alloc 51), none⟩]) (.seq (.dops 2000 [⟨some 3, (.fieldAddr 25 (.tmp 1) 0), none⟩,
  ⟨some 4, (.load 9 (.tmp 3)), none⟩,
  ⟨some 5, (.fieldAddr 25 (.tmp 1) 1), none⟩,
  ⟨some 6, (.load 23 (.tmp 5)), none⟩,
  ⟨some 7, (.call { callee := (.value (.func 45)), args := #[.tmp 6], argTypes := #[23] }), none⟩,
  ⟨some 8, (.build 51 #[(0, .tmp 4), (1, (.const (.bool true))), (2, .tmp 7)]), none⟩,
  ⟨none, (.store 51 (.tmp 2) (.tmp 8)), none⟩] [[], [0], [], [2], [3, 2], [1, 0, 4, 3, 2], [5, 1, 0, 4, 3, 2]]) (.ret))
theorem c41_ok : Tryz.f41.body.bind (absCode Tryz.f41.ntmps) = some c41 := by kernel_rfl
theorem r41 : Tryz.f41.results.toList = [(.cell 2 51)] := by kernel_rfl
theorem e41 : Enters Tryz.prog 41 := enters_of Tryz.func41 (by kernel_rfl) rfl
def c12 : ACode :=
  .seq (.ops 1000 [⟨some 1, (.box 25 (.tmp 0)), none⟩,
  ⟨some 2, (.assign (.const (.slice none 0 0))), none⟩]) (.seq (.ops 2000 [⟨some 3, (.load 25 (.tmp 1)), none⟩,
  ⟨some 4, (.call { callee := (.value (.func 41)), args := #[.tmp 3], argTypes := #[25] }), none⟩,
  ⟨some 5, (.buildSlice 29 1 #[(0, .tmp 4)]), none⟩,
  ⟨some 6, (.call { callee := (.value (.func 40)), args := #[.tmp 5], argTypes := #[29] }), none⟩,
  ⟨some 2, (.assign (.tmp 6)), none⟩]) (.ret))
theorem c12_ok : Tryz.f12.body.bind (absCode Tryz.f12.ntmps) = some c12 := by kernel_rfl
theorem r12 : Tryz.f12.results.toList = [.tmp 2] := by kernel_rfl
theorem e12 : Enters Tryz.prog 12 := enters_of Tryz.func12 (by kernel_rfl) rfl
def c14 : ACode :=
  .seq (.ops 1000 [⟨some 5, (.box 25 (.tmp 2)), none⟩,
  ⟨some 6, (.assign (.const (.slice none 0 0))), none⟩]) (.seq (.ops 2000 [⟨some 8, (.move (.tmp 1)), none⟩,
  ⟨some 9, (.call { callee := (.value (.func 43)), args := #[.tmp 8], argTypes := #[3] }), none⟩,
  ⟨some 10, (.move (.tmp 1)), none⟩,
  ⟨some 11, (.binOp .add 3 (.tmp 10) (.const (.int .i64 1)) 3), none⟩,
  ⟨some 12, (.call { callee := (.value (.func 43)), args := #[.tmp 11], argTypes := #[3] }), none⟩,
  ⟨some 13, (.call { callee := (.value (.func 42)), args := #[.tmp 9, .tmp 12], argTypes := #[23, 23] }), none⟩,
  ⟨some 7, (.assign (.tmp 13)), none⟩]) (.seq (.seq (.ops 3000 [⟨some 14, (.move (.tmp 1)), none⟩,
  ⟨some 15, (.binOp .lss 3 (.tmp 14) (.const (.int .i64 0)) 3), none⟩,
  ⟨some 16, (.move (.tmp 15)), none⟩,
  ⟨some 17, (.move (.tmp 1)), some (16, false)⟩,
  ⟨some 18, (.binOp .geq 3 (.tmp 17) (.const (.int .i64 1000000)) 3), some (16, false)⟩,
  ⟨some 19, (.pick (.tmp 16) (.const (.bool true)) (.tmp 18)), none⟩]) (.cond (.tmp 19) (.ops 4000 [⟨some 7, (.assign (.const (.slice none 0 0))), none⟩]) (.skip))) (.seq (.ops 5000 [⟨some 20, (.move (.tmp 0)), none⟩,
  ⟨some 21, (.move (.tmp 7)), none⟩,
  ⟨some 22, (.build 51 #[(0, .tmp 20), (2, .tmp 21)]), none⟩,
  ⟨some 23, (.load 25 (.tmp 5)), none⟩,
  ⟨some 24, (.call { callee := (.value (.func 41)), args := #[.tmp 23], argTypes := #[25] }), none⟩,
  ⟨some 25, (.buildSlice 29 2 #[(0, .tmp 22), (1, .tmp 24)]), none⟩,
  ⟨some 26, (.call { callee := (.value (.func 40)), args := #[.tmp 25], argTypes := #[29] }), none⟩,
  ⟨some 6, (.assign (.tmp 26)), none⟩]) (.ret))))
theorem c14_ok : Tryz.f14.body.bind (absCode Tryz.f14.ntmps) = some c14 := by kernel_rfl
theorem r14 : Tryz.f14.results.toList = [.tmp 6] := by kernel_rfl
theorem e14 : Enters Tryz.prog 14 := enters_of Tryz.func14 (by kernel_rfl) rfl
def c16 : ACode :=
  .seq (.ops 1000 [⟨some 4, (.assign (.const (.slice none 0 0))), none⟩]) (.seq (.ops 2000 [⟨some 5, (.move (.tmp 0)), none⟩,
  ⟨some 6, (.move (.tmp 1)), none⟩,
  ⟨some 7, (.call { callee := (.value (.func 45)), args := #[.tmp 6], argTypes := #[23] }), none⟩,
  ⟨some 8, (.build 51 #[(0, .tmp 5), (2, .tmp 7)]), none⟩,
  ⟨some 9, (.buildSlice 29 1 #[(0, .tmp 8)]), none⟩,
  ⟨some 10, (.call { callee := (.value (.func 40)), args := #[.tmp 9], argTypes := #[29] }), none⟩,
  ⟨some 4, (.assign (.tmp 10)), none⟩]) (.ret))
theorem c16_ok : Tryz.f16.body.bind (absCode Tryz.f16.ntmps) = some c16 := by kernel_rfl
theorem r16 : Tryz.f16.results.toList = [.tmp 4] := by kernel_rfl
theorem e16 : Enters Tryz.prog 16 := enters_of Tryz.func16 (by kernel_rfl) rfl
def c19 : ACode :=
  .seq (.ops 1000 [⟨some 6, (.assign (.const (.slice none 0 0))), none⟩,
  ⟨some 7, (.assign (.const (.int .i64 0))), none⟩]) (.seq (.ops 2000 [⟨some 19, (.move (.tmp 0)), none⟩,
  ⟨some 20, (.call { callee := (.value (.func 48)), args := #[.tmp 19], argTypes := #[29] }), none⟩,
  ⟨some 18, (.move (.tmp 20)), none⟩,
  ⟨some 21, (.extract (.tmp 18) 0), none⟩,
  ⟨some 22, (.extract (.tmp 18) 1), none⟩,
  ⟨some 8, (.assign (.tmp 21)), none⟩,
  ⟨some 9, (.assign (.tmp 22)), none⟩]) (.seq (.ops 3000 [⟨some 24, (.move (.tmp 1)), none⟩,
  ⟨some 25, (.call { callee := (.value (.func 48)), args := #[.tmp 24], argTypes := #[29] }), none⟩,
  ⟨some 23, (.move (.tmp 25)), none⟩,
  ⟨some 26, (.extract (.tmp 23) 0), none⟩,
  ⟨some 27, (.extract (.tmp 23) 1), none⟩,
  ⟨some 10, (.assign (.tmp 26)), none⟩,
  ⟨some 11, (.assign (.tmp 27)), none⟩]) (.seq (.ops 4000 [⟨some 29, (.move (.tmp 8)), none⟩,
  ⟨some 30, (.move (.tmp 2)), none⟩,
  ⟨some 31, (.call { callee := (.value (.func 49)), args := #[.tmp 29, .tmp 30], argTypes := #[29, 9] }), none⟩,
  ⟨some 28, (.move (.tmp 31)), none⟩,
  ⟨some 32, (.extract (.tmp 28) 0), none⟩,
  ⟨some 33, (.extract (.tmp 28) 1), none⟩,
  ⟨some 12, (.alloc 51), none⟩,
  ⟨none, (.store 51 (.tmp 12) (.tmp 32)), none⟩,
  ⟨some 13, (.assign (.tmp 33)), none⟩]) (.seq (.ops 5000 [⟨some 35, (.move (.tmp 10)), none⟩,
  ⟨some 36, (.move (.tmp 2)), none⟩,
  ⟨some 37, (.call { callee := (.value (.func 49)), args := #[.tmp 35, .tmp 36], argTypes := #[29, 9] }), none⟩,
  ⟨some 34, (.move (.tmp 37)), none⟩,
  ⟨some 38, (.extract (.tmp 34) 0), none⟩,
  ⟨some 39, (.extract (.tmp 34) 1), none⟩,
  ⟨some 14, (.alloc 51), none⟩,
  ⟨none, (.store 51 (.tmp 14) (.tmp 38)), none⟩,
  ⟨some 15, (.assign (.tmp 39)), none⟩]) (.seq (.seq (.ops 6000 [⟨some 40, (.move (.tmp 9)), none⟩,
  ⟨some 41, (.unOp .not 4 (.tmp 40)), none⟩,
  ⟨some 42, (.move (.tmp 41)), none⟩,
  ⟨some 43, (.move (.tmp 11)), some (42, false)⟩,
  ⟨some 44, (.unOp .not 4 (.tmp 43)), some (42, false)⟩,
  ⟨some 45, (.pick (.tmp 42) (.const (.bool true)) (.tmp 44)), none⟩,
  ⟨some 46, (.move (.tmp 45)), none⟩,
  ⟨some 47, (.move (.tmp 13)), some (46, false)⟩,
  ⟨some 48, (.unOp .not 4 (.tmp 47)), some (46, false)⟩,
  ⟨some 49, (.pick (.tmp 46) (.const (.bool true)) (.tmp 48)), none⟩,
  ⟨some 50, (.move (.tmp 49)), none⟩,
  ⟨some 51, (.move (.tmp 15)), some (50, false)⟩,
  ⟨some 52, (.unOp .not 4 (.tmp 51)), some (50, false)⟩,
  ⟨some 53, (.pick (.tmp 50) (.const (.bool true)) (.tmp 52)), none⟩]) (.cond (.tmp 53) (.seq (.ops 7000 [⟨some 6, (.assign (.const (.slice none 0 0))), none⟩,
  ⟨some 7, (.assign (.const (.int .i64 1))), none⟩]) (.ret)) (.skip))) (.seq (.dops 8000 [⟨some 54, (.move (.tmp 2)), none⟩,
  ⟨some 55, (.fieldAddr 51 (.tmp 12) 1), none⟩,
  ⟨some 56, (.load 4 (.tmp 55)), none⟩,
  ⟨some 57, (.move (.tmp 56)), none⟩,
  ⟨some 58, (.fieldAddr 51 (.tmp 14) 1), some (57, false)⟩,
  ⟨some 59, (.load 4 (.tmp 58)), some (57, false)⟩,
  ⟨some 60, (.pick (.tmp 57) (.const (.bool true)) (.tmp 59)), none⟩,
  ⟨some 61, (.fieldAddr 51 (.tmp 12) 2), none⟩,
  ⟨some 62, (.load 23 (.tmp 61)), none⟩,
  ⟨some 63, (.fieldAddr 51 (.tmp 14) 2), none⟩,
  ⟨some 64, (.load 23 (.tmp 63)), none⟩,
  ⟨some 65, (.buildSlice 78 2 #[(0, .tmp 62), (1, .tmp 64)]), none⟩,
  ⟨some 66, (.call { callee := (.value (.func 50)), args := #[.tmp 65], argTypes := #[78] }), none⟩,
  ⟨some 67, (.build 51 #[(0, .tmp 54), (1, .tmp 60), (2, .tmp 66)]), none⟩,
  ⟨some 16, (.alloc 51), none⟩,
  ⟨none, (.store 51 (.tmp 16) (.tmp 67)), none⟩] [[], [], [1], [2, 1], [3, 2, 1], [4, 3, 2, 1], [5, 4, 3, 2, 1], [], [7], [], [9], [8, 7, 10, 9], [11, 8, 7, 10, 9, 3, 2, 1], [0, 6, 5, 4, 12, 11, 8, 7, 10, 9, 3, 2, 1], [], [13, 0, 6, 5, 4, 12, 11, 8, 7, 10, 9, 3, 2, 1, 14]]) (.seq (.dops 9000 [⟨some 69, (.move (.tmp 8)), none⟩,
  ⟨some 70, (.move (.tmp 2)), none⟩,
  ⟨some 71, (.call { callee := (.value (.func 51)), args := #[.tmp 69, .tmp 70], argTypes := #[29, 9] }), none⟩,
  ⟨some 72, (.move (.tmp 10)), none⟩,
  ⟨some 73, (.move (.tmp 2)), none⟩,
  ⟨some 74, (.call { callee := (.value (.func 51)), args := #[.tmp 72, .tmp 73], argTypes := #[29, 9] }), none⟩,
  ⟨some 75, (.call { callee := (.builtin .append), args := #[.tmp 71, .tmp 74], argTypes := #[29, 29] }), none⟩,
  ⟨some 76, (.load 51 (.tmp 16)), none⟩,
  ⟨some 77, (.buildSlice 29 1 #[(0, .tmp 76)]), none⟩,
  ⟨some 78, (.call { callee := (.builtin .append), args := #[.tmp 75, .tmp 77], argTypes := #[29, 29] }), none⟩,
  ⟨some 79, (.call { callee := (.value (.func 48)), args := #[.tmp 78], argTypes := #[29] }), none⟩,
  ⟨some 68, (.move (.tmp 79)), none⟩,
  ⟨some 80, (.extract (.tmp 68) 0), none⟩,
  ⟨some 81, (.extract (.tmp 68) 1), none⟩,
  ⟨some 17, (.assign (.tmp 80)), none⟩,
  ⟨some 9, (.assign (.tmp 81)), none⟩] [[], [], [0, 1], [], [], [3, 4, 2, 0, 1], [5, 3, 4, 2, 0, 1], [], [7], [8, 7, 6, 5, 3, 4, 2, 0, 1], [9, 8, 7, 6, 5, 3, 4, 2, 0, 1], [10, 9, 8, 7, 6, 5, 3, 4, 2, 0, 1], [11, 10, 9, 8, 7, 6, 5, 3, 4, 2, 0, 1], [11, 10, 9, 8, 7, 6, 5, 3, 4, 2, 0, 1], [12, 11, 10, 9, 8, 7, 6, 5, 3, 4, 2, 0, 1], [13, 14, 12, 11, 10, 9, 8, 7, 6, 5, 3, 4, 2, 0, 1]]) (.seq (.seq (.ops 10000 [⟨some 82, (.move (.tmp 9)), none⟩,
  ⟨some 83, (.unOp .not 4 (.tmp 82)), none⟩]) (.cond (.tmp 83) (.seq (.ops 11000 [⟨some 6, (.assign (.const (.slice none 0 0))), none⟩,
  ⟨some 7, (.assign (.const (.int .i64 8))), none⟩]) (.ret)) (.skip))) (.seq (.ops 12000 [⟨some 84, (.move (.tmp 17)), none⟩,
  ⟨some 6, (.assign (.tmp 84)), none⟩,
  ⟨some 7, (.assign (.const (.int .i64 0))), none⟩]) (.ret))))))))))
theorem c19_ok : Tryz.f19.body.bind (absCode Tryz.f19.ntmps) = some c19 := by kernel_rfl
theorem r19 : Tryz.f19.results.toList = [.tmp 6, .tmp 7] := by kernel_rfl
theorem e19 : Enters Tryz.prog 19 := enters_of Tryz.func19 (by kernel_rfl) rfl
def c21_L0 : ACode :=
  .seq (.seq (.ops 7000 [⟨some 30, (.move (.tmp 9)), none⟩,
  ⟨some 31, (.move (.tmp 5)), none⟩,
  ⟨some 32, (.call { callee := (.builtin .len), args := #[.tmp 31], argTypes := #[29] }), none⟩,
  ⟨some 33, (.binOp .lss 3 (.tmp 30) (.tmp 32) 3), none⟩]) (.cond (.tmp 33) (.skip) (.exit 0))) (.seq (.block 1 (.seq (.ops 9000 [⟨some 37, (.move (.tmp 7)), none⟩,
  ⟨some 38, (.move (.tmp 5)), none⟩,
  ⟨some 39, (.move (.tmp 9)), none⟩,
  ⟨some 40, (.indexAddr 29 (.tmp 38) (.tmp 39)), none⟩,
  ⟨some 41, (.fieldAddr 51 (.tmp 40) 0), none⟩,
  ⟨some 42, (.load 9 (.tmp 41)), none⟩,
  ⟨some 43, (.call { callee := (.value (.func 49)), args := #[.tmp 37, .tmp 42], argTypes := #[29, 9] }), none⟩,
  ⟨some 36, (.move (.tmp 43)), none⟩,
  ⟨some 44, (.extract (.tmp 36) 0), none⟩,
  ⟨some 45, (.extract (.tmp 36) 1), none⟩,
  ⟨some 10, (.alloc 51), none⟩,
  ⟨none, (.store 51 (.tmp 10) (.tmp 44)), none⟩,
  ⟨some 11, (.assign (.tmp 45)), none⟩]) (.seq (.dops 10000 [⟨some 46, (.move (.tmp 11)), none⟩,
  ⟨some 47, (.unOp .not 4 (.tmp 46)), none⟩,
  ⟨some 48, (.move (.tmp 47)), none⟩,
  ⟨some 49, (.fieldAddr 51 (.tmp 10) 1), some (48, false)⟩,
  ⟨some 50, (.load 4 (.tmp 49)), some (48, false)⟩,
  ⟨some 51, (.move (.tmp 50)), some (48, false)⟩,
  ⟨some 52, (.move (.tmp 5)), some (51, true)⟩,
  ⟨some 53, (.move (.tmp 9)), some (51, true)⟩,
  ⟨some 54, (.indexAddr 29 (.tmp 52) (.tmp 53)), some (51, true)⟩,
  ⟨some 55, (.fieldAddr 51 (.tmp 54) 1), some (51, true)⟩,
  ⟨some 56, (.load 4 (.tmp 55)), some (51, true)⟩,
  ⟨some 57, (.unOp .not 4 (.tmp 56)), some (51, true)⟩,
  ⟨some 58, (.pick (.tmp 51) (.tmp 57) (.const (.bool false))), some (48, false)⟩,
  ⟨some 59, (.pick (.tmp 48) (.const (.bool true)) (.tmp 58)), none⟩,
  ⟨some 60, (.move (.tmp 59)), none⟩,
  ⟨some 61, (.fieldAddr 51 (.tmp 10) 2), some (60, false)⟩,
  ⟨some 62, (.load 23 (.tmp 61)), some (60, false)⟩,
  ⟨some 63, (.move (.tmp 5)), some (60, false)⟩,
  ⟨some 64, (.move (.tmp 9)), some (60, false)⟩,
  ⟨some 65, (.indexAddr 29 (.tmp 63) (.tmp 64)), some (60, false)⟩,
  ⟨some 66, (.fieldAddr 51 (.tmp 65) 2), some (60, false)⟩,
  ⟨some 67, (.load 23 (.tmp 66)), some (60, false)⟩,
  ⟨some 68, (.call { callee := (.value (.func 55)), args := #[.tmp 62, .tmp 67], argTypes := #[23, 23] }), some (60, false)⟩,
  ⟨some 69, (.unOp .not 4 (.tmp 68)), some (60, false)⟩,
  ⟨some 70, (.pick (.tmp 60) (.const (.bool true)) (.tmp 69)), none⟩] [[], [0], [1, 0], [2, 1, 0], [3, 2, 1, 0], [4, 3, 2, 1, 0], [5, 4, 3, 2, 1, 0], [5, 4, 3, 2, 1, 0], [6, 7, 5, 4, 3, 2, 1, 0], [8, 6, 7, 5, 4, 3, 2, 1, 0], [9, 8, 6, 7, 5, 4, 3, 2, 1, 0], [10, 9, 8, 6, 7, 5, 4, 3, 2, 1, 0], [11, 10, 9, 8, 6, 7, 5, 4, 3, 2, 1, 0], [12, 11, 10, 9, 8, 6, 7, 5, 4, 3, 2, 1, 0], [13, 12, 11, 10, 9, 8, 6, 7, 5, 4, 3, 2, 1, 0], [14, 13, 12, 11, 10, 9, 8, 6, 7, 5, 4, 3, 2, 1, 0], [15, 14, 13, 12, 11, 10, 9, 8, 6, 7, 5, 4, 3, 2, 1, 0], [14, 13, 12, 11, 10, 9, 8, 6, 7, 5, 4, 3, 2, 1, 0], [14, 13, 12, 11, 10, 9, 8, 6, 7, 5, 4, 3, 2, 1, 0], [17, 18, 14, 13, 12, 11, 10, 9, 8, 6, 7, 5, 4, 3, 2, 1, 0], [19, 17, 18, 14, 13, 12, 11, 10, 9, 8, 6, 7, 5, 4, 3, 2, 1, 0], [20, 19, 17, 18, 14, 13, 12, 11, 10, 9, 8, 6, 7, 5, 4, 3, 2, 1, 0], [16, 15, 21, 20, 19, 17, 18, 14, 13, 12, 11, 10, 9, 8, 6, 7, 5, 4, 3, 2, 1, 0], [22, 16, 15, 21, 20, 19, 17, 18, 14, 13, 12, 11, 10, 9, 8, 6, 7, 5, 4, 3, 2, 1, 0], [23, 22, 16, 15, 21, 20, 19, 17, 18, 14, 13, 12, 11, 10, 9, 8, 6, 7, 5, 4, 3, 2, 1, 0]]) (.cond (.tmp 70) (.seq (.ops 11000 [⟨some 4, (.assign (.const (.bool false))), none⟩]) (.ret)) (.skip))))) (.ops 8000 [⟨some 34, (.move (.tmp 9)), none⟩,
  ⟨some 35, (.binOp .add 3 (.tmp 34) (.const (.int .i64 1)) 3), none⟩,
  ⟨some 9, (.assign (.tmp 35)), none⟩]))
def c21 : ACode :=
  .seq (.ops 1000 [⟨some 4, (.assign (.const (.bool false))), none⟩]) (.seq (.ops 2000 [⟨some 13, (.move (.tmp 0)), none⟩,
  ⟨some 14, (.call { callee := (.value (.func 48)), args := #[.tmp 13], argTypes := #[29] }), none⟩,
  ⟨some 12, (.move (.tmp 14)), none⟩,
  ⟨some 15, (.extract (.tmp 12) 0), none⟩,
  ⟨some 16, (.extract (.tmp 12) 1), none⟩,
  ⟨some 5, (.assign (.tmp 15)), none⟩,
  ⟨some 6, (.assign (.tmp 16)), none⟩]) (.seq (.ops 3000 [⟨some 18, (.move (.tmp 1)), none⟩,
  ⟨some 19, (.call { callee := (.value (.func 48)), args := #[.tmp 18], argTypes := #[29] }), none⟩,
  ⟨some 17, (.move (.tmp 19)), none⟩,
  ⟨some 20, (.extract (.tmp 17) 0), none⟩,
  ⟨some 21, (.extract (.tmp 17) 1), none⟩,
  ⟨some 7, (.assign (.tmp 20)), none⟩,
  ⟨some 8, (.assign (.tmp 21)), none⟩]) (.seq (.seq (.ops 4000 [⟨some 22, (.move (.tmp 8)), none⟩,
  ⟨some 23, (.unOp .not 4 (.tmp 22)), none⟩,
  ⟨some 24, (.move (.tmp 23)), none⟩,
  ⟨some 25, (.move (.tmp 6)), some (24, false)⟩,
  ⟨some 26, (.unOp .not 4 (.tmp 25)), some (24, false)⟩,
  ⟨some 27, (.pick (.tmp 24) (.const (.bool true)) (.tmp 26)), none⟩]) (.cond (.tmp 27) (.seq (.ops 5000 [⟨some 28, (.move (.tmp 8)), none⟩,
  ⟨some 29, (.unOp .not 4 (.tmp 28)), none⟩,
  ⟨some 4, (.assign (.tmp 29)), none⟩]) (.ret)) (.skip))) (.seq (.seq (.ops 6000 [⟨some 9, (.assign (.const (.int .i64 0))), none⟩]) (.block 0 (.loop c21_L0))) (.seq (.ops 12000 [⟨some 4, (.assign (.const (.bool true))), none⟩]) (.ret))))))
theorem c21_ok : Tryz.f21.body.bind (absCode Tryz.f21.ntmps) = some c21 := by kernel_rfl
theorem r21 : Tryz.f21.results.toList = [.tmp 4] := by kernel_rfl
theorem e21 : Enters Tryz.prog 21 := enters_of Tryz.func21 (by kernel_rfl) rfl
def c77 : ACode :=
  .seq (.ops 1000 [⟨some 1, (.box 51 (.tmp 0)), none⟩,
  ⟨some 2, (.assign (.const (.bool false))), none⟩]) (.seq (.ops 2000 [⟨some 3, (.fieldAddr 51 (.tmp 1) 1), none⟩,
  ⟨some 4, (.load 4 (.tmp 3)), none⟩,
  ⟨some 5, (.unOp .not 4 (.tmp 4)), none⟩,
  ⟨some 6, (.move (.tmp 5)), none⟩,
  ⟨some 7, (.fieldAddr 51 (.tmp 1) 2), some (6, true)⟩,
  ⟨some 8, (.load 23 (.tmp 7)), some (6, true)⟩,
  ⟨some 9, (.call { callee := (.builtin .len), args := #[.tmp 8], argTypes := #[23] }), some (6, true)⟩,
  ⟨some 10, (.binOp .eql 3 (.tmp 9) (.const (.int .i64 0)) 3), some (6, true)⟩,
  ⟨some 11, (.pick (.tmp 6) (.tmp 10) (.const (.bool false))), none⟩,
  ⟨some 2, (.assign (.tmp 11)), none⟩]) (.ret))
theorem c77_ok : Tryz.f77.body.bind (absCode Tryz.f77.ntmps) = some c77 := by kernel_rfl
theorem r77 : Tryz.f77.results.toList = [.tmp 2] := by kernel_rfl
theorem e77 : Enters Tryz.prog 77 := enters_of Tryz.func77 (by kernel_rfl) rfl
def c78 : ACode :=
  .seq (.ops 1000 [⟨some 1, (.box 51 (.tmp 0)), none⟩,
  ⟨some 2, (.assign (.const (.bool false))), none⟩]) (.seq (.dops 2000 [⟨some 3, (.fieldAddr 51 (.tmp 1) 1), none⟩,
  ⟨some 4, (.load 4 (.tmp 3)), none⟩,
  ⟨some 5, (.move (.tmp 4)), none⟩,
  ⟨some 6, (.fieldAddr 51 (.tmp 1) 2), some (5, true)⟩,
  ⟨some 7, (.load 23 (.tmp 6)), some (5, true)⟩,
  ⟨some 8, (.call { callee := (.value (.func 89)), args := #[], argTypes := #[] }), some (5, true)⟩,
  ⟨some 9, (.call { callee := (.value (.func 37)), args := #[.tmp 7, .tmp 8], argTypes := #[23, 23] }), some (5, true)⟩,
  ⟨some 10, (.pick (.tmp 5) (.tmp 9) (.const (.bool false))), none⟩,
  ⟨some 2, (.assign (.tmp 10)), none⟩] [[], [0], [1, 0], [2, 1, 0], [3, 2, 1, 0], [2, 1, 0], [4, 3, 5, 2, 1, 0], [6, 4, 3, 5, 2, 1, 0], [7, 6, 4, 3, 5, 2, 1, 0]]) (.ret))
theorem c78_ok : Tryz.f78.body.bind (absCode Tryz.f78.ntmps) = some c78 := by kernel_rfl
theorem r78 : Tryz.f78.results.toList = [.tmp 2] := by kernel_rfl
theorem e78 : Enters Tryz.prog 78 := enters_of Tryz.func78 (by kernel_rfl) rfl
def c89 : ACode :=
  .seq (.ops 1000 [⟨some 0, (.assign (.const (.slice none 0 0))), none⟩]) (.seq (.ops 2000 [⟨some 1, (.build 65 #[(0, (.const (.int .i64 0))), (1, (.const (.int .i64 1000000)))]), none⟩,
  ⟨some 2, (.buildSlice 23 1 #[(0, .tmp 1)]), none⟩,
  ⟨some 0, (.assign (.tmp 2)), none⟩]) (.ret))
theorem c89_ok : Tryz.f89.body.bind (absCode Tryz.f89.ntmps) = some c89 := by kernel_rfl
theorem r89 : Tryz.f89.results.toList = [.tmp 0] := by kernel_rfl
theorem e89 : Enters Tryz.prog 89 := enters_of Tryz.func89 (by kernel_rfl) rfl
def c9 : ACode :=
  .seq (.ops 1000 [⟨some 0, (.assign (.const (.bool false))), none⟩]) (.seq (.ops 2000 [⟨some 6, (.build 65 #[(0, (.const (.int .i64 2000))), (1, (.const (.int .i64 1000000)))]), none⟩,
  ⟨some 7, (.buildSlice 23 1 #[(0, .tmp 6)]), none⟩,
  ⟨some 8, (.build 25 #[(0, (.const (.string { data := #[98, 47, 118, 49] }))), (1, .tmp 7)]), none⟩,
  ⟨some 9, (.call { callee := (.value (.func 13)), args := #[(.const (.string { data := #[97, 47, 118, 49] })), (.const (.int .i64 0)), .tmp 8], argTypes := #[9, 3, 25] }), none⟩,
  ⟨some 1, (.assign (.tmp 9)), none⟩]) (.seq (.ops 3000 [⟨some 10, (.build 65 #[(0, (.const (.int .i64 0))), (1, (.const (.int .i64 1)))]), none⟩,
  ⟨some 11, (.build 65 #[(0, (.const (.int .i64 1000))), (1, (.const (.int .i64 1001)))]), none⟩,
  ⟨some 12, (.buildSlice 23 2 #[(0, .tmp 10), (1, .tmp 11)]), none⟩,
  ⟨some 13, (.call { callee := (.value (.func 15)), args := #[(.const (.string { data := #[98, 47, 118, 49] })), .tmp 12], argTypes := #[9, 23] }), none⟩,
  ⟨some 2, (.assign (.tmp 13)), none⟩]) (.seq (.ops 4000 [⟨some 15, (.move (.tmp 1)), none⟩,
  ⟨some 16, (.move (.tmp 2)), none⟩,
  ⟨some 17, (.call { callee := (.value (.func 18)), args := #[.tmp 15, .tmp 16, (.const (.string { data := #[98, 47, 118, 49] }))], argTypes := #[29, 29, 9] }), none⟩,
  ⟨some 14, (.move (.tmp 17)), none⟩,
  ⟨some 18, (.extract (.tmp 14) 0), none⟩,
  ⟨some 19, (.extract (.tmp 14) 1), none⟩,
  ⟨some 3, (.assign (.tmp 18)), none⟩,
  ⟨some 4, (.assign (.tmp 19)), none⟩]) (.seq (.ops 5000 [⟨some 20, (.build 65 #[(0, (.const (.int .i64 0))), (1, (.const (.int .i64 1000000)))]), none⟩,
  ⟨some 21, (.buildSlice 23 1 #[(0, .tmp 20)]), none⟩,
  ⟨some 22, (.build 25 #[(0, (.const (.string { data := #[97, 47, 118, 49] }))), (1, .tmp 21)]), none⟩,
  ⟨some 23, (.call { callee := (.value (.func 11)), args := #[.tmp 22], argTypes := #[25] }), none⟩,
  ⟨some 5, (.assign (.tmp 23)), none⟩]) (.seq (.ops 6000 [⟨some 24, (.move (.tmp 1)), none⟩,
  ⟨some 25, (.call { callee := (.builtin .len), args := #[.tmp 24], argTypes := #[29] }), none⟩,
  ⟨some 26, (.binOp .eql 3 (.tmp 25) (.const (.int .i64 2)) 3), none⟩,
  ⟨some 27, (.move (.tmp 26)), none⟩,
  ⟨some 28, (.move (.tmp 4)), some (27, true)⟩,
  ⟨some 29, (.binOp .eql 35 (.tmp 28) (.const (.int .i64 0)) 35), some (27, true)⟩,
  ⟨some 30, (.pick (.tmp 27) (.tmp 29) (.const (.bool false))), none⟩,
  ⟨some 31, (.move (.tmp 30)), none⟩,
  ⟨some 32, (.move (.tmp 3)), some (31, true)⟩,
  ⟨some 33, (.build 65 #[(0, (.const (.int .i64 0))), (1, (.const (.int .i64 1)))]), some (31, true)⟩,
  ⟨some 34, (.buildSlice 23 1 #[(0, .tmp 33)]), some (31, true)⟩,
  ⟨some 35, (.build 51 #[(0, (.const (.string { data := #[97, 47, 118, 49] }))), (2, .tmp 34)]), some (31, true)⟩,
  ⟨some 36, (.buildSlice 29 1 #[(0, .tmp 35)]), some (31, true)⟩,
  ⟨some 37, (.call { callee := (.value (.func 10)), args := #[.tmp 32, .tmp 36], argTypes := #[29, 29] }), some (31, true)⟩,
  ⟨some 38, (.pick (.tmp 31) (.tmp 37) (.const (.bool false))), none⟩,
  ⟨some 39, (.move (.tmp 38)), none⟩,
  ⟨some 40, (.move (.tmp 5)), some (39, true)⟩,
  ⟨some 41, (.build 51 #[(0, (.const (.string { data := #[97, 47, 118, 49] }))), (1, (.const (.bool true)))]), some (39, true)⟩,
  ⟨some 42, (.buildSlice 29 1 #[(0, .tmp 41)]), some (39, true)⟩,
  ⟨some 43, (.call { callee := (.value (.func 10)), args := #[.tmp 40, .tmp 42], argTypes := #[29, 29] }), some (39, true)⟩,
  ⟨some 44, (.pick (.tmp 39) (.tmp 43) (.const (.bool false))), none⟩,
  ⟨some 45, (.move (.tmp 44)), none⟩,
  ⟨some 46, (.move (.tmp 3)), some (45, true)⟩,
  ⟨some 47, (.build 43 #[(0, (.const (.int .i64 1)))]), some (45, true)⟩,
  ⟨some 48, (.build 45 #[(0, (.const (.string { data := #[97, 47, 118, 49] }))), (1, .tmp 47)]), some (45, true)⟩,
  ⟨some 49, (.buildSlice 39 1 #[(0, .tmp 48)]), some (45, true)⟩,
  ⟨some 50, (.call { callee := (.value (.func 22)), args := #[.tmp 46, .tmp 49], argTypes := #[29, 39] }), some (45, true)⟩,
  ⟨some 51, (.pick (.tmp 45) (.tmp 50) (.const (.bool false))), none⟩,
  ⟨some 52, (.move (.tmp 51)), none⟩,
  ⟨some 53, (.move (.tmp 3)), some (52, true)⟩,
  ⟨some 54, (.build 43 #[(0, (.const (.int .i64 1)))]), some (52, true)⟩,
  ⟨some 55, (.build 45 #[(0, (.const (.string { data := #[97, 47, 118, 49] }))), (1, .tmp 54)]), some (52, true)⟩,
  ⟨some 56, (.buildSlice 39 1 #[(0, .tmp 55)]), some (52, true)⟩,
  ⟨some 57, (.call { callee := (.value (.func 36)), args := #[.tmp 53, .tmp 56], argTypes := #[29, 39] }), some (52, true)⟩,
  ⟨some 58, (.pick (.tmp 52) (.tmp 57) (.const (.bool false))), none⟩,
  ⟨some 59, (.move (.tmp 58)), none⟩,
  ⟨some 60, (.move (.tmp 3)), some (59, true)⟩,
  ⟨some 61, (.move (.tmp 1)), some (59, true)⟩,
  ⟨some 62, (.call { callee := (.value (.func 20)), args := #[.tmp 60, .tmp 61], argTypes := #[29, 29] }), some (59, true)⟩,
  ⟨some 63, (.pick (.tmp 59) (.tmp 62) (.const (.bool false))), none⟩,
  ⟨some 0, (.assign (.tmp 63)), none⟩]) (.ret))))))
theorem c9_ok : Tryz.f9.body.bind (absCode Tryz.f9.ntmps) = some c9 := by kernel_rfl
theorem r9 : Tryz.f9.results.toList = [.tmp 0] := by kernel_rfl
theorem e9 : Enters Tryz.prog 9 := enters_of Tryz.func9 (by kernel_rfl) rfl
def c3 : ACode :=
  .seq (.ops 1000 [⟨some 6, (.box 25 (.tmp 2)), none⟩,
  ⟨some 8, (.assign (.const (.bool false))), none⟩]) (.seq (.seq (.ops 2000 [⟨some 9, (.call { callee := (.value (.func 9)), args := #[], argTypes := #[] }), none⟩,
  ⟨some 10, (.unOp .not 4 (.tmp 9)), none⟩]) (.cond (.tmp 10) (.seq (.ops 3000 [⟨some 8, (.assign (.const (.bool false))), none⟩]) (.ret)) (.skip))) (.seq (.seq (.ops 4000 [⟨some 11, (.move (.tmp 0)), none⟩,
  ⟨some 12, (.call { callee := (.builtin .len), args := #[.tmp 11], argTypes := #[9] }), none⟩,
  ⟨some 13, (.binOp .gtr 3 (.tmp 12) (.const (.int .i64 100)) 3), none⟩,
  ⟨some 14, (.move (.tmp 13)), none⟩,
  ⟨some 15, (.fieldAddr 25 (.tmp 6) 0), some (14, false)⟩,
  ⟨some 16, (.load 9 (.tmp 15)), some (14, false)⟩,
  ⟨some 17, (.call { callee := (.builtin .len), args := #[.tmp 16], argTypes := #[9] }), some (14, false)⟩,
  ⟨some 18, (.binOp .gtr 3 (.tmp 17) (.const (.int .i64 100)) 3), some (14, false)⟩,
  ⟨some 19, (.pick (.tmp 14) (.const (.bool true)) (.tmp 18)), none⟩,
  ⟨some 20, (.move (.tmp 19)), none⟩,
  ⟨some 21, (.fieldAddr 25 (.tmp 6) 1), some (20, false)⟩,
  ⟨some 22, (.load 23 (.tmp 21)), some (20, false)⟩,
  ⟨some 23, (.call { callee := (.builtin .len), args := #[.tmp 22], argTypes := #[23] }), some (20, false)⟩,
  ⟨some 24, (.binOp .gtr 3 (.tmp 23) (.const (.int .i64 12)) 3), some (20, false)⟩,
  ⟨some 25, (.pick (.tmp 20) (.const (.bool true)) (.tmp 24)), none⟩,
  ⟨some 26, (.move (.tmp 25)), none⟩,
  ⟨some 27, (.move (.tmp 3)), some (26, false)⟩,
  ⟨some 28, (.call { callee := (.builtin .len), args := #[.tmp 27], argTypes := #[23] }), some (26, false)⟩,
  ⟨some 29, (.binOp .gtr 3 (.tmp 28) (.const (.int .i64 12)) 3), some (26, false)⟩,
  ⟨some 30, (.pick (.tmp 26) (.const (.bool true)) (.tmp 29)), none⟩]) (.cond (.tmp 30) (.seq (.ops 5000 [⟨some 8, (.assign (.const (.bool true))), none⟩]) (.ret)) (.skip))) (.seq (.dops 6000 [⟨some 31, (.load 25 (.tmp 6)), none⟩,
  ⟨some 32, (.call { callee := (.value (.func 11)), args := #[.tmp 31], argTypes := #[25] }), none⟩,
  ⟨some 33, (.load 25 (.tmp 6)), none⟩,
  ⟨some 34, (.call { callee := (.value (.func 12)), args := #[.tmp 33], argTypes := #[25] }), none⟩,
  ⟨some 35, (.call { callee := (.value (.func 10)), args := #[.tmp 32, .tmp 34], argTypes := #[29, 29] }), none⟩,
  ⟨some 36, (.move (.tmp 35)), none⟩,
  ⟨some 37, (.move (.tmp 0)), some (36, true)⟩,
  ⟨some 38, (.move (.tmp 1)), some (36, true)⟩,
  ⟨some 39, (.load 25 (.tmp 6)), some (36, true)⟩,
  ⟨some 40, (.call { callee := (.value (.func 13)), args := #[.tmp 37, .tmp 38, .tmp 39], argTypes := #[9, 3, 25] }), some (36, true)⟩,
  ⟨some 41, (.move (.tmp 0)), some (36, true)⟩,
  ⟨some 42, (.move (.tmp 1)), some (36, true)⟩,
  ⟨some 43, (.load 25 (.tmp 6)), some (36, true)⟩,
  ⟨some 44, (.call { callee := (.value (.func 14)), args := #[.tmp 41, .tmp 42, .tmp 43], argTypes := #[9, 3, 25] }), some (36, true)⟩,
  ⟨some 45, (.call { callee := (.value (.func 10)), args := #[.tmp 40, .tmp 44], argTypes := #[29, 29] }), some (36, true)⟩,
  ⟨some 46, (.pick (.tmp 36) (.tmp 45) (.const (.bool false))), none⟩,
  ⟨some 47, (.move (.tmp 46)), none⟩,
  ⟨some 48, (.move (.tmp 0)), some (47, true)⟩,
  ⟨some 49, (.move (.tmp 3)), some (47, true)⟩,
  ⟨some 50, (.call { callee := (.value (.func 15)), args := #[.tmp 48, .tmp 49], argTypes := #[9, 23] }), some (47, true)⟩,
  ⟨some 51, (.move (.tmp 0)), some (47, true)⟩,
  ⟨some 52, (.move (.tmp 3)), some (47, true)⟩,
  ⟨some 53, (.call { callee := (.value (.func 16)), args := #[.tmp 51, .tmp 52], argTypes := #[9, 23] }), some (47, true)⟩,
  ⟨some 54, (.call { callee := (.value (.func 10)), args := #[.tmp 50, .tmp 53], argTypes := #[29, 29] }), some (47, true)⟩,
  ⟨some 55, (.pick (.tmp 47) (.tmp 54) (.const (.bool false))), none⟩,
  ⟨some 8, (.assign (.tmp 55)), none⟩] [[], [0], [], [2, 1, 0], [3, 2, 1, 0], [4, 3, 2, 1, 0], [5, 4, 3, 2, 1, 0], [5, 4, 3, 2, 1, 0], [5, 4, 3, 2, 1, 0], [6, 7, 8, 5, 4, 3, 2, 1, 0], [5, 4, 3, 2, 1, 0], [5, 4, 3, 2, 1, 0], [5, 4, 3, 2, 1, 0], [10, 11, 12, 9, 6, 7, 8, 5, 4, 3, 2, 1, 0], [13, 10, 11, 12, 9, 6, 7, 8, 5, 4, 3, 2, 1, 0], [14, 13, 10, 11, 12, 9, 6, 7, 8, 5, 4, 3, 2, 1, 0], [15, 14, 13, 10, 11, 12, 9, 6, 7, 8, 5, 4, 3, 2, 1, 0], [16, 15, 14, 13, 10, 11, 12, 9, 6, 7, 8, 5, 4, 3, 2, 1, 0], [16, 15, 14, 13, 10, 11, 12, 9, 6, 7, 8, 5, 4, 3, 2, 1, 0], [17, 18, 16, 15, 14, 13, 10, 11, 12, 9, 6, 7, 8, 5, 4, 3, 2, 1, 0], [16, 15, 14, 13, 10, 11, 12, 9, 6, 7, 8, 5, 4, 3, 2, 1, 0], [16, 15, 14, 13, 10, 11, 12, 9, 6, 7, 8, 5, 4, 3, 2, 1, 0], [20, 21, 19, 17, 18, 16, 15, 14, 13, 10, 11, 12, 9, 6, 7, 8, 5, 4, 3, 2, 1, 0], [22, 20, 21, 19, 17, 18, 16, 15, 14, 13, 10, 11, 12, 9, 6, 7, 8, 5, 4, 3, 2, 1, 0], [23, 22, 20, 21, 19, 17, 18, 16, 15, 14, 13, 10, 11, 12, 9, 6, 7, 8, 5, 4, 3, 2, 1, 0], [24, 23, 22, 20, 21, 19, 17, 18, 16, 15, 14, 13, 10, 11, 12, 9, 6, 7, 8, 5, 4, 3, 2, 1, 0]]) (.ret))))
theorem c3_ok : Tryz.f3.body.bind (absCode Tryz.f3.ntmps) = some c3 := by kernel_rfl
theorem r3 : Tryz.f3.results.toList = [.tmp 8] := by kernel_rfl
theorem e3 : Enters Tryz.prog 3 := enters_of Tryz.func3 (by kernel_rfl) rfl
def c4 : ACode :=
  .seq (.ops 1000 [⟨some 6, (.assign (.const (.bool false))), none⟩]) (.seq (.seq (.ops 2000 [⟨some 11, (.call { callee := (.value (.func 9)), args := #[], argTypes := #[] }), none⟩,
  ⟨some 12, (.unOp .not 4 (.tmp 11)), none⟩]) (.cond (.tmp 12) (.seq (.ops 3000 [⟨some 6, (.assign (.const (.bool false))), none⟩]) (.ret)) (.skip))) (.seq (.seq (.ops 4000 [⟨some 13, (.move (.tmp 0)), none⟩,
  ⟨some 14, (.call { callee := (.value (.func 17)), args := #[.tmp 13], argTypes := #[29] }), none⟩,
  ⟨some 15, (.unOp .not 4 (.tmp 14)), none⟩,
  ⟨some 16, (.move (.tmp 15)), none⟩,
  ⟨some 17, (.move (.tmp 1)), some (16, false)⟩,
  ⟨some 18, (.call { callee := (.value (.func 17)), args := #[.tmp 17], argTypes := #[29] }), some (16, false)⟩,
  ⟨some 19, (.unOp .not 4 (.tmp 18)), some (16, false)⟩,
  ⟨some 20, (.pick (.tmp 16) (.const (.bool true)) (.tmp 19)), none⟩,
  ⟨some 21, (.move (.tmp 20)), none⟩,
  ⟨some 22, (.move (.tmp 2)), some (21, false)⟩,
  ⟨some 23, (.call { callee := (.builtin .len), args := #[.tmp 22], argTypes := #[9] }), some (21, false)⟩,
  ⟨some 24, (.binOp .gtr 3 (.tmp 23) (.const (.int .i64 100)) 3), some (21, false)⟩,
  ⟨some 25, (.pick (.tmp 21) (.const (.bool true)) (.tmp 24)), none⟩]) (.cond (.tmp 25) (.seq (.ops 5000 [⟨some 6, (.assign (.const (.bool true))), none⟩]) (.ret)) (.skip))) (.seq (.ops 6000 [⟨some 27, (.move (.tmp 0)), none⟩,
  ⟨some 28, (.move (.tmp 1)), none⟩,
  ⟨some 29, (.move (.tmp 2)), none⟩,
  ⟨some 30, (.call { callee := (.value (.func 18)), args := #[.tmp 27, .tmp 28, .tmp 29], argTypes := #[29, 29, 9] }), none⟩,
  ⟨some 26, (.move (.tmp 30)), none⟩,
  ⟨some 31, (.extract (.tmp 26) 0), none⟩,
  ⟨some 32, (.extract (.tmp 26) 1), none⟩,
  ⟨some 7, (.assign (.tmp 31)), none⟩,
  ⟨some 8, (.assign (.tmp 32)), none⟩]) (.seq (.ops 7000 [⟨some 34, (.move (.tmp 0)), none⟩,
  ⟨some 35, (.move (.tmp 1)), none⟩,
  ⟨some 36, (.move (.tmp 2)), none⟩,
  ⟨some 37, (.call { callee := (.value (.func 19)), args := #[.tmp 34, .tmp 35, .tmp 36], argTypes := #[29, 29, 9] }), none⟩,
  ⟨some 33, (.move (.tmp 37)), none⟩,
  ⟨some 38, (.extract (.tmp 33) 0), none⟩,
  ⟨some 39, (.extract (.tmp 33) 1), none⟩,
  ⟨some 9, (.assign (.tmp 38)), none⟩,
  ⟨some 10, (.assign (.tmp 39)), none⟩]) (.seq (.ops 8000 [⟨some 40, (.move (.tmp 7)), none⟩,
  ⟨some 41, (.move (.tmp 9)), none⟩,
  ⟨some 42, (.call { callee := (.value (.func 10)), args := #[.tmp 40, .tmp 41], argTypes := #[29, 29] }), none⟩,
  ⟨some 43, (.move (.tmp 42)), none⟩,
  ⟨some 44, (.move (.tmp 8)), some (43, true)⟩,
  ⟨some 45, (.move (.tmp 10)), some (43, true)⟩,
  ⟨some 46, (.binOp .eql 35 (.tmp 44) (.tmp 45) 35), some (43, true)⟩,
  ⟨some 47, (.pick (.tmp 43) (.tmp 46) (.const (.bool false))), none⟩,
  ⟨some 48, (.move (.tmp 47)), none⟩,
  ⟨some 49, (.move (.tmp 0)), some (48, true)⟩,
  ⟨some 50, (.move (.tmp 1)), some (48, true)⟩,
  ⟨some 51, (.call { callee := (.value (.func 20)), args := #[.tmp 49, .tmp 50], argTypes := #[29, 29] }), some (48, true)⟩,
  ⟨some 52, (.move (.tmp 0)), some (48, true)⟩,
  ⟨some 53, (.move (.tmp 1)), some (48, true)⟩,
  ⟨some 54, (.call { callee := (.value (.func 21)), args := #[.tmp 52, .tmp 53], argTypes := #[29, 29] }), some (48, true)⟩,
  ⟨some 55, (.binOp .eql 4 (.tmp 51) (.tmp 54) 4), some (48, true)⟩,
  ⟨some 56, (.pick (.tmp 48) (.tmp 55) (.const (.bool false))), none⟩,
  ⟨some 6, (.assign (.tmp 56)), none⟩]) (.ret))))))
theorem c4_ok : Tryz.f4.body.bind (absCode Tryz.f4.ntmps) = some c4 := by kernel_rfl
theorem r4 : Tryz.f4.results.toList = [.tmp 6] := by kernel_rfl
theorem e4 : Enters Tryz.prog 4 := enters_of Tryz.func4 (by kernel_rfl) rfl
def c5 : ACode :=
  .seq (.ops 1000 [⟨some 6, (.box 9 (.tmp 2)), none⟩,
  ⟨some 7, (.box 39 (.tmp 3)), none⟩,
  ⟨some 8, (.assign (.const (.bool false))), none⟩]) (.seq (.seq (.ops 2000 [⟨some 12, (.call { callee := (.value (.func 9)), args := #[], argTypes := #[] }), none⟩,
  ⟨some 13, (.unOp .not 4 (.tmp 12)), none⟩]) (.cond (.tmp 13) (.seq (.ops 3000 [⟨some 8, (.assign (.const (.bool false))), none⟩]) (.ret)) (.skip))) (.seq (.seq (.ops 4000 [⟨some 14, (.move (.tmp 0)), none⟩,
  ⟨some 15, (.call { callee := (.value (.func 17)), args := #[.tmp 14], argTypes := #[29] }), none⟩,
  ⟨some 16, (.unOp .not 4 (.tmp 15)), none⟩,
  ⟨some 17, (.move (.tmp 16)), none⟩,
  ⟨some 18, (.move (.tmp 1)), some (17, false)⟩,
  ⟨some 19, (.call { callee := (.value (.func 17)), args := #[.tmp 18], argTypes := #[29] }), some (17, false)⟩,
  ⟨some 20, (.unOp .not 4 (.tmp 19)), some (17, false)⟩,
  ⟨some 21, (.pick (.tmp 17) (.const (.bool true)) (.tmp 20)), none⟩,
  ⟨some 22, (.move (.tmp 21)), none⟩,
  ⟨some 23, (.load 9 (.tmp 6)), some (22, false)⟩,
  ⟨some 24, (.call { callee := (.builtin .len), args := #[.tmp 23], argTypes := #[9] }), some (22, false)⟩,
  ⟨some 25, (.binOp .gtr 3 (.tmp 24) (.const (.int .i64 100)) 3), some (22, false)⟩,
  ⟨some 26, (.pick (.tmp 22) (.const (.bool true)) (.tmp 25)), none⟩,
  ⟨some 27, (.move (.tmp 26)), none⟩,
  ⟨some 28, (.load 39 (.tmp 7)), some (27, false)⟩,
  ⟨some 29, (.call { callee := (.builtin .len), args := #[.tmp 28], argTypes := #[39] }), some (27, false)⟩,
  ⟨some 30, (.binOp .gtr 3 (.tmp 29) (.const (.int .i64 12)) 3), some (27, false)⟩,
  ⟨some 31, (.pick (.tmp 27) (.const (.bool true)) (.tmp 30)), none⟩]) (.cond (.tmp 31) (.seq (.ops 5000 [⟨some 8, (.assign (.const (.bool true))), none⟩]) (.ret)) (.skip))) (.seq (.ops 6000 [⟨some 33, (.move (.tmp 0)), none⟩,
  ⟨some 34, (.move (.tmp 1)), none⟩,
  ⟨some 35, (.load 9 (.tmp 6)), none⟩,
  ⟨some 36, (.call { callee := (.value (.func 18)), args := #[.tmp 33, .tmp 34, .tmp 35], argTypes := #[29, 29, 9] }), none⟩,
  ⟨some 32, (.move (.tmp 36)), none⟩,
  ⟨some 37, (.extract (.tmp 32) 0), none⟩,
  ⟨some 38, (.extract (.tmp 32) 1), none⟩,
  ⟨some 9, (.assign (.tmp 37)), none⟩,
  ⟨some 10, (.assign (.tmp 38)), none⟩]) (.seq (.seq (.ops 7000 [⟨some 39, (.move (.tmp 10)), none⟩,
  ⟨some 40, (.binOp .eql 35 (.tmp 39) (.const (.int .i64 0)) 35), none⟩,
  ⟨some 41, (.move (.tmp 40)), none⟩,
  ⟨some 42, (.move (.tmp 9)), some (41, true)⟩,
  ⟨some 43, (.load 39 (.tmp 7)), some (41, true)⟩,
  ⟨some 44, (.call { callee := (.value (.func 22)), args := #[.tmp 42, .tmp 43], argTypes := #[29, 39] }), some (41, true)⟩,
  ⟨some 45, (.pick (.tmp 41) (.tmp 44) (.const (.bool false))), none⟩,
  ⟨some 46, (.move (.tmp 45)), none⟩,
  ⟨some 47, (.move (.tmp 0)), some (46, true)⟩,
  ⟨some 48, (.load 39 (.tmp 7)), some (46, true)⟩,
  ⟨some 49, (.call { callee := (.value (.func 22)), args := #[.tmp 47, .tmp 48], argTypes := #[29, 39] }), some (46, true)⟩,
  ⟨some 50, (.unOp .not 4 (.tmp 49)), some (46, true)⟩,
  ⟨some 51, (.pick (.tmp 46) (.tmp 50) (.const (.bool false))), none⟩,
  ⟨some 52, (.move (.tmp 51)), none⟩,
  ⟨some 53, (.move (.tmp 1)), some (52, true)⟩,
  ⟨some 54, (.load 39 (.tmp 7)), some (52, true)⟩,
  ⟨some 55, (.call { callee := (.value (.func 22)), args := #[.tmp 53, .tmp 54], argTypes := #[29, 39] }), some (52, true)⟩,
  ⟨some 56, (.unOp .not 4 (.tmp 55)), some (52, true)⟩,
  ⟨some 57, (.pick (.tmp 52) (.tmp 56) (.const (.bool false))), none⟩]) (.cond (.tmp 57) (.seq (.ops 8000 [⟨some 58, (.load 39 (.tmp 7)), none⟩,
  ⟨some 59, (.call { callee := (.value (.func 23)), args := #[.tmp 58, (.func 24)], argTypes := #[39, 48] }), none⟩,
  ⟨some 8, (.assign (.tmp 59)), none⟩]) (.ret)) (.skip))) (.seq (.ops 9000 [⟨some 60, (.makeFunc (.func 26) #[] #[.tmp 6, .tmp 7]), none⟩,
  ⟨some 11, (.assign (.tmp 60)), none⟩]) (.seq (.seq (.ops 10000 [⟨some 61, (.move (.tmp 10)), none⟩,
  ⟨some 62, (.binOp .eql 35 (.tmp 61) (.const (.int .i64 0)) 35), none⟩,
  ⟨some 63, (.move (.tmp 62)), none⟩,
  ⟨some 64, (.move (.tmp 11)), some (63, true)⟩,
  ⟨some 65, (.move (.tmp 0)), some (63, true)⟩,
  ⟨some 66, (.call { callee := (.value (.tmp 64)), args := #[.tmp 65], argTypes := #[29] }), some (63, true)⟩,
  ⟨some 67, (.pick (.tmp 63) (.tmp 66) (.const (.bool false))), none⟩,
  ⟨some 68, (.move (.tmp 67)), none⟩,
  ⟨some 69, (.move (.tmp 11)), some (68, true)⟩,
  ⟨some 70, (.move (.tmp 1)), some (68, true)⟩,
  ⟨some 71, (.call { callee := (.value (.tmp 69)), args := #[.tmp 70], argTypes := #[29] }), some (68, true)⟩,
  ⟨some 72, (.pick (.tmp 68) (.tmp 71) (.const (.bool false))), none⟩,
  ⟨some 73, (.move (.tmp 72)), none⟩,
  ⟨some 74, (.move (.tmp 0)), some (73, true)⟩,
  ⟨some 75, (.load 39 (.tmp 7)), some (73, true)⟩,
  ⟨some 76, (.call { callee := (.value (.func 22)), args := #[.tmp 74, .tmp 75], argTypes := #[29, 39] }), some (73, true)⟩,
  ⟨some 77, (.move (.tmp 76)), some (73, true)⟩,
  ⟨some 78, (.move (.tmp 1)), some (77, false)⟩,
  ⟨some 79, (.load 39 (.tmp 7)), some (77, false)⟩,
  ⟨some 80, (.call { callee := (.value (.func 22)), args := #[.tmp 78, .tmp 79], argTypes := #[29, 39] }), some (77, false)⟩,
  ⟨some 81, (.pick (.tmp 77) (.const (.bool true)) (.tmp 80)), some (73, true)⟩,
  ⟨some 82, (.pick (.tmp 73) (.tmp 81) (.const (.bool false))), none⟩]) (.cond (.tmp 82) (.seq (.ops 11000 [⟨some 83, (.move (.tmp 9)), none⟩,
  ⟨some 84, (.load 39 (.tmp 7)), none⟩,
  ⟨some 85, (.call { callee := (.value (.func 22)), args := #[.tmp 83, .tmp 84], argTypes := #[29, 39] }), none⟩,
  ⟨some 8, (.assign (.tmp 85)), none⟩]) (.ret)) (.skip))) (.seq (.ops 12000 [⟨some 8, (.assign (.const (.bool true))), none⟩]) (.ret))))))))
theorem c5_ok : Tryz.f5.body.bind (absCode Tryz.f5.ntmps) = some c5 := by kernel_rfl
theorem r5 : Tryz.f5.results.toList = [.tmp 8] := by kernel_rfl
theorem e5 : Enters Tryz.prog 5 := enters_of Tryz.func5 (by kernel_rfl) rfl
def c6_L0 : ACode :=
  .seq (.ops 8000 [⟨some 57, (.binOp .lss 3 (.tmp 56) (.tmp 55) 3), none⟩]) (.seq (.cond (.tmp 57) (.skip) (.exit 0)) (.seq (.block 1 (.seq (.ops 9000 [⟨some 58, (.indexAddr 39 (.tmp 54) (.tmp 56)), none⟩,
  ⟨some 59, (.load 45 (.tmp 58)), none⟩,
  ⟨some 13, (.alloc 45), none⟩,
  ⟨none, (.store 45 (.tmp 13) (.tmp 59)), none⟩]) (.seq (.ops 10000 [⟨some 61, (.fieldAddr 45 (.tmp 13) 1), none⟩,
  ⟨some 62, (.load 43 (.tmp 61)), none⟩,
  ⟨some 63, (.call { callee := (.value (.func 25)), args := #[.tmp 62], argTypes := #[43] }), none⟩,
  ⟨some 60, (.move (.tmp 63)), none⟩,
  ⟨some 64, (.extract (.tmp 60) 0), none⟩,
  ⟨some 65, (.extract (.tmp 60) 1), none⟩,
  ⟨some 14, (.assign (.tmp 64)), none⟩,
  ⟨some 15, (.assign (.tmp 65)), none⟩]) (.seq (.seq (.ops 11000 [⟨some 67, (.move (.tmp 11)), none⟩,
  ⟨some 68, (.fieldAddr 45 (.tmp 13) 0), none⟩,
  ⟨some 69, (.load 9 (.tmp 68)), none⟩,
  ⟨some 70, (.lookup 56 (.tmp 67) (.tmp 69) true), none⟩,
  ⟨some 66, (.move (.tmp 70)), none⟩,
  ⟨some 71, (.extract (.tmp 66) 0), none⟩,
  ⟨some 72, (.extract (.tmp 66) 1), none⟩,
  ⟨some 16, (.assign (.tmp 71)), none⟩,
  ⟨some 17, (.assign (.tmp 72)), none⟩]) (.seq (.ops 12000 [⟨some 73, (.move (.tmp 17)), none⟩,
  ⟨some 74, (.move (.tmp 73)), none⟩,
  ⟨some 75, (.move (.tmp 15)), some (74, false)⟩,
  ⟨some 76, (.binOp .neq 35 (.tmp 75) (.const (.int .i64 0)) 35), some (74, false)⟩,
  ⟨some 77, (.pick (.tmp 74) (.const (.bool true)) (.tmp 76)), none⟩]) (.cond (.tmp 77) (.seq (.ops 13000 [⟨some 10, (.assign (.const (.bool true))), none⟩]) (.ret)) (.skip)))) (.ops 14000 [⟨some 78, (.move (.tmp 11)), none⟩,
  ⟨some 79, (.fieldAddr 45 (.tmp 13) 0), none⟩,
  ⟨some 80, (.load 9 (.tmp 79)), none⟩,
  ⟨some 81, (.move (.tmp 14)), none⟩,
  ⟨none, (.mapUpdate 56 (.tmp 78) (.tmp 80) (.tmp 81)), none⟩]))))) (.ops 15000 [⟨some 82, (.binOp .add 3 (.tmp 56) (.const (.int .i64 1)) 3), none⟩,
  ⟨some 56, (.move (.tmp 82)), none⟩])))
def c6 : ACode :=
  .seq (.ops 1000 [⟨some 7, (.box 25 (.tmp 2)), none⟩,
  ⟨some 9, (.box 39 (.tmp 4)), none⟩,
  ⟨some 10, (.assign (.const (.bool false))), none⟩]) (.seq (.seq (.ops 2000 [⟨some 26, (.call { callee := (.value (.func 9)), args := #[], argTypes := #[] }), none⟩,
  ⟨some 27, (.unOp .not 4 (.tmp 26)), none⟩]) (.cond (.tmp 27) (.seq (.ops 3000 [⟨some 10, (.assign (.const (.bool false))), none⟩]) (.ret)) (.skip))) (.seq (.seq (.ops 4000 [⟨some 28, (.move (.tmp 0)), none⟩,
  ⟨some 29, (.call { callee := (.builtin .len), args := #[.tmp 28], argTypes := #[9] }), none⟩,
  ⟨some 30, (.binOp .gtr 3 (.tmp 29) (.const (.int .i64 100)) 3), none⟩,
  ⟨some 31, (.move (.tmp 30)), none⟩,
  ⟨some 32, (.fieldAddr 25 (.tmp 7) 0), some (31, false)⟩,
  ⟨some 33, (.load 9 (.tmp 32)), some (31, false)⟩,
  ⟨some 34, (.call { callee := (.builtin .len), args := #[.tmp 33], argTypes := #[9] }), some (31, false)⟩,
  ⟨some 35, (.binOp .gtr 3 (.tmp 34) (.const (.int .i64 100)) 3), some (31, false)⟩,
  ⟨some 36, (.pick (.tmp 31) (.const (.bool true)) (.tmp 35)), none⟩,
  ⟨some 37, (.move (.tmp 36)), none⟩,
  ⟨some 38, (.fieldAddr 25 (.tmp 7) 1), some (37, false)⟩,
  ⟨some 39, (.load 23 (.tmp 38)), some (37, false)⟩,
  ⟨some 40, (.call { callee := (.builtin .len), args := #[.tmp 39], argTypes := #[23] }), some (37, false)⟩,
  ⟨some 41, (.binOp .gtr 3 (.tmp 40) (.const (.int .i64 12)) 3), some (37, false)⟩,
  ⟨some 42, (.pick (.tmp 37) (.const (.bool true)) (.tmp 41)), none⟩,
  ⟨some 43, (.move (.tmp 42)), none⟩,
  ⟨some 44, (.move (.tmp 3)), some (43, false)⟩,
  ⟨some 45, (.call { callee := (.builtin .len), args := #[.tmp 44], argTypes := #[23] }), some (43, false)⟩,
  ⟨some 46, (.binOp .gtr 3 (.tmp 45) (.const (.int .i64 12)) 3), some (43, false)⟩,
  ⟨some 47, (.pick (.tmp 43) (.const (.bool true)) (.tmp 46)), none⟩,
  ⟨some 48, (.move (.tmp 47)), none⟩,
  ⟨some 49, (.load 39 (.tmp 9)), some (48, false)⟩,
  ⟨some 50, (.call { callee := (.builtin .len), args := #[.tmp 49], argTypes := #[39] }), some (48, false)⟩,
  ⟨some 51, (.binOp .gtr 3 (.tmp 50) (.const (.int .i64 12)) 3), some (48, false)⟩,
  ⟨some 52, (.pick (.tmp 48) (.const (.bool true)) (.tmp 51)), none⟩]) (.cond (.tmp 52) (.seq (.ops 5000 [⟨some 10, (.assign (.const (.bool true))), none⟩]) (.ret)) (.skip))) (.seq (.ops 6000 [⟨some 53, (.makeMap 56 none), none⟩,
  ⟨some 11, (.assign (.tmp 53)), none⟩]) (.seq (.seq (.ops 7000 [⟨some 54, (.load 39 (.tmp 9)), none⟩,
  ⟨some 55, (.call { callee := (.builtin .len), args := #[.tmp 54], argTypes := #[39] }), none⟩,
  ⟨some 56, (.move (.const (.int .i64 0))), none⟩]) (.block 0 (.loop c6_L0))) (.seq (.ops 16000 [⟨some 83, (.move (.tmp 1)), none⟩,
  ⟨some 84, (.convert 55 3 (.tmp 83)), none⟩,
  ⟨some 85, (.binOp .rem 3 (.tmp 84) (.const (.int .i64 1000000)) 3), none⟩,
  ⟨some 18, (.assign (.tmp 85)), none⟩]) (.seq (.ops 17000 [⟨some 87, (.move (.tmp 11)), none⟩,
  ⟨some 88, (.move (.tmp 0)), none⟩,
  ⟨some 89, (.lookup 56 (.tmp 87) (.tmp 88) true), none⟩,
  ⟨some 86, (.move (.tmp 89)), none⟩,
  ⟨some 90, (.extract (.tmp 86) 0), none⟩,
  ⟨some 91, (.extract (.tmp 86) 1), none⟩,
  ⟨some 19, (.assign (.tmp 90)), none⟩,
  ⟨some 20, (.assign (.tmp 91)), none⟩]) (.seq (.ops 18000 [⟨some 93, (.move (.tmp 11)), none⟩,
  ⟨some 94, (.fieldAddr 25 (.tmp 7) 0), none⟩,
  ⟨some 95, (.load 9 (.tmp 94)), none⟩,
  ⟨some 96, (.lookup 56 (.tmp 93) (.tmp 95) true), none⟩,
  ⟨some 92, (.move (.tmp 96)), none⟩,
  ⟨some 97, (.extract (.tmp 92) 0), none⟩,
  ⟨some 98, (.extract (.tmp 92) 1), none⟩,
  ⟨some 21, (.assign (.tmp 97)), none⟩,
  ⟨some 22, (.assign (.tmp 98)), none⟩]) (.seq (.ops 19000 [⟨some 99, (.move (.tmp 22)), none⟩,
  ⟨some 100, (.move (.tmp 99)), none⟩,
  ⟨some 101, (.fieldAddr 25 (.tmp 7) 1), some (100, true)⟩,
  ⟨some 102, (.load 23 (.tmp 101)), some (100, true)⟩,
  ⟨some 103, (.move (.tmp 21)), some (100, true)⟩,
  ⟨some 104, (.call { callee := (.value (.func 30)), args := #[.tmp 102, .tmp 103], argTypes := #[23, 3] }), some (100, true)⟩,
  ⟨some 105, (.pick (.tmp 100) (.tmp 104) (.const (.bool false))), none⟩,
  ⟨some 23, (.assign (.tmp 105)), none⟩]) (.seq (.ops 20000 [⟨some 106, (.makeFunc (.func 31) #[] #[.tmp 9]), none⟩,
  ⟨some 24, (.assign (.tmp 106)), none⟩]) (.seq (.seq (.ops 21000 [⟨some 107, (.move (.tmp 24)), none⟩,
  ⟨some 108, (.move (.tmp 0)), none⟩,
  ⟨some 109, (.move (.tmp 18)), none⟩,
  ⟨some 110, (.load 25 (.tmp 7)), none⟩,
  ⟨some 111, (.call { callee := (.value (.func 13)), args := #[.tmp 108, .tmp 109, .tmp 110], argTypes := #[9, 3, 25] }), none⟩,
  ⟨some 112, (.call { callee := (.value (.tmp 107)), args := #[.tmp 111], argTypes := #[29] }), none⟩,
  ⟨some 113, (.move (.tmp 20)), none⟩,
  ⟨some 114, (.move (.tmp 113)), none⟩,
  ⟨some 115, (.move (.tmp 19)), some (114, true)⟩,
  ⟨some 116, (.move (.tmp 18)), some (114, true)⟩,
  ⟨some 117, (.binOp .eql 3 (.tmp 115) (.tmp 116) 3), some (114, true)⟩,
  ⟨some 118, (.pick (.tmp 114) (.tmp 117) (.const (.bool false))), none⟩,
  ⟨some 119, (.move (.tmp 118)), none⟩,
  ⟨some 120, (.move (.tmp 23)), some (119, true)⟩,
  ⟨some 121, (.unOp .not 4 (.tmp 120)), some (119, true)⟩,
  ⟨some 122, (.pick (.tmp 119) (.tmp 121) (.const (.bool false))), none⟩,
  ⟨some 123, (.binOp .neq 4 (.tmp 112) (.tmp 122) 4), none⟩]) (.cond (.tmp 123) (.seq (.ops 22000 [⟨some 10, (.assign (.const (.bool false))), none⟩]) (.ret)) (.skip))) (.seq (.seq (.ops 23000 [⟨some 124, (.load 25 (.tmp 7)), none⟩,
  ⟨some 125, (.call { callee := (.value (.func 11)), args := #[.tmp 124], argTypes := #[25] }), none⟩,
  ⟨some 25, (.assign (.tmp 125)), none⟩]) (.seq (.ops 24000 [⟨some 126, (.fieldAddr 25 (.tmp 7) 1), none⟩,
  ⟨some 127, (.load 23 (.tmp 126)), none⟩,
  ⟨some 128, (.call { callee := (.value (.func 32)), args := #[.tmp 127], argTypes := #[23] }), none⟩,
  ⟨some 129, (.call { callee := (.builtin .len), args := #[.tmp 128], argTypes := #[23] }), none⟩,
  ⟨some 130, (.binOp .gtr 3 (.tmp 129) (.const (.int .i64 0)) 3), none⟩,
  ⟨some 131, (.move (.tmp 130)), none⟩,
  ⟨some 132, (.move (.tmp 24)), some (131, true)⟩,
  ⟨some 133, (.move (.tmp 25)), some (131, true)⟩,
  ⟨some 134, (.call { callee := (.value (.tmp 132)), args := #[.tmp 133], argTypes := #[29] }), some (131, true)⟩,
  ⟨some 135, (.move (.tmp 23)), some (131, true)⟩,
  ⟨some 136, (.unOp .not 4 (.tmp 135)), some (131, true)⟩,
  ⟨some 137, (.binOp .neq 4 (.tmp 134) (.tmp 136) 4), some (131, true)⟩,
  ⟨some 138, (.pick (.tmp 131) (.tmp 137) (.const (.bool false))), none⟩]) (.cond (.tmp 138) (.seq (.ops 25000 [⟨some 10, (.assign (.const (.bool false))), none⟩]) (.ret)) (.skip)))) (.seq (.ops 26000 [⟨some 139, (.move (.tmp 24)), none⟩,
  ⟨some 140, (.move (.tmp 0)), none⟩,
  ⟨some 141, (.move (.tmp 3)), none⟩,
  ⟨some 142, (.call { callee := (.value (.func 15)), args := #[.tmp 140, .tmp 141], argTypes := #[9, 23] }), none⟩,
  ⟨some 143, (.call { callee := (.value (.tmp 139)), args := #[.tmp 142], argTypes := #[29] }), none⟩,
  ⟨some 144, (.move (.tmp 20)), none⟩,
  ⟨some 145, (.move (.tmp 144)), none⟩,
  ⟨some 146, (.move (.tmp 3)), some (145, true)⟩,
  ⟨some 147, (.move (.tmp 19)), some (145, true)⟩,
  ⟨some 148, (.call { callee := (.value (.func 30)), args := #[.tmp 146, .tmp 147], argTypes := #[23, 3] }), some (145, true)⟩,
  ⟨some 149, (.unOp .not 4 (.tmp 148)), some (145, true)⟩,
  ⟨some 150, (.pick (.tmp 145) (.tmp 149) (.const (.bool false))), none⟩,
  ⟨some 151, (.binOp .eql 4 (.tmp 143) (.tmp 150) 4), none⟩,
  ⟨some 10, (.assign (.tmp 151)), none⟩]) (.ret)))))))))))))
theorem c6_ok : Tryz.f6.body.bind (absCode Tryz.f6.ntmps) = some c6 := by kernel_rfl
theorem r6 : Tryz.f6.results.toList = [.tmp 10] := by kernel_rfl
theorem e6 : Enters Tryz.prog 6 := enters_of Tryz.func6 (by kernel_rfl) rfl
def c7 : ACode :=
  .seq (.ops 1000 [⟨some 6, (.assign (.const (.bool false))), none⟩]) (.seq (.seq (.ops 2000 [⟨some 9, (.call { callee := (.value (.func 9)), args := #[], argTypes := #[] }), none⟩,
  ⟨some 10, (.unOp .not 4 (.tmp 9)), none⟩]) (.cond (.tmp 10) (.seq (.ops 3000 [⟨some 6, (.assign (.const (.bool false))), none⟩]) (.ret)) (.skip))) (.seq (.seq (.ops 4000 [⟨some 11, (.move (.tmp 0)), none⟩,
  ⟨some 12, (.call { callee := (.value (.func 17)), args := #[.tmp 11], argTypes := #[29] }), none⟩,
  ⟨some 13, (.unOp .not 4 (.tmp 12)), none⟩,
  ⟨some 14, (.move (.tmp 13)), none⟩,
  ⟨some 15, (.move (.tmp 1)), some (14, false)⟩,
  ⟨some 16, (.call { callee := (.value (.func 17)), args := #[.tmp 15], argTypes := #[29] }), some (14, false)⟩,
  ⟨some 17, (.unOp .not 4 (.tmp 16)), some (14, false)⟩,
  ⟨some 18, (.pick (.tmp 14) (.const (.bool true)) (.tmp 17)), none⟩,
  ⟨some 19, (.move (.tmp 18)), none⟩,
  ⟨some 20, (.move (.tmp 2)), some (19, false)⟩,
  ⟨some 21, (.call { callee := (.builtin .len), args := #[.tmp 20], argTypes := #[39] }), some (19, false)⟩,
  ⟨some 22, (.binOp .gtr 3 (.tmp 21) (.const (.int .i64 12)) 3), some (19, false)⟩,
  ⟨some 23, (.pick (.tmp 19) (.const (.bool true)) (.tmp 22)), none⟩]) (.cond (.tmp 23) (.seq (.ops 5000 [⟨some 6, (.assign (.const (.bool true))), none⟩]) (.ret)) (.skip))) (.seq (.seq (.ops 6000 [⟨some 24, (.move (.tmp 0)), none⟩,
  ⟨some 25, (.move (.tmp 1)), none⟩,
  ⟨some 26, (.call { callee := (.value (.func 20)), args := #[.tmp 24, .tmp 25], argTypes := #[29, 29] }), none⟩,
  ⟨some 27, (.move (.tmp 26)), none⟩,
  ⟨some 28, (.move (.tmp 1)), some (27, true)⟩,
  ⟨some 29, (.move (.tmp 2)), some (27, true)⟩,
  ⟨some 30, (.call { callee := (.value (.func 22)), args := #[.tmp 28, .tmp 29], argTypes := #[29, 39] }), some (27, true)⟩,
  ⟨some 31, (.pick (.tmp 27) (.tmp 30) (.const (.bool false))), none⟩,
  ⟨some 32, (.move (.tmp 31)), none⟩,
  ⟨some 33, (.move (.tmp 0)), some (32, true)⟩,
  ⟨some 34, (.move (.tmp 2)), some (32, true)⟩,
  ⟨some 35, (.call { callee := (.value (.func 22)), args := #[.tmp 33, .tmp 34], argTypes := #[29, 39] }), some (32, true)⟩,
  ⟨some 36, (.unOp .not 4 (.tmp 35)), some (32, true)⟩,
  ⟨some 37, (.pick (.tmp 32) (.tmp 36) (.const (.bool false))), none⟩]) (.cond (.tmp 37) (.seq (.ops 7000 [⟨some 38, (.move (.tmp 2)), none⟩,
  ⟨some 39, (.call { callee := (.value (.func 23)), args := #[.tmp 38, (.func 33)], argTypes := #[39, 48] }), none⟩,
  ⟨some 6, (.assign (.tmp 39)), none⟩]) (.ret)) (.skip))) (.seq (.seq (.ops 8000 [⟨some 41, (.move (.tmp 0)), none⟩,
  ⟨some 42, (.call { callee := (.value (.func 34)), args := #[.tmp 41], argTypes := #[29] }), none⟩,
  ⟨some 40, (.move (.tmp 42)), none⟩,
  ⟨some 43, (.extract (.tmp 40) 0), none⟩,
  ⟨some 44, (.extract (.tmp 40) 1), none⟩,
  ⟨some 7, (.assign (.tmp 43)), none⟩,
  ⟨some 8, (.assign (.tmp 44)), none⟩]) (.seq (.ops 9000 [⟨some 45, (.move (.tmp 8)), none⟩,
  ⟨some 46, (.unOp .not 4 (.tmp 45)), none⟩]) (.cond (.tmp 46) (.seq (.ops 10000 [⟨some 6, (.assign (.const (.bool true))), none⟩]) (.ret)) (.skip)))) (.seq (.ops 11000 [⟨some 47, (.move (.tmp 0)), none⟩,
  ⟨some 48, (.move (.tmp 0)), none⟩,
  ⟨some 49, (.call { callee := (.value (.func 20)), args := #[.tmp 47, .tmp 48], argTypes := #[29, 29] }), none⟩,
  ⟨some 50, (.move (.tmp 49)), none⟩,
  ⟨some 51, (.move (.tmp 0)), some (50, true)⟩,
  ⟨some 52, (.call { callee := (.builtin .len), args := #[.tmp 51], argTypes := #[29] }), some (50, true)⟩,
  ⟨some 53, (.binOp .eql 3 (.tmp 52) (.const (.int .i64 0)) 3), some (50, true)⟩,
  ⟨some 54, (.move (.tmp 53)), some (50, true)⟩,
  ⟨some 55, (.move (.tmp 0)), some (54, false)⟩,
  ⟨some 56, (.slice 29 (.tmp 55) (some (.const (.int .i64 1))) none none), some (54, false)⟩,
  ⟨some 57, (.move (.tmp 0)), some (54, false)⟩,
  ⟨some 58, (.call { callee := (.value (.func 20)), args := #[.tmp 56, .tmp 57], argTypes := #[29, 29] }), some (54, false)⟩,
  ⟨some 59, (.pick (.tmp 54) (.const (.bool true)) (.tmp 58)), some (50, true)⟩,
  ⟨some 60, (.pick (.tmp 50) (.tmp 59) (.const (.bool false))), none⟩,
  ⟨some 6, (.assign (.tmp 60)), none⟩]) (.ret))))))
theorem c7_ok : Tryz.f7.body.bind (absCode Tryz.f7.ntmps) = some c7 := by kernel_rfl
theorem r7 : Tryz.f7.results.toList = [.tmp 6] := by kernel_rfl
theorem e7 : Enters Tryz.prog 7 := enters_of Tryz.func7 (by kernel_rfl) rfl
def c8 : ACode :=
  .seq (.ops 1000 [⟨some 5, (.box 9 (.tmp 2)), none⟩,
  ⟨some 6, (.assign (.const (.bool false))), none⟩]) (.seq (.seq (.ops 2000 [⟨some 14, (.call { callee := (.value (.func 9)), args := #[], argTypes := #[] }), none⟩,
  ⟨some 15, (.unOp .not 4 (.tmp 14)), none⟩]) (.cond (.tmp 15) (.seq (.ops 3000 [⟨some 6, (.assign (.const (.bool false))), none⟩]) (.ret)) (.skip))) (.seq (.seq (.ops 4000 [⟨some 16, (.move (.tmp 0)), none⟩,
  ⟨some 17, (.call { callee := (.value (.func 17)), args := #[.tmp 16], argTypes := #[29] }), none⟩,
  ⟨some 18, (.unOp .not 4 (.tmp 17)), none⟩,
  ⟨some 19, (.move (.tmp 18)), none⟩,
  ⟨some 20, (.move (.tmp 1)), some (19, false)⟩,
  ⟨some 21, (.call { callee := (.value (.func 17)), args := #[.tmp 20], argTypes := #[29] }), some (19, false)⟩,
  ⟨some 22, (.unOp .not 4 (.tmp 21)), some (19, false)⟩,
  ⟨some 23, (.pick (.tmp 19) (.const (.bool true)) (.tmp 22)), none⟩,
  ⟨some 24, (.move (.tmp 23)), none⟩,
  ⟨some 25, (.load 9 (.tmp 5)), some (24, false)⟩,
  ⟨some 26, (.call { callee := (.builtin .len), args := #[.tmp 25], argTypes := #[9] }), some (24, false)⟩,
  ⟨some 27, (.binOp .gtr 3 (.tmp 26) (.const (.int .i64 100)) 3), some (24, false)⟩,
  ⟨some 28, (.pick (.tmp 24) (.const (.bool true)) (.tmp 27)), none⟩]) (.cond (.tmp 28) (.seq (.ops 5000 [⟨some 6, (.assign (.const (.bool true))), none⟩]) (.ret)) (.skip))) (.seq (.ops 6000 [⟨some 30, (.move (.tmp 0)), none⟩,
  ⟨some 31, (.move (.tmp 1)), none⟩,
  ⟨some 32, (.load 9 (.tmp 5)), none⟩,
  ⟨some 33, (.call { callee := (.value (.func 18)), args := #[.tmp 30, .tmp 31, .tmp 32], argTypes := #[29, 29, 9] }), none⟩,
  ⟨some 29, (.move (.tmp 33)), none⟩,
  ⟨some 34, (.extract (.tmp 29) 0), none⟩,
  ⟨some 35, (.extract (.tmp 29) 1), none⟩,
  ⟨some 7, (.assign (.tmp 34)), none⟩,
  ⟨some 8, (.assign (.tmp 35)), none⟩]) (.seq (.ops 7000 [⟨some 37, (.move (.tmp 1)), none⟩,
  ⟨some 38, (.move (.tmp 0)), none⟩,
  ⟨some 39, (.load 9 (.tmp 5)), none⟩,
  ⟨some 40, (.call { callee := (.value (.func 18)), args := #[.tmp 37, .tmp 38, .tmp 39], argTypes := #[29, 29, 9] }), none⟩,
  ⟨some 36, (.move (.tmp 40)), none⟩,
  ⟨some 41, (.extract (.tmp 36) 0), none⟩,
  ⟨some 42, (.extract (.tmp 36) 1), none⟩,
  ⟨some 9, (.assign (.tmp 41)), none⟩,
  ⟨some 10, (.assign (.tmp 42)), none⟩]) (.seq (.seq (.ops 8000 [⟨some 43, (.move (.tmp 8)), none⟩,
  ⟨some 44, (.move (.tmp 10)), none⟩,
  ⟨some 45, (.binOp .neq 35 (.tmp 43) (.tmp 44) 35), none⟩,
  ⟨some 46, (.move (.tmp 45)), none⟩,
  ⟨some 47, (.move (.tmp 7)), some (46, false)⟩,
  ⟨some 48, (.move (.tmp 9)), some (46, false)⟩,
  ⟨some 49, (.call { callee := (.value (.func 10)), args := #[.tmp 47, .tmp 48], argTypes := #[29, 29] }), some (46, false)⟩,
  ⟨some 50, (.unOp .not 4 (.tmp 49)), some (46, false)⟩,
  ⟨some 51, (.pick (.tmp 46) (.const (.bool true)) (.tmp 50)), none⟩]) (.cond (.tmp 51) (.seq (.ops 9000 [⟨some 6, (.assign (.const (.bool false))), none⟩]) (.ret)) (.skip))) (.seq (.ops 10000 [⟨some 53, (.move (.tmp 0)), none⟩,
  ⟨some 54, (.move (.tmp 0)), none⟩,
  ⟨some 55, (.load 9 (.tmp 5)), none⟩,
  ⟨some 56, (.call { callee := (.value (.func 18)), args := #[.tmp 53, .tmp 54, .tmp 55], argTypes := #[29, 29, 9] }), none⟩,
  ⟨some 52, (.move (.tmp 56)), none⟩,
  ⟨some 57, (.extract (.tmp 52) 0), none⟩,
  ⟨some 58, (.extract (.tmp 52) 1), none⟩,
  ⟨some 11, (.assign (.tmp 57)), none⟩,
  ⟨some 8, (.assign (.tmp 58)), none⟩]) (.seq (.ops 11000 [⟨some 60, (.move (.tmp 0)), none⟩,
  ⟨some 61, (.call { callee := (.value (.func 34)), args := #[.tmp 60], argTypes := #[29] }), none⟩,
  ⟨some 59, (.move (.tmp 61)), none⟩,
  ⟨some 62, (.extract (.tmp 59) 0), none⟩,
  ⟨some 63, (.extract (.tmp 59) 1), none⟩,
  ⟨some 12, (.assign (.tmp 62)), none⟩,
  ⟨some 13, (.assign (.tmp 63)), none⟩]) (.seq (.seq (.ops 12000 [⟨some 64, (.move (.tmp 13)), none⟩,
  ⟨some 65, (.unOp .not 4 (.tmp 64)), none⟩,
  ⟨some 66, (.move (.tmp 65)), none⟩,
  ⟨some 67, (.move (.tmp 12)), some (66, false)⟩,
  ⟨some 68, (.makeFunc (.func 35) #[] #[.tmp 5]), some (66, false)⟩,
  ⟨some 69, (.call { callee := (.value (.func 27)), args := #[.tmp 67, .tmp 68], argTypes := #[29, 53] }), some (66, false)⟩,
  ⟨some 70, (.unOp .not 4 (.tmp 69)), some (66, false)⟩,
  ⟨some 71, (.pick (.tmp 66) (.const (.bool true)) (.tmp 70)), none⟩]) (.cond (.tmp 71) (.seq (.ops 13000 [⟨some 72, (.move (.tmp 8)), none⟩,
  ⟨some 73, (.binOp .eql 35 (.tmp 72) (.const (.int .i64 1)) 35), none⟩,
  ⟨some 74, (.move (.tmp 73)), none⟩,
  ⟨some 75, (.move (.tmp 11)), some (74, true)⟩,
  ⟨some 76, (.call { callee := (.builtin .len), args := #[.tmp 75], argTypes := #[29] }), some (74, true)⟩,
  ⟨some 77, (.binOp .eql 3 (.tmp 76) (.const (.int .i64 0)) 3), some (74, true)⟩,
  ⟨some 78, (.pick (.tmp 74) (.tmp 77) (.const (.bool false))), none⟩,
  ⟨some 6, (.assign (.tmp 78)), none⟩]) (.ret)) (.skip))) (.seq (.ops 14000 [⟨some 79, (.move (.tmp 8)), none⟩,
  ⟨some 80, (.binOp .eql 35 (.tmp 79) (.const (.int .i64 0)) 35), none⟩,
  ⟨some 81, (.move (.tmp 80)), none⟩,
  ⟨some 82, (.move (.tmp 11)), some (81, true)⟩,
  ⟨some 83, (.move (.tmp 12)), some (81, true)⟩,
  ⟨some 84, (.call { callee := (.value (.func 10)), args := #[.tmp 82, .tmp 83], argTypes := #[29, 29] }), some (81, true)⟩,
  ⟨some 85, (.pick (.tmp 81) (.tmp 84) (.const (.bool false))), none⟩,
  ⟨some 6, (.assign (.tmp 85)), none⟩]) (.ret))))))))))
theorem c8_ok : Tryz.f8.body.bind (absCode Tryz.f8.ntmps) = some c8 := by kernel_rfl
theorem r8 : Tryz.f8.results.toList = [.tmp 6] := by kernel_rfl
theorem e8 : Enters Tryz.prog 8 := enters_of Tryz.func8 (by kernel_rfl) rfl
def c11 : ACode :=
  .seq (.ops 1000 [⟨some 1, (.box 25 (.tmp 0)), none⟩,
  ⟨some 2, (.assign (.const (.slice none 0 0))), none⟩]) (.seq (.ops 2000 [⟨some 3, (.load 25 (.tmp 1)), none⟩,
  ⟨some 4, (.call { callee := (.value (.func 39)), args := #[.tmp 3], argTypes := #[25] }), none⟩,
  ⟨some 5, (.buildSlice 28 1 #[(0, .tmp 4)]), none⟩,
  ⟨some 6, (.call { callee := (.value (.func 38)), args := #[.tmp 5], argTypes := #[28] }), none⟩,
  ⟨some 2, (.assign (.tmp 6)), none⟩]) (.ret))
theorem c11_ok : Tryz.f11.body.bind (absCode Tryz.f11.ntmps) = some c11 := by kernel_rfl
theorem r11 : Tryz.f11.results.toList = [.tmp 2] := by kernel_rfl
theorem e11 : Enters Tryz.prog 11 := enters_of Tryz.func11 (by kernel_rfl) rfl
def c13 : ACode :=
  .seq (.ops 1000 [⟨some 5, (.box 25 (.tmp 2)), none⟩,
  ⟨some 6, (.assign (.const (.slice none 0 0))), none⟩]) (.seq (.ops 2000 [⟨some 7, (.move (.tmp 0)), none⟩,
  ⟨some 8, (.move (.tmp 1)), none⟩,
  ⟨some 9, (.move (.tmp 1)), none⟩,
  ⟨some 10, (.binOp .add 3 (.tmp 9) (.const (.int .i64 1)) 3), none⟩,
  ⟨some 11, (.build 65 #[(0, .tmp 8), (1, .tmp 10)]), none⟩,
  ⟨some 12, (.buildSlice 23 1 #[(0, .tmp 11)]), none⟩,
  ⟨some 13, (.build 51 #[(0, .tmp 7), (2, .tmp 12)]), none⟩,
  ⟨some 14, (.load 25 (.tmp 5)), none⟩,
  ⟨some 15, (.call { callee := (.value (.func 39)), args := #[.tmp 14], argTypes := #[25] }), none⟩,
  ⟨some 16, (.buildSlice 28 2 #[(0, .tmp 13), (1, .tmp 15)]), none⟩,
  ⟨some 17, (.call { callee := (.value (.func 38)), args := #[.tmp 16], argTypes := #[28] }), none⟩,
  ⟨some 6, (.assign (.tmp 17)), none⟩]) (.ret))
theorem c13_ok : Tryz.f13.body.bind (absCode Tryz.f13.ntmps) = some c13 := by kernel_rfl
theorem r13 : Tryz.f13.results.toList = [.tmp 6] := by kernel_rfl
theorem e13 : Enters Tryz.prog 13 := enters_of Tryz.func13 (by kernel_rfl) rfl
def c15 : ACode :=
  .seq (.ops 1000 [⟨some 4, (.assign (.const (.slice none 0 0))), none⟩]) (.seq (.ops 2000 [⟨some 5, (.move (.tmp 0)), none⟩,
  ⟨some 6, (.move (.tmp 1)), none⟩,
  ⟨some 7, (.call { callee := (.value (.func 44)), args := #[.tmp 6], argTypes := #[23] }), none⟩,
  ⟨some 8, (.build 51 #[(0, .tmp 5), (2, .tmp 7)]), none⟩,
  ⟨some 9, (.buildSlice 28 1 #[(0, .tmp 8)]), none⟩,
  ⟨some 10, (.call { callee := (.value (.func 38)), args := #[.tmp 9], argTypes := #[28] }), none⟩,
  ⟨some 4, (.assign (.tmp 10)), none⟩]) (.ret))
theorem c15_ok : Tryz.f15.body.bind (absCode Tryz.f15.ntmps) = some c15 := by kernel_rfl
theorem r15 : Tryz.f15.results.toList = [.tmp 4] := by kernel_rfl
theorem e15 : Enters Tryz.prog 15 := enters_of Tryz.func15 (by kernel_rfl) rfl
def c18 : ACode :=
  .seq (.ops 1000 [⟨some 6, (.assign (.const (.slice none 0 0))), none⟩,
  ⟨some 7, (.assign (.const (.int .i64 0))), none⟩]) (.seq (.ops 2000 [⟨some 17, (.move (.tmp 0)), none⟩,
  ⟨some 18, (.move (.tmp 2)), none⟩,
  ⟨some 19, (.call { callee := (.value (.func 46)), args := #[.tmp 17, .tmp 18], argTypes := #[29, 9] }), none⟩,
  ⟨some 16, (.move (.tmp 19)), none⟩,
  ⟨some 20, (.extract (.tmp 16) 0), none⟩,
  ⟨some 21, (.extract (.tmp 16) 1), none⟩,
  ⟨some 22, (.extract (.tmp 16) 2), none⟩,
  ⟨some 8, (.alloc 51), none⟩,
  ⟨none, (.store 51 (.tmp 8) (.tmp 20)), none⟩,
  ⟨some 9, (.assign (.tmp 21)), none⟩,
  ⟨some 10, (.assign (.tmp 22)), none⟩]) (.seq (.ops 3000 [⟨some 24, (.move (.tmp 1)), none⟩,
  ⟨some 25, (.move (.tmp 2)), none⟩,
  ⟨some 26, (.call { callee := (.value (.func 46)), args := #[.tmp 24, .tmp 25], argTypes := #[29, 9] }), none⟩,
  ⟨some 23, (.move (.tmp 26)), none⟩,
  ⟨some 27, (.extract (.tmp 23) 0), none⟩,
  ⟨some 28, (.extract (.tmp 23) 1), none⟩,
  ⟨some 29, (.extract (.tmp 23) 2), none⟩,
  ⟨some 11, (.alloc 51), none⟩,
  ⟨none, (.store 51 (.tmp 11) (.tmp 27)), none⟩,
  ⟨some 12, (.assign (.tmp 28)), none⟩,
  ⟨some 13, (.assign (.tmp 29)), none⟩]) (.seq (.seq (.ops 4000 [⟨some 30, (.move (.tmp 10)), none⟩,
  ⟨some 31, (.unOp .not 4 (.tmp 30)), none⟩,
  ⟨some 32, (.move (.tmp 31)), none⟩,
  ⟨some 33, (.move (.tmp 13)), some (32, false)⟩,
  ⟨some 34, (.unOp .not 4 (.tmp 33)), some (32, false)⟩,
  ⟨some 35, (.pick (.tmp 32) (.const (.bool true)) (.tmp 34)), none⟩]) (.cond (.tmp 35) (.seq (.ops 5000 [⟨some 6, (.assign (.const (.slice none 0 0))), none⟩,
  ⟨some 7, (.assign (.const (.int .i64 1))), none⟩]) (.ret)) (.skip))) (.seq (.dops 6000 [⟨some 37, (.move (.tmp 9)), none⟩,
  ⟨some 38, (.move (.tmp 12)), none⟩,
  ⟨some 39, (.call { callee := (.builtin .append), args := #[.tmp 37, .tmp 38], argTypes := #[29, 29] }), none⟩,
  ⟨some 40, (.load 51 (.tmp 8)), none⟩,
  ⟨some 41, (.load 51 (.tmp 11)), none⟩,
  ⟨some 42, (.call { callee := (.value (.func 47)), args := #[.tmp 40, .tmp 41], argTypes := #[51, 51] }), none⟩,
  ⟨some 43, (.buildSlice 29 1 #[(0, .tmp 42)]), none⟩,
  ⟨some 44, (.call { callee := (.builtin .append), args := #[.tmp 39, .tmp 43], argTypes := #[29, 29] }), none⟩,
  ⟨some 45, (.call { callee := (.value (.func 34)), args := #[.tmp 44], argTypes := #[29] }), none⟩,
  ⟨some 36, (.move (.tmp 45)), none⟩,
  ⟨some 46, (.extract (.tmp 36) 0), none⟩,
  ⟨some 47, (.extract (.tmp 36) 1), none⟩,
  ⟨some 14, (.assign (.tmp 46)), none⟩,
  ⟨some 15, (.assign (.tmp 47)), none⟩] [[], [], [0, 1], [], [], [3, 4, 2, 0, 1], [5, 3, 4, 2, 0, 1], [6, 5, 3, 4, 2, 0, 1], [7, 6, 5, 3, 4, 2, 0, 1], [8, 7, 6, 5, 3, 4, 2, 0, 1], [9, 8, 7, 6, 5, 3, 4, 2, 0, 1], [9, 8, 7, 6, 5, 3, 4, 2, 0, 1], [10, 9, 8, 7, 6, 5, 3, 4, 2, 0, 1], [11, 12, 10, 9, 8, 7, 6, 5, 3, 4, 2, 0, 1]]) (.seq (.seq (.ops 7000 [⟨some 48, (.move (.tmp 15)), none⟩,
  ⟨some 49, (.unOp .not 4 (.tmp 48)), none⟩]) (.cond (.tmp 49) (.seq (.ops 8000 [⟨some 6, (.assign (.const (.slice none 0 0))), none⟩,
  ⟨some 7, (.assign (.const (.int .i64 8))), none⟩]) (.ret)) (.skip))) (.seq (.ops 9000 [⟨some 50, (.move (.tmp 14)), none⟩,
  ⟨some 6, (.assign (.tmp 50)), none⟩,
  ⟨some 7, (.assign (.const (.int .i64 0))), none⟩]) (.ret)))))))
theorem c18_ok : Tryz.f18.body.bind (absCode Tryz.f18.ntmps) = some c18 := by kernel_rfl
theorem r18 : Tryz.f18.results.toList = [.tmp 6, .tmp 7] := by kernel_rfl
theorem e18 : Enters Tryz.prog 18 := enters_of Tryz.func18 (by kernel_rfl) rfl
def c20_L0 : ACode :=
  .seq (.ops 7000 [⟨some 33, (.binOp .lss 3 (.tmp 32) (.tmp 31) 3), none⟩]) (.seq (.cond (.tmp 33) (.skip) (.exit 0)) (.seq (.block 1 (.seq (.ops 8000 [⟨some 34, (.indexAddr 29 (.tmp 30) (.tmp 32)), none⟩,
  ⟨some 35, (.load 51 (.tmp 34)), none⟩,
  ⟨some 10, (.alloc 51), none⟩,
  ⟨none, (.store 51 (.tmp 10) (.tmp 35)), none⟩]) (.seq (.ops 9000 [⟨some 36, (.move (.tmp 7)), none⟩,
  ⟨some 37, (.makeFunc (.func 53) #[] #[.tmp 10]), none⟩,
  ⟨some 38, (.call { callee := (.value (.func 52)), args := #[.tmp 36, .tmp 37], argTypes := #[29, 53] }), none⟩,
  ⟨some 11, (.assign (.tmp 38)), none⟩]) (.seq (.dops 10000 [⟨some 39, (.move (.tmp 11)), none⟩,
  ⟨some 40, (.binOp .lss 3 (.tmp 39) (.const (.int .i64 0)) 3), none⟩,
  ⟨some 41, (.move (.tmp 40)), none⟩,
  ⟨some 42, (.move (.tmp 7)), some (41, false)⟩,
  ⟨some 43, (.move (.tmp 11)), some (41, false)⟩,
  ⟨some 44, (.indexAddr 29 (.tmp 42) (.tmp 43)), some (41, false)⟩,
  ⟨some 45, (.fieldAddr 51 (.tmp 44) 1), some (41, false)⟩,
  ⟨some 46, (.load 4 (.tmp 45)), some (41, false)⟩,
  ⟨some 47, (.move (.tmp 46)), some (41, false)⟩,
  ⟨some 48, (.fieldAddr 51 (.tmp 10) 1), some (47, true)⟩,
  ⟨some 49, (.load 4 (.tmp 48)), some (47, true)⟩,
  ⟨some 50, (.unOp .not 4 (.tmp 49)), some (47, true)⟩,
  ⟨some 51, (.pick (.tmp 47) (.tmp 50) (.const (.bool false))), some (41, false)⟩,
  ⟨some 52, (.pick (.tmp 41) (.const (.bool true)) (.tmp 51)), none⟩,
  ⟨some 53, (.move (.tmp 52)), none⟩,
  ⟨some 54, (.move (.tmp 7)), some (53, false)⟩,
  ⟨some 55, (.move (.tmp 11)), some (53, false)⟩,
  ⟨some 56, (.indexAddr 29 (.tmp 54) (.tmp 55)), some (53, false)⟩,
  ⟨some 57, (.fieldAddr 51 (.tmp 56) 2), some (53, false)⟩,
  ⟨some 58, (.load 23 (.tmp 57)), some (53, false)⟩,
  ⟨some 59, (.fieldAddr 51 (.tmp 10) 2), some (53, false)⟩,
  ⟨some 60, (.load 23 (.tmp 59)), some (53, false)⟩,
  ⟨some 61, (.call { callee := (.value (.func 54)), args := #[.tmp 58, .tmp 60], argTypes := #[23, 23] }), some (53, false)⟩,
  ⟨some 62, (.unOp .not 4 (.tmp 61)), some (53, false)⟩,
  ⟨some 63, (.pick (.tmp 53) (.const (.bool true)) (.tmp 62)), none⟩] [[], [0], [1, 0], [2, 1, 0], [2, 1, 0], [3, 4, 2, 1, 0], [5, 3, 4, 2, 1, 0], [6, 5, 3, 4, 2, 1, 0], [7, 6, 5, 3, 4, 2, 1, 0], [8, 7, 6, 5, 3, 4, 2, 1, 0], [9, 8, 7, 6, 5, 3, 4, 2, 1, 0], [10, 9, 8, 7, 6, 5, 3, 4, 2, 1, 0], [11, 10, 9, 8, 7, 6, 5, 3, 4, 2, 1, 0], [12, 11, 10, 9, 8, 7, 6, 5, 3, 4, 2, 1, 0], [13, 12, 11, 10, 9, 8, 7, 6, 5, 3, 4, 2, 1, 0], [14, 13, 12, 11, 10, 9, 8, 7, 6, 5, 3, 4, 2, 1, 0], [14, 13, 12, 11, 10, 9, 8, 7, 6, 5, 3, 4, 2, 1, 0], [15, 16, 14, 13, 12, 11, 10, 9, 8, 7, 6, 5, 3, 4, 2, 1, 0], [17, 15, 16, 14, 13, 12, 11, 10, 9, 8, 7, 6, 5, 3, 4, 2, 1, 0], [18, 17, 15, 16, 14, 13, 12, 11, 10, 9, 8, 7, 6, 5, 3, 4, 2, 1, 0], [14, 13, 12, 11, 10, 9, 8, 7, 6, 5, 3, 4, 2, 1, 0], [20, 14, 13, 12, 11, 10, 9, 8, 7, 6, 5, 3, 4, 2, 1, 0], [19, 18, 17, 15, 16, 21, 20, 14, 13, 12, 11, 10, 9, 8, 7, 6, 5, 3, 4, 2, 1, 0], [22, 19, 18, 17, 15, 16, 21, 20, 14, 13, 12, 11, 10, 9, 8, 7, 6, 5, 3, 4, 2, 1, 0], [23, 22, 19, 18, 17, 15, 16, 21, 20, 14, 13, 12, 11, 10, 9, 8, 7, 6, 5, 3, 4, 2, 1, 0]]) (.cond (.tmp 63) (.seq (.ops 11000 [⟨some 4, (.assign (.const (.bool false))), none⟩]) (.ret)) (.skip)))))) (.ops 12000 [⟨some 64, (.binOp .add 3 (.tmp 32) (.const (.int .i64 1)) 3), none⟩,
  ⟨some 32, (.move (.tmp 64)), none⟩])))
def c20 : ACode :=
  .seq (.ops 1000 [⟨some 4, (.assign (.const (.bool false))), none⟩]) (.seq (.ops 2000 [⟨some 13, (.move (.tmp 0)), none⟩,
  ⟨some 14, (.call { callee := (.value (.func 34)), args := #[.tmp 13], argTypes := #[29] }), none⟩,
  ⟨some 12, (.move (.tmp 14)), none⟩,
  ⟨some 15, (.extract (.tmp 12) 0), none⟩,
  ⟨some 16, (.extract (.tmp 12) 1), none⟩,
  ⟨some 5, (.assign (.tmp 15)), none⟩,
  ⟨some 6, (.assign (.tmp 16)), none⟩]) (.seq (.ops 3000 [⟨some 18, (.move (.tmp 1)), none⟩,
  ⟨some 19, (.call { callee := (.value (.func 34)), args := #[.tmp 18], argTypes := #[29] }), none⟩,
  ⟨some 17, (.move (.tmp 19)), none⟩,
  ⟨some 20, (.extract (.tmp 17) 0), none⟩,
  ⟨some 21, (.extract (.tmp 17) 1), none⟩,
  ⟨some 7, (.assign (.tmp 20)), none⟩,
  ⟨some 8, (.assign (.tmp 21)), none⟩]) (.seq (.seq (.ops 4000 [⟨some 22, (.move (.tmp 6)), none⟩,
  ⟨some 23, (.unOp .not 4 (.tmp 22)), none⟩,
  ⟨some 24, (.move (.tmp 23)), none⟩,
  ⟨some 25, (.move (.tmp 8)), some (24, false)⟩,
  ⟨some 26, (.unOp .not 4 (.tmp 25)), some (24, false)⟩,
  ⟨some 27, (.pick (.tmp 24) (.const (.bool true)) (.tmp 26)), none⟩]) (.cond (.tmp 27) (.seq (.ops 5000 [⟨some 28, (.move (.tmp 8)), none⟩,
  ⟨some 29, (.unOp .not 4 (.tmp 28)), none⟩,
  ⟨some 4, (.assign (.tmp 29)), none⟩]) (.ret)) (.skip))) (.seq (.seq (.ops 6000 [⟨some 30, (.move (.tmp 5)), none⟩,
  ⟨some 31, (.call { callee := (.builtin .len), args := #[.tmp 30], argTypes := #[29] }), none⟩,
  ⟨some 32, (.move (.const (.int .i64 0))), none⟩]) (.block 0 (.loop c20_L0))) (.seq (.ops 13000 [⟨some 4, (.assign (.const (.bool true))), none⟩]) (.ret))))))
theorem c20_ok : Tryz.f20.body.bind (absCode Tryz.f20.ntmps) = some c20 := by kernel_rfl
theorem r20 : Tryz.f20.results.toList = [.tmp 4] := by kernel_rfl
theorem e20 : Enters Tryz.prog 20 := enters_of Tryz.func20 (by kernel_rfl) rfl
def c24 : ACode :=
  .seq (.ops 1000 [⟨some 1, (.box 45 (.tmp 0)), none⟩,
  ⟨some 2, (.assign (.const (.bool false))), none⟩]) (.seq (.ops 2000 [⟨some 6, (.fieldAddr 45 (.tmp 1) 1), none⟩,
  ⟨some 7, (.load 43 (.tmp 6)), none⟩,
  ⟨some 8, (.call { callee := (.value (.func 25)), args := #[.tmp 7], argTypes := #[43] }), none⟩,
  ⟨some 5, (.move (.tmp 8)), none⟩,
  ⟨some 9, (.extract (.tmp 5) 0), none⟩,
  ⟨some 10, (.extract (.tmp 5) 1), none⟩,
  ⟨some 3, (.assign (.tmp 9)), none⟩,
  ⟨some 4, (.assign (.tmp 10)), none⟩]) (.seq (.ops 3000 [⟨some 11, (.move (.tmp 4)), none⟩,
  ⟨some 12, (.binOp .neq 35 (.tmp 11) (.const (.int .i64 0)) 35), none⟩,
  ⟨some 2, (.assign (.tmp 12)), none⟩]) (.ret)))
theorem c24_ok : Tryz.f24.body.bind (absCode Tryz.f24.ntmps) = some c24 := by kernel_rfl
theorem r24 : Tryz.f24.results.toList = [.tmp 2] := by kernel_rfl
theorem e24 : Enters Tryz.prog 24 := enters_of Tryz.func24 (by kernel_rfl) rfl
def c26 : ACode :=
  .seq (.ops 1000 [⟨some 4, (.assign (.const (.bool false))), none⟩]) (.seq (.ops 2000 [⟨some 5, (.move (.tmp 0)), none⟩,
  ⟨some 6, (.makeFunc (.func 28) #[] #[.tmp 1, .tmp 2]), none⟩,
  ⟨some 7, (.call { callee := (.value (.func 27)), args := #[.tmp 5, .tmp 6], argTypes := #[29, 53] }), none⟩,
  ⟨some 8, (.unOp .not 4 (.tmp 7)), none⟩,
  ⟨some 4, (.assign (.tmp 8)), none⟩]) (.ret))
theorem c26_ok : Tryz.f26.body.bind (absCode Tryz.f26.ntmps) = some c26 := by kernel_rfl
theorem r26 : Tryz.f26.results.toList = [.tmp 4] := by kernel_rfl
theorem e26 : Enters Tryz.prog 26 := enters_of Tryz.func26 (by kernel_rfl) rfl
def c28 : ACode :=
  .seq (.ops 1000 [⟨some 3, (.box 51 (.tmp 0)), none⟩,
  ⟨some 4, (.assign (.const (.bool false))), none⟩]) (.seq (.ops 2000 [⟨some 5, (.fieldAddr 51 (.tmp 3) 0), none⟩,
  ⟨some 6, (.load 9 (.tmp 5)), none⟩,
  ⟨some 7, (.load 9 (.tmp 1)), none⟩,
  ⟨some 8, (.binOp .neq 9 (.tmp 6) (.tmp 7) 9), none⟩,
  ⟨some 9, (.move (.tmp 8)), none⟩,
  ⟨some 10, (.load 51 (.tmp 3)), some (9, true)⟩,
  ⟨some 11, (.load 39 (.tmp 2)), some (9, true)⟩,
  ⟨some 12, (.call { callee := (.value (.func 29)), args := #[.tmp 10, .tmp 11], argTypes := #[51, 39] }), some (9, true)⟩,
  ⟨some 13, (.unOp .not 4 (.tmp 12)), some (9, true)⟩,
  ⟨some 14, (.pick (.tmp 9) (.tmp 13) (.const (.bool false))), none⟩,
  ⟨some 4, (.assign (.tmp 14)), none⟩]) (.ret))
theorem c28_ok : Tryz.f28.body.bind (absCode Tryz.f28.ntmps) = some c28 := by kernel_rfl
theorem r28 : Tryz.f28.results.toList = [.tmp 4] := by kernel_rfl
theorem e28 : Enters Tryz.prog 28 := enters_of Tryz.func28 (by kernel_rfl) rfl
def c31 : ACode :=
  .seq (.ops 1000 [⟨some 3, (.assign (.const (.bool false))), none⟩]) (.seq (.ops 2000 [⟨some 4, (.move (.tmp 0)), none⟩,
  ⟨some 5, (.call { callee := (.builtin .len), args := #[.tmp 4], argTypes := #[29] }), none⟩,
  ⟨some 6, (.binOp .gtr 3 (.tmp 5) (.const (.int .i64 0)) 3), none⟩,
  ⟨some 7, (.move (.tmp 6)), none⟩,
  ⟨some 8, (.move (.tmp 0)), some (7, true)⟩,
  ⟨some 9, (.load 39 (.tmp 1)), some (7, true)⟩,
  ⟨some 10, (.call { callee := (.value (.func 22)), args := #[.tmp 8, .tmp 9], argTypes := #[29, 39] }), some (7, true)⟩,
  ⟨some 11, (.pick (.tmp 7) (.tmp 10) (.const (.bool false))), none⟩,
  ⟨some 3, (.assign (.tmp 11)), none⟩]) (.ret))
theorem c31_ok : Tryz.f31.body.bind (absCode Tryz.f31.ntmps) = some c31 := by kernel_rfl
theorem r31 : Tryz.f31.results.toList = [.tmp 3] := by kernel_rfl
theorem e31 : Enters Tryz.prog 31 := enters_of Tryz.func31 (by kernel_rfl) rfl
def c33 : ACode :=
  .seq (.ops 1000 [⟨some 1, (.box 45 (.tmp 0)), none⟩,
  ⟨some 2, (.assign (.const (.bool false))), none⟩]) (.seq (.ops 2000 [⟨some 6, (.fieldAddr 45 (.tmp 1) 1), none⟩,
  ⟨some 7, (.load 43 (.tmp 6)), none⟩,
  ⟨some 8, (.call { callee := (.value (.func 25)), args := #[.tmp 7], argTypes := #[43] }), none⟩,
  ⟨some 5, (.move (.tmp 8)), none⟩,
  ⟨some 9, (.extract (.tmp 5) 0), none⟩,
  ⟨some 10, (.extract (.tmp 5) 1), none⟩,
  ⟨some 3, (.assign (.tmp 9)), none⟩,
  ⟨some 4, (.assign (.tmp 10)), none⟩]) (.seq (.ops 3000 [⟨some 11, (.move (.tmp 4)), none⟩,
  ⟨some 12, (.binOp .neq 35 (.tmp 11) (.const (.int .i64 0)) 35), none⟩,
  ⟨some 2, (.assign (.tmp 12)), none⟩]) (.ret)))
theorem c33_ok : Tryz.f33.body.bind (absCode Tryz.f33.ntmps) = some c33 := by kernel_rfl
theorem r33 : Tryz.f33.results.toList = [.tmp 2] := by kernel_rfl
theorem e33 : Enters Tryz.prog 33 := enters_of Tryz.func33 (by kernel_rfl) rfl
def c34_L0 : ACode :=
  .seq (.ops 4000 [⟨some 10, (.next (.tmp 9) false), none⟩,
  ⟨some 11, (.extract (.tmp 10) 0), none⟩]) (.seq (.cond (.tmp 11) (.skip) (.exit 0)) (.block 1 (.seq (.ops 5000 [⟨some 12, (.entry (.tmp 9)), none⟩,
  ⟨some 13, (.extract (.tmp 12) 1), none⟩,
  ⟨some 6, (.alloc 51), none⟩,
  ⟨none, (.store 51 (.tmp 6) (.tmp 13)), none⟩]) (.seq (.seq (.ops 6000 [⟨some 14, (.load 51 (.tmp 6)), none⟩,
  ⟨some 15, (.call { callee := (.value (.func 63)), args := #[.tmp 14], argTypes := #[51] }), none⟩]) (.cond (.tmp 15) (.seq (.ops 7000 [⟨some 2, (.assign (.const (.slice none 0 0))), none⟩,
  ⟨some 3, (.assign (.const (.bool false))), none⟩]) (.ret)) (.skip))) (.seq (.ops 8000 [⟨some 16, (.load 51 (.tmp 6)), none⟩,
  ⟨some 17, (.call { callee := (.value (.func 64)), args := #[.tmp 16], argTypes := #[51] }), none⟩,
  ⟨some 18, (.unOp .not 4 (.tmp 17)), none⟩]) (.cond (.tmp 18) (.ops 9000 [⟨some 19, (.move (.tmp 4)), none⟩,
  ⟨some 20, (.load 51 (.tmp 6)), none⟩,
  ⟨some 21, (.buildSlice 29 1 #[(0, .tmp 20)]), none⟩,
  ⟨some 22, (.call { callee := (.builtin .append), args := #[.tmp 19, .tmp 21], argTypes := #[29, 29] }), none⟩,
  ⟨some 4, (.assign (.tmp 22)), none⟩]) (.skip)))))))
def c34 : ACode :=
  .seq (.ops 1000 [⟨some 2, (.assign (.const (.slice none 0 0))), none⟩,
  ⟨some 3, (.assign (.const (.bool false))), none⟩]) (.seq (.ops 2000 [⟨some 4, (.assign (.const (.slice none 0 0))), none⟩]) (.seq (.seq (.ops 3000 [⟨some 7, (.move (.tmp 0)), none⟩,
  ⟨some 8, (.call { callee := (.value (.func 61)), args := #[.tmp 7, (.func 62)], argTypes := #[28, 74] }), none⟩,
  ⟨some 9, (.range 85 (.tmp 8)), none⟩]) (.block 0 (.loop c34_L0))) (.seq (.ops 10000 [⟨some 23, (.move (.tmp 4)), none⟩,
  ⟨some 24, (.call { callee := (.value (.func 65)), args := #[.tmp 23, (.func 66)], argTypes := #[29, 89] }), none⟩]) (.seq (.ops 11000 [⟨some 25, (.move (.tmp 4)), none⟩,
  ⟨some 2, (.assign (.tmp 25)), none⟩,
  ⟨some 3, (.assign (.const (.bool true))), none⟩]) (.ret)))))
theorem c34_ok : Tryz.f34.body.bind (absCode Tryz.f34.ntmps) = some c34 := by kernel_rfl
theorem r34 : Tryz.f34.results.toList = [.tmp 2, .tmp 3] := by kernel_rfl
theorem e34 : Enters Tryz.prog 34 := enters_of Tryz.func34 (by kernel_rfl) rfl
def c35 : ACode :=
  .seq (.ops 1000 [⟨some 2, (.box 51 (.tmp 0)), none⟩,
  ⟨some 3, (.assign (.const (.bool false))), none⟩]) (.seq (.ops 2000 [⟨some 4, (.fieldAddr 51 (.tmp 2) 0), none⟩,
  ⟨some 5, (.load 9 (.tmp 4)), none⟩,
  ⟨some 6, (.load 9 (.tmp 1)), none⟩,
  ⟨some 7, (.binOp .eql 9 (.tmp 5) (.tmp 6) 9), none⟩,
  ⟨some 3, (.assign (.tmp 7)), none⟩]) (.ret))
theorem c35_ok : Tryz.f35.body.bind (absCode Tryz.f35.ntmps) = some c35 := by kernel_rfl
theorem r35 : Tryz.f35.results.toList = [.tmp 3] := by kernel_rfl
theorem e35 : Enters Tryz.prog 35 := enters_of Tryz.func35 (by kernel_rfl) rfl
def c36 : ACode :=
  .seq (.ops 1000 [⟨some 3, (.box 39 (.tmp 1)), none⟩,
  ⟨some 4, (.assign (.const (.bool false))), none⟩]) (.seq (.ops 2000 [⟨some 5, (.move (.tmp 0)), none⟩,
  ⟨some 6, (.load 39 (.tmp 3)), none⟩,
  ⟨some 7, (.call { callee := (.value (.func 22)), args := #[.tmp 5, .tmp 6], argTypes := #[29, 39] }), none⟩,
  ⟨some 8, (.move (.tmp 7)), none⟩,
  ⟨some 9, (.move (.tmp 0)), some (8, true)⟩,
  ⟨some 10, (.makeFunc (.func 68) #[] #[.tmp 3]), some (8, true)⟩,
  ⟨some 11, (.call { callee := (.value (.func 27)), args := #[.tmp 9, .tmp 10], argTypes := #[29, 53] }), some (8, true)⟩,
  ⟨some 12, (.unOp .not 4 (.tmp 11)), some (8, true)⟩,
  ⟨some 13, (.pick (.tmp 8) (.tmp 12) (.const (.bool false))), none⟩,
  ⟨some 4, (.assign (.tmp 13)), none⟩]) (.ret))
theorem c36_ok : Tryz.f36.body.bind (absCode Tryz.f36.ntmps) = some c36 := by kernel_rfl
theorem r36 : Tryz.f36.results.toList = [.tmp 4] := by kernel_rfl
theorem e36 : Enters Tryz.prog 36 := enters_of Tryz.func36 (by kernel_rfl) rfl
def c38 : ACode :=
  .seq (.ops 1000 [⟨some 2, (.assign (.const (.slice none 0 0))), none⟩]) (.seq (.ops 2000 [⟨some 6, (.move (.tmp 0)), none⟩,
  ⟨some 7, (.call { callee := (.value (.func 34)), args := #[.tmp 6], argTypes := #[29] }), none⟩,
  ⟨some 5, (.move (.tmp 7)), none⟩,
  ⟨some 8, (.extract (.tmp 5) 0), none⟩,
  ⟨some 9, (.extract (.tmp 5) 1), none⟩,
  ⟨some 3, (.assign (.tmp 8)), none⟩,
  ⟨some 4, (.assign (.tmp 9)), none⟩]) (.seq (.ops 3000 [⟨some 10, (.move (.tmp 3)), none⟩,
  ⟨some 2, (.assign (.tmp 10)), none⟩]) (.ret)))
theorem c38_ok : Tryz.f38.body.bind (absCode Tryz.f38.ntmps) = some c38 := by kernel_rfl
theorem r38 : Tryz.f38.results.toList = [.tmp 2] := by kernel_rfl
theorem e38 : Enters Tryz.prog 38 := enters_of Tryz.func38 (by kernel_rfl) rfl
def c39 : ACode :=
  .seq (.ops 1000 [⟨some 1, (.box 25 (.tmp 0)), none⟩,
  ⟨some 2, (.alloc 51), none⟩]) (.seq (.dops 2000 [⟨some 3, (.fieldAddr 25 (.tmp 1) 0), none⟩,
  ⟨some 4, (.load 9 (.tmp 3)), none⟩,
  ⟨some 5, (.fieldAddr 25 (.tmp 1) 1), none⟩,
  ⟨some 6, (.load 23 (.tmp 5)), none⟩,
  ⟨some 7, (.call { callee := (.value (.func 44)), args := #[.tmp 6], argTypes := #[23] }), none⟩,
  ⟨some 8, (.build 51 #[(0, .tmp 4), (1, (.const (.bool true))), (2, .tmp 7)]), none⟩,
  ⟨none, (.store 51 (.tmp 2) (.tmp 8)), none⟩] [[], [0], [], [2], [3, 2], [1, 0, 4, 3, 2], [5, 1, 0, 4, 3, 2]]) (.ret))
theorem c39_ok : Tryz.f39.body.bind (absCode Tryz.f39.ntmps) = some c39 := by kernel_rfl
theorem r39 : Tryz.f39.results.toList = [(.cell 2 51)] := by kernel_rfl
theorem e39 : Enters Tryz.prog 39 := enters_of Tryz.func39 (by kernel_rfl) rfl
def c44 : ACode :=
  .seq (.ops 1000 [⟨some 2, (.assign (.const (.slice none 0 0))), none⟩]) (.seq (.ops 2000 [⟨some 3, (.move (.tmp 0)), none⟩,
  ⟨some 4, (.buildSlice 78 1 #[(0, .tmp 3)]), none⟩,
  ⟨some 5, (.call { callee := (.value (.func 71)), args := #[(.func 72), .tmp 4], argTypes := #[91, 78] }), none⟩,
  ⟨some 2, (.assign (.tmp 5)), none⟩]) (.ret))
theorem c44_ok : Tryz.f44.body.bind (absCode Tryz.f44.ntmps) = some c44 := by kernel_rfl
theorem r44 : Tryz.f44.results.toList = [.tmp 2] := by kernel_rfl
theorem e44 : Enters Tryz.prog 44 := enters_of Tryz.func44 (by kernel_rfl) rfl
def c46 : ACode :=
  .seq (.ops 1000 [⟨some 3, (.box 9 (.tmp 1)), none⟩,
  ⟨some 4, (.alloc 51), none⟩,
  ⟨some 5, (.assign (.const (.slice none 0 0))), none⟩,
  ⟨some 6, (.assign (.const (.bool false))), none⟩]) (.seq (.ops 2000 [⟨some 11, (.move (.tmp 0)), none⟩,
  ⟨some 12, (.call { callee := (.value (.func 34)), args := #[.tmp 11], argTypes := #[29] }), none⟩,
  ⟨some 10, (.move (.tmp 12)), none⟩,
  ⟨some 13, (.extract (.tmp 10) 0), none⟩,
  ⟨some 14, (.extract (.tmp 10) 1), none⟩,
  ⟨some 7, (.assign (.tmp 13)), none⟩,
  ⟨some 8, (.assign (.tmp 14)), none⟩]) (.seq (.ops 3000 [⟨some 15, (.move (.tmp 7)), none⟩,
  ⟨some 16, (.makeFunc (.func 73) #[] #[.tmp 3]), none⟩,
  ⟨some 17, (.call { callee := (.value (.func 52)), args := #[.tmp 15, .tmp 16], argTypes := #[29, 53] }), none⟩,
  ⟨some 9, (.assign (.tmp 17)), none⟩]) (.seq (.seq (.ops 4000 [⟨some 18, (.move (.tmp 8)), none⟩,
  ⟨some 19, (.unOp .not 4 (.tmp 18)), none⟩,
  ⟨some 20, (.move (.tmp 19)), none⟩,
  ⟨some 21, (.move (.tmp 9)), some (20, false)⟩,
  ⟨some 22, (.binOp .lss 3 (.tmp 21) (.const (.int .i64 0)) 3), some (20, false)⟩,
  ⟨some 23, (.pick (.tmp 20) (.const (.bool true)) (.tmp 22)), none⟩]) (.cond (.tmp 23) (.seq (.ops 5000 [⟨some 24, (.build 51 #[]), none⟩,
  ⟨none, (.store 51 (.tmp 4) (.tmp 24)), none⟩,
  ⟨some 5, (.assign (.const (.slice none 0 0))), none⟩,
  ⟨some 6, (.assign (.const (.bool false))), none⟩]) (.ret)) (.skip))) (.seq (.dops 6000 [⟨some 25, (.move (.tmp 7)), none⟩,
  ⟨some 26, (.move (.tmp 9)), none⟩,
  ⟨some 27, (.indexAddr 29 (.tmp 25) (.tmp 26)), none⟩,
  ⟨some 28, (.load 51 (.tmp 27)), none⟩,
  ⟨some 29, (.move (.tmp 7)), none⟩,
  ⟨some 30, (.call { callee := (.value (.func 75)), args := #[.tmp 29], argTypes := #[29] }), none⟩,
  ⟨some 31, (.move (.tmp 9)), none⟩,
  ⟨some 32, (.move (.tmp 9)), none⟩,
  ⟨some 33, (.binOp .add 3 (.tmp 32) (.const (.int .i64 1)) 3), none⟩,
  ⟨some 34, (.call { callee := (.value (.func 74)), args := #[.tmp 30, .tmp 31, .tmp 33], argTypes := #[29, 3, 3] }), none⟩,
  ⟨none, (.store 51 (.tmp 4) (.tmp 28)), none⟩,
  ⟨some 5, (.assign (.tmp 34)), none⟩,
  ⟨some 6, (.assign (.const (.bool true))), none⟩] [[], [], [0, 1], [2, 0, 1], [], [4], [], [], [7], [6, 8, 7, 5, 4], [9, 6, 8, 7, 5, 4, 3, 2, 0, 1], [10, 9, 6, 8, 7, 5, 4, 3, 2, 0, 1], [11, 10, 9, 6, 8, 7, 5, 4, 3, 2, 0, 1]]) (.ret)))))
theorem c46_ok : Tryz.f46.body.bind (absCode Tryz.f46.ntmps) = some c46 := by kernel_rfl
theorem r46 : Tryz.f46.results.toList = [(.cell 4 51), .tmp 5, .tmp 6] := by kernel_rfl
theorem e46 : Enters Tryz.prog 46 := enters_of Tryz.func46 (by kernel_rfl) rfl
def c47 : ACode :=
  .seq (.ops 1000 [⟨some 2, (.box 51 (.tmp 0)), none⟩,
  ⟨some 3, (.box 51 (.tmp 1)), none⟩,
  ⟨some 4, (.alloc 51), none⟩]) (.seq (.dops 2000 [⟨some 5, (.fieldAddr 51 (.tmp 2) 0), none⟩,
  ⟨some 6, (.load 9 (.tmp 5)), none⟩,
  ⟨some 7, (.fieldAddr 51 (.tmp 2) 1), none⟩,
  ⟨some 8, (.load 4 (.tmp 7)), none⟩,
  ⟨some 9, (.move (.tmp 8)), none⟩,
  ⟨some 10, (.fieldAddr 51 (.tmp 3) 1), some (9, false)⟩,
  ⟨some 11, (.load 4 (.tmp 10)), some (9, false)⟩,
  ⟨some 12, (.pick (.tmp 9) (.const (.bool true)) (.tmp 11)), none⟩,
  ⟨some 13, (.fieldAddr 51 (.tmp 2) 2), none⟩,
  ⟨some 14, (.load 23 (.tmp 13)), none⟩,
  ⟨some 15, (.fieldAddr 51 (.tmp 3) 2), none⟩,
  ⟨some 16, (.load 23 (.tmp 15)), none⟩,
  ⟨some 17, (.buildSlice 78 2 #[(0, .tmp 14), (1, .tmp 16)]), none⟩,
  ⟨some 18, (.call { callee := (.value (.func 76)), args := #[.tmp 17], argTypes := #[78] }), none⟩,
  ⟨some 19, (.build 51 #[(0, .tmp 6), (1, .tmp 12), (2, .tmp 18)]), none⟩,
  ⟨none, (.store 51 (.tmp 4) (.tmp 19)), none⟩] [[], [0], [], [2], [3, 2], [4, 3, 2], [5, 4, 3, 2], [6, 5, 4, 3, 2], [], [8], [], [10], [9, 8, 11, 10], [12, 9, 8, 11, 10, 4, 3, 2], [1, 0, 7, 6, 5, 13, 12, 9, 8, 11, 10, 4, 3, 2], [14, 1, 0, 7, 6, 5, 13, 12, 9, 8, 11, 10, 4, 3, 2]]) (.ret))
theorem c47_ok : Tryz.f47.body.bind (absCode Tryz.f47.ntmps) = some c47 := by kernel_rfl
theorem r47 : Tryz.f47.results.toList = [(.cell 4 51)] := by kernel_rfl
theorem e47 : Enters Tryz.prog 47 := enters_of Tryz.func47 (by kernel_rfl) rfl
def c53 : ACode :=
  .seq (.ops 1000 [⟨some 2, (.box 51 (.tmp 0)), none⟩,
  ⟨some 3, (.assign (.const (.bool false))), none⟩]) (.seq (.ops 2000 [⟨some 4, (.fieldAddr 51 (.tmp 2) 0), none⟩,
  ⟨some 5, (.load 9 (.tmp 4)), none⟩,
  ⟨some 6, (.fieldAddr 51 (.tmp 1) 0), none⟩,
  ⟨some 7, (.load 9 (.tmp 6)), none⟩,
  ⟨some 8, (.binOp .eql 9 (.tmp 5) (.tmp 7) 9), none⟩,
  ⟨some 3, (.assign (.tmp 8)), none⟩]) (.ret))
theorem c53_ok : Tryz.f53.body.bind (absCode Tryz.f53.ntmps) = some c53 := by kernel_rfl
theorem r53 : Tryz.f53.results.toList = [.tmp 3] := by kernel_rfl
theorem e53 : Enters Tryz.prog 53 := enters_of Tryz.func53 (by kernel_rfl) rfl
def c54 : ACode :=
  .seq (.ops 1000 [⟨some 4, (.assign (.const (.bool false))), none⟩]) (.seq (.ops 2000 [⟨some 5, (.move (.tmp 0)), none⟩,
  ⟨some 6, (.move (.tmp 1)), none⟩,
  ⟨some 7, (.call { callee := (.value (.func 79)), args := #[.tmp 5, .tmp 6], argTypes := #[23, 23] }), none⟩,
  ⟨some 8, (.call { callee := (.builtin .len), args := #[.tmp 7], argTypes := #[23] }), none⟩,
  ⟨some 9, (.binOp .eql 3 (.tmp 8) (.const (.int .i64 0)) 3), none⟩,
  ⟨some 4, (.assign (.tmp 9)), none⟩]) (.ret))
theorem c54_ok : Tryz.f54.body.bind (absCode Tryz.f54.ntmps) = some c54 := by kernel_rfl
theorem r54 : Tryz.f54.results.toList = [.tmp 4] := by kernel_rfl
theorem e54 : Enters Tryz.prog 54 := enters_of Tryz.func54 (by kernel_rfl) rfl
def c61_L0 : ACode :=
  .seq (.ops 4000 [⟨some 14, (.binOp .lss 3 (.tmp 13) (.tmp 12) 3), none⟩]) (.seq (.cond (.tmp 14) (.skip) (.exit 0)) (.seq (.block 1 (.seq (.ops 5000 [⟨some 15, (.indexAddr 28 (.tmp 11) (.tmp 13)), none⟩,
  ⟨some 16, (.load 51 (.tmp 15)), none⟩,
  ⟨some 7, (.alloc 51), none⟩,
  ⟨none, (.store 51 (.tmp 7) (.tmp 16)), none⟩]) (.seq (.ops 6000 [⟨some 18, (.move (.tmp 5)), none⟩,
  ⟨some 19, (.fieldAddr 51 (.tmp 7) 0), none⟩,
  ⟨some 20, (.load 9 (.tmp 19)), none⟩,
  ⟨some 21, (.lookup 85 (.tmp 18) (.tmp 20) true), none⟩,
  ⟨some 17, (.move (.tmp 21)), none⟩,
  ⟨some 22, (.extract (.tmp 17) 0), none⟩,
  ⟨some 23, (.extract (.tmp 17) 1), none⟩,
  ⟨some 8, (.alloc 51), none⟩,
  ⟨none, (.store 51 (.tmp 8) (.tmp 22)), none⟩,
  ⟨some 9, (.assign (.tmp 23)), none⟩]) (.seq (.seq (.ops 7000 [⟨some 24, (.move (.tmp 9)), none⟩,
  ⟨some 25, (.unOp .not 4 (.tmp 24)), none⟩]) (.cond (.tmp 25) (.ops 8000 [⟨some 26, (.load 51 (.tmp 7)), none⟩,
  ⟨none, (.store 51 (.tmp 8) (.tmp 26)), none⟩]) (.skip))) (.dops 9000 [⟨some 27, (.move (.tmp 5)), none⟩,
  ⟨some 28, (.fieldAddr 51 (.tmp 7) 0), none⟩,
  ⟨some 29, (.load 9 (.tmp 28)), none⟩,
  ⟨some 30, (.move (.tmp 1)), none⟩,
  ⟨some 31, (.load 51 (.tmp 8)), none⟩,
  ⟨some 32, (.load 51 (.tmp 7)), none⟩,
  ⟨some 33, (.call { callee := (.value (.tmp 30)), args := #[.tmp 31, .tmp 32], argTypes := #[51, 51] }), none⟩,
  ⟨none, (.mapUpdate 85 (.tmp 27) (.tmp 29) (.tmp 33)), none⟩] [[], [], [1], [], [], [], [3, 4, 5], [0, 2, 1, 6, 3, 4, 5]]))))) (.ops 10000 [⟨some 34, (.binOp .add 3 (.tmp 13) (.const (.int .i64 1)) 3), none⟩,
  ⟨some 13, (.move (.tmp 34)), none⟩])))
def c61 : ACode :=
  .seq (.ops 1000 [⟨some 4, (.assign (.const (.map none))), none⟩]) (.seq (.ops 2000 [⟨some 10, (.makeMap 85 none), none⟩,
  ⟨some 5, (.assign (.tmp 10)), none⟩]) (.seq (.seq (.ops 3000 [⟨some 11, (.move (.tmp 0)), none⟩,
  ⟨some 12, (.call { callee := (.builtin .len), args := #[.tmp 11], argTypes := #[28] }), none⟩,
  ⟨some 13, (.move (.const (.int .i64 0))), none⟩]) (.block 0 (.loop c61_L0))) (.seq (.ops 11000 [⟨some 35, (.move (.tmp 5)), none⟩,
  ⟨some 4, (.assign (.tmp 35)), none⟩]) (.ret))))
theorem c61_ok : Tryz.f61.body.bind (absCode Tryz.f61.ntmps) = some c61 := by kernel_rfl
theorem r61 : Tryz.f61.results.toList = [.tmp 4] := by kernel_rfl
theorem e61 : Enters Tryz.prog 61 := enters_of Tryz.func61 (by kernel_rfl) rfl
def c62 : ACode :=
  .seq (.ops 1000 [⟨some 2, (.box 51 (.tmp 0)), none⟩,
  ⟨some 3, (.box 51 (.tmp 1)), none⟩,
  ⟨some 4, (.alloc 51), none⟩]) (.seq (.dops 2000 [⟨some 5, (.fieldAddr 51 (.tmp 2) 0), none⟩,
  ⟨some 6, (.load 9 (.tmp 5)), none⟩,
  ⟨some 7, (.fieldAddr 51 (.tmp 2) 1), none⟩,
  ⟨some 8, (.load 4 (.tmp 7)), none⟩,
  ⟨some 9, (.move (.tmp 8)), none⟩,
  ⟨some 10, (.fieldAddr 51 (.tmp 3) 1), some (9, true)⟩,
  ⟨some 11, (.load 4 (.tmp 10)), some (9, true)⟩,
  ⟨some 12, (.pick (.tmp 9) (.tmp 11) (.const (.bool false))), none⟩,
  ⟨some 13, (.fieldAddr 51 (.tmp 2) 2), none⟩,
  ⟨some 14, (.load 23 (.tmp 13)), none⟩,
  ⟨some 15, (.fieldAddr 51 (.tmp 3) 2), none⟩,
  ⟨some 16, (.load 23 (.tmp 15)), none⟩,
  ⟨some 17, (.buildSlice 78 2 #[(0, .tmp 14), (1, .tmp 16)]), none⟩,
  ⟨some 18, (.call { callee := (.value (.func 82)), args := #[.tmp 17], argTypes := #[78] }), none⟩,
  ⟨some 19, (.build 51 #[(0, .tmp 6), (1, .tmp 12), (2, .tmp 18)]), none⟩,
  ⟨none, (.store 51 (.tmp 4) (.tmp 19)), none⟩] [[], [0], [], [2], [3, 2], [4, 3, 2], [5, 4, 3, 2], [6, 5, 4, 3, 2], [], [8], [], [10], [9, 8, 11, 10], [12, 9, 8, 11, 10, 4, 3, 2], [1, 0, 7, 6, 5, 13, 12, 9, 8, 11, 10, 4, 3, 2], [14, 1, 0, 7, 6, 5, 13, 12, 9, 8, 11, 10, 4, 3, 2]]) (.ret))
theorem c62_ok : Tryz.f62.body.bind (absCode Tryz.f62.ntmps) = some c62 := by kernel_rfl
theorem r62 : Tryz.f62.results.toList = [(.cell 4 51)] := by kernel_rfl
theorem e62 : Enters Tryz.prog 62 := enters_of Tryz.func62 (by kernel_rfl) rfl
def c63 : ACode :=
  .seq (.ops 1000 [⟨some 1, (.box 51 (.tmp 0)), none⟩,
  ⟨some 2, (.assign (.const (.bool false))), none⟩]) (.seq (.ops 2000 [⟨some 3, (.fieldAddr 51 (.tmp 1) 1), none⟩,
  ⟨some 4, (.load 4 (.tmp 3)), none⟩,
  ⟨some 5, (.unOp .not 4 (.tmp 4)), none⟩,
  ⟨some 6, (.move (.tmp 5)), none⟩,
  ⟨some 7, (.fieldAddr 51 (.tmp 1) 2), some (6, true)⟩,
  ⟨some 8, (.load 23 (.tmp 7)), some (6, true)⟩,
  ⟨some 9, (.call { callee := (.value (.func 83)), args := #[.tmp 8], argTypes := #[23] }), some (6, true)⟩,
  ⟨some 10, (.call { callee := (.builtin .len), args := #[.tmp 9], argTypes := #[23] }), some (6, true)⟩,
  ⟨some 11, (.binOp .eql 3 (.tmp 10) (.const (.int .i64 0)) 3), some (6, true)⟩,
  ⟨some 12, (.pick (.tmp 6) (.tmp 11) (.const (.bool false))), none⟩,
  ⟨some 2, (.assign (.tmp 12)), none⟩]) (.ret))
theorem c63_ok : Tryz.f63.body.bind (absCode Tryz.f63.ntmps) = some c63 := by kernel_rfl
theorem r63 : Tryz.f63.results.toList = [.tmp 2] := by kernel_rfl
theorem e63 : Enters Tryz.prog 63 := enters_of Tryz.func63 (by kernel_rfl) rfl
def c64 : ACode :=
  .seq (.ops 1000 [⟨some 1, (.box 51 (.tmp 0)), none⟩,
  ⟨some 2, (.assign (.const (.bool false))), none⟩]) (.seq (.ops 2000 [⟨some 3, (.fieldAddr 51 (.tmp 1) 1), none⟩,
  ⟨some 4, (.load 4 (.tmp 3)), none⟩,
  ⟨some 5, (.move (.tmp 4)), none⟩,
  ⟨some 6, (.fieldAddr 51 (.tmp 1) 2), some (5, true)⟩,
  ⟨some 7, (.load 23 (.tmp 6)), some (5, true)⟩,
  ⟨some 8, (.call { callee := (.value (.func 44)), args := #[.tmp 7], argTypes := #[23] }), some (5, true)⟩,
  ⟨some 9, (.call { callee := (.builtin .len), args := #[.tmp 8], argTypes := #[23] }), some (5, true)⟩,
  ⟨some 10, (.binOp .eql 3 (.tmp 9) (.const (.int .i64 0)) 3), some (5, true)⟩,
  ⟨some 11, (.pick (.tmp 5) (.tmp 10) (.const (.bool false))), none⟩,
  ⟨some 2, (.assign (.tmp 11)), none⟩]) (.ret))
theorem c64_ok : Tryz.f64.body.bind (absCode Tryz.f64.ntmps) = some c64 := by kernel_rfl
theorem r64 : Tryz.f64.results.toList = [.tmp 2] := by kernel_rfl
theorem e64 : Enters Tryz.prog 64 := enters_of Tryz.func64 (by kernel_rfl) rfl
def c66 : ACode :=
  .seq (.ops 1000 [⟨some 2, (.box 51 (.tmp 0)), none⟩,
  ⟨some 3, (.box 51 (.tmp 1)), none⟩,
  ⟨some 4, (.assign (.const (.int .i64 0))), none⟩]) (.seq (.ops 2000 [⟨some 5, (.fieldAddr 51 (.tmp 2) 0), none⟩,
  ⟨some 6, (.load 9 (.tmp 5)), none⟩,
  ⟨some 7, (.fieldAddr 51 (.tmp 3) 0), none⟩,
  ⟨some 8, (.load 9 (.tmp 7)), none⟩,
  ⟨some 9, (.call { callee := (.value (.func 67)), args := #[.tmp 6, .tmp 8], argTypes := #[9, 9] }), none⟩,
  ⟨some 4, (.assign (.tmp 9)), none⟩]) (.ret))
theorem c66_ok : Tryz.f66.body.bind (absCode Tryz.f66.ntmps) = some c66 := by kernel_rfl
theorem r66 : Tryz.f66.results.toList = [.tmp 4] := by kernel_rfl
theorem e66 : Enters Tryz.prog 66 := enters_of Tryz.func66 (by kernel_rfl) rfl
def c67 : ACode :=
  .seq (.ops 1000 [⟨some 4, (.assign (.const (.int .i64 0))), none⟩]) (.seq (.ops 2000 [⟨some 5, (.move (.tmp 0)), none⟩,
  ⟨some 6, (.move (.tmp 1)), none⟩,
  ⟨some 7, (.call { callee := (.value (.func 86)), args := #[.tmp 5, .tmp 6], argTypes := #[9, 9] }), none⟩,
  ⟨some 4, (.assign (.tmp 7)), none⟩]) (.ret))
theorem c67_ok : Tryz.f67.body.bind (absCode Tryz.f67.ntmps) = some c67 := by kernel_rfl
theorem r67 : Tryz.f67.results.toList = [.tmp 4] := by kernel_rfl
theorem e67 : Enters Tryz.prog 67 := enters_of Tryz.func67 (by kernel_rfl) rfl
def c68 : ACode :=
  .seq (.ops 1000 [⟨some 2, (.box 51 (.tmp 0)), none⟩,
  ⟨some 3, (.assign (.const (.bool false))), none⟩]) (.seq (.ops 2000 [⟨some 4, (.load 39 (.tmp 1)), none⟩,
  ⟨some 5, (.makeFunc (.func 69) #[] #[.tmp 2]), none⟩,
  ⟨some 6, (.call { callee := (.value (.func 23)), args := #[.tmp 4, .tmp 5], argTypes := #[39, 48] }), none⟩,
  ⟨some 7, (.unOp .not 4 (.tmp 6)), none⟩,
  ⟨some 3, (.assign (.tmp 7)), none⟩]) (.ret))
theorem c68_ok : Tryz.f68.body.bind (absCode Tryz.f68.ntmps) = some c68 := by kernel_rfl
theorem r68 : Tryz.f68.results.toList = [.tmp 3] := by kernel_rfl
theorem e68 : Enters Tryz.prog 68 := enters_of Tryz.func68 (by kernel_rfl) rfl
def c69 : ACode :=
  .seq (.ops 1000 [⟨some 2, (.box 45 (.tmp 0)), none⟩,
  ⟨some 3, (.assign (.const (.bool false))), none⟩]) (.seq (.ops 2000 [⟨some 4, (.fieldAddr 45 (.tmp 2) 0), none⟩,
  ⟨some 5, (.load 9 (.tmp 4)), none⟩,
  ⟨some 6, (.fieldAddr 51 (.tmp 1) 0), none⟩,
  ⟨some 7, (.load 9 (.tmp 6)), none⟩,
  ⟨some 8, (.binOp .eql 9 (.tmp 5) (.tmp 7) 9), none⟩,
  ⟨some 3, (.assign (.tmp 8)), none⟩]) (.ret))
theorem c69_ok : Tryz.f69.body.bind (absCode Tryz.f69.ntmps) = some c69 := by kernel_rfl
theorem r69 : Tryz.f69.results.toList = [.tmp 3] := by kernel_rfl
theorem e69 : Enters Tryz.prog 69 := enters_of Tryz.func69 (by kernel_rfl) rfl
def c71_L0 : ACode :=
  .seq (.ops 7000 [⟨some 27, (.binOp .lss 3 (.tmp 26) (.tmp 25) 3), none⟩]) (.seq (.cond (.tmp 27) (.skip) (.exit 2)) (.seq (.block 3 (.seq (.ops 8000 [⟨some 28, (.indexAddr 23 (.tmp 24) (.tmp 26)), none⟩,
  ⟨some 29, (.load 65 (.tmp 28)), none⟩,
  ⟨some 9, (.alloc 65), none⟩,
  ⟨none, (.store 65 (.tmp 9) (.tmp 29)), none⟩]) (.seq (.ops 9000 [⟨some 30, (.move (.tmp 5)), none⟩,
  ⟨some 31, (.fieldAddr 65 (.tmp 9) 0), none⟩,
  ⟨some 32, (.load 3 (.tmp 31)), none⟩,
  ⟨some 33, (.lookup 100 (.tmp 30) (.tmp 32) false), none⟩,
  ⟨some 34, (.binOp .add 3 (.tmp 33) (.const (.int .i64 1)) 3), none⟩,
  ⟨none, (.mapUpdate 100 (.tmp 30) (.tmp 32) (.tmp 34)), none⟩]) (.ops 10000 [⟨some 35, (.move (.tmp 5)), none⟩,
  ⟨some 36, (.fieldAddr 65 (.tmp 9) 1), none⟩,
  ⟨some 37, (.load 3 (.tmp 36)), none⟩,
  ⟨some 38, (.lookup 100 (.tmp 35) (.tmp 37) false), none⟩,
  ⟨some 39, (.binOp .sub 3 (.tmp 38) (.const (.int .i64 1)) 3), none⟩,
  ⟨none, (.mapUpdate 100 (.tmp 35) (.tmp 37) (.tmp 39)), none⟩])))) (.ops 11000 [⟨some 40, (.binOp .add 3 (.tmp 26) (.const (.int .i64 1)) 3), none⟩,
  ⟨some 26, (.move (.tmp 40)), none⟩])))
def c71_L1 : ACode :=
  .seq (.ops 4000 [⟨some 20, (.binOp .lss 3 (.tmp 19) (.tmp 18) 3), none⟩]) (.seq (.cond (.tmp 20) (.skip) (.exit 0)) (.seq (.block 1 (.seq (.ops 5000 [⟨some 21, (.indexAddr 78 (.tmp 17) (.tmp 19)), none⟩,
  ⟨some 22, (.load 23 (.tmp 21)), none⟩,
  ⟨some 7, (.assign (.tmp 22)), none⟩]) (.seq (.ops 6000 [⟨some 23, (.move (.tmp 7)), none⟩,
  ⟨some 24, (.call { callee := (.value (.func 83)), args := #[.tmp 23], argTypes := #[23] }), none⟩,
  ⟨some 25, (.call { callee := (.builtin .len), args := #[.tmp 24], argTypes := #[23] }), none⟩,
  ⟨some 26, (.move (.const (.int .i64 0))), none⟩]) (.block 2 (.loop c71_L0))))) (.ops 12000 [⟨some 41, (.binOp .add 3 (.tmp 19) (.const (.int .i64 1)) 3), none⟩,
  ⟨some 19, (.move (.tmp 41)), none⟩])))
def c71_L2 : ACode :=
  .seq (.ops 15000 [⟨some 47, (.next (.tmp 46) false), none⟩,
  ⟨some 48, (.extract (.tmp 47) 0), none⟩]) (.seq (.cond (.tmp 48) (.skip) (.exit 4)) (.block 5 (.seq (.ops 16000 [⟨some 49, (.entry (.tmp 46)), none⟩,
  ⟨some 50, (.extract (.tmp 49) 0), none⟩,
  ⟨some 11, (.assign (.tmp 50)), none⟩]) (.ops 17000 [⟨some 51, (.move (.tmp 10)), none⟩,
  ⟨some 52, (.move (.tmp 11)), none⟩,
  ⟨some 53, (.buildSlice 101 1 #[(0, .tmp 52)]), none⟩,
  ⟨some 54, (.call { callee := (.builtin .append), args := #[.tmp 51, .tmp 53], argTypes := #[101, 101] }), none⟩,
  ⟨some 10, (.assign (.tmp 54)), none⟩]))))
def c71_L3 : ACode :=
  .seq (.ops 22000 [⟨some 61, (.binOp .lss 3 (.tmp 60) (.tmp 59) 3), none⟩]) (.seq (.cond (.tmp 61) (.skip) (.exit 6)) (.seq (.block 7 (.seq (.ops 23000 [⟨some 62, (.move (.tmp 60)), none⟩,
  ⟨some 14, (.assign (.tmp 62)), none⟩]) (.seq (.ops 24000 [⟨some 63, (.move (.tmp 13)), none⟩,
  ⟨some 64, (.move (.tmp 5)), none⟩,
  ⟨some 65, (.move (.tmp 10)), none⟩,
  ⟨some 66, (.move (.tmp 14)), none⟩,
  ⟨some 67, (.indexAddr 101 (.tmp 65) (.tmp 66)), none⟩,
  ⟨some 68, (.load 3 (.tmp 67)), none⟩,
  ⟨some 69, (.lookup 100 (.tmp 64) (.tmp 68) false), none⟩,
  ⟨some 70, (.binOp .add 3 (.tmp 63) (.tmp 69) 3), none⟩,
  ⟨some 13, (.assign (.tmp 70)), none⟩]) (.seq (.ops 25000 [⟨some 71, (.move (.tmp 0)), none⟩,
  ⟨some 72, (.move (.tmp 13)), none⟩,
  ⟨some 73, (.call { callee := (.value (.tmp 71)), args := #[.tmp 72], argTypes := #[3] }), none⟩]) (.cond (.tmp 73) (.dops 26000 [⟨some 74, (.move (.tmp 12)), none⟩,
  ⟨some 75, (.move (.tmp 10)), none⟩,
  ⟨some 76, (.move (.tmp 14)), none⟩,
  ⟨some 77, (.indexAddr 101 (.tmp 75) (.tmp 76)), none⟩,
  ⟨some 78, (.load 3 (.tmp 77)), none⟩,
  ⟨some 79, (.move (.tmp 10)), none⟩,
  ⟨some 80, (.move (.tmp 14)), none⟩,
  ⟨some 81, (.binOp .add 3 (.tmp 80) (.const (.int .i64 1)) 3), none⟩,
  ⟨some 82, (.indexAddr 101 (.tmp 79) (.tmp 81)), none⟩,
  ⟨some 83, (.load 3 (.tmp 82)), none⟩,
  ⟨some 84, (.build 65 #[(0, .tmp 78), (1, .tmp 83)]), none⟩,
  ⟨some 85, (.buildSlice 23 1 #[(0, .tmp 84)]), none⟩,
  ⟨some 86, (.call { callee := (.builtin .append), args := #[.tmp 74, .tmp 85], argTypes := #[23, 23] }), none⟩,
  ⟨some 12, (.assign (.tmp 86)), none⟩] [[], [], [], [1, 2], [3, 1, 2], [], [], [6], [5, 7, 6], [8, 5, 7, 6], [4, 3, 1, 2, 9, 8, 5, 7, 6], [10, 4, 3, 1, 2, 9, 8, 5, 7, 6], [0, 11, 10, 4, 3, 1, 2, 9, 8, 5, 7, 6], [12, 0, 11, 10, 4, 3, 1, 2, 9, 8, 5, 7, 6]]) (.skip)))))) (.ops 27000 [⟨some 87, (.binOp .add 3 (.tmp 60) (.const (.int .i64 1)) 3), none⟩,
  ⟨some 60, (.move (.tmp 87)), none⟩])))
def c71 : ACode :=
  .seq (.ops 1000 [⟨some 4, (.assign (.const (.slice none 0 0))), none⟩]) (.seq (.ops 2000 [⟨some 15, (.makeMap 100 none), none⟩,
  ⟨none, (.insert 100 (.tmp 15) (.const (.int .i64 0)) (.const (.int .i64 0))), none⟩,
  ⟨none, (.insert 100 (.tmp 15) (.const (.int .i64 1000000)) (.const (.int .i64 0))), none⟩,
  ⟨some 16, (.move (.tmp 15)), none⟩,
  ⟨some 5, (.assign (.tmp 16)), none⟩]) (.seq (.seq (.ops 3000 [⟨some 17, (.move (.tmp 1)), none⟩,
  ⟨some 18, (.call { callee := (.builtin .len), args := #[.tmp 17], argTypes := #[78] }), none⟩,
  ⟨some 19, (.move (.const (.int .i64 0))), none⟩]) (.block 0 (.loop c71_L1))) (.seq (.ops 13000 [⟨some 42, (.move (.tmp 5)), none⟩,
  ⟨some 43, (.call { callee := (.builtin .len), args := #[.tmp 42], argTypes := #[100] }), none⟩,
  ⟨some 44, (.makeSlice 101 (.const (.int .i64 0)) (.tmp 43)), none⟩,
  ⟨some 10, (.assign (.tmp 44)), none⟩]) (.seq (.seq (.ops 14000 [⟨some 45, (.move (.tmp 5)), none⟩,
  ⟨some 46, (.range 100 (.tmp 45)), none⟩]) (.block 4 (.loop c71_L2))) (.seq (.ops 18000 [⟨some 55, (.move (.tmp 10)), none⟩,
  ⟨some 56, (.call { callee := (.value (.func 87)), args := #[.tmp 55], argTypes := #[101] }), none⟩]) (.seq (.ops 19000 [⟨some 12, (.assign (.const (.slice none 0 0))), none⟩]) (.seq (.ops 20000 [⟨some 13, (.assign (.const (.int .i64 0))), none⟩]) (.seq (.seq (.ops 21000 [⟨some 57, (.move (.tmp 10)), none⟩,
  ⟨some 58, (.call { callee := (.builtin .len), args := #[.tmp 57], argTypes := #[101] }), none⟩,
  ⟨some 59, (.binOp .sub 3 (.tmp 58) (.const (.int .i64 1)) 3), none⟩,
  ⟨some 60, (.move (.const (.int .i64 0))), none⟩]) (.block 6 (.loop c71_L3))) (.seq (.ops 28000 [⟨some 88, (.move (.tmp 12)), none⟩,
  ⟨some 89, (.call { callee := (.value (.func 83)), args := #[.tmp 88], argTypes := #[23] }), none⟩,
  ⟨some 4, (.assign (.tmp 89)), none⟩]) (.ret))))))))))
theorem c71_ok : Tryz.f71.body.bind (absCode Tryz.f71.ntmps) = some c71 := by kernel_rfl
theorem r71 : Tryz.f71.results.toList = [.tmp 4] := by kernel_rfl
theorem e71 : Enters Tryz.prog 71 := enters_of Tryz.func71 (by kernel_rfl) rfl
def c72 : ACode :=
  .seq (.ops 1000 [⟨some 2, (.assign (.const (.bool false))), none⟩]) (.seq (.ops 2000 [⟨some 3, (.move (.tmp 0)), none⟩,
  ⟨some 4, (.binOp .eql 3 (.tmp 3) (.const (.int .i64 0)) 3), none⟩,
  ⟨some 2, (.assign (.tmp 4)), none⟩]) (.ret))
theorem c72_ok : Tryz.f72.body.bind (absCode Tryz.f72.ntmps) = some c72 := by kernel_rfl
theorem r72 : Tryz.f72.results.toList = [.tmp 2] := by kernel_rfl
theorem e72 : Enters Tryz.prog 72 := enters_of Tryz.func72 (by kernel_rfl) rfl
def c73 : ACode :=
  .seq (.ops 1000 [⟨some 2, (.box 51 (.tmp 0)), none⟩,
  ⟨some 3, (.assign (.const (.bool false))), none⟩]) (.seq (.ops 2000 [⟨some 4, (.fieldAddr 51 (.tmp 2) 0), none⟩,
  ⟨some 5, (.load 9 (.tmp 4)), none⟩,
  ⟨some 6, (.load 9 (.tmp 1)), none⟩,
  ⟨some 7, (.binOp .eql 9 (.tmp 5) (.tmp 6) 9), none⟩,
  ⟨some 3, (.assign (.tmp 7)), none⟩]) (.ret))
theorem c73_ok : Tryz.f73.body.bind (absCode Tryz.f73.ntmps) = some c73 := by kernel_rfl
theorem r73 : Tryz.f73.results.toList = [.tmp 3] := by kernel_rfl
theorem e73 : Enters Tryz.prog 73 := enters_of Tryz.func73 (by kernel_rfl) rfl
def c74 : ACode :=
  .seq (.ops 1000 [⟨some 6, (.assign (.const (.slice none 0 0))), none⟩]) (.seq (.ops 2000 [⟨some 8, (.move (.tmp 0)), none⟩,
  ⟨some 9, (.move (.tmp 1)), none⟩,
  ⟨some 10, (.move (.tmp 2)), none⟩,
  ⟨some 11, (.move (.tmp 0)), none⟩,
  ⟨some 12, (.call { callee := (.builtin .len), args := #[.tmp 11], argTypes := #[29] }), none⟩,
  ⟨some 13, (.slice 29 (.tmp 8) (some (.tmp 9)) (some (.tmp 10)) (some (.tmp 12))), none⟩]) (.seq (.seq (.ops 3000 [⟨some 14, (.move (.tmp 1)), none⟩,
  ⟨some 15, (.move (.tmp 2)), none⟩,
  ⟨some 16, (.binOp .eql 3 (.tmp 14) (.tmp 15) 3), none⟩]) (.cond (.tmp 16) (.seq (.ops 4000 [⟨some 17, (.move (.tmp 0)), none⟩,
  ⟨some 6, (.assign (.tmp 17)), none⟩]) (.ret)) (.skip))) (.seq (.ops 5000 [⟨some 18, (.move (.tmp 0)), none⟩,
  ⟨some 19, (.call { callee := (.builtin .len), args := #[.tmp 18], argTypes := #[29] }), none⟩,
  ⟨some 7, (.assign (.tmp 19)), none⟩]) (.seq (.dops 6000 [⟨some 20, (.move (.tmp 0)), none⟩,
  ⟨some 21, (.move (.tmp 1)), none⟩,
  ⟨some 22, (.slice 29 (.tmp 20) none (some (.tmp 21)) none), none⟩,
  ⟨some 23, (.move (.tmp 0)), none⟩,
  ⟨some 24, (.move (.tmp 2)), none⟩,
  ⟨some 25, (.slice 29 (.tmp 23) (some (.tmp 24)) none none), none⟩,
  ⟨some 26, (.call { callee := (.builtin .append), args := #[.tmp 22, .tmp 25], argTypes := #[29, 29] }), none⟩,
  ⟨some 0, (.assign (.tmp 26)), none⟩] [[], [], [0, 1], [], [], [3, 4], [2, 0, 1, 5, 3, 4], [6, 2, 0, 1, 5, 3, 4]]) (.seq (.ops 7000 [⟨some 27, (.move (.tmp 0)), none⟩,
  ⟨some 28, (.move (.tmp 0)), none⟩,
  ⟨some 29, (.call { callee := (.builtin .len), args := #[.tmp 28], argTypes := #[29] }), none⟩,
  ⟨some 30, (.move (.tmp 7)), none⟩,
  ⟨some 31, (.slice 29 (.tmp 27) (some (.tmp 29)) (some (.tmp 30)) none), none⟩,
  ⟨none, (.call { callee := (.builtin .clear), args := #[.tmp 31], argTypes := #[29] }), none⟩]) (.seq (.ops 8000 [⟨some 32, (.move (.tmp 0)), none⟩,
  ⟨some 6, (.assign (.tmp 32)), none⟩]) (.ret)))))))
theorem c74_ok : Tryz.f74.body.bind (absCode Tryz.f74.ntmps) = some c74 := by kernel_rfl
theorem r74 : Tryz.f74.results.toList = [.tmp 6] := by kernel_rfl
theorem e74 : Enters Tryz.prog 74 := enters_of Tryz.func74 (by kernel_rfl) rfl
def c75 : ACode :=
  .seq (.ops 1000 [⟨some 2, (.assign (.const (.slice none 0 0))), none⟩]) (.seq (.seq (.ops 2000 [⟨some 3, (.move (.tmp 0)), none⟩,
  ⟨some 4, (.binOp .eql 29 (.tmp 3) (.const (.slice none 0 0)) 29), none⟩]) (.cond (.tmp 4) (.seq (.ops 3000 [⟨some 2, (.assign (.const (.slice none 0 0))), none⟩]) (.ret)) (.skip))) (.seq (.ops 4000 [⟨some 5, (.buildSlice 29 0 #[]), none⟩,
  ⟨some 6, (.move (.tmp 0)), none⟩,
  ⟨some 7, (.call { callee := (.builtin .append), args := #[.tmp 5, .tmp 6], argTypes := #[29, 29] }), none⟩,
  ⟨some 2, (.assign (.tmp 7)), none⟩]) (.ret)))
theorem c75_ok : Tryz.f75.body.bind (absCode Tryz.f75.ntmps) = some c75 := by kernel_rfl
theorem r75 : Tryz.f75.results.toList = [.tmp 2] := by kernel_rfl
theorem e75 : Enters Tryz.prog 75 := enters_of Tryz.func75 (by kernel_rfl) rfl
def c76 : ACode :=
  .seq (.ops 1000 [⟨some 2, (.assign (.const (.slice none 0 0))), none⟩]) (.seq (.ops 2000 [⟨some 3, (.move (.tmp 0)), none⟩,
  ⟨some 4, (.call { callee := (.value (.func 71)), args := #[(.func 88), .tmp 3], argTypes := #[91, 78] }), none⟩,
  ⟨some 2, (.assign (.tmp 4)), none⟩]) (.ret))
theorem c76_ok : Tryz.f76.body.bind (absCode Tryz.f76.ntmps) = some c76 := by kernel_rfl
theorem r76 : Tryz.f76.results.toList = [.tmp 2] := by kernel_rfl
theorem e76 : Enters Tryz.prog 76 := enters_of Tryz.func76 (by kernel_rfl) rfl
def c79 : ACode :=
  .seq (.ops 1000 [⟨some 4, (.assign (.const (.slice none 0 0))), none⟩]) (.seq (.ops 2000 [⟨some 5, (.move (.tmp 0)), none⟩,
  ⟨some 6, (.move (.tmp 1)), none⟩,
  ⟨some 7, (.call { callee := (.value (.func 44)), args := #[.tmp 6], argTypes := #[23] }), none⟩,
  ⟨some 8, (.buildSlice 78 2 #[(0, .tmp 5), (1, .tmp 7)]), none⟩,
  ⟨some 9, (.call { callee := (.value (.func 82)), args := #[.tmp 8], argTypes := #[78] }), none⟩,
  ⟨some 4, (.assign (.tmp 9)), none⟩]) (.ret))
theorem c79_ok : Tryz.f79.body.bind (absCode Tryz.f79.ntmps) = some c79 := by kernel_rfl
theorem r79 : Tryz.f79.results.toList = [.tmp 4] := by kernel_rfl
theorem e79 : Enters Tryz.prog 79 := enters_of Tryz.func79 (by kernel_rfl) rfl
def c82 : ACode :=
  .seq (.ops 1000 [⟨some 1, (.box 78 (.tmp 0)), none⟩,
  ⟨some 2, (.assign (.const (.slice none 0 0))), none⟩]) (.seq (.ops 2000 [⟨some 3, (.makeFunc (.func 90) #[] #[.tmp 1]), none⟩,
  ⟨some 4, (.load 78 (.tmp 1)), none⟩,
  ⟨some 5, (.call { callee := (.value (.func 71)), args := #[.tmp 3, .tmp 4], argTypes := #[91, 78] }), none⟩,
  ⟨some 2, (.assign (.tmp 5)), none⟩]) (.ret))
theorem c82_ok : Tryz.f82.body.bind (absCode Tryz.f82.ntmps) = some c82 := by kernel_rfl
theorem r82 : Tryz.f82.results.toList = [.tmp 2] := by kernel_rfl
theorem e82 : Enters Tryz.prog 82 := enters_of Tryz.func82 (by kernel_rfl) rfl
def c83_L0 : ACode :=
  .seq (.ops 4000 [⟨some 12, (.binOp .lss 3 (.tmp 11) (.tmp 10) 3), none⟩]) (.seq (.cond (.tmp 12) (.skip) (.exit 0)) (.seq (.block 1 (.seq (.ops 5000 [⟨some 13, (.indexAddr 23 (.tmp 9) (.tmp 11)), none⟩,
  ⟨some 14, (.load 65 (.tmp 13)), none⟩,
  ⟨some 5, (.alloc 65), none⟩,
  ⟨none, (.store 65 (.tmp 5) (.tmp 14)), none⟩]) (.seq (.ops 6000 [⟨some 15, (.fieldAddr 65 (.tmp 5) 0), none⟩,
  ⟨some 16, (.load 3 (.tmp 15)), none⟩,
  ⟨some 17, (.call { callee := (.builtin .max), args := #[.tmp 16, (.const (.int .i64 0))], argTypes := #[3, 3] }), none⟩,
  ⟨some 18, (.fieldAddr 65 (.tmp 5) 1), none⟩,
  ⟨some 19, (.load 3 (.tmp 18)), none⟩,
  ⟨some 20, (.call { callee := (.builtin .min), args := #[.tmp 19, (.const (.int .i64 1000000))], argTypes := #[3, 3] }), none⟩,
  ⟨some 21, (.build 65 #[(0, .tmp 17), (1, .tmp 20)]), none⟩,
  ⟨none, (.store 65 (.tmp 5) (.tmp 21)), none⟩]) (.seq (.ops 7000 [⟨some 22, (.fieldAddr 65 (.tmp 5) 0), none⟩,
  ⟨some 23, (.load 3 (.tmp 22)), none⟩,
  ⟨some 24, (.fieldAddr 65 (.tmp 5) 1), none⟩,
  ⟨some 25, (.load 3 (.tmp 24)), none⟩,
  ⟨some 26, (.binOp .lss 3 (.tmp 23) (.tmp 25) 3), none⟩]) (.cond (.tmp 26) (.ops 8000 [⟨some 27, (.move (.tmp 3)), none⟩,
  ⟨some 28, (.load 65 (.tmp 5)), none⟩,
  ⟨some 29, (.buildSlice 23 1 #[(0, .tmp 28)]), none⟩,
  ⟨some 30, (.call { callee := (.builtin .append), args := #[.tmp 27, .tmp 29], argTypes := #[23, 23] }), none⟩,
  ⟨some 3, (.assign (.tmp 30)), none⟩]) (.skip)))))) (.ops 9000 [⟨some 31, (.binOp .add 3 (.tmp 11) (.const (.int .i64 1)) 3), none⟩,
  ⟨some 11, (.move (.tmp 31)), none⟩])))
def c83_L1 : ACode :=
  .seq (.ops 13000 [⟨some 37, (.binOp .lss 3 (.tmp 36) (.tmp 35) 3), none⟩]) (.seq (.cond (.tmp 37) (.skip) (.exit 2)) (.seq (.block 3 (.seq (.ops 14000 [⟨some 38, (.move (.tmp 36)), none⟩,
  ⟨some 39, (.indexAddr 23 (.tmp 34) (.tmp 36)), none⟩,
  ⟨some 40, (.load 65 (.tmp 39)), none⟩,
  ⟨some 8, (.alloc 65), none⟩,
  ⟨some 7, (.assign (.tmp 38)), none⟩,
  ⟨none, (.store 65 (.tmp 8) (.tmp 40)), none⟩]) (.seq (.seq (.dops 15000 [⟨some 41, (.move (.tmp 7)), none⟩,
  ⟨some 42, (.binOp .gtr 3 (.tmp 41) (.const (.int .i64 0)) 3), none⟩,
  ⟨some 43, (.move (.tmp 42)), none⟩,
  ⟨some 44, (.fieldAddr 65 (.tmp 8) 0), some (43, true)⟩,
  ⟨some 45, (.load 3 (.tmp 44)), some (43, true)⟩,
  ⟨some 46, (.move (.tmp 3)), some (43, true)⟩,
  ⟨some 47, (.move (.tmp 6)), some (43, true)⟩,
  ⟨some 48, (.binOp .sub 3 (.tmp 47) (.const (.int .i64 1)) 3), some (43, true)⟩,
  ⟨some 49, (.indexAddr 23 (.tmp 46) (.tmp 48)), some (43, true)⟩,
  ⟨some 50, (.fieldAddr 65 (.tmp 49) 1), some (43, true)⟩,
  ⟨some 51, (.load 3 (.tmp 50)), some (43, true)⟩,
  ⟨some 52, (.binOp .leq 3 (.tmp 45) (.tmp 51) 3), some (43, true)⟩,
  ⟨some 53, (.pick (.tmp 43) (.tmp 52) (.const (.bool false))), none⟩] [[], [0], [1, 0], [2, 1, 0], [3, 2, 1, 0], [2, 1, 0], [2, 1, 0], [6, 2, 1, 0], [5, 7, 6, 2, 1, 0], [8, 5, 7, 6, 2, 1, 0], [9, 8, 5, 7, 6, 2, 1, 0], [4, 3, 10, 9, 8, 5, 7, 6, 2, 1, 0], [11, 4, 3, 10, 9, 8, 5, 7, 6, 2, 1, 0]]) (.cond (.tmp 53) (.seq (.dops 16000 [⟨some 54, (.move (.tmp 3)), none⟩,
  ⟨some 55, (.move (.tmp 6)), none⟩,
  ⟨some 56, (.binOp .sub 3 (.tmp 55) (.const (.int .i64 1)) 3), none⟩,
  ⟨some 57, (.move (.tmp 3)), none⟩,
  ⟨some 58, (.move (.tmp 6)), none⟩,
  ⟨some 59, (.binOp .sub 3 (.tmp 58) (.const (.int .i64 1)) 3), none⟩,
  ⟨some 60, (.indexAddr 23 (.tmp 57) (.tmp 59)), none⟩,
  ⟨some 61, (.fieldAddr 65 (.tmp 60) 1), none⟩,
  ⟨some 62, (.load 3 (.tmp 61)), none⟩,
  ⟨some 63, (.fieldAddr 65 (.tmp 8) 1), none⟩,
  ⟨some 64, (.load 3 (.tmp 63)), none⟩,
  ⟨some 65, (.call { callee := (.builtin .max), args := #[.tmp 62, .tmp 64], argTypes := #[3, 3] }), none⟩,
  ⟨some 66, (.indexAddr 23 (.tmp 54) (.tmp 56)), none⟩,
  ⟨some 67, (.fieldAddr 65 (.tmp 66) 1), none⟩,
  ⟨none, (.store 3 (.tmp 67) (.tmp 65)), none⟩] [[], [], [1], [], [], [4], [3, 5, 4], [6, 3, 5, 4], [7, 6, 3, 5, 4], [], [9], [8, 7, 6, 3, 5, 4, 10, 9], [0, 2, 1, 11, 8, 7, 6, 3, 5, 4, 10, 9], [12, 0, 2, 1, 11, 8, 7, 6, 3, 5, 4, 10, 9], [13, 12, 0, 2, 1, 11, 8, 7, 6, 3, 5, 4, 10, 9]]) (.exit 3)) (.skip))) (.seq (.ops 17000 [⟨some 68, (.move (.tmp 3)), none⟩,
  ⟨some 69, (.move (.tmp 6)), none⟩,
  ⟨some 70, (.load 65 (.tmp 8)), none⟩,
  ⟨some 71, (.indexAddr 23 (.tmp 68) (.tmp 69)), none⟩,
  ⟨none, (.store 65 (.tmp 71) (.tmp 70)), none⟩]) (.ops 18000 [⟨some 72, (.move (.tmp 6)), none⟩,
  ⟨some 73, (.binOp .add 3 (.tmp 72) (.const (.int .i64 1)) 3), none⟩,
  ⟨some 6, (.assign (.tmp 73)), none⟩]))))) (.ops 19000 [⟨some 74, (.binOp .add 3 (.tmp 36) (.const (.int .i64 1)) 3), none⟩,
  ⟨some 36, (.move (.tmp 74)), none⟩])))
def c83 : ACode :=
  .seq (.ops 1000 [⟨some 2, (.assign (.const (.slice none 0 0))), none⟩]) (.seq (.ops 2000 [⟨some 3, (.assign (.const (.slice none 0 0))), none⟩]) (.seq (.seq (.ops 3000 [⟨some 9, (.move (.tmp 0)), none⟩,
  ⟨some 10, (.call { callee := (.builtin .len), args := #[.tmp 9], argTypes := #[23] }), none⟩,
  ⟨some 11, (.move (.const (.int .i64 0))), none⟩]) (.block 0 (.loop c83_L0))) (.seq (.ops 10000 [⟨some 32, (.move (.tmp 3)), none⟩,
  ⟨some 33, (.call { callee := (.value (.func 91)), args := #[.tmp 32, (.func 92)], argTypes := #[23, 105] }), none⟩]) (.seq (.ops 11000 [⟨some 6, (.assign (.const (.int .i64 0))), none⟩]) (.seq (.seq (.ops 12000 [⟨some 34, (.move (.tmp 3)), none⟩,
  ⟨some 35, (.call { callee := (.builtin .len), args := #[.tmp 34], argTypes := #[23] }), none⟩,
  ⟨some 36, (.move (.const (.int .i64 0))), none⟩]) (.block 2 (.loop c83_L1))) (.seq (.ops 20000 [⟨some 75, (.move (.tmp 3)), none⟩,
  ⟨some 76, (.move (.tmp 6)), none⟩,
  ⟨some 77, (.move (.tmp 6)), none⟩,
  ⟨some 78, (.slice 23 (.tmp 75) none (some (.tmp 76)) (some (.tmp 77))), none⟩,
  ⟨some 2, (.assign (.tmp 78)), none⟩]) (.ret)))))))
theorem c83_ok : Tryz.f83.body.bind (absCode Tryz.f83.ntmps) = some c83 := by kernel_rfl
theorem r83 : Tryz.f83.results.toList = [.tmp 2] := by kernel_rfl
theorem e83 : Enters Tryz.prog 83 := enters_of Tryz.func83 (by kernel_rfl) rfl
def c88 : ACode :=
  .seq (.ops 1000 [⟨some 2, (.assign (.const (.bool false))), none⟩]) (.seq (.ops 2000 [⟨some 3, (.move (.tmp 0)), none⟩,
  ⟨some 4, (.binOp .gtr 3 (.tmp 3) (.const (.int .i64 0)) 3), none⟩,
  ⟨some 2, (.assign (.tmp 4)), none⟩]) (.ret))
theorem c88_ok : Tryz.f88.body.bind (absCode Tryz.f88.ntmps) = some c88 := by kernel_rfl
theorem r88 : Tryz.f88.results.toList = [.tmp 2] := by kernel_rfl
theorem e88 : Enters Tryz.prog 88 := enters_of Tryz.func88 (by kernel_rfl) rfl
def c90 : ACode :=
  .seq (.ops 1000 [⟨some 3, (.assign (.const (.bool false))), none⟩]) (.seq (.ops 2000 [⟨some 4, (.move (.tmp 0)), none⟩,
  ⟨some 5, (.load 78 (.tmp 1)), none⟩,
  ⟨some 6, (.call { callee := (.builtin .len), args := #[.tmp 5], argTypes := #[78] }), none⟩,
  ⟨some 7, (.binOp .eql 3 (.tmp 4) (.tmp 6) 3), none⟩,
  ⟨some 3, (.assign (.tmp 7)), none⟩]) (.ret))
theorem c90_ok : Tryz.f90.body.bind (absCode Tryz.f90.ntmps) = some c90 := by kernel_rfl
theorem r90 : Tryz.f90.results.toList = [.tmp 3] := by kernel_rfl
theorem e90 : Enters Tryz.prog 90 := enters_of Tryz.func90 (by kernel_rfl) rfl
def c92 : ACode :=
  .seq (.ops 1000 [⟨some 2, (.box 65 (.tmp 0)), none⟩,
  ⟨some 3, (.box 65 (.tmp 1)), none⟩,
  ⟨some 4, (.assign (.const (.int .i64 0))), none⟩]) (.seq (.ops 2000 [⟨some 5, (.fieldAddr 65 (.tmp 2) 0), none⟩,
  ⟨some 6, (.load 3 (.tmp 5)), none⟩,
  ⟨some 7, (.fieldAddr 65 (.tmp 3) 0), none⟩,
  ⟨some 8, (.load 3 (.tmp 7)), none⟩,
  ⟨some 9, (.binOp .sub 3 (.tmp 6) (.tmp 8) 3), none⟩,
  ⟨some 4, (.assign (.tmp 9)), none⟩]) (.ret))
theorem c92_ok : Tryz.f92.body.bind (absCode Tryz.f92.ntmps) = some c92 := by kernel_rfl
theorem r92 : Tryz.f92.results.toList = [.tmp 4] := by kernel_rfl
theorem e92 : Enters Tryz.prog 92 := enters_of Tryz.func92 (by kernel_rfl) rfl
def c65 : ACode :=
  .seq (.ops 1000 [⟨some 5, (.move (.tmp 0)), none⟩,
  ⟨some 6, (.call { callee := (.builtin .len), args := #[.tmp 5], argTypes := #[29] }), none⟩,
  ⟨some 4, (.assign (.tmp 6)), none⟩]) (.ops 2000 [⟨some 7, (.move (.tmp 0)), none⟩,
  ⟨some 8, (.move (.tmp 4)), none⟩,
  ⟨some 9, (.move (.tmp 4)), none⟩,
  ⟨some 10, (.convert 3 99 (.tmp 9)), none⟩,
  ⟨some 11, (.call { callee := (.value (.func 85)), args := #[.tmp 10], argTypes := #[99] }), none⟩,
  ⟨some 12, (.move (.tmp 1)), none⟩,
  ⟨some 13, (.call { callee := (.value (.func 84)), args := #[.tmp 7, (.const (.int .i64 0)), .tmp 8, .tmp 11, .tmp 12], argTypes := #[28, 3, 3, 3, 89] }), none⟩])
theorem c65_ok : Tryz.f65.body.bind (absCode Tryz.f65.ntmps) = some c65 := by kernel_rfl
theorem r65 : Tryz.f65.results.toList = [] := by kernel_rfl
theorem e65 : Enters Tryz.prog 65 := enters_of Tryz.func65 (by kernel_rfl) rfl
def c91 : ACode :=
  .seq (.ops 1000 [⟨some 5, (.move (.tmp 0)), none⟩,
  ⟨some 6, (.call { callee := (.builtin .len), args := #[.tmp 5], argTypes := #[23] }), none⟩,
  ⟨some 4, (.assign (.tmp 6)), none⟩]) (.ops 2000 [⟨some 7, (.move (.tmp 0)), none⟩,
  ⟨some 8, (.move (.tmp 4)), none⟩,
  ⟨some 9, (.move (.tmp 4)), none⟩,
  ⟨some 10, (.convert 3 99 (.tmp 9)), none⟩,
  ⟨some 11, (.call { callee := (.value (.func 85)), args := #[.tmp 10], argTypes := #[99] }), none⟩,
  ⟨some 12, (.move (.tmp 1)), none⟩,
  ⟨some 13, (.call { callee := (.value (.func 105)), args := #[.tmp 7, (.const (.int .i64 0)), .tmp 8, .tmp 11, .tmp 12], argTypes := #[22, 3, 3, 3, 105] }), none⟩])
theorem c91_ok : Tryz.f91.body.bind (absCode Tryz.f91.ntmps) = some c91 := by kernel_rfl
theorem r91 : Tryz.f91.results.toList = [] := by kernel_rfl
theorem e91 : Enters Tryz.prog 91 := enters_of Tryz.func91 (by kernel_rfl) rfl
def c87 : ACode :=
  .seq (.ops 1000 [⟨some 3, (.move (.tmp 0)), none⟩,
  ⟨some 4, (.call { callee := (.builtin .len), args := #[.tmp 3], argTypes := #[101] }), none⟩,
  ⟨some 2, (.assign (.tmp 4)), none⟩]) (.ops 2000 [⟨some 5, (.move (.tmp 0)), none⟩,
  ⟨some 6, (.move (.tmp 2)), none⟩,
  ⟨some 7, (.move (.tmp 2)), none⟩,
  ⟨some 8, (.convert 3 99 (.tmp 7)), none⟩,
  ⟨some 9, (.call { callee := (.value (.func 85)), args := #[.tmp 8], argTypes := #[99] }), none⟩,
  ⟨some 10, (.call { callee := (.value (.func 104)), args := #[.tmp 5, (.const (.int .i64 0)), .tmp 6, .tmp 9], argTypes := #[101, 3, 3, 3] }), none⟩])
theorem c87_ok : Tryz.f87.body.bind (absCode Tryz.f87.ntmps) = some c87 := by kernel_rfl
theorem r87 : Tryz.f87.results.toList = [] := by kernel_rfl
theorem e87 : Enters Tryz.prog 87 := enters_of Tryz.func87 (by kernel_rfl) rfl
end
end Go.Proofs.YtbjhhaklecljdaaGreat
end
