/- Contracts of functions for this claim: lemmas alone. -/
import Derived.Test.YtgoemokfpfnlkaaProg
import Derived.Test.YtgoemokfpfnlkaaLd
import Derived.KernelRfl
set_option linter.unusedSimpArgs false
set_option linter.unusedVariables false
namespace Go.Proofs.Ytgoemokfpfnlkaa
open Go Go.Fi
set_option maxRecDepth 100000
@[simp] theorem tyL_1 : tyL Try.prog 1 = some (1, false) := by kernel_rfl
@[simp] theorem tyL_2 : tyL Try.prog 2 = some (1, false) := by kernel_rfl
@[simp] theorem zcells_2 : zcells Try.prog 2 = some [.w false false (.int .i64 (0))] := by kernel_rfl
@[simp] theorem slE_2 : slE Try.prog 2 = none := by kernel_rfl
@[simp] theorem isStr_2 : isStr Try.prog 2 = false := by kernel_rfl
@[simp] theorem kindOf_2 : kindOf Try.prog 2 = some .i64 := by kernel_rfl
@[simp] theorem eqTy_2 : eqTy Try.prog 2 = none := by kernel_rfl
@[simp] theorem tyL_3 : tyL Try.prog 3 = some (1, false) := by kernel_rfl
@[simp] theorem zcells_3 : zcells Try.prog 3 = some [.w false false (.int .i64 (0))] := by kernel_rfl
@[simp] theorem slE_3 : slE Try.prog 3 = none := by kernel_rfl
@[simp] theorem isStr_3 : isStr Try.prog 3 = false := by kernel_rfl
@[simp] theorem kindOf_3 : kindOf Try.prog 3 = some .i64 := by kernel_rfl
@[simp] theorem eqTy_3 : eqTy Try.prog 3 = none := by kernel_rfl
@[simp] theorem tyL_4 : tyL Try.prog 4 = some (1, false) := by kernel_rfl
@[simp] theorem zcells_4 : zcells Try.prog 4 = some [.w false false (.bool false)] := by kernel_rfl
@[simp] theorem slE_4 : slE Try.prog 4 = none := by kernel_rfl
@[simp] theorem isStr_4 : isStr Try.prog 4 = false := by kernel_rfl
@[simp] theorem isBool_4 : isBool Try.prog 4 = true := by kernel_rfl
@[simp] theorem eqTy_4 : eqTy Try.prog 4 = none := by kernel_rfl
@[simp] theorem tyL_5 : tyL Try.prog 5 = some (1, false) := by kernel_rfl
@[simp] theorem zcells_5 : zcells Try.prog 5 = some [.w false false (.int .u8 (0))] := by kernel_rfl
@[simp] theorem slE_5 : slE Try.prog 5 = none := by kernel_rfl
@[simp] theorem isStr_5 : isStr Try.prog 5 = false := by kernel_rfl
@[simp] theorem kindOf_5 : kindOf Try.prog 5 = some .u8 := by kernel_rfl
@[simp] theorem eqTy_5 : eqTy Try.prog 5 = none := by kernel_rfl
@[simp] theorem tyL_9 : tyL Try.prog 9 = some (1, false) := by kernel_rfl
@[simp] theorem zcells_9 : zcells Try.prog 9 = some [.w false false (.str ByteArray.empty)] := by kernel_rfl
@[simp] theorem slE_9 : slE Try.prog 9 = none := by kernel_rfl
@[simp] theorem isStr_9 : isStr Try.prog 9 = true := by kernel_rfl
@[simp] theorem eqTy_9 : eqTy Try.prog 9 = none := by kernel_rfl
@[simp] theorem tyL_21 : tyL Try.prog 21 = some (1, false) := by kernel_rfl
@[simp] theorem zcells_21 : zcells Try.prog 21 = some [.w false false (.int .i32 (0))] := by kernel_rfl
@[simp] theorem slE_21 : slE Try.prog 21 = none := by kernel_rfl
@[simp] theorem isStr_21 : isStr Try.prog 21 = false := by kernel_rfl
@[simp] theorem kindOf_21 : kindOf Try.prog 21 = some .i32 := by kernel_rfl
@[simp] theorem eqTy_21 : eqTy Try.prog 21 = none := by kernel_rfl
@[simp] theorem tyL_22 : tyL Try.prog 22 = some (1, false) := by kernel_rfl
@[simp] theorem zcells_22 : zcells Try.prog 22 = some [.w true true (.sl 0 [])] := by kernel_rfl
@[simp] theorem slE_22 : slE Try.prog 22 = some (9, 1) := by kernel_rfl
@[simp] theorem byE_9 : byE Try.prog 9 = some 16 := by kernel_rfl
@[simp] theorem isStr_22 : isStr Try.prog 22 = false := by kernel_rfl
@[simp] theorem eqTy_22 : eqTy Try.prog 22 = none := by kernel_rfl
@[simp] theorem tyL_23 : tyL Try.prog 23 = some (1, false) := by kernel_rfl
@[simp] theorem zcells_23 : zcells Try.prog 23 = some [.w true true (.sl 0 [])] := by kernel_rfl
@[simp] theorem slE_23 : slE Try.prog 23 = some (58, 5) := by kernel_rfl
@[simp] theorem byE_58 : byE Try.prog 58 = some 64 := by kernel_rfl
@[simp] theorem isStr_23 : isStr Try.prog 23 = false := by kernel_rfl
@[simp] theorem eqTy_23 : eqTy Try.prog 23 = none := by kernel_rfl
@[simp] theorem tyL_24 : tyL Try.prog 24 = some (2, true) := by kernel_rfl
@[simp] theorem zcells_24 : zcells Try.prog 24 = some [.w true true (.sl 0 []), .w true true (.sl 0 [])] := by kernel_rfl
@[simp] theorem slE_24 : slE Try.prog 24 = none := by kernel_rfl
@[simp] theorem isStr_24 : isStr Try.prog 24 = false := by kernel_rfl
@[simp] theorem fOf_24_0 : fOf Try.prog 24 0 = some (0, 1, false) := by kernel_rfl
@[simp] theorem fOf_24_1 : fOf Try.prog 24 1 = some (1, 1, false) := by kernel_rfl
@[simp] theorem pls_24 : pls Try.prog 24 = some [(0, 1), (1, 1)] := by kernel_rfl
@[simp] theorem tyL_25 : tyL Try.prog 25 = some (2, true) := by kernel_rfl
@[simp] theorem zcells_25 : zcells Try.prog 25 = some [.w true true (.sl 0 []), .w true true (.sl 0 [])] := by kernel_rfl
@[simp] theorem slE_25 : slE Try.prog 25 = none := by kernel_rfl
@[simp] theorem isStr_25 : isStr Try.prog 25 = false := by kernel_rfl
@[simp] theorem fOf_25_0 : fOf Try.prog 25 0 = some (0, 1, false) := by kernel_rfl
@[simp] theorem fOf_25_1 : fOf Try.prog 25 1 = some (1, 1, false) := by kernel_rfl
@[simp] theorem pls_25 : pls Try.prog 25 = some [(0, 1), (1, 1)] := by kernel_rfl
@[simp] theorem tyL_26 : tyL Try.prog 26 = some (3, true) := by kernel_rfl
@[simp] theorem zcells_26 : zcells Try.prog 26 = some [.w false false (.int .i64 (0)), .w false false (.int .i64 (0)), .w false false (.int .i64 (0))] := by kernel_rfl
@[simp] theorem slE_26 : slE Try.prog 26 = none := by kernel_rfl
@[simp] theorem isStr_26 : isStr Try.prog 26 = false := by kernel_rfl
@[simp] theorem fOf_26_0 : fOf Try.prog 26 0 = some (0, 1, false) := by kernel_rfl
@[simp] theorem fOf_26_1 : fOf Try.prog 26 1 = some (1, 1, false) := by kernel_rfl
@[simp] theorem fOf_26_2 : fOf Try.prog 26 2 = some (2, 1, false) := by kernel_rfl
@[simp] theorem pls_26 : pls Try.prog 26 = some [(0, 1), (1, 1), (2, 1)] := by kernel_rfl
@[simp] theorem eqTy_26 : eqTy Try.prog 26 = some [1, 1, 1] := by kernel_rfl
@[simp] theorem tyL_27 : tyL Try.prog 27 = some (3, true) := by kernel_rfl
@[simp] theorem zcells_27 : zcells Try.prog 27 = some [.w false false (.int .i64 (0)), .w false false (.int .i64 (0)), .w false false (.int .i64 (0))] := by kernel_rfl
@[simp] theorem slE_27 : slE Try.prog 27 = none := by kernel_rfl
@[simp] theorem isStr_27 : isStr Try.prog 27 = false := by kernel_rfl
@[simp] theorem fOf_27_0 : fOf Try.prog 27 0 = some (0, 1, false) := by kernel_rfl
@[simp] theorem fOf_27_1 : fOf Try.prog 27 1 = some (1, 1, false) := by kernel_rfl
@[simp] theorem fOf_27_2 : fOf Try.prog 27 2 = some (2, 1, false) := by kernel_rfl
@[simp] theorem pls_27 : pls Try.prog 27 = some [(0, 1), (1, 1), (2, 1)] := by kernel_rfl
@[simp] theorem eqTy_27 : eqTy Try.prog 27 = some [1, 1, 1] := by kernel_rfl
@[simp] theorem tyL_28 : tyL Try.prog 28 = some (5, true) := by kernel_rfl
@[simp] theorem zcells_28 : zcells Try.prog 28 = some [.w false false (.int .i64 (0)), .w false false (.int .i64 (0)), .w false false (.int .i64 (0)), .w false false (.int .i64 (0)), .w false false (.int .i64 (0))] := by kernel_rfl
@[simp] theorem slE_28 : slE Try.prog 28 = none := by kernel_rfl
@[simp] theorem isStr_28 : isStr Try.prog 28 = false := by kernel_rfl
@[simp] theorem fOf_28_0 : fOf Try.prog 28 0 = some (0, 1, false) := by kernel_rfl
@[simp] theorem fOf_28_1 : fOf Try.prog 28 1 = some (1, 1, false) := by kernel_rfl
@[simp] theorem fOf_28_2 : fOf Try.prog 28 2 = some (2, 1, false) := by kernel_rfl
@[simp] theorem fOf_28_3 : fOf Try.prog 28 3 = some (3, 1, false) := by kernel_rfl
@[simp] theorem fOf_28_4 : fOf Try.prog 28 4 = some (4, 1, false) := by kernel_rfl
@[simp] theorem pls_28 : pls Try.prog 28 = some [(0, 1), (1, 1), (2, 1), (3, 1), (4, 1)] := by kernel_rfl
@[simp] theorem eqTy_28 : eqTy Try.prog 28 = some [1, 1, 1, 1, 1] := by kernel_rfl
@[simp] theorem tyL_29 : tyL Try.prog 29 = some (5, true) := by kernel_rfl
@[simp] theorem zcells_29 : zcells Try.prog 29 = some [.w false false (.int .i64 (0)), .w false false (.int .i64 (0)), .w false false (.int .i64 (0)), .w false false (.int .i64 (0)), .w false false (.int .i64 (0))] := by kernel_rfl
@[simp] theorem slE_29 : slE Try.prog 29 = none := by kernel_rfl
@[simp] theorem isStr_29 : isStr Try.prog 29 = false := by kernel_rfl
@[simp] theorem fOf_29_0 : fOf Try.prog 29 0 = some (0, 1, false) := by kernel_rfl
@[simp] theorem fOf_29_1 : fOf Try.prog 29 1 = some (1, 1, false) := by kernel_rfl
@[simp] theorem fOf_29_2 : fOf Try.prog 29 2 = some (2, 1, false) := by kernel_rfl
@[simp] theorem fOf_29_3 : fOf Try.prog 29 3 = some (3, 1, false) := by kernel_rfl
@[simp] theorem fOf_29_4 : fOf Try.prog 29 4 = some (4, 1, false) := by kernel_rfl
@[simp] theorem pls_29 : pls Try.prog 29 = some [(0, 1), (1, 1), (2, 1), (3, 1), (4, 1)] := by kernel_rfl
@[simp] theorem eqTy_29 : eqTy Try.prog 29 = some [1, 1, 1, 1, 1] := by kernel_rfl
@[simp] theorem tyL_30 : tyL Try.prog 30 = some (1, false) := by kernel_rfl
@[simp] theorem tyL_31 : tyL Try.prog 31 = some (1, false) := by kernel_rfl
@[simp] theorem tyL_32 : tyL Try.prog 32 = some (1, false) := by kernel_rfl
@[simp] theorem tyL_33 : tyL Try.prog 33 = some (1, false) := by kernel_rfl
@[simp] theorem tyL_34 : tyL Try.prog 34 = some (1, false) := by kernel_rfl
@[simp] theorem tyL_35 : tyL Try.prog 35 = some (2, true) := by kernel_rfl
@[simp] theorem zcells_35 : zcells Try.prog 35 = some [.w false false (.int .i64 (0)), .w false false (.int .i64 (0))] := by kernel_rfl
@[simp] theorem slE_35 : slE Try.prog 35 = none := by kernel_rfl
@[simp] theorem isStr_35 : isStr Try.prog 35 = false := by kernel_rfl
@[simp] theorem fOf_35_0 : fOf Try.prog 35 0 = some (0, 1, false) := by kernel_rfl
@[simp] theorem fOf_35_1 : fOf Try.prog 35 1 = some (1, 1, false) := by kernel_rfl
@[simp] theorem pls_35 : pls Try.prog 35 = some [(0, 1), (1, 1)] := by kernel_rfl
@[simp] theorem eqTy_35 : eqTy Try.prog 35 = some [1, 1] := by kernel_rfl
@[simp] theorem tyL_36 : tyL Try.prog 36 = some (2, true) := by kernel_rfl
@[simp] theorem zcells_36 : zcells Try.prog 36 = some [.w false false (.int .i64 (0)), .w false false (.int .i64 (0))] := by kernel_rfl
@[simp] theorem slE_36 : slE Try.prog 36 = none := by kernel_rfl
@[simp] theorem isStr_36 : isStr Try.prog 36 = false := by kernel_rfl
@[simp] theorem fOf_36_0 : fOf Try.prog 36 0 = some (0, 1, false) := by kernel_rfl
@[simp] theorem fOf_36_1 : fOf Try.prog 36 1 = some (1, 1, false) := by kernel_rfl
@[simp] theorem pls_36 : pls Try.prog 36 = some [(0, 1), (1, 1)] := by kernel_rfl
@[simp] theorem eqTy_36 : eqTy Try.prog 36 = some [1, 1] := by kernel_rfl
@[simp] theorem tyL_37 : tyL Try.prog 37 = some (1, false) := by kernel_rfl
@[simp] theorem zcells_37 : zcells Try.prog 37 = some [.w false false (.int .i64 (0))] := by kernel_rfl
@[simp] theorem slE_37 : slE Try.prog 37 = none := by kernel_rfl
@[simp] theorem isStr_37 : isStr Try.prog 37 = false := by kernel_rfl
@[simp] theorem kindOf_37 : kindOf Try.prog 37 = some .i64 := by kernel_rfl
@[simp] theorem eqTy_37 : eqTy Try.prog 37 = none := by kernel_rfl
@[simp] theorem tyL_39 : tyL Try.prog 39 = some (1, false) := by kernel_rfl
@[simp] theorem tyL_40 : tyL Try.prog 40 = some (1, false) := by kernel_rfl
@[simp] theorem tyL_41 : tyL Try.prog 41 = some (1, false) := by kernel_rfl
@[simp] theorem tyL_43 : tyL Try.prog 43 = some (1, false) := by kernel_rfl
@[simp] theorem tyL_44 : tyL Try.prog 44 = some (4, true) := by kernel_rfl
@[simp] theorem zcells_44 : zcells Try.prog 44 = some [.w false false (.int .i64 (0)), .w false false (.int .i64 (0)), .w false false (.int .i64 (0)), .w false false (.int .i64 (0))] := by kernel_rfl
@[simp] theorem slE_44 : slE Try.prog 44 = none := by kernel_rfl
@[simp] theorem isStr_44 : isStr Try.prog 44 = false := by kernel_rfl
@[simp] theorem fOf_44_0 : fOf Try.prog 44 0 = some (0, 1, false) := by kernel_rfl
@[simp] theorem fOf_44_1 : fOf Try.prog 44 1 = some (1, 2, true) := by kernel_rfl
@[simp] theorem fOf_44_2 : fOf Try.prog 44 2 = some (3, 1, false) := by kernel_rfl
@[simp] theorem pls_44 : pls Try.prog 44 = some [(0, 1), (1, 2), (3, 1)] := by kernel_rfl
@[simp] theorem eqTy_44 : eqTy Try.prog 44 = some [1, 1, 1, 1] := by kernel_rfl
@[simp] theorem tyL_45 : tyL Try.prog 45 = some (4, true) := by kernel_rfl
@[simp] theorem zcells_45 : zcells Try.prog 45 = some [.w false false (.int .i64 (0)), .w false false (.int .i64 (0)), .w false false (.int .i64 (0)), .w false false (.int .i64 (0))] := by kernel_rfl
@[simp] theorem slE_45 : slE Try.prog 45 = none := by kernel_rfl
@[simp] theorem isStr_45 : isStr Try.prog 45 = false := by kernel_rfl
@[simp] theorem fOf_45_0 : fOf Try.prog 45 0 = some (0, 1, false) := by kernel_rfl
@[simp] theorem fOf_45_1 : fOf Try.prog 45 1 = some (1, 2, true) := by kernel_rfl
@[simp] theorem fOf_45_2 : fOf Try.prog 45 2 = some (3, 1, false) := by kernel_rfl
@[simp] theorem pls_45 : pls Try.prog 45 = some [(0, 1), (1, 2), (3, 1)] := by kernel_rfl
@[simp] theorem eqTy_45 : eqTy Try.prog 45 = some [1, 1, 1, 1] := by kernel_rfl
@[simp] theorem tyL_47 : tyL Try.prog 47 = some (1, false) := by kernel_rfl
@[simp] theorem tyL_48 : tyL Try.prog 48 = some (1, false) := by kernel_rfl
@[simp] theorem zcells_48 : zcells Try.prog 48 = some [.w true true (.sl 0 [])] := by kernel_rfl
@[simp] theorem slE_48 : slE Try.prog 48 = some (3, 1) := by kernel_rfl
@[simp] theorem byE_3 : byE Try.prog 3 = some 8 := by kernel_rfl
@[simp] theorem isStr_48 : isStr Try.prog 48 = false := by kernel_rfl
@[simp] theorem eqTy_48 : eqTy Try.prog 48 = none := by kernel_rfl
@[simp] theorem tyL_50 : tyL Try.prog 50 = some (1, false) := by kernel_rfl
@[simp] theorem tyL_51 : tyL Try.prog 51 = some (1, false) := by kernel_rfl
@[simp] theorem tyL_52 : tyL Try.prog 52 = some (1, false) := by kernel_rfl
@[simp] theorem tyL_53 : tyL Try.prog 53 = some (1, false) := by kernel_rfl
@[simp] theorem tyL_54 : tyL Try.prog 54 = some (1, false) := by kernel_rfl
@[simp] theorem zcells_54 : zcells Try.prog 54 = some [.w true true (.sl 0 [])] := by kernel_rfl
@[simp] theorem slE_54 : slE Try.prog 54 = some (88, 3) := by kernel_rfl
@[simp] theorem byE_88 : byE Try.prog 88 = some 32 := by kernel_rfl
@[simp] theorem isStr_54 : isStr Try.prog 54 = false := by kernel_rfl
@[simp] theorem eqTy_54 : eqTy Try.prog 54 = none := by kernel_rfl
@[simp] theorem tyL_55 : tyL Try.prog 55 = some (1, false) := by kernel_rfl
@[simp] theorem tyL_56 : tyL Try.prog 56 = some (1, false) := by kernel_rfl
@[simp] theorem zcells_56 : zcells Try.prog 56 = some [.w true true (.sl 0 [])] := by kernel_rfl
@[simp] theorem slE_56 : slE Try.prog 56 = some (110, 3) := by kernel_rfl
@[simp] theorem byE_110 : byE Try.prog 110 = some 24 := by kernel_rfl
@[simp] theorem isStr_56 : isStr Try.prog 56 = false := by kernel_rfl
@[simp] theorem eqTy_56 : eqTy Try.prog 56 = none := by kernel_rfl
@[simp] theorem tyL_57 : tyL Try.prog 57 = some (5, true) := by kernel_rfl
@[simp] theorem zcells_57 : zcells Try.prog 57 = some [.w false false (.str ByteArray.empty), .w false false (.int .i64 (0)), .w false false (.int .i64 (0)), .w false false (.int .i64 (0)), .w true true (.sl 0 [])] := by kernel_rfl
@[simp] theorem slE_57 : slE Try.prog 57 = none := by kernel_rfl
@[simp] theorem isStr_57 : isStr Try.prog 57 = false := by kernel_rfl
@[simp] theorem fOf_57_0 : fOf Try.prog 57 0 = some (0, 1, false) := by kernel_rfl
@[simp] theorem fOf_57_1 : fOf Try.prog 57 1 = some (1, 1, false) := by kernel_rfl
@[simp] theorem fOf_57_2 : fOf Try.prog 57 2 = some (2, 1, false) := by kernel_rfl
@[simp] theorem fOf_57_3 : fOf Try.prog 57 3 = some (3, 1, false) := by kernel_rfl
@[simp] theorem fOf_57_4 : fOf Try.prog 57 4 = some (4, 1, false) := by kernel_rfl
@[simp] theorem pls_57 : pls Try.prog 57 = some [(0, 1), (1, 1), (2, 1), (3, 1), (4, 1)] := by kernel_rfl
@[simp] theorem tyL_58 : tyL Try.prog 58 = some (5, true) := by kernel_rfl
@[simp] theorem zcells_58 : zcells Try.prog 58 = some [.w false false (.str ByteArray.empty), .w false false (.int .i64 (0)), .w false false (.int .i64 (0)), .w false false (.int .i64 (0)), .w true true (.sl 0 [])] := by kernel_rfl
@[simp] theorem slE_58 : slE Try.prog 58 = none := by kernel_rfl
@[simp] theorem isStr_58 : isStr Try.prog 58 = false := by kernel_rfl
@[simp] theorem fOf_58_0 : fOf Try.prog 58 0 = some (0, 1, false) := by kernel_rfl
@[simp] theorem fOf_58_1 : fOf Try.prog 58 1 = some (1, 1, false) := by kernel_rfl
@[simp] theorem fOf_58_2 : fOf Try.prog 58 2 = some (2, 1, false) := by kernel_rfl
@[simp] theorem fOf_58_3 : fOf Try.prog 58 3 = some (3, 1, false) := by kernel_rfl
@[simp] theorem fOf_58_4 : fOf Try.prog 58 4 = some (4, 1, false) := by kernel_rfl
@[simp] theorem pls_58 : pls Try.prog 58 = some [(0, 1), (1, 1), (2, 1), (3, 1), (4, 1)] := by kernel_rfl
@[simp] theorem tyL_59 : tyL Try.prog 59 = some (2, true) := by kernel_rfl
@[simp] theorem zcells_59 : zcells Try.prog 59 = some [.w false false (.int .i64 (0)), .w false false (.int .i64 (0))] := by kernel_rfl
@[simp] theorem slE_59 : slE Try.prog 59 = none := by kernel_rfl
@[simp] theorem isStr_59 : isStr Try.prog 59 = false := by kernel_rfl
@[simp] theorem fOf_59_0 : fOf Try.prog 59 0 = some (0, 1, false) := by kernel_rfl
@[simp] theorem fOf_59_1 : fOf Try.prog 59 1 = some (1, 1, false) := by kernel_rfl
@[simp] theorem pls_59 : pls Try.prog 59 = some [(0, 1), (1, 1)] := by kernel_rfl
@[simp] theorem eqTy_59 : eqTy Try.prog 59 = some [1, 1] := by kernel_rfl
@[simp] theorem tyL_60 : tyL Try.prog 60 = some (2, true) := by kernel_rfl
@[simp] theorem zcells_60 : zcells Try.prog 60 = some [.w false false (.int .i64 (0)), .w false false (.int .i64 (0))] := by kernel_rfl
@[simp] theorem slE_60 : slE Try.prog 60 = none := by kernel_rfl
@[simp] theorem isStr_60 : isStr Try.prog 60 = false := by kernel_rfl
@[simp] theorem fOf_60_0 : fOf Try.prog 60 0 = some (0, 1, false) := by kernel_rfl
@[simp] theorem fOf_60_1 : fOf Try.prog 60 1 = some (1, 1, false) := by kernel_rfl
@[simp] theorem pls_60 : pls Try.prog 60 = some [(0, 1), (1, 1)] := by kernel_rfl
@[simp] theorem eqTy_60 : eqTy Try.prog 60 = some [1, 1] := by kernel_rfl
@[simp] theorem tyL_62 : tyL Try.prog 62 = some (1, false) := by kernel_rfl
@[simp] theorem tyL_63 : tyL Try.prog 63 = some (1, false) := by kernel_rfl
@[simp] theorem tyL_64 : tyL Try.prog 64 = some (1, false) := by kernel_rfl
@[simp] theorem tyL_65 : tyL Try.prog 65 = some (2, true) := by kernel_rfl
@[simp] theorem zcells_65 : zcells Try.prog 65 = some [.w true true (.sl 0 []), .w true true (.sl 0 [])] := by kernel_rfl
@[simp] theorem slE_65 : slE Try.prog 65 = none := by kernel_rfl
@[simp] theorem isStr_65 : isStr Try.prog 65 = false := by kernel_rfl
@[simp] theorem fOf_65_0 : fOf Try.prog 65 0 = some (0, 2, true) := by kernel_rfl
@[simp] theorem pls_65 : pls Try.prog 65 = some [(0, 2)] := by kernel_rfl
@[simp] theorem tyL_66 : tyL Try.prog 66 = some (2, true) := by kernel_rfl
@[simp] theorem zcells_66 : zcells Try.prog 66 = some [.w true true (.sl 0 []), .w true true (.sl 0 [])] := by kernel_rfl
@[simp] theorem slE_66 : slE Try.prog 66 = none := by kernel_rfl
@[simp] theorem isStr_66 : isStr Try.prog 66 = false := by kernel_rfl
@[simp] theorem fOf_66_0 : fOf Try.prog 66 0 = some (0, 2, true) := by kernel_rfl
@[simp] theorem pls_66 : pls Try.prog 66 = some [(0, 2)] := by kernel_rfl
@[simp] theorem tyL_68 : tyL Try.prog 68 = some (1, false) := by kernel_rfl
@[simp] theorem tyL_69 : tyL Try.prog 69 = some (2, true) := by kernel_rfl
@[simp] theorem zcells_69 : zcells Try.prog 69 = some [.w true true (.sl 0 []), .w true true (.sl 0 [])] := by kernel_rfl
@[simp] theorem slE_69 : slE Try.prog 69 = none := by kernel_rfl
@[simp] theorem isStr_69 : isStr Try.prog 69 = false := by kernel_rfl
@[simp] theorem fOf_69_0 : fOf Try.prog 69 0 = some (0, 1, false) := by kernel_rfl
@[simp] theorem fOf_69_1 : fOf Try.prog 69 1 = some (1, 1, false) := by kernel_rfl
@[simp] theorem pls_69 : pls Try.prog 69 = some [(0, 1), (1, 1)] := by kernel_rfl
@[simp] theorem tyL_70 : tyL Try.prog 70 = some (2, true) := by kernel_rfl
@[simp] theorem zcells_70 : zcells Try.prog 70 = some [.w true true (.sl 0 []), .w true true (.sl 0 [])] := by kernel_rfl
@[simp] theorem slE_70 : slE Try.prog 70 = none := by kernel_rfl
@[simp] theorem isStr_70 : isStr Try.prog 70 = false := by kernel_rfl
@[simp] theorem fOf_70_0 : fOf Try.prog 70 0 = some (0, 1, false) := by kernel_rfl
@[simp] theorem fOf_70_1 : fOf Try.prog 70 1 = some (1, 1, false) := by kernel_rfl
@[simp] theorem pls_70 : pls Try.prog 70 = some [(0, 1), (1, 1)] := by kernel_rfl
@[simp] theorem tyL_71 : tyL Try.prog 71 = some (1, false) := by kernel_rfl
@[simp] theorem tyL_72 : tyL Try.prog 72 = some (1, false) := by kernel_rfl
@[simp] theorem tyL_73 : tyL Try.prog 73 = some (1, false) := by kernel_rfl
@[simp] theorem tyL_74 : tyL Try.prog 74 = some (6, true) := by kernel_rfl
@[simp] theorem zcells_74 : zcells Try.prog 74 = some [.w false false (.int .i64 (0)), .w false false (.int .i64 (0)), .w false false (.int .i64 (0)), .w false false (.int .i64 (0)), .w false false (.int .i64 (0)), .w true true (.sl 0 [])] := by kernel_rfl
@[simp] theorem slE_74 : slE Try.prog 74 = none := by kernel_rfl
@[simp] theorem isStr_74 : isStr Try.prog 74 = false := by kernel_rfl
@[simp] theorem fOf_74_0 : fOf Try.prog 74 0 = some (0, 5, true) := by kernel_rfl
@[simp] theorem fOf_74_1 : fOf Try.prog 74 1 = some (5, 1, false) := by kernel_rfl
@[simp] theorem pls_74 : pls Try.prog 74 = some [(0, 5), (5, 1)] := by kernel_rfl
@[simp] theorem tyL_75 : tyL Try.prog 75 = some (6, true) := by kernel_rfl
@[simp] theorem zcells_75 : zcells Try.prog 75 = some [.w false false (.int .i64 (0)), .w false false (.int .i64 (0)), .w false false (.int .i64 (0)), .w false false (.int .i64 (0)), .w false false (.int .i64 (0)), .w true true (.sl 0 [])] := by kernel_rfl
@[simp] theorem slE_75 : slE Try.prog 75 = none := by kernel_rfl
@[simp] theorem isStr_75 : isStr Try.prog 75 = false := by kernel_rfl
@[simp] theorem fOf_75_0 : fOf Try.prog 75 0 = some (0, 5, true) := by kernel_rfl
@[simp] theorem fOf_75_1 : fOf Try.prog 75 1 = some (5, 1, false) := by kernel_rfl
@[simp] theorem pls_75 : pls Try.prog 75 = some [(0, 5), (5, 1)] := by kernel_rfl
@[simp] theorem tyL_77 : tyL Try.prog 77 = some (1, false) := by kernel_rfl
@[simp] theorem tyL_78 : tyL Try.prog 78 = some (1, false) := by kernel_rfl
@[simp] theorem tyL_79 : tyL Try.prog 79 = some (1, false) := by kernel_rfl
@[simp] theorem tyL_80 : tyL Try.prog 80 = some (1, false) := by kernel_rfl
@[simp] theorem tyL_81 : tyL Try.prog 81 = some (1, false) := by kernel_rfl
@[simp] theorem tyL_82 : tyL Try.prog 82 = some (1, false) := by kernel_rfl
@[simp] theorem tyL_83 : tyL Try.prog 83 = some (1, false) := by kernel_rfl
@[simp] theorem tyL_84 : tyL Try.prog 84 = some (1, false) := by kernel_rfl
@[simp] theorem tyL_85 : tyL Try.prog 85 = some (1, false) := by kernel_rfl
@[simp] theorem tyL_86 : tyL Try.prog 86 = some (1, false) := by kernel_rfl
@[simp] theorem tyL_87 : tyL Try.prog 87 = some (3, true) := by kernel_rfl
@[simp] theorem zcells_87 : zcells Try.prog 87 = some [.w false false (.str ByteArray.empty), .w false false (.int .i64 (0)), .w false false (.int .i64 (0))] := by kernel_rfl
@[simp] theorem slE_87 : slE Try.prog 87 = none := by kernel_rfl
@[simp] theorem isStr_87 : isStr Try.prog 87 = false := by kernel_rfl
@[simp] theorem fOf_87_0 : fOf Try.prog 87 0 = some (0, 1, false) := by kernel_rfl
@[simp] theorem fOf_87_1 : fOf Try.prog 87 1 = some (1, 1, false) := by kernel_rfl
@[simp] theorem fOf_87_2 : fOf Try.prog 87 2 = some (2, 1, false) := by kernel_rfl
@[simp] theorem pls_87 : pls Try.prog 87 = some [(0, 1), (1, 1), (2, 1)] := by kernel_rfl
@[simp] theorem eqTy_87 : eqTy Try.prog 87 = some [2, 1, 1] := by kernel_rfl
@[simp] theorem tyL_88 : tyL Try.prog 88 = some (3, true) := by kernel_rfl
@[simp] theorem zcells_88 : zcells Try.prog 88 = some [.w false false (.str ByteArray.empty), .w false false (.int .i64 (0)), .w false false (.int .i64 (0))] := by kernel_rfl
@[simp] theorem slE_88 : slE Try.prog 88 = none := by kernel_rfl
@[simp] theorem isStr_88 : isStr Try.prog 88 = false := by kernel_rfl
@[simp] theorem fOf_88_0 : fOf Try.prog 88 0 = some (0, 1, false) := by kernel_rfl
@[simp] theorem fOf_88_1 : fOf Try.prog 88 1 = some (1, 1, false) := by kernel_rfl
@[simp] theorem fOf_88_2 : fOf Try.prog 88 2 = some (2, 1, false) := by kernel_rfl
@[simp] theorem pls_88 : pls Try.prog 88 = some [(0, 1), (1, 1), (2, 1)] := by kernel_rfl
@[simp] theorem eqTy_88 : eqTy Try.prog 88 = some [2, 1, 1] := by kernel_rfl
@[simp] theorem tyL_89 : tyL Try.prog 89 = some (1, false) := by kernel_rfl
@[simp] theorem tyL_90 : tyL Try.prog 90 = some (1, false) := by kernel_rfl
@[simp] theorem tyL_92 : tyL Try.prog 92 = some (1, false) := by kernel_rfl
@[simp] theorem tyL_93 : tyL Try.prog 93 = some (1, false) := by kernel_rfl
@[simp] theorem tyL_94 : tyL Try.prog 94 = some (1, false) := by kernel_rfl
@[simp] theorem tyL_95 : tyL Try.prog 95 = some (1, false) := by kernel_rfl
@[simp] theorem tyL_96 : tyL Try.prog 96 = some (1, false) := by kernel_rfl
@[simp] theorem tyL_97 : tyL Try.prog 97 = some (1, false) := by kernel_rfl
@[simp] theorem tyL_98 : tyL Try.prog 98 = some (1, false) := by kernel_rfl
@[simp] theorem tyL_99 : tyL Try.prog 99 = some (1, false) := by kernel_rfl
@[simp] theorem tyL_100 : tyL Try.prog 100 = some (1, false) := by kernel_rfl
@[simp] theorem tyL_101 : tyL Try.prog 101 = some (2, true) := by kernel_rfl
@[simp] theorem zcells_101 : zcells Try.prog 101 = some [.w false false (.int .i64 (0)), .w false false (.int .i64 (0))] := by kernel_rfl
@[simp] theorem slE_101 : slE Try.prog 101 = none := by kernel_rfl
@[simp] theorem isStr_101 : isStr Try.prog 101 = false := by kernel_rfl
@[simp] theorem fOf_101_0 : fOf Try.prog 101 0 = some (0, 1, false) := by kernel_rfl
@[simp] theorem fOf_101_1 : fOf Try.prog 101 1 = some (1, 1, false) := by kernel_rfl
@[simp] theorem pls_101 : pls Try.prog 101 = some [(0, 1), (1, 1)] := by kernel_rfl
@[simp] theorem eqTy_101 : eqTy Try.prog 101 = some [1, 1] := by kernel_rfl
@[simp] theorem tyL_102 : tyL Try.prog 102 = some (2, true) := by kernel_rfl
@[simp] theorem zcells_102 : zcells Try.prog 102 = some [.w false false (.int .i64 (0)), .w false false (.int .i64 (0))] := by kernel_rfl
@[simp] theorem slE_102 : slE Try.prog 102 = none := by kernel_rfl
@[simp] theorem isStr_102 : isStr Try.prog 102 = false := by kernel_rfl
@[simp] theorem fOf_102_0 : fOf Try.prog 102 0 = some (0, 1, false) := by kernel_rfl
@[simp] theorem fOf_102_1 : fOf Try.prog 102 1 = some (1, 1, false) := by kernel_rfl
@[simp] theorem pls_102 : pls Try.prog 102 = some [(0, 1), (1, 1)] := by kernel_rfl
@[simp] theorem eqTy_102 : eqTy Try.prog 102 = some [1, 1] := by kernel_rfl
@[simp] theorem tyL_103 : tyL Try.prog 103 = some (1, false) := by kernel_rfl
@[simp] theorem tyL_104 : tyL Try.prog 104 = some (1, false) := by kernel_rfl
@[simp] theorem tyL_105 : tyL Try.prog 105 = some (1, false) := by kernel_rfl
@[simp] theorem zcells_105 : zcells Try.prog 105 = some [.w false false (.int .u64 (0))] := by kernel_rfl
@[simp] theorem slE_105 : slE Try.prog 105 = none := by kernel_rfl
@[simp] theorem isStr_105 : isStr Try.prog 105 = false := by kernel_rfl
@[simp] theorem kindOf_105 : kindOf Try.prog 105 = some .u64 := by kernel_rfl
@[simp] theorem eqTy_105 : eqTy Try.prog 105 = none := by kernel_rfl
@[simp] theorem tyL_106 : tyL Try.prog 106 = some (1, false) := by kernel_rfl
@[simp] theorem tyL_107 : tyL Try.prog 107 = some (1, false) := by kernel_rfl
@[simp] theorem tyL_108 : tyL Try.prog 108 = some (1, false) := by kernel_rfl
@[simp] theorem zcells_108 : zcells Try.prog 108 = some [.w true true (.sl 0 [])] := by kernel_rfl
@[simp] theorem slE_108 : slE Try.prog 108 = some (37, 1) := by kernel_rfl
@[simp] theorem byE_37 : byE Try.prog 37 = some 8 := by kernel_rfl
@[simp] theorem isStr_108 : isStr Try.prog 108 = false := by kernel_rfl
@[simp] theorem eqTy_108 : eqTy Try.prog 108 = none := by kernel_rfl
@[simp] theorem tyL_109 : tyL Try.prog 109 = some (3, true) := by kernel_rfl
@[simp] theorem zcells_109 : zcells Try.prog 109 = some [.w false false (.int .i64 (0)), .w false false (.int .i64 (0)), .w false false (.int .i64 (0))] := by kernel_rfl
@[simp] theorem slE_109 : slE Try.prog 109 = none := by kernel_rfl
@[simp] theorem isStr_109 : isStr Try.prog 109 = false := by kernel_rfl
@[simp] theorem fOf_109_0 : fOf Try.prog 109 0 = some (0, 1, false) := by kernel_rfl
@[simp] theorem fOf_109_1 : fOf Try.prog 109 1 = some (1, 2, true) := by kernel_rfl
@[simp] theorem pls_109 : pls Try.prog 109 = some [(0, 1), (1, 2)] := by kernel_rfl
@[simp] theorem eqTy_109 : eqTy Try.prog 109 = some [1, 1, 1] := by kernel_rfl
@[simp] theorem tyL_110 : tyL Try.prog 110 = some (3, true) := by kernel_rfl
@[simp] theorem zcells_110 : zcells Try.prog 110 = some [.w false false (.int .i64 (0)), .w false false (.int .i64 (0)), .w false false (.int .i64 (0))] := by kernel_rfl
@[simp] theorem slE_110 : slE Try.prog 110 = none := by kernel_rfl
@[simp] theorem isStr_110 : isStr Try.prog 110 = false := by kernel_rfl
@[simp] theorem fOf_110_0 : fOf Try.prog 110 0 = some (0, 1, false) := by kernel_rfl
@[simp] theorem fOf_110_1 : fOf Try.prog 110 1 = some (1, 2, true) := by kernel_rfl
@[simp] theorem pls_110 : pls Try.prog 110 = some [(0, 1), (1, 2)] := by kernel_rfl
@[simp] theorem eqTy_110 : eqTy Try.prog 110 = some [1, 1, 1] := by kernel_rfl
@[simp] theorem tyL_111 : tyL Try.prog 111 = some (1, false) := by kernel_rfl
@[simp] theorem tyL_113 : tyL Try.prog 113 = some (1, false) := by kernel_rfl
@[simp] theorem tyL_115 : tyL Try.prog 115 = some (1, false) := by kernel_rfl
@[simp] theorem tyL_116 : tyL Try.prog 116 = some (1, false) := by kernel_rfl
@[simp] theorem tyL_117 : tyL Try.prog 117 = some (1, false) := by kernel_rfl
@[simp] theorem tyL_118 : tyL Try.prog 118 = some (1, false) := by kernel_rfl
@[simp] theorem tyL_119 : tyL Try.prog 119 = some (1, false) := by kernel_rfl
@[simp] theorem tyL_120 : tyL Try.prog 120 = some (1, false) := by kernel_rfl
@[simp] theorem tyL_121 : tyL Try.prog 121 = some (1, false) := by kernel_rfl
@[simp] theorem tyL_122 : tyL Try.prog 122 = some (1, false) := by kernel_rfl
@[simp] theorem tyL_123 : tyL Try.prog 123 = some (5, true) := by kernel_rfl
@[simp] theorem zcells_123 : zcells Try.prog 123 = some [.w false false (.int .i64 (0)), .w false false (.int .i64 (0)), .w false false (.int .i64 (0)), .w false false (.int .i64 (0)), .w false false (.int .i64 (0))] := by kernel_rfl
@[simp] theorem slE_123 : slE Try.prog 123 = none := by kernel_rfl
@[simp] theorem arE_123 : arE Try.prog 123 = some (5, 1) := by kernel_rfl
@[simp] theorem isStr_123 : isStr Try.prog 123 = false := by kernel_rfl
@[simp] theorem pls_123 : pls Try.prog 123 = some [(0, 1), (1, 1), (2, 1), (3, 1), (4, 1)] := by kernel_rfl
@[simp] theorem eqTy_123 : eqTy Try.prog 123 = some [1, 1, 1, 1, 1] := by kernel_rfl
@[simp] theorem tyL_124 : tyL Try.prog 124 = some (1, false) := by kernel_rfl
@[simp] theorem tyL_125 : tyL Try.prog 125 = some (1, false) := by kernel_rfl
@[simp] theorem zcells_125 : zcells Try.prog 125 = some [.w true true (.sl 0 [])] := by kernel_rfl
@[simp] theorem slE_125 : slE Try.prog 125 = some (127, 2) := by kernel_rfl
@[simp] theorem byE_127 : byE Try.prog 127 = some 16 := by kernel_rfl
@[simp] theorem isStr_125 : isStr Try.prog 125 = false := by kernel_rfl
@[simp] theorem eqTy_125 : eqTy Try.prog 125 = none := by kernel_rfl
@[simp] theorem tyL_126 : tyL Try.prog 126 = some (1, false) := by kernel_rfl
@[simp] theorem tyL_127 : tyL Try.prog 127 = some (2, true) := by kernel_rfl
@[simp] theorem zcells_127 : zcells Try.prog 127 = some [.w false false (.int .i64 (0)), .w false false (.int .i64 (0))] := by kernel_rfl
@[simp] theorem slE_127 : slE Try.prog 127 = none := by kernel_rfl
@[simp] theorem arE_127 : arE Try.prog 127 = some (2, 1) := by kernel_rfl
@[simp] theorem isStr_127 : isStr Try.prog 127 = false := by kernel_rfl
@[simp] theorem pls_127 : pls Try.prog 127 = some [(0, 1), (1, 1)] := by kernel_rfl
@[simp] theorem eqTy_127 : eqTy Try.prog 127 = some [1, 1] := by kernel_rfl
@[simp] theorem tyL_128 : tyL Try.prog 128 = some (1, false) := by kernel_rfl
@[simp] theorem zcells_128 : zcells Try.prog 128 = some [.w true true (.sl 0 [])] := by kernel_rfl
@[simp] theorem slE_128 : slE Try.prog 128 = some (5, 1) := by kernel_rfl
@[simp] theorem byE_5 : byE Try.prog 5 = some 1 := by kernel_rfl
@[simp] theorem isStr_128 : isStr Try.prog 128 = false := by kernel_rfl
@[simp] theorem eqTy_128 : eqTy Try.prog 128 = none := by kernel_rfl
@[simp] theorem tyL_129 : tyL Try.prog 129 = some (1, false) := by kernel_rfl
@[simp] theorem tyL_130 : tyL Try.prog 130 = some (1, false) := by kernel_rfl
@[simp] theorem tyL_131 : tyL Try.prog 131 = some (1, false) := by kernel_rfl
@[simp] theorem tyL_132 : tyL Try.prog 132 = some (1, false) := by kernel_rfl
@[simp] theorem tyL_133 : tyL Try.prog 133 = some (1, false) := by kernel_rfl
@[simp] theorem tyL_134 : tyL Try.prog 134 = some (1, false) := by kernel_rfl
@[simp] theorem tyL_135 : tyL Try.prog 135 = some (1, false) := by kernel_rfl
@[simp] theorem tyL_136 : tyL Try.prog 136 = some (1, false) := by kernel_rfl
@[simp] theorem tyL_142 : tyL Try.prog 142 = some (1, false) := by kernel_rfl
@[simp] theorem zcells_142 : zcells Try.prog 142 = some [.w false false (.int .u32 (0))] := by kernel_rfl
@[simp] theorem slE_142 : slE Try.prog 142 = none := by kernel_rfl
@[simp] theorem isStr_142 : isStr Try.prog 142 = false := by kernel_rfl
@[simp] theorem kindOf_142 : kindOf Try.prog 142 = some .u32 := by kernel_rfl
@[simp] theorem eqTy_142 : eqTy Try.prog 142 = none := by kernel_rfl
@[simp] theorem tyL_146 : tyL Try.prog 146 = some (1, false) := by kernel_rfl
@[simp] theorem zcells_146 : zcells Try.prog 146 = some [.w true false .nilp] := by kernel_rfl
@[simp] theorem slE_146 : slE Try.prog 146 = none := by kernel_rfl
@[simp] theorem isStr_146 : isStr Try.prog 146 = false := by kernel_rfl
@[simp] theorem eqTy_146 : eqTy Try.prog 146 = none := by kernel_rfl
@[simp] theorem tyL_151 : tyL Try.prog 151 = some (1, false) := by kernel_rfl
@[simp] theorem byteSl_9_128 : byteSl Try.prog 9 128 = true := by kernel_rfl
@[simp] theorem byteSl_10_128 : byteSl Try.prog 10 128 = true := by kernel_rfl
@[simp] theorem byteSl_11_128 : byteSl Try.prog 11 128 = true := by kernel_rfl
end Go.Proofs.Ytgoemokfpfnlkaa
