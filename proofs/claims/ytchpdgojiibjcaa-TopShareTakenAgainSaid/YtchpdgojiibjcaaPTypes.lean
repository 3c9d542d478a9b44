/- Contracts of functions for this claim: lemmas alone. -/
import Derived.Test.YtchpdgojiibjcaaProg
import Derived.Test.YtchpdgojiibjcaaLd
import Derived.KernelRfl
set_option linter.unusedSimpArgs false
set_option linter.unusedVariables false
namespace Go.Proofs.Ytchpdgojiibjcaa
open Go Go.Fi
set_option maxRecDepth 100000
@[simp] theorem tyL_1 : tyL Try.prog 1 = some (1, false) := by kernel_rfl
@[simp] theorem tyL_2 : tyL Try.prog 2 = some (1, false) := by kernel_rfl
@[simp] theorem zcells_2 : zcells Try.prog 2 = some [.w false false (.int .i64 (0))] := by kernel_rfl
@[simp] theorem slE_2 : slE Try.prog 2 = none := by kernel_rfl
@[simp] theorem isStr_2 : isStr Try.prog 2 = false := by kernel_rfl
@[simp] theorem kindOf_2 : kindOf Try.prog 2 = some .i64 := by kernel_rfl
@[simp] theorem eqTy_2 : eqTy Try.prog 2 = none := by kernel_rfl
@[simp] theorem tyL_3 : tyL Try.prog 3 = some (1, false) := by kernel_rfl
@[simp] theorem zcells_3 : zcells Try.prog 3 = some [.w false false (.int .i64 (0))] := by kernel_rfl
@[simp] theorem slE_3 : slE Try.prog 3 = none := by kernel_rfl
@[simp] theorem isStr_3 : isStr Try.prog 3 = false := by kernel_rfl
@[simp] theorem kindOf_3 : kindOf Try.prog 3 = some .i64 := by kernel_rfl
@[simp] theorem eqTy_3 : eqTy Try.prog 3 = none := by kernel_rfl
@[simp] theorem tyL_4 : tyL Try.prog 4 = some (1, false) := by kernel_rfl
@[simp] theorem zcells_4 : zcells Try.prog 4 = some [.w false false (.bool false)] := by kernel_rfl
@[simp] theorem slE_4 : slE Try.prog 4 = none := by kernel_rfl
@[simp] theorem isStr_4 : isStr Try.prog 4 = false := by kernel_rfl
@[simp] theorem isBool_4 : isBool Try.prog 4 = true := by kernel_rfl
@[simp] theorem eqTy_4 : eqTy Try.prog 4 = none := by kernel_rfl
@[simp] theorem tyL_5 : tyL Try.prog 5 = some (1, false) := by kernel_rfl
@[simp] theorem zcells_5 : zcells Try.prog 5 = some [.w false false (.int .u8 (0))] := by kernel_rfl
@[simp] theorem slE_5 : slE Try.prog 5 = none := by kernel_rfl
@[simp] theorem isStr_5 : isStr Try.prog 5 = false := by kernel_rfl
@[simp] theorem kindOf_5 : kindOf Try.prog 5 = some .u8 := by kernel_rfl
@[simp] theorem eqTy_5 : eqTy Try.prog 5 = none := by kernel_rfl
@[simp] theorem tyL_9 : tyL Try.prog 9 = some (1, false) := by kernel_rfl
@[simp] theorem zcells_9 : zcells Try.prog 9 = some [.w false false (.str ByteArray.empty)] := by kernel_rfl
@[simp] theorem slE_9 : slE Try.prog 9 = none := by kernel_rfl
@[simp] theorem isStr_9 : isStr Try.prog 9 = true := by kernel_rfl
@[simp] theorem eqTy_9 : eqTy Try.prog 9 = none := by kernel_rfl
@[simp] theorem tyL_21 : tyL Try.prog 21 = some (1, false) := by kernel_rfl
@[simp] theorem zcells_21 : zcells Try.prog 21 = some [.w false false (.int .i32 (0))] := by kernel_rfl
@[simp] theorem slE_21 : slE Try.prog 21 = none := by kernel_rfl
@[simp] theorem isStr_21 : isStr Try.prog 21 = false := by kernel_rfl
@[simp] theorem kindOf_21 : kindOf Try.prog 21 = some .i32 := by kernel_rfl
@[simp] theorem eqTy_21 : eqTy Try.prog 21 = none := by kernel_rfl
@[simp] theorem tyL_22 : tyL Try.prog 22 = some (1, false) := by kernel_rfl
@[simp] theorem zcells_22 : zcells Try.prog 22 = some [.w true true (.sl 0 [])] := by kernel_rfl
@[simp] theorem slE_22 : slE Try.prog 22 = some (70, 1) := by kernel_rfl
@[simp] theorem byE_70 : byE Try.prog 70 = some 24 := by kernel_rfl
@[simp] theorem isStr_22 : isStr Try.prog 22 = false := by kernel_rfl
@[simp] theorem eqTy_22 : eqTy Try.prog 22 = none := by kernel_rfl
@[simp] theorem tyL_23 : tyL Try.prog 23 = some (1, true) := by kernel_rfl
@[simp] theorem zcells_23 : zcells Try.prog 23 = some [.w true true (.sl 0 [])] := by kernel_rfl
@[simp] theorem slE_23 : slE Try.prog 23 = none := by kernel_rfl
@[simp] theorem isStr_23 : isStr Try.prog 23 = false := by kernel_rfl
@[simp] theorem fOf_23_0 : fOf Try.prog 23 0 = some (0, 1, false) := by kernel_rfl
@[simp] theorem pls_23 : pls Try.prog 23 = some [(0, 1)] := by kernel_rfl
@[simp] theorem tyL_24 : tyL Try.prog 24 = some (1, true) := by kernel_rfl
@[simp] theorem zcells_24 : zcells Try.prog 24 = some [.w true true (.sl 0 [])] := by kernel_rfl
@[simp] theorem slE_24 : slE Try.prog 24 = none := by kernel_rfl
@[simp] theorem isStr_24 : isStr Try.prog 24 = false := by kernel_rfl
@[simp] theorem fOf_24_0 : fOf Try.prog 24 0 = some (0, 1, false) := by kernel_rfl
@[simp] theorem pls_24 : pls Try.prog 24 = some [(0, 1)] := by kernel_rfl
@[simp] theorem tyL_25 : tyL Try.prog 25 = some (3, true) := by kernel_rfl
@[simp] theorem zcells_25 : zcells Try.prog 25 = some [.w false false (.int .i64 (0)), .w false false (.int .i64 (0)), .w false false (.int .i64 (0))] := by kernel_rfl
@[simp] theorem slE_25 : slE Try.prog 25 = none := by kernel_rfl
@[simp] theorem isStr_25 : isStr Try.prog 25 = false := by kernel_rfl
@[simp] theorem fOf_25_0 : fOf Try.prog 25 0 = some (0, 1, false) := by kernel_rfl
@[simp] theorem fOf_25_1 : fOf Try.prog 25 1 = some (1, 1, false) := by kernel_rfl
@[simp] theorem fOf_25_2 : fOf Try.prog 25 2 = some (2, 1, false) := by kernel_rfl
@[simp] theorem pls_25 : pls Try.prog 25 = some [(0, 1), (1, 1), (2, 1)] := by kernel_rfl
@[simp] theorem eqTy_25 : eqTy Try.prog 25 = some [1, 1, 1] := by kernel_rfl
@[simp] theorem tyL_26 : tyL Try.prog 26 = some (3, true) := by kernel_rfl
@[simp] theorem zcells_26 : zcells Try.prog 26 = some [.w false false (.int .i64 (0)), .w false false (.int .i64 (0)), .w false false (.int .i64 (0))] := by kernel_rfl
@[simp] theorem slE_26 : slE Try.prog 26 = none := by kernel_rfl
@[simp] theorem isStr_26 : isStr Try.prog 26 = false := by kernel_rfl
@[simp] theorem fOf_26_0 : fOf Try.prog 26 0 = some (0, 1, false) := by kernel_rfl
@[simp] theorem fOf_26_1 : fOf Try.prog 26 1 = some (1, 1, false) := by kernel_rfl
@[simp] theorem fOf_26_2 : fOf Try.prog 26 2 = some (2, 1, false) := by kernel_rfl
@[simp] theorem pls_26 : pls Try.prog 26 = some [(0, 1), (1, 1), (2, 1)] := by kernel_rfl
@[simp] theorem eqTy_26 : eqTy Try.prog 26 = some [1, 1, 1] := by kernel_rfl
@[simp] theorem tyL_27 : tyL Try.prog 27 = some (1, false) := by kernel_rfl
@[simp] theorem zcells_27 : zcells Try.prog 27 = some [.w true true (.sl 0 [])] := by kernel_rfl
@[simp] theorem slE_27 : slE Try.prog 27 = some (36, 8) := by kernel_rfl
@[simp] theorem byE_36 : byE Try.prog 36 = some 72 := by kernel_rfl
@[simp] theorem isStr_27 : isStr Try.prog 27 = false := by kernel_rfl
@[simp] theorem eqTy_27 : eqTy Try.prog 27 = none := by kernel_rfl
@[simp] theorem tyL_28 : tyL Try.prog 28 = some (1, false) := by kernel_rfl
@[simp] theorem zcells_28 : zcells Try.prog 28 = some [.w true true (.sl 0 [])] := by kernel_rfl
@[simp] theorem slE_28 : slE Try.prog 28 = some (95, 2) := by kernel_rfl
@[simp] theorem byE_95 : byE Try.prog 95 = some 16 := by kernel_rfl
@[simp] theorem isStr_28 : isStr Try.prog 28 = false := by kernel_rfl
@[simp] theorem eqTy_28 : eqTy Try.prog 28 = none := by kernel_rfl
@[simp] theorem tyL_29 : tyL Try.prog 29 = some (5, true) := by kernel_rfl
@[simp] theorem zcells_29 : zcells Try.prog 29 = some [.w false false (.int .i64 (0)), .w false false (.int .i64 (0)), .w false false (.int .i64 (0)), .w true true (.sl 0 []), .w true true (.sl 0 [])] := by kernel_rfl
@[simp] theorem slE_29 : slE Try.prog 29 = none := by kernel_rfl
@[simp] theorem isStr_29 : isStr Try.prog 29 = false := by kernel_rfl
@[simp] theorem fOf_29_0 : fOf Try.prog 29 0 = some (0, 3, true) := by kernel_rfl
@[simp] theorem fOf_29_1 : fOf Try.prog 29 1 = some (3, 1, false) := by kernel_rfl
@[simp] theorem fOf_29_2 : fOf Try.prog 29 2 = some (4, 1, false) := by kernel_rfl
@[simp] theorem pls_29 : pls Try.prog 29 = some [(0, 3), (3, 1), (4, 1)] := by kernel_rfl
@[simp] theorem tyL_30 : tyL Try.prog 30 = some (5, true) := by kernel_rfl
@[simp] theorem zcells_30 : zcells Try.prog 30 = some [.w false false (.int .i64 (0)), .w false false (.int .i64 (0)), .w false false (.int .i64 (0)), .w true true (.sl 0 []), .w true true (.sl 0 [])] := by kernel_rfl
@[simp] theorem slE_30 : slE Try.prog 30 = none := by kernel_rfl
@[simp] theorem isStr_30 : isStr Try.prog 30 = false := by kernel_rfl
@[simp] theorem fOf_30_0 : fOf Try.prog 30 0 = some (0, 3, true) := by kernel_rfl
@[simp] theorem fOf_30_1 : fOf Try.prog 30 1 = some (3, 1, false) := by kernel_rfl
@[simp] theorem fOf_30_2 : fOf Try.prog 30 2 = some (4, 1, false) := by kernel_rfl
@[simp] theorem pls_30 : pls Try.prog 30 = some [(0, 3), (3, 1), (4, 1)] := by kernel_rfl
@[simp] theorem tyL_31 : tyL Try.prog 31 = some (1, false) := by kernel_rfl
@[simp] theorem tyL_32 : tyL Try.prog 32 = some (1, false) := by kernel_rfl
@[simp] theorem tyL_33 : tyL Try.prog 33 = some (1, false) := by kernel_rfl
@[simp] theorem tyL_34 : tyL Try.prog 34 = some (1, false) := by kernel_rfl
@[simp] theorem tyL_35 : tyL Try.prog 35 = some (8, true) := by kernel_rfl
@[simp] theorem zcells_35 : zcells Try.prog 35 = some [.w false false (.str ByteArray.empty), .w false false (.int .i64 (0)), .w false false (.int .i64 (0)), .w false false (.int .i64 (0)), .w false false (.int .i64 (0)), .w false false (.int .i64 (0)), .w false false (.bool false), .w false false (.int .i64 (0))] := by kernel_rfl
@[simp] theorem slE_35 : slE Try.prog 35 = none := by kernel_rfl
@[simp] theorem isStr_35 : isStr Try.prog 35 = false := by kernel_rfl
@[simp] theorem fOf_35_0 : fOf Try.prog 35 0 = some (0, 1, false) := by kernel_rfl
@[simp] theorem fOf_35_1 : fOf Try.prog 35 1 = some (1, 1, false) := by kernel_rfl
@[simp] theorem fOf_35_2 : fOf Try.prog 35 2 = some (2, 1, false) := by kernel_rfl
@[simp] theorem fOf_35_3 : fOf Try.prog 35 3 = some (3, 1, false) := by kernel_rfl
@[simp] theorem fOf_35_4 : fOf Try.prog 35 4 = some (4, 1, false) := by kernel_rfl
@[simp] theorem fOf_35_5 : fOf Try.prog 35 5 = some (5, 1, false) := by kernel_rfl
@[simp] theorem fOf_35_6 : fOf Try.prog 35 6 = some (6, 1, false) := by kernel_rfl
@[simp] theorem fOf_35_7 : fOf Try.prog 35 7 = some (7, 1, false) := by kernel_rfl
@[simp] theorem pls_35 : pls Try.prog 35 = some [(0, 1), (1, 1), (2, 1), (3, 1), (4, 1), (5, 1), (6, 1), (7, 1)] := by kernel_rfl
@[simp] theorem eqTy_35 : eqTy Try.prog 35 = some [2, 1, 1, 1, 1, 1, 0, 1] := by kernel_rfl
@[simp] theorem tyL_36 : tyL Try.prog 36 = some (8, true) := by kernel_rfl
@[simp] theorem zcells_36 : zcells Try.prog 36 = some [.w false false (.str ByteArray.empty), .w false false (.int .i64 (0)), .w false false (.int .i64 (0)), .w false false (.int .i64 (0)), .w false false (.int .i64 (0)), .w false false (.int .i64 (0)), .w false false (.bool false), .w false false (.int .i64 (0))] := by kernel_rfl
@[simp] theorem slE_36 : slE Try.prog 36 = none := by kernel_rfl
@[simp] theorem isStr_36 : isStr Try.prog 36 = false := by kernel_rfl
@[simp] theorem fOf_36_0 : fOf Try.prog 36 0 = some (0, 1, false) := by kernel_rfl
@[simp] theorem fOf_36_1 : fOf Try.prog 36 1 = some (1, 1, false) := by kernel_rfl
@[simp] theorem fOf_36_2 : fOf Try.prog 36 2 = some (2, 1, false) := by kernel_rfl
@[simp] theorem fOf_36_3 : fOf Try.prog 36 3 = some (3, 1, false) := by kernel_rfl
@[simp] theorem fOf_36_4 : fOf Try.prog 36 4 = some (4, 1, false) := by kernel_rfl
@[simp] theorem fOf_36_5 : fOf Try.prog 36 5 = some (5, 1, false) := by kernel_rfl
@[simp] theorem fOf_36_6 : fOf Try.prog 36 6 = some (6, 1, false) := by kernel_rfl
@[simp] theorem fOf_36_7 : fOf Try.prog 36 7 = some (7, 1, false) := by kernel_rfl
@[simp] theorem pls_36 : pls Try.prog 36 = some [(0, 1), (1, 1), (2, 1), (3, 1), (4, 1), (5, 1), (6, 1), (7, 1)] := by kernel_rfl
@[simp] theorem eqTy_36 : eqTy Try.prog 36 = some [2, 1, 1, 1, 1, 1, 0, 1] := by kernel_rfl
@[simp] theorem tyL_37 : tyL Try.prog 37 = some (2, true) := by kernel_rfl
@[simp] theorem zcells_37 : zcells Try.prog 37 = some [.w false false (.int .i64 (0)), .w false false (.int .i64 (0))] := by kernel_rfl
@[simp] theorem slE_37 : slE Try.prog 37 = none := by kernel_rfl
@[simp] theorem isStr_37 : isStr Try.prog 37 = false := by kernel_rfl
@[simp] theorem fOf_37_0 : fOf Try.prog 37 0 = some (0, 1, false) := by kernel_rfl
@[simp] theorem fOf_37_1 : fOf Try.prog 37 1 = some (1, 1, false) := by kernel_rfl
@[simp] theorem pls_37 : pls Try.prog 37 = some [(0, 1), (1, 1)] := by kernel_rfl
@[simp] theorem eqTy_37 : eqTy Try.prog 37 = some [1, 1] := by kernel_rfl
@[simp] theorem tyL_38 : tyL Try.prog 38 = some (2, true) := by kernel_rfl
@[simp] theorem zcells_38 : zcells Try.prog 38 = some [.w false false (.int .i64 (0)), .w false false (.int .i64 (0))] := by kernel_rfl
@[simp] theorem slE_38 : slE Try.prog 38 = none := by kernel_rfl
@[simp] theorem isStr_38 : isStr Try.prog 38 = false := by kernel_rfl
@[simp] theorem fOf_38_0 : fOf Try.prog 38 0 = some (0, 1, false) := by kernel_rfl
@[simp] theorem fOf_38_1 : fOf Try.prog 38 1 = some (1, 1, false) := by kernel_rfl
@[simp] theorem pls_38 : pls Try.prog 38 = some [(0, 1), (1, 1)] := by kernel_rfl
@[simp] theorem eqTy_38 : eqTy Try.prog 38 = some [1, 1] := by kernel_rfl
@[simp] theorem tyL_39 : tyL Try.prog 39 = some (1, false) := by kernel_rfl
@[simp] theorem zcells_39 : zcells Try.prog 39 = some [.w false false (.int .i64 (0))] := by kernel_rfl
@[simp] theorem slE_39 : slE Try.prog 39 = none := by kernel_rfl
@[simp] theorem isStr_39 : isStr Try.prog 39 = false := by kernel_rfl
@[simp] theorem kindOf_39 : kindOf Try.prog 39 = some .i64 := by kernel_rfl
@[simp] theorem eqTy_39 : eqTy Try.prog 39 = none := by kernel_rfl
@[simp] theorem tyL_41 : tyL Try.prog 41 = some (1, false) := by kernel_rfl
@[simp] theorem tyL_42 : tyL Try.prog 42 = some (1, false) := by kernel_rfl
@[simp] theorem tyL_43 : tyL Try.prog 43 = some (1, false) := by kernel_rfl
@[simp] theorem tyL_45 : tyL Try.prog 45 = some (1, false) := by kernel_rfl
@[simp] theorem tyL_47 : tyL Try.prog 47 = some (1, false) := by kernel_rfl
@[simp] theorem tyL_48 : tyL Try.prog 48 = some (3, true) := by kernel_rfl
@[simp] theorem zcells_48 : zcells Try.prog 48 = some [.w false false (.int .i64 (0)), .w false false (.int .i64 (0)), .w false false (.int .i64 (0))] := by kernel_rfl
@[simp] theorem slE_48 : slE Try.prog 48 = none := by kernel_rfl
@[simp] theorem isStr_48 : isStr Try.prog 48 = false := by kernel_rfl
@[simp] theorem fOf_48_0 : fOf Try.prog 48 0 = some (0, 1, false) := by kernel_rfl
@[simp] theorem fOf_48_1 : fOf Try.prog 48 1 = some (1, 1, false) := by kernel_rfl
@[simp] theorem fOf_48_2 : fOf Try.prog 48 2 = some (2, 1, false) := by kernel_rfl
@[simp] theorem pls_48 : pls Try.prog 48 = some [(0, 1), (1, 1), (2, 1)] := by kernel_rfl
@[simp] theorem eqTy_48 : eqTy Try.prog 48 = some [1, 1, 1] := by kernel_rfl
@[simp] theorem tyL_49 : tyL Try.prog 49 = some (3, true) := by kernel_rfl
@[simp] theorem zcells_49 : zcells Try.prog 49 = some [.w false false (.int .i64 (0)), .w false false (.int .i64 (0)), .w false false (.int .i64 (0))] := by kernel_rfl
@[simp] theorem slE_49 : slE Try.prog 49 = none := by kernel_rfl
@[simp] theorem isStr_49 : isStr Try.prog 49 = false := by kernel_rfl
@[simp] theorem fOf_49_0 : fOf Try.prog 49 0 = some (0, 1, false) := by kernel_rfl
@[simp] theorem fOf_49_1 : fOf Try.prog 49 1 = some (1, 1, false) := by kernel_rfl
@[simp] theorem fOf_49_2 : fOf Try.prog 49 2 = some (2, 1, false) := by kernel_rfl
@[simp] theorem pls_49 : pls Try.prog 49 = some [(0, 1), (1, 1), (2, 1)] := by kernel_rfl
@[simp] theorem eqTy_49 : eqTy Try.prog 49 = some [1, 1, 1] := by kernel_rfl
@[simp] theorem tyL_51 : tyL Try.prog 51 = some (1, false) := by kernel_rfl
@[simp] theorem tyL_52 : tyL Try.prog 52 = some (1, false) := by kernel_rfl
@[simp] theorem tyL_54 : tyL Try.prog 54 = some (1, false) := by kernel_rfl
@[simp] theorem tyL_55 : tyL Try.prog 55 = some (1, false) := by kernel_rfl
@[simp] theorem tyL_57 : tyL Try.prog 57 = some (1, false) := by kernel_rfl
@[simp] theorem tyL_58 : tyL Try.prog 58 = some (1, false) := by kernel_rfl
@[simp] theorem tyL_59 : tyL Try.prog 59 = some (1, false) := by kernel_rfl
@[simp] theorem tyL_60 : tyL Try.prog 60 = some (10, true) := by kernel_rfl
@[simp] theorem zcells_60 : zcells Try.prog 60 = some [.w false false (.str ByteArray.empty), .w false false (.int .i64 (0)), .w false false (.int .i64 (0)), .w false false (.int .i64 (0)), .w false false (.int .i64 (0)), .w false false (.int .i64 (0)), .w false false (.bool false), .w false false (.int .i64 (0)), .w false false (.int .i64 (0)), .w false false (.int .i64 (0))] := by kernel_rfl
@[simp] theorem slE_60 : slE Try.prog 60 = none := by kernel_rfl
@[simp] theorem isStr_60 : isStr Try.prog 60 = false := by kernel_rfl
@[simp] theorem fOf_60_0 : fOf Try.prog 60 0 = some (0, 8, true) := by kernel_rfl
@[simp] theorem fOf_60_1 : fOf Try.prog 60 1 = some (8, 1, false) := by kernel_rfl
@[simp] theorem fOf_60_2 : fOf Try.prog 60 2 = some (9, 1, false) := by kernel_rfl
@[simp] theorem pls_60 : pls Try.prog 60 = some [(0, 8), (8, 1), (9, 1)] := by kernel_rfl
@[simp] theorem eqTy_60 : eqTy Try.prog 60 = some [2, 1, 1, 1, 1, 1, 0, 1, 1, 1] := by kernel_rfl
@[simp] theorem tyL_61 : tyL Try.prog 61 = some (10, true) := by kernel_rfl
@[simp] theorem zcells_61 : zcells Try.prog 61 = some [.w false false (.str ByteArray.empty), .w false false (.int .i64 (0)), .w false false (.int .i64 (0)), .w false false (.int .i64 (0)), .w false false (.int .i64 (0)), .w false false (.int .i64 (0)), .w false false (.bool false), .w false false (.int .i64 (0)), .w false false (.int .i64 (0)), .w false false (.int .i64 (0))] := by kernel_rfl
@[simp] theorem slE_61 : slE Try.prog 61 = none := by kernel_rfl
@[simp] theorem isStr_61 : isStr Try.prog 61 = false := by kernel_rfl
@[simp] theorem fOf_61_0 : fOf Try.prog 61 0 = some (0, 8, true) := by kernel_rfl
@[simp] theorem fOf_61_1 : fOf Try.prog 61 1 = some (8, 1, false) := by kernel_rfl
@[simp] theorem fOf_61_2 : fOf Try.prog 61 2 = some (9, 1, false) := by kernel_rfl
@[simp] theorem pls_61 : pls Try.prog 61 = some [(0, 8), (8, 1), (9, 1)] := by kernel_rfl
@[simp] theorem eqTy_61 : eqTy Try.prog 61 = some [2, 1, 1, 1, 1, 1, 0, 1, 1, 1] := by kernel_rfl
@[simp] theorem tyL_62 : tyL Try.prog 62 = some (1, false) := by kernel_rfl
@[simp] theorem tyL_63 : tyL Try.prog 63 = some (1, false) := by kernel_rfl
@[simp] theorem zcells_63 : zcells Try.prog 63 = some [.w true true (.sl 0 [])] := by kernel_rfl
@[simp] theorem slE_63 : slE Try.prog 63 = some (49, 3) := by kernel_rfl
@[simp] theorem byE_49 : byE Try.prog 49 = some 24 := by kernel_rfl
@[simp] theorem isStr_63 : isStr Try.prog 63 = false := by kernel_rfl
@[simp] theorem eqTy_63 : eqTy Try.prog 63 = none := by kernel_rfl
@[simp] theorem tyL_65 : tyL Try.prog 65 = some (1, false) := by kernel_rfl
@[simp] theorem tyL_66 : tyL Try.prog 66 = some (2, true) := by kernel_rfl
@[simp] theorem zcells_66 : zcells Try.prog 66 = some [.w false false (.int .i64 (0)), .w false false (.int .i64 (0))] := by kernel_rfl
@[simp] theorem slE_66 : slE Try.prog 66 = none := by kernel_rfl
@[simp] theorem isStr_66 : isStr Try.prog 66 = false := by kernel_rfl
@[simp] theorem fOf_66_0 : fOf Try.prog 66 0 = some (0, 1, false) := by kernel_rfl
@[simp] theorem fOf_66_1 : fOf Try.prog 66 1 = some (1, 1, false) := by kernel_rfl
@[simp] theorem pls_66 : pls Try.prog 66 = some [(0, 1), (1, 1)] := by kernel_rfl
@[simp] theorem eqTy_66 : eqTy Try.prog 66 = some [1, 1] := by kernel_rfl
@[simp] theorem tyL_67 : tyL Try.prog 67 = some (2, true) := by kernel_rfl
@[simp] theorem zcells_67 : zcells Try.prog 67 = some [.w false false (.int .i64 (0)), .w false false (.int .i64 (0))] := by kernel_rfl
@[simp] theorem slE_67 : slE Try.prog 67 = none := by kernel_rfl
@[simp] theorem isStr_67 : isStr Try.prog 67 = false := by kernel_rfl
@[simp] theorem fOf_67_0 : fOf Try.prog 67 0 = some (0, 1, false) := by kernel_rfl
@[simp] theorem fOf_67_1 : fOf Try.prog 67 1 = some (1, 1, false) := by kernel_rfl
@[simp] theorem pls_67 : pls Try.prog 67 = some [(0, 1), (1, 1)] := by kernel_rfl
@[simp] theorem eqTy_67 : eqTy Try.prog 67 = some [1, 1] := by kernel_rfl
@[simp] theorem tyL_69 : tyL Try.prog 69 = some (1, false) := by kernel_rfl
@[simp] theorem tyL_70 : tyL Try.prog 70 = some (1, false) := by kernel_rfl
@[simp] theorem zcells_70 : zcells Try.prog 70 = some [.w true true (.sl 0 [])] := by kernel_rfl
@[simp] theorem slE_70 : slE Try.prog 70 = some (3, 1) := by kernel_rfl
@[simp] theorem byE_3 : byE Try.prog 3 = some 8 := by kernel_rfl
@[simp] theorem isStr_70 : isStr Try.prog 70 = false := by kernel_rfl
@[simp] theorem eqTy_70 : eqTy Try.prog 70 = none := by kernel_rfl
@[simp] theorem tyL_72 : tyL Try.prog 72 = some (1, false) := by kernel_rfl
@[simp] theorem tyL_73 : tyL Try.prog 73 = some (1, false) := by kernel_rfl
@[simp] theorem tyL_74 : tyL Try.prog 74 = some (1, false) := by kernel_rfl
@[simp] theorem tyL_75 : tyL Try.prog 75 = some (1, false) := by kernel_rfl
@[simp] theorem tyL_76 : tyL Try.prog 76 = some (1, false) := by kernel_rfl
@[simp] theorem tyL_77 : tyL Try.prog 77 = some (1, false) := by kernel_rfl
@[simp] theorem tyL_78 : tyL Try.prog 78 = some (1, false) := by kernel_rfl
@[simp] theorem tyL_80 : tyL Try.prog 80 = some (1, false) := by kernel_rfl
@[simp] theorem tyL_81 : tyL Try.prog 81 = some (1, false) := by kernel_rfl
@[simp] theorem tyL_82 : tyL Try.prog 82 = some (1, false) := by kernel_rfl
@[simp] theorem zcells_82 : zcells Try.prog 82 = some [.w true false .nilp] := by kernel_rfl
@[simp] theorem slE_82 : slE Try.prog 82 = none := by kernel_rfl
@[simp] theorem isStr_82 : isStr Try.prog 82 = false := by kernel_rfl
@[simp] theorem eqTy_82 : eqTy Try.prog 82 = none := by kernel_rfl
@[simp] theorem tyL_84 : tyL Try.prog 84 = some (1, false) := by kernel_rfl
@[simp] theorem tyL_85 : tyL Try.prog 85 = some (1, false) := by kernel_rfl
@[simp] theorem tyL_86 : tyL Try.prog 86 = some (1, false) := by kernel_rfl
@[simp] theorem tyL_87 : tyL Try.prog 87 = some (1, false) := by kernel_rfl
@[simp] theorem tyL_88 : tyL Try.prog 88 = some (1, false) := by kernel_rfl
@[simp] theorem tyL_89 : tyL Try.prog 89 = some (1, false) := by kernel_rfl
@[simp] theorem tyL_90 : tyL Try.prog 90 = some (1, false) := by kernel_rfl
@[simp] theorem tyL_91 : tyL Try.prog 91 = some (1, false) := by kernel_rfl
@[simp] theorem tyL_92 : tyL Try.prog 92 = some (1, false) := by kernel_rfl
@[simp] theorem tyL_93 : tyL Try.prog 93 = some (1, false) := by kernel_rfl
@[simp] theorem tyL_94 : tyL Try.prog 94 = some (2, true) := by kernel_rfl
@[simp] theorem zcells_94 : zcells Try.prog 94 = some [.w false false (.int .i64 (0)), .w false false (.bool false)] := by kernel_rfl
@[simp] theorem slE_94 : slE Try.prog 94 = none := by kernel_rfl
@[simp] theorem isStr_94 : isStr Try.prog 94 = false := by kernel_rfl
@[simp] theorem fOf_94_0 : fOf Try.prog 94 0 = some (0, 1, false) := by kernel_rfl
@[simp] theorem fOf_94_1 : fOf Try.prog 94 1 = some (1, 1, false) := by kernel_rfl
@[simp] theorem pls_94 : pls Try.prog 94 = some [(0, 1), (1, 1)] := by kernel_rfl
@[simp] theorem eqTy_94 : eqTy Try.prog 94 = some [1, 0] := by kernel_rfl
@[simp] theorem tyL_95 : tyL Try.prog 95 = some (2, true) := by kernel_rfl
@[simp] theorem zcells_95 : zcells Try.prog 95 = some [.w false false (.int .i64 (0)), .w false false (.bool false)] := by kernel_rfl
@[simp] theorem slE_95 : slE Try.prog 95 = none := by kernel_rfl
@[simp] theorem isStr_95 : isStr Try.prog 95 = false := by kernel_rfl
@[simp] theorem fOf_95_0 : fOf Try.prog 95 0 = some (0, 1, false) := by kernel_rfl
@[simp] theorem fOf_95_1 : fOf Try.prog 95 1 = some (1, 1, false) := by kernel_rfl
@[simp] theorem pls_95 : pls Try.prog 95 = some [(0, 1), (1, 1)] := by kernel_rfl
@[simp] theorem eqTy_95 : eqTy Try.prog 95 = some [1, 0] := by kernel_rfl
@[simp] theorem tyL_96 : tyL Try.prog 96 = some (1, false) := by kernel_rfl
@[simp] theorem tyL_97 : tyL Try.prog 97 = some (1, false) := by kernel_rfl
@[simp] theorem tyL_98 : tyL Try.prog 98 = some (1, false) := by kernel_rfl
@[simp] theorem tyL_100 : tyL Try.prog 100 = some (1, false) := by kernel_rfl
@[simp] theorem tyL_101 : tyL Try.prog 101 = some (1, false) := by kernel_rfl
@[simp] theorem tyL_102 : tyL Try.prog 102 = some (1, false) := by kernel_rfl
@[simp] theorem tyL_103 : tyL Try.prog 103 = some (1, false) := by kernel_rfl
@[simp] theorem tyL_104 : tyL Try.prog 104 = some (1, false) := by kernel_rfl
@[simp] theorem tyL_106 : tyL Try.prog 106 = some (1, false) := by kernel_rfl
@[simp] theorem tyL_107 : tyL Try.prog 107 = some (1, false) := by kernel_rfl
@[simp] theorem tyL_108 : tyL Try.prog 108 = some (1, false) := by kernel_rfl
@[simp] theorem tyL_109 : tyL Try.prog 109 = some (1, false) := by kernel_rfl
@[simp] theorem tyL_110 : tyL Try.prog 110 = some (1, false) := by kernel_rfl
@[simp] theorem tyL_111 : tyL Try.prog 111 = some (1, false) := by kernel_rfl
@[simp] theorem tyL_112 : tyL Try.prog 112 = some (1, false) := by kernel_rfl
@[simp] theorem tyL_113 : tyL Try.prog 113 = some (1, false) := by kernel_rfl
@[simp] theorem tyL_114 : tyL Try.prog 114 = some (1, false) := by kernel_rfl
@[simp] theorem tyL_115 : tyL Try.prog 115 = some (1, false) := by kernel_rfl
@[simp] theorem tyL_116 : tyL Try.prog 116 = some (1, false) := by kernel_rfl
@[simp] theorem tyL_117 : tyL Try.prog 117 = some (1, false) := by kernel_rfl
@[simp] theorem tyL_118 : tyL Try.prog 118 = some (1, false) := by kernel_rfl
@[simp] theorem tyL_119 : tyL Try.prog 119 = some (1, false) := by kernel_rfl
@[simp] theorem tyL_120 : tyL Try.prog 120 = some (1, false) := by kernel_rfl
@[simp] theorem tyL_121 : tyL Try.prog 121 = some (1, false) := by kernel_rfl
@[simp] theorem tyL_122 : tyL Try.prog 122 = some (1, false) := by kernel_rfl
@[simp] theorem tyL_123 : tyL Try.prog 123 = some (1, false) := by kernel_rfl
@[simp] theorem tyL_124 : tyL Try.prog 124 = some (1, false) := by kernel_rfl
@[simp] theorem tyL_125 : tyL Try.prog 125 = some (1, false) := by kernel_rfl
@[simp] theorem tyL_126 : tyL Try.prog 126 = some (1, false) := by kernel_rfl
@[simp] theorem tyL_127 : tyL Try.prog 127 = some (1, false) := by kernel_rfl
@[simp] theorem tyL_128 : tyL Try.prog 128 = some (8, true) := by kernel_rfl
@[simp] theorem zcells_128 : zcells Try.prog 128 = some [.w false false (.int .i64 (0)), .w false false (.int .i64 (0)), .w false false (.int .i64 (0)), .w true true (.sl 0 []), .w true true (.sl 0 []), .w true true (.sl 0 []), .w true true (.sl 0 []), .w true true (.sl 0 [])] := by kernel_rfl
@[simp] theorem slE_128 : slE Try.prog 128 = none := by kernel_rfl
@[simp] theorem isStr_128 : isStr Try.prog 128 = false := by kernel_rfl
@[simp] theorem fOf_128_0 : fOf Try.prog 128 0 = some (0, 5, true) := by kernel_rfl
@[simp] theorem fOf_128_1 : fOf Try.prog 128 1 = some (5, 1, true) := by kernel_rfl
@[simp] theorem fOf_128_2 : fOf Try.prog 128 2 = some (6, 1, false) := by kernel_rfl
@[simp] theorem fOf_128_3 : fOf Try.prog 128 3 = some (7, 1, false) := by kernel_rfl
@[simp] theorem pls_128 : pls Try.prog 128 = some [(0, 5), (5, 1), (6, 1), (7, 1)] := by kernel_rfl
@[simp] theorem tyL_129 : tyL Try.prog 129 = some (8, true) := by kernel_rfl
@[simp] theorem zcells_129 : zcells Try.prog 129 = some [.w false false (.int .i64 (0)), .w false false (.int .i64 (0)), .w false false (.int .i64 (0)), .w true true (.sl 0 []), .w true true (.sl 0 []), .w true true (.sl 0 []), .w true true (.sl 0 []), .w true true (.sl 0 [])] := by kernel_rfl
@[simp] theorem slE_129 : slE Try.prog 129 = none := by kernel_rfl
@[simp] theorem isStr_129 : isStr Try.prog 129 = false := by kernel_rfl
@[simp] theorem fOf_129_0 : fOf Try.prog 129 0 = some (0, 5, true) := by kernel_rfl
@[simp] theorem fOf_129_1 : fOf Try.prog 129 1 = some (5, 1, true) := by kernel_rfl
@[simp] theorem fOf_129_2 : fOf Try.prog 129 2 = some (6, 1, false) := by kernel_rfl
@[simp] theorem fOf_129_3 : fOf Try.prog 129 3 = some (7, 1, false) := by kernel_rfl
@[simp] theorem pls_129 : pls Try.prog 129 = some [(0, 5), (5, 1), (6, 1), (7, 1)] := by kernel_rfl
@[simp] theorem tyL_130 : tyL Try.prog 130 = some (1, false) := by kernel_rfl
@[simp] theorem tyL_131 : tyL Try.prog 131 = some (1, false) := by kernel_rfl
@[simp] theorem tyL_132 : tyL Try.prog 132 = some (1, false) := by kernel_rfl
@[simp] theorem tyL_133 : tyL Try.prog 133 = some (1, false) := by kernel_rfl
@[simp] theorem tyL_134 : tyL Try.prog 134 = some (1, false) := by kernel_rfl
@[simp] theorem zcells_134 : zcells Try.prog 134 = some [.w true true (.sl 0 [])] := by kernel_rfl
@[simp] theorem slE_134 : slE Try.prog 134 = some (27, 1) := by kernel_rfl
@[simp] theorem byE_27 : byE Try.prog 27 = some 24 := by kernel_rfl
@[simp] theorem isStr_134 : isStr Try.prog 134 = false := by kernel_rfl
@[simp] theorem eqTy_134 : eqTy Try.prog 134 = none := by kernel_rfl
@[simp] theorem tyL_135 : tyL Try.prog 135 = some (1, false) := by kernel_rfl
@[simp] theorem tyL_136 : tyL Try.prog 136 = some (1, false) := by kernel_rfl
@[simp] theorem tyL_137 : tyL Try.prog 137 = some (1, false) := by kernel_rfl
@[simp] theorem tyL_138 : tyL Try.prog 138 = some (1, false) := by kernel_rfl
@[simp] theorem tyL_139 : tyL Try.prog 139 = some (2, true) := by kernel_rfl
@[simp] theorem zcells_139 : zcells Try.prog 139 = some [.w false false (.int .i64 (0)), .w false false (.int .i64 (0))] := by kernel_rfl
@[simp] theorem slE_139 : slE Try.prog 139 = none := by kernel_rfl
@[simp] theorem isStr_139 : isStr Try.prog 139 = false := by kernel_rfl
@[simp] theorem fOf_139_0 : fOf Try.prog 139 0 = some (0, 1, false) := by kernel_rfl
@[simp] theorem fOf_139_1 : fOf Try.prog 139 1 = some (1, 1, false) := by kernel_rfl
@[simp] theorem pls_139 : pls Try.prog 139 = some [(0, 1), (1, 1)] := by kernel_rfl
@[simp] theorem eqTy_139 : eqTy Try.prog 139 = some [1, 1] := by kernel_rfl
@[simp] theorem tyL_140 : tyL Try.prog 140 = some (2, true) := by kernel_rfl
@[simp] theorem zcells_140 : zcells Try.prog 140 = some [.w false false (.int .i64 (0)), .w false false (.int .i64 (0))] := by kernel_rfl
@[simp] theorem slE_140 : slE Try.prog 140 = none := by kernel_rfl
@[simp] theorem isStr_140 : isStr Try.prog 140 = false := by kernel_rfl
@[simp] theorem fOf_140_0 : fOf Try.prog 140 0 = some (0, 1, false) := by kernel_rfl
@[simp] theorem fOf_140_1 : fOf Try.prog 140 1 = some (1, 1, false) := by kernel_rfl
@[simp] theorem pls_140 : pls Try.prog 140 = some [(0, 1), (1, 1)] := by kernel_rfl
@[simp] theorem eqTy_140 : eqTy Try.prog 140 = some [1, 1] := by kernel_rfl
@[simp] theorem tyL_141 : tyL Try.prog 141 = some (1, false) := by kernel_rfl
@[simp] theorem tyL_142 : tyL Try.prog 142 = some (1, false) := by kernel_rfl
@[simp] theorem zcells_142 : zcells Try.prog 142 = some [.w true true (.sl 0 [])] := by kernel_rfl
@[simp] theorem slE_142 : slE Try.prog 142 = some (9, 1) := by kernel_rfl
@[simp] theorem byE_9 : byE Try.prog 9 = some 16 := by kernel_rfl
@[simp] theorem isStr_142 : isStr Try.prog 142 = false := by kernel_rfl
@[simp] theorem eqTy_142 : eqTy Try.prog 142 = none := by kernel_rfl
@[simp] theorem tyL_143 : tyL Try.prog 143 = some (1, false) := by kernel_rfl
@[simp] theorem tyL_144 : tyL Try.prog 144 = some (1, false) := by kernel_rfl
@[simp] theorem zcells_144 : zcells Try.prog 144 = some [.w true true (.sl 0 [])] := by kernel_rfl
@[simp] theorem slE_144 : slE Try.prog 144 = some (39, 1) := by kernel_rfl
@[simp] theorem byE_39 : byE Try.prog 39 = some 8 := by kernel_rfl
@[simp] theorem isStr_144 : isStr Try.prog 144 = false := by kernel_rfl
@[simp] theorem eqTy_144 : eqTy Try.prog 144 = none := by kernel_rfl
@[simp] theorem tyL_145 : tyL Try.prog 145 = some (1, false) := by kernel_rfl
@[simp] theorem tyL_146 : tyL Try.prog 146 = some (1, false) := by kernel_rfl
@[simp] theorem tyL_147 : tyL Try.prog 147 = some (1, false) := by kernel_rfl
@[simp] theorem tyL_148 : tyL Try.prog 148 = some (1, false) := by kernel_rfl
@[simp] theorem tyL_149 : tyL Try.prog 149 = some (1, false) := by kernel_rfl
@[simp] theorem tyL_150 : tyL Try.prog 150 = some (1, false) := by kernel_rfl
@[simp] theorem tyL_151 : tyL Try.prog 151 = some (1, false) := by kernel_rfl
@[simp] theorem tyL_152 : tyL Try.prog 152 = some (1, false) := by kernel_rfl
@[simp] theorem tyL_153 : tyL Try.prog 153 = some (1, false) := by kernel_rfl
@[simp] theorem tyL_154 : tyL Try.prog 154 = some (2, true) := by kernel_rfl
@[simp] theorem zcells_154 : zcells Try.prog 154 = some [.w false false (.int .i64 (0)), .w false false (.int .i64 (0))] := by kernel_rfl
@[simp] theorem slE_154 : slE Try.prog 154 = none := by kernel_rfl
@[simp] theorem arE_154 : arE Try.prog 154 = some (2, 1) := by kernel_rfl
@[simp] theorem isStr_154 : isStr Try.prog 154 = false := by kernel_rfl
@[simp] theorem pls_154 : pls Try.prog 154 = some [(0, 1), (1, 1)] := by kernel_rfl
@[simp] theorem eqTy_154 : eqTy Try.prog 154 = some [1, 1] := by kernel_rfl
@[simp] theorem tyL_156 : tyL Try.prog 156 = some (1, false) := by kernel_rfl
@[simp] theorem tyL_157 : tyL Try.prog 157 = some (1, false) := by kernel_rfl
@[simp] theorem tyL_158 : tyL Try.prog 158 = some (1, false) := by kernel_rfl
@[simp] theorem tyL_159 : tyL Try.prog 159 = some (1, false) := by kernel_rfl
@[simp] theorem zcells_159 : zcells Try.prog 159 = some [.w false false (.int .u64 (0))] := by kernel_rfl
@[simp] theorem slE_159 : slE Try.prog 159 = none := by kernel_rfl
@[simp] theorem isStr_159 : isStr Try.prog 159 = false := by kernel_rfl
@[simp] theorem kindOf_159 : kindOf Try.prog 159 = some .u64 := by kernel_rfl
@[simp] theorem eqTy_159 : eqTy Try.prog 159 = none := by kernel_rfl
@[simp] theorem tyL_160 : tyL Try.prog 160 = some (1, false) := by kernel_rfl
@[simp] theorem zcells_160 : zcells Try.prog 160 = some [.w true false .nilp] := by kernel_rfl
@[simp] theorem slE_160 : slE Try.prog 160 = none := by kernel_rfl
@[simp] theorem isStr_160 : isStr Try.prog 160 = false := by kernel_rfl
@[simp] theorem eqTy_160 : eqTy Try.prog 160 = none := by kernel_rfl
@[simp] theorem tyL_161 : tyL Try.prog 161 = some (1, false) := by kernel_rfl
@[simp] theorem zcells_161 : zcells Try.prog 161 = some [.w true true (.sl 0 [])] := by kernel_rfl
@[simp] theorem slE_161 : slE Try.prog 161 = some (5, 1) := by kernel_rfl
@[simp] theorem byE_5 : byE Try.prog 5 = some 1 := by kernel_rfl
@[simp] theorem isStr_161 : isStr Try.prog 161 = false := by kernel_rfl
@[simp] theorem eqTy_161 : eqTy Try.prog 161 = none := by kernel_rfl
@[simp] theorem tyL_162 : tyL Try.prog 162 = some (2, true) := by kernel_rfl
@[simp] theorem zcells_162 : zcells Try.prog 162 = some [.w true false .nilp, .w true true (.sl 0 [])] := by kernel_rfl
@[simp] theorem slE_162 : slE Try.prog 162 = none := by kernel_rfl
@[simp] theorem isStr_162 : isStr Try.prog 162 = false := by kernel_rfl
@[simp] theorem fOf_162_0 : fOf Try.prog 162 0 = some (0, 1, false) := by kernel_rfl
@[simp] theorem fOf_162_1 : fOf Try.prog 162 1 = some (1, 1, false) := by kernel_rfl
@[simp] theorem pls_162 : pls Try.prog 162 = some [(0, 1), (1, 1)] := by kernel_rfl
@[simp] theorem tyL_163 : tyL Try.prog 163 = some (2, true) := by kernel_rfl
@[simp] theorem zcells_163 : zcells Try.prog 163 = some [.w true false .nilp, .w true true (.sl 0 [])] := by kernel_rfl
@[simp] theorem slE_163 : slE Try.prog 163 = none := by kernel_rfl
@[simp] theorem isStr_163 : isStr Try.prog 163 = false := by kernel_rfl
@[simp] theorem fOf_163_0 : fOf Try.prog 163 0 = some (0, 1, false) := by kernel_rfl
@[simp] theorem fOf_163_1 : fOf Try.prog 163 1 = some (1, 1, false) := by kernel_rfl
@[simp] theorem pls_163 : pls Try.prog 163 = some [(0, 1), (1, 1)] := by kernel_rfl
@[simp] theorem tyL_164 : tyL Try.prog 164 = some (1, false) := by kernel_rfl
@[simp] theorem tyL_168 : tyL Try.prog 168 = some (1, false) := by kernel_rfl
@[simp] theorem tyL_169 : tyL Try.prog 169 = some (1, false) := by kernel_rfl
@[simp] theorem tyL_170 : tyL Try.prog 170 = some (1, false) := by kernel_rfl
@[simp] theorem tyL_171 : tyL Try.prog 171 = some (1, false) := by kernel_rfl
@[simp] theorem tyL_172 : tyL Try.prog 172 = some (1, false) := by kernel_rfl
@[simp] theorem tyL_173 : tyL Try.prog 173 = some (1, false) := by kernel_rfl
@[simp] theorem tyL_174 : tyL Try.prog 174 = some (1, false) := by kernel_rfl
@[simp] theorem zcells_174 : zcells Try.prog 174 = some [.w true false .nilp] := by kernel_rfl
@[simp] theorem slE_174 : slE Try.prog 174 = none := by kernel_rfl
@[simp] theorem isStr_174 : isStr Try.prog 174 = false := by kernel_rfl
@[simp] theorem eqTy_174 : eqTy Try.prog 174 = none := by kernel_rfl
@[simp] theorem tyL_176 : tyL Try.prog 176 = some (1, false) := by kernel_rfl
@[simp] theorem tyL_179 : tyL Try.prog 179 = some (1, false) := by kernel_rfl
@[simp] theorem tyL_185 : tyL Try.prog 185 = some (1, false) := by kernel_rfl
@[simp] theorem zcells_185 : zcells Try.prog 185 = some [.w false false (.int .u32 (0))] := by kernel_rfl
@[simp] theorem slE_185 : slE Try.prog 185 = none := by kernel_rfl
@[simp] theorem isStr_185 : isStr Try.prog 185 = false := by kernel_rfl
@[simp] theorem kindOf_185 : kindOf Try.prog 185 = some .u32 := by kernel_rfl
@[simp] theorem eqTy_185 : eqTy Try.prog 185 = none := by kernel_rfl
@[simp] theorem byteSl_9_161 : byteSl Try.prog 9 161 = true := by kernel_rfl
@[simp] theorem byteSl_10_161 : byteSl Try.prog 10 161 = true := by kernel_rfl
@[simp] theorem byteSl_11_161 : byteSl Try.prog 11 161 = true := by kernel_rfl
end Go.Proofs.Ytchpdgojiibjcaa
