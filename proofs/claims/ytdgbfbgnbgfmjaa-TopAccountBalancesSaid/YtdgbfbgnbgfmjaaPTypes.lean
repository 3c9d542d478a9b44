/- Contracts of functions for this claim: lemmas alone. -/
import Derived.Test.YtdgbfbgnbgfmjaaProg
import Derived.Test.YtdgbfbgnbgfmjaaLd
import Derived.KernelRfl
set_option linter.unusedSimpArgs false
set_option linter.unusedVariables false
namespace Go.Proofs.Ytdgbfbgnbgfmjaa
open Go Go.Fi
set_option maxRecDepth 100000
@[simp] theorem nIfc_1 : nIfc Try.prog 1 = true := by kernel_rfl
@[simp] theorem tyL_1 : tyL Try.prog 1 = some (1, false) := by kernel_rfl
@[simp] theorem nIfc_2 : nIfc Try.prog 2 = true := by kernel_rfl
@[simp] theorem tyL_2 : tyL Try.prog 2 = some (1, false) := by kernel_rfl
@[simp] theorem zcells_2 : zcells Try.prog 2 = some [.w false false (.int .i64 (0))] := by kernel_rfl
@[simp] theorem slE_2 : slE Try.prog 2 = none := by kernel_rfl
@[simp] theorem isStr_2 : isStr Try.prog 2 = false := by kernel_rfl
@[simp] theorem kindOf_2 : kindOf Try.prog 2 = some .i64 := by kernel_rfl
@[simp] theorem eqTy_2 : eqTy Try.prog 2 = none := by kernel_rfl
@[simp] theorem nIfc_3 : nIfc Try.prog 3 = true := by kernel_rfl
@[simp] theorem tyL_3 : tyL Try.prog 3 = some (1, false) := by kernel_rfl
@[simp] theorem zcells_3 : zcells Try.prog 3 = some [.w false false (.int .i64 (0))] := by kernel_rfl
@[simp] theorem slE_3 : slE Try.prog 3 = none := by kernel_rfl
@[simp] theorem isStr_3 : isStr Try.prog 3 = false := by kernel_rfl
@[simp] theorem kindOf_3 : kindOf Try.prog 3 = some .i64 := by kernel_rfl
@[simp] theorem eqTy_3 : eqTy Try.prog 3 = none := by kernel_rfl
@[simp] theorem nIfc_4 : nIfc Try.prog 4 = true := by kernel_rfl
@[simp] theorem tyL_4 : tyL Try.prog 4 = some (1, false) := by kernel_rfl
@[simp] theorem zcells_4 : zcells Try.prog 4 = some [.w false false (.bool false)] := by kernel_rfl
@[simp] theorem slE_4 : slE Try.prog 4 = none := by kernel_rfl
@[simp] theorem isStr_4 : isStr Try.prog 4 = false := by kernel_rfl
@[simp] theorem isBool_4 : isBool Try.prog 4 = true := by kernel_rfl
@[simp] theorem eqTy_4 : eqTy Try.prog 4 = none := by kernel_rfl
@[simp] theorem nIfc_5 : nIfc Try.prog 5 = true := by kernel_rfl
@[simp] theorem tyL_5 : tyL Try.prog 5 = some (1, false) := by kernel_rfl
@[simp] theorem zcells_5 : zcells Try.prog 5 = some [.w false false (.int .u8 (0))] := by kernel_rfl
@[simp] theorem slE_5 : slE Try.prog 5 = none := by kernel_rfl
@[simp] theorem isStr_5 : isStr Try.prog 5 = false := by kernel_rfl
@[simp] theorem kindOf_5 : kindOf Try.prog 5 = some .u8 := by kernel_rfl
@[simp] theorem eqTy_5 : eqTy Try.prog 5 = none := by kernel_rfl
@[simp] theorem nIfc_9 : nIfc Try.prog 9 = true := by kernel_rfl
@[simp] theorem tyL_9 : tyL Try.prog 9 = some (1, false) := by kernel_rfl
@[simp] theorem zcells_9 : zcells Try.prog 9 = some [.w false false (.str ByteArray.empty)] := by kernel_rfl
@[simp] theorem slE_9 : slE Try.prog 9 = none := by kernel_rfl
@[simp] theorem isStr_9 : isStr Try.prog 9 = true := by kernel_rfl
@[simp] theorem eqTy_9 : eqTy Try.prog 9 = none := by kernel_rfl
@[simp] theorem tyL_20 : tyL Try.prog 20 = some (1, false) := by kernel_rfl
@[simp] theorem zcells_20 : zcells Try.prog 20 = some [.w true false .nili] := by kernel_rfl
@[simp] theorem eqTy_20 : eqTy Try.prog 20 = none := by kernel_rfl
@[simp] theorem nIfc_21 : nIfc Try.prog 21 = true := by kernel_rfl
@[simp] theorem tyL_21 : tyL Try.prog 21 = some (1, false) := by kernel_rfl
@[simp] theorem zcells_21 : zcells Try.prog 21 = some [.w false false (.int .i32 (0))] := by kernel_rfl
@[simp] theorem slE_21 : slE Try.prog 21 = none := by kernel_rfl
@[simp] theorem isStr_21 : isStr Try.prog 21 = false := by kernel_rfl
@[simp] theorem kindOf_21 : kindOf Try.prog 21 = some .i32 := by kernel_rfl
@[simp] theorem eqTy_21 : eqTy Try.prog 21 = none := by kernel_rfl
@[simp] theorem nIfc_22 : nIfc Try.prog 22 = true := by kernel_rfl
@[simp] theorem tyL_22 : tyL Try.prog 22 = some (1, false) := by kernel_rfl
@[simp] theorem zcells_22 : zcells Try.prog 22 = some [.w true true (.sl 0 [])] := by kernel_rfl
@[simp] theorem slE_22 : slE Try.prog 22 = some (41, 5) := by kernel_rfl
@[simp] theorem byE_41 : byE Try.prog 41 = some 48 := by kernel_rfl
@[simp] theorem isStr_22 : isStr Try.prog 22 = false := by kernel_rfl
@[simp] theorem eqTy_22 : eqTy Try.prog 22 = none := by kernel_rfl
@[simp] theorem nIfc_23 : nIfc Try.prog 23 = true := by kernel_rfl
@[simp] theorem tyL_23 : tyL Try.prog 23 = some (1, false) := by kernel_rfl
@[simp] theorem nIfc_24 : nIfc Try.prog 24 = true := by kernel_rfl
@[simp] theorem tyL_24 : tyL Try.prog 24 = some (1, false) := by kernel_rfl
@[simp] theorem nIfc_25 : nIfc Try.prog 25 = true := by kernel_rfl
@[simp] theorem tyL_25 : tyL Try.prog 25 = some (1, false) := by kernel_rfl
@[simp] theorem zcells_25 : zcells Try.prog 25 = some [.w true true (.sl 0 [])] := by kernel_rfl
@[simp] theorem slE_25 : slE Try.prog 25 = some (53, 2) := by kernel_rfl
@[simp] theorem byE_53 : byE Try.prog 53 = some 24 := by kernel_rfl
@[simp] theorem isStr_25 : isStr Try.prog 25 = false := by kernel_rfl
@[simp] theorem eqTy_25 : eqTy Try.prog 25 = none := by kernel_rfl
@[simp] theorem nIfc_26 : nIfc Try.prog 26 = true := by kernel_rfl
@[simp] theorem tyL_26 : tyL Try.prog 26 = some (1, false) := by kernel_rfl
@[simp] theorem nIfc_27 : nIfc Try.prog 27 = true := by kernel_rfl
@[simp] theorem tyL_27 : tyL Try.prog 27 = some (1, false) := by kernel_rfl
@[simp] theorem zcells_27 : zcells Try.prog 27 = some [.w true true (.sl 0 [])] := by kernel_rfl
@[simp] theorem slE_27 : slE Try.prog 27 = some (32, 3) := by kernel_rfl
@[simp] theorem byE_32 : byE Try.prog 32 = some 48 := by kernel_rfl
@[simp] theorem isStr_27 : isStr Try.prog 27 = false := by kernel_rfl
@[simp] theorem eqTy_27 : eqTy Try.prog 27 = none := by kernel_rfl
@[simp] theorem nIfc_28 : nIfc Try.prog 28 = true := by kernel_rfl
@[simp] theorem tyL_28 : tyL Try.prog 28 = some (3, true) := by kernel_rfl
@[simp] theorem zcells_28 : zcells Try.prog 28 = some [.w true true (.sl 0 []), .w true true (.sl 0 []), .w false false (.int .i64 (0))] := by kernel_rfl
@[simp] theorem slE_28 : slE Try.prog 28 = none := by kernel_rfl
@[simp] theorem isStr_28 : isStr Try.prog 28 = false := by kernel_rfl
@[simp] theorem fOf_28_0 : fOf Try.prog 28 0 = some (0, 1, false) := by kernel_rfl
@[simp] theorem fOf_28_1 : fOf Try.prog 28 1 = some (1, 1, false) := by kernel_rfl
@[simp] theorem fOf_28_2 : fOf Try.prog 28 2 = some (2, 1, false) := by kernel_rfl
@[simp] theorem pls_28 : pls Try.prog 28 = some [(0, 1), (1, 1), (2, 1)] := by kernel_rfl
@[simp] theorem nIfc_29 : nIfc Try.prog 29 = true := by kernel_rfl
@[simp] theorem tyL_29 : tyL Try.prog 29 = some (3, true) := by kernel_rfl
@[simp] theorem zcells_29 : zcells Try.prog 29 = some [.w true true (.sl 0 []), .w true true (.sl 0 []), .w false false (.int .i64 (0))] := by kernel_rfl
@[simp] theorem slE_29 : slE Try.prog 29 = none := by kernel_rfl
@[simp] theorem isStr_29 : isStr Try.prog 29 = false := by kernel_rfl
@[simp] theorem fOf_29_0 : fOf Try.prog 29 0 = some (0, 1, false) := by kernel_rfl
@[simp] theorem fOf_29_1 : fOf Try.prog 29 1 = some (1, 1, false) := by kernel_rfl
@[simp] theorem fOf_29_2 : fOf Try.prog 29 2 = some (2, 1, false) := by kernel_rfl
@[simp] theorem pls_29 : pls Try.prog 29 = some [(0, 1), (1, 1), (2, 1)] := by kernel_rfl
@[simp] theorem nIfc_30 : nIfc Try.prog 30 = true := by kernel_rfl
@[simp] theorem tyL_30 : tyL Try.prog 30 = some (1, false) := by kernel_rfl
@[simp] theorem zcells_30 : zcells Try.prog 30 = some [.w true true (.sl 0 [])] := by kernel_rfl
@[simp] theorem slE_30 : slE Try.prog 30 = some (94, 2) := by kernel_rfl
@[simp] theorem byE_94 : byE Try.prog 94 = some 24 := by kernel_rfl
@[simp] theorem isStr_30 : isStr Try.prog 30 = false := by kernel_rfl
@[simp] theorem eqTy_30 : eqTy Try.prog 30 = none := by kernel_rfl
@[simp] theorem nIfc_31 : nIfc Try.prog 31 = true := by kernel_rfl
@[simp] theorem tyL_31 : tyL Try.prog 31 = some (3, true) := by kernel_rfl
@[simp] theorem zcells_31 : zcells Try.prog 31 = some [.w false false (.int .i64 (0)), .w false false (.str ByteArray.empty), .w true true (.sl 0 [])] := by kernel_rfl
@[simp] theorem slE_31 : slE Try.prog 31 = none := by kernel_rfl
@[simp] theorem isStr_31 : isStr Try.prog 31 = false := by kernel_rfl
@[simp] theorem fOf_31_0 : fOf Try.prog 31 0 = some (0, 1, false) := by kernel_rfl
@[simp] theorem fOf_31_1 : fOf Try.prog 31 1 = some (1, 1, false) := by kernel_rfl
@[simp] theorem fOf_31_2 : fOf Try.prog 31 2 = some (2, 1, false) := by kernel_rfl
@[simp] theorem pls_31 : pls Try.prog 31 = some [(0, 1), (1, 1), (2, 1)] := by kernel_rfl
@[simp] theorem nIfc_32 : nIfc Try.prog 32 = true := by kernel_rfl
@[simp] theorem tyL_32 : tyL Try.prog 32 = some (3, true) := by kernel_rfl
@[simp] theorem zcells_32 : zcells Try.prog 32 = some [.w false false (.int .i64 (0)), .w false false (.str ByteArray.empty), .w true true (.sl 0 [])] := by kernel_rfl
@[simp] theorem slE_32 : slE Try.prog 32 = none := by kernel_rfl
@[simp] theorem isStr_32 : isStr Try.prog 32 = false := by kernel_rfl
@[simp] theorem fOf_32_0 : fOf Try.prog 32 0 = some (0, 1, false) := by kernel_rfl
@[simp] theorem fOf_32_1 : fOf Try.prog 32 1 = some (1, 1, false) := by kernel_rfl
@[simp] theorem fOf_32_2 : fOf Try.prog 32 2 = some (2, 1, false) := by kernel_rfl
@[simp] theorem pls_32 : pls Try.prog 32 = some [(0, 1), (1, 1), (2, 1)] := by kernel_rfl
@[simp] theorem nIfc_33 : nIfc Try.prog 33 = true := by kernel_rfl
@[simp] theorem tyL_33 : tyL Try.prog 33 = some (1, false) := by kernel_rfl
@[simp] theorem zcells_33 : zcells Try.prog 33 = some [.w false false (.int .i64 (0))] := by kernel_rfl
@[simp] theorem slE_33 : slE Try.prog 33 = none := by kernel_rfl
@[simp] theorem isStr_33 : isStr Try.prog 33 = false := by kernel_rfl
@[simp] theorem kindOf_33 : kindOf Try.prog 33 = some .i64 := by kernel_rfl
@[simp] theorem eqTy_33 : eqTy Try.prog 33 = none := by kernel_rfl
@[simp] theorem nIfc_35 : nIfc Try.prog 35 = true := by kernel_rfl
@[simp] theorem tyL_35 : tyL Try.prog 35 = some (1, false) := by kernel_rfl
@[simp] theorem nIfc_36 : nIfc Try.prog 36 = true := by kernel_rfl
@[simp] theorem tyL_36 : tyL Try.prog 36 = some (3, true) := by kernel_rfl
@[simp] theorem zcells_36 : zcells Try.prog 36 = some [.w false false (.int .i64 (0)), .w false false (.int .i64 (0)), .w false false (.int .i64 (0))] := by kernel_rfl
@[simp] theorem slE_36 : slE Try.prog 36 = none := by kernel_rfl
@[simp] theorem arE_36 : arE Try.prog 36 = some (3, 1) := by kernel_rfl
@[simp] theorem isStr_36 : isStr Try.prog 36 = false := by kernel_rfl
@[simp] theorem pls_36 : pls Try.prog 36 = some [(0, 1), (1, 1), (2, 1)] := by kernel_rfl
@[simp] theorem eqTy_36 : eqTy Try.prog 36 = some [1, 1, 1] := by kernel_rfl
@[simp] theorem nIfc_37 : nIfc Try.prog 37 = true := by kernel_rfl
@[simp] theorem tyL_37 : tyL Try.prog 37 = some (8, true) := by kernel_rfl
@[simp] theorem zcells_37 : zcells Try.prog 37 = some [.w false false (.str ByteArray.empty), .w false false (.str ByteArray.empty), .w false false (.str ByteArray.empty), .w false false (.int .i64 (0)), .w false false (.int .i64 (0)), .w false false (.int .i64 (0)), .w false false (.str ByteArray.empty), .w false false (.str ByteArray.empty)] := by kernel_rfl
@[simp] theorem slE_37 : slE Try.prog 37 = none := by kernel_rfl
@[simp] theorem isStr_37 : isStr Try.prog 37 = false := by kernel_rfl
@[simp] theorem fOf_37_0 : fOf Try.prog 37 0 = some (0, 1, false) := by kernel_rfl
@[simp] theorem fOf_37_1 : fOf Try.prog 37 1 = some (1, 1, false) := by kernel_rfl
@[simp] theorem fOf_37_2 : fOf Try.prog 37 2 = some (2, 1, false) := by kernel_rfl
@[simp] theorem fOf_37_3 : fOf Try.prog 37 3 = some (3, 3, true) := by kernel_rfl
@[simp] theorem fOf_37_4 : fOf Try.prog 37 4 = some (6, 1, false) := by kernel_rfl
@[simp] theorem fOf_37_5 : fOf Try.prog 37 5 = some (7, 1, false) := by kernel_rfl
@[simp] theorem pls_37 : pls Try.prog 37 = some [(0, 1), (1, 1), (2, 1), (3, 3), (6, 1), (7, 1)] := by kernel_rfl
@[simp] theorem eqTy_37 : eqTy Try.prog 37 = some [2, 2, 2, 1, 1, 1, 2, 2] := by kernel_rfl
@[simp] theorem nIfc_38 : nIfc Try.prog 38 = true := by kernel_rfl
@[simp] theorem tyL_38 : tyL Try.prog 38 = some (8, true) := by kernel_rfl
@[simp] theorem zcells_38 : zcells Try.prog 38 = some [.w false false (.str ByteArray.empty), .w false false (.str ByteArray.empty), .w false false (.str ByteArray.empty), .w false false (.int .i64 (0)), .w false false (.int .i64 (0)), .w false false (.int .i64 (0)), .w false false (.str ByteArray.empty), .w false false (.str ByteArray.empty)] := by kernel_rfl
@[simp] theorem slE_38 : slE Try.prog 38 = none := by kernel_rfl
@[simp] theorem isStr_38 : isStr Try.prog 38 = false := by kernel_rfl
@[simp] theorem fOf_38_0 : fOf Try.prog 38 0 = some (0, 1, false) := by kernel_rfl
@[simp] theorem fOf_38_1 : fOf Try.prog 38 1 = some (1, 1, false) := by kernel_rfl
@[simp] theorem fOf_38_2 : fOf Try.prog 38 2 = some (2, 1, false) := by kernel_rfl
@[simp] theorem fOf_38_3 : fOf Try.prog 38 3 = some (3, 3, true) := by kernel_rfl
@[simp] theorem fOf_38_4 : fOf Try.prog 38 4 = some (6, 1, false) := by kernel_rfl
@[simp] theorem fOf_38_5 : fOf Try.prog 38 5 = some (7, 1, false) := by kernel_rfl
@[simp] theorem pls_38 : pls Try.prog 38 = some [(0, 1), (1, 1), (2, 1), (3, 3), (6, 1), (7, 1)] := by kernel_rfl
@[simp] theorem eqTy_38 : eqTy Try.prog 38 = some [2, 2, 2, 1, 1, 1, 2, 2] := by kernel_rfl
@[simp] theorem nIfc_39 : nIfc Try.prog 39 = true := by kernel_rfl
@[simp] theorem tyL_39 : tyL Try.prog 39 = some (1, false) := by kernel_rfl
@[simp] theorem nIfc_40 : nIfc Try.prog 40 = true := by kernel_rfl
@[simp] theorem tyL_40 : tyL Try.prog 40 = some (5, true) := by kernel_rfl
@[simp] theorem zcells_40 : zcells Try.prog 40 = some [.w false false (.int .i64 (0)), .w false false (.str ByteArray.empty), .w false false (.int .i64 (0)), .w false false (.int .i64 (0)), .w false false (.int .i64 (0))] := by kernel_rfl
@[simp] theorem slE_40 : slE Try.prog 40 = none := by kernel_rfl
@[simp] theorem isStr_40 : isStr Try.prog 40 = false := by kernel_rfl
@[simp] theorem fOf_40_0 : fOf Try.prog 40 0 = some (0, 1, false) := by kernel_rfl
@[simp] theorem fOf_40_1 : fOf Try.prog 40 1 = some (1, 1, false) := by kernel_rfl
@[simp] theorem fOf_40_2 : fOf Try.prog 40 2 = some (2, 1, false) := by kernel_rfl
@[simp] theorem fOf_40_3 : fOf Try.prog 40 3 = some (3, 1, false) := by kernel_rfl
@[simp] theorem fOf_40_4 : fOf Try.prog 40 4 = some (4, 1, false) := by kernel_rfl
@[simp] theorem pls_40 : pls Try.prog 40 = some [(0, 1), (1, 1), (2, 1), (3, 1), (4, 1)] := by kernel_rfl
@[simp] theorem eqTy_40 : eqTy Try.prog 40 = some [1, 2, 1, 1, 1] := by kernel_rfl
@[simp] theorem nIfc_41 : nIfc Try.prog 41 = true := by kernel_rfl
@[simp] theorem tyL_41 : tyL Try.prog 41 = some (5, true) := by kernel_rfl
@[simp] theorem zcells_41 : zcells Try.prog 41 = some [.w false false (.int .i64 (0)), .w false false (.str ByteArray.empty), .w false false (.int .i64 (0)), .w false false (.int .i64 (0)), .w false false (.int .i64 (0))] := by kernel_rfl
@[simp] theorem slE_41 : slE Try.prog 41 = none := by kernel_rfl
@[simp] theorem isStr_41 : isStr Try.prog 41 = false := by kernel_rfl
@[simp] theorem fOf_41_0 : fOf Try.prog 41 0 = some (0, 1, false) := by kernel_rfl
@[simp] theorem fOf_41_1 : fOf Try.prog 41 1 = some (1, 1, false) := by kernel_rfl
@[simp] theorem fOf_41_2 : fOf Try.prog 41 2 = some (2, 1, false) := by kernel_rfl
@[simp] theorem fOf_41_3 : fOf Try.prog 41 3 = some (3, 1, false) := by kernel_rfl
@[simp] theorem fOf_41_4 : fOf Try.prog 41 4 = some (4, 1, false) := by kernel_rfl
@[simp] theorem pls_41 : pls Try.prog 41 = some [(0, 1), (1, 1), (2, 1), (3, 1), (4, 1)] := by kernel_rfl
@[simp] theorem eqTy_41 : eqTy Try.prog 41 = some [1, 2, 1, 1, 1] := by kernel_rfl
@[simp] theorem nIfc_43 : nIfc Try.prog 43 = true := by kernel_rfl
@[simp] theorem tyL_43 : tyL Try.prog 43 = some (1, false) := by kernel_rfl
@[simp] theorem nIfc_44 : nIfc Try.prog 44 = true := by kernel_rfl
@[simp] theorem tyL_44 : tyL Try.prog 44 = some (1, false) := by kernel_rfl
@[simp] theorem zcells_44 : zcells Try.prog 44 = some [.w true true (.sl 0 [])] := by kernel_rfl
@[simp] theorem slE_44 : slE Try.prog 44 = some (3, 1) := by kernel_rfl
@[simp] theorem byE_3 : byE Try.prog 3 = some 8 := by kernel_rfl
@[simp] theorem isStr_44 : isStr Try.prog 44 = false := by kernel_rfl
@[simp] theorem eqTy_44 : eqTy Try.prog 44 = none := by kernel_rfl
@[simp] theorem nIfc_46 : nIfc Try.prog 46 = true := by kernel_rfl
@[simp] theorem tyL_46 : tyL Try.prog 46 = some (1, false) := by kernel_rfl
@[simp] theorem nIfc_47 : nIfc Try.prog 47 = true := by kernel_rfl
@[simp] theorem tyL_47 : tyL Try.prog 47 = some (1, false) := by kernel_rfl
@[simp] theorem nIfc_48 : nIfc Try.prog 48 = true := by kernel_rfl
@[simp] theorem tyL_48 : tyL Try.prog 48 = some (1, false) := by kernel_rfl
@[simp] theorem nIfc_49 : nIfc Try.prog 49 = true := by kernel_rfl
@[simp] theorem tyL_49 : tyL Try.prog 49 = some (1, false) := by kernel_rfl
@[simp] theorem nIfc_50 : nIfc Try.prog 50 = true := by kernel_rfl
@[simp] theorem tyL_50 : tyL Try.prog 50 = some (1, false) := by kernel_rfl
@[simp] theorem nIfc_51 : nIfc Try.prog 51 = true := by kernel_rfl
@[simp] theorem tyL_51 : tyL Try.prog 51 = some (1, false) := by kernel_rfl
@[simp] theorem nIfc_52 : nIfc Try.prog 52 = true := by kernel_rfl
@[simp] theorem tyL_52 : tyL Try.prog 52 = some (2, true) := by kernel_rfl
@[simp] theorem zcells_52 : zcells Try.prog 52 = some [.w false false (.str ByteArray.empty), .w false false (.int .i64 (0))] := by kernel_rfl
@[simp] theorem slE_52 : slE Try.prog 52 = none := by kernel_rfl
@[simp] theorem isStr_52 : isStr Try.prog 52 = false := by kernel_rfl
@[simp] theorem fOf_52_0 : fOf Try.prog 52 0 = some (0, 1, false) := by kernel_rfl
@[simp] theorem fOf_52_1 : fOf Try.prog 52 1 = some (1, 1, false) := by kernel_rfl
@[simp] theorem pls_52 : pls Try.prog 52 = some [(0, 1), (1, 1)] := by kernel_rfl
@[simp] theorem eqTy_52 : eqTy Try.prog 52 = some [2, 1] := by kernel_rfl
@[simp] theorem nIfc_53 : nIfc Try.prog 53 = true := by kernel_rfl
@[simp] theorem tyL_53 : tyL Try.prog 53 = some (2, true) := by kernel_rfl
@[simp] theorem zcells_53 : zcells Try.prog 53 = some [.w false false (.str ByteArray.empty), .w false false (.int .i64 (0))] := by kernel_rfl
@[simp] theorem slE_53 : slE Try.prog 53 = none := by kernel_rfl
@[simp] theorem isStr_53 : isStr Try.prog 53 = false := by kernel_rfl
@[simp] theorem fOf_53_0 : fOf Try.prog 53 0 = some (0, 1, false) := by kernel_rfl
@[simp] theorem fOf_53_1 : fOf Try.prog 53 1 = some (1, 1, false) := by kernel_rfl
@[simp] theorem pls_53 : pls Try.prog 53 = some [(0, 1), (1, 1)] := by kernel_rfl
@[simp] theorem eqTy_53 : eqTy Try.prog 53 = some [2, 1] := by kernel_rfl
@[simp] theorem nIfc_54 : nIfc Try.prog 54 = true := by kernel_rfl
@[simp] theorem tyL_54 : tyL Try.prog 54 = some (1, false) := by kernel_rfl
@[simp] theorem nIfc_55 : nIfc Try.prog 55 = true := by kernel_rfl
@[simp] theorem tyL_55 : tyL Try.prog 55 = some (1, false) := by kernel_rfl
@[simp] theorem nIfc_56 : nIfc Try.prog 56 = true := by kernel_rfl
@[simp] theorem tyL_56 : tyL Try.prog 56 = some (1, false) := by kernel_rfl
@[simp] theorem nIfc_57 : nIfc Try.prog 57 = true := by kernel_rfl
@[simp] theorem tyL_57 : tyL Try.prog 57 = some (1, false) := by kernel_rfl
@[simp] theorem nIfc_58 : nIfc Try.prog 58 = true := by kernel_rfl
@[simp] theorem tyL_58 : tyL Try.prog 58 = some (1, false) := by kernel_rfl
@[simp] theorem nIfc_59 : nIfc Try.prog 59 = true := by kernel_rfl
@[simp] theorem tyL_59 : tyL Try.prog 59 = some (1, false) := by kernel_rfl
@[simp] theorem nIfc_60 : nIfc Try.prog 60 = true := by kernel_rfl
@[simp] theorem tyL_60 : tyL Try.prog 60 = some (3, true) := by kernel_rfl
@[simp] theorem zcells_60 : zcells Try.prog 60 = some [.w false false (.int .i64 (0)), .w false false (.str ByteArray.empty), .w true true (.sl 0 [])] := by kernel_rfl
@[simp] theorem slE_60 : slE Try.prog 60 = none := by kernel_rfl
@[simp] theorem isStr_60 : isStr Try.prog 60 = false := by kernel_rfl
@[simp] theorem fOf_60_0 : fOf Try.prog 60 0 = some (0, 3, true) := by kernel_rfl
@[simp] theorem pls_60 : pls Try.prog 60 = some [(0, 3)] := by kernel_rfl
@[simp] theorem nIfc_61 : nIfc Try.prog 61 = true := by kernel_rfl
@[simp] theorem tyL_61 : tyL Try.prog 61 = some (3, true) := by kernel_rfl
@[simp] theorem zcells_61 : zcells Try.prog 61 = some [.w false false (.int .i64 (0)), .w false false (.str ByteArray.empty), .w true true (.sl 0 [])] := by kernel_rfl
@[simp] theorem slE_61 : slE Try.prog 61 = none := by kernel_rfl
@[simp] theorem isStr_61 : isStr Try.prog 61 = false := by kernel_rfl
@[simp] theorem fOf_61_0 : fOf Try.prog 61 0 = some (0, 3, true) := by kernel_rfl
@[simp] theorem pls_61 : pls Try.prog 61 = some [(0, 3)] := by kernel_rfl
@[simp] theorem nIfc_62 : nIfc Try.prog 62 = true := by kernel_rfl
@[simp] theorem tyL_62 : tyL Try.prog 62 = some (1, false) := by kernel_rfl
@[simp] theorem nIfc_63 : nIfc Try.prog 63 = true := by kernel_rfl
@[simp] theorem tyL_63 : tyL Try.prog 63 = some (1, false) := by kernel_rfl
@[simp] theorem nIfc_64 : nIfc Try.prog 64 = true := by kernel_rfl
@[simp] theorem tyL_64 : tyL Try.prog 64 = some (3, true) := by kernel_rfl
@[simp] theorem zcells_64 : zcells Try.prog 64 = some [.w true true (.sl 0 []), .w true true (.sl 0 []), .w false false (.int .i64 (0))] := by kernel_rfl
@[simp] theorem slE_64 : slE Try.prog 64 = none := by kernel_rfl
@[simp] theorem isStr_64 : isStr Try.prog 64 = false := by kernel_rfl
@[simp] theorem fOf_64_0 : fOf Try.prog 64 0 = some (0, 3, true) := by kernel_rfl
@[simp] theorem pls_64 : pls Try.prog 64 = some [(0, 3)] := by kernel_rfl
@[simp] theorem nIfc_65 : nIfc Try.prog 65 = true := by kernel_rfl
@[simp] theorem tyL_65 : tyL Try.prog 65 = some (3, true) := by kernel_rfl
@[simp] theorem zcells_65 : zcells Try.prog 65 = some [.w true true (.sl 0 []), .w true true (.sl 0 []), .w false false (.int .i64 (0))] := by kernel_rfl
@[simp] theorem slE_65 : slE Try.prog 65 = none := by kernel_rfl
@[simp] theorem isStr_65 : isStr Try.prog 65 = false := by kernel_rfl
@[simp] theorem fOf_65_0 : fOf Try.prog 65 0 = some (0, 3, true) := by kernel_rfl
@[simp] theorem pls_65 : pls Try.prog 65 = some [(0, 3)] := by kernel_rfl
@[simp] theorem nIfc_67 : nIfc Try.prog 67 = true := by kernel_rfl
@[simp] theorem tyL_67 : tyL Try.prog 67 = some (1, false) := by kernel_rfl
@[simp] theorem nIfc_69 : nIfc Try.prog 69 = true := by kernel_rfl
@[simp] theorem tyL_69 : tyL Try.prog 69 = some (1, false) := by kernel_rfl
@[simp] theorem zcells_69 : zcells Try.prog 69 = some [.w true true (.sl 0 [])] := by kernel_rfl
@[simp] theorem slE_69 : slE Try.prog 69 = some (53, 2) := by kernel_rfl
@[simp] theorem isStr_69 : isStr Try.prog 69 = false := by kernel_rfl
@[simp] theorem eqTy_69 : eqTy Try.prog 69 = none := by kernel_rfl
@[simp] theorem nIfc_70 : nIfc Try.prog 70 = true := by kernel_rfl
@[simp] theorem tyL_70 : tyL Try.prog 70 = some (1, false) := by kernel_rfl
@[simp] theorem nIfc_71 : nIfc Try.prog 71 = true := by kernel_rfl
@[simp] theorem tyL_71 : tyL Try.prog 71 = some (1, false) := by kernel_rfl
@[simp] theorem nIfc_72 : nIfc Try.prog 72 = true := by kernel_rfl
@[simp] theorem tyL_72 : tyL Try.prog 72 = some (1, false) := by kernel_rfl
@[simp] theorem nIfc_73 : nIfc Try.prog 73 = true := by kernel_rfl
@[simp] theorem tyL_73 : tyL Try.prog 73 = some (1, false) := by kernel_rfl
@[simp] theorem nIfc_74 : nIfc Try.prog 74 = true := by kernel_rfl
@[simp] theorem tyL_74 : tyL Try.prog 74 = some (1, false) := by kernel_rfl
@[simp] theorem nIfc_75 : nIfc Try.prog 75 = true := by kernel_rfl
@[simp] theorem tyL_75 : tyL Try.prog 75 = some (1, false) := by kernel_rfl
@[simp] theorem nIfc_76 : nIfc Try.prog 76 = true := by kernel_rfl
@[simp] theorem tyL_76 : tyL Try.prog 76 = some (1, false) := by kernel_rfl
@[simp] theorem nIfc_77 : nIfc Try.prog 77 = true := by kernel_rfl
@[simp] theorem tyL_77 : tyL Try.prog 77 = some (1, false) := by kernel_rfl
@[simp] theorem nIfc_78 : nIfc Try.prog 78 = true := by kernel_rfl
@[simp] theorem tyL_78 : tyL Try.prog 78 = some (1, false) := by kernel_rfl
@[simp] theorem nIfc_79 : nIfc Try.prog 79 = true := by kernel_rfl
@[simp] theorem tyL_79 : tyL Try.prog 79 = some (1, false) := by kernel_rfl
@[simp] theorem nIfc_80 : nIfc Try.prog 80 = true := by kernel_rfl
@[simp] theorem tyL_80 : tyL Try.prog 80 = some (1, false) := by kernel_rfl
@[simp] theorem nIfc_81 : nIfc Try.prog 81 = true := by kernel_rfl
@[simp] theorem tyL_81 : tyL Try.prog 81 = some (1, false) := by kernel_rfl
@[simp] theorem nIfc_82 : nIfc Try.prog 82 = true := by kernel_rfl
@[simp] theorem tyL_82 : tyL Try.prog 82 = some (1, false) := by kernel_rfl
@[simp] theorem zcells_82 : zcells Try.prog 82 = some [.w true true (.sl 0 [])] := by kernel_rfl
@[simp] theorem slE_82 : slE Try.prog 82 = some (33, 1) := by kernel_rfl
@[simp] theorem byE_33 : byE Try.prog 33 = some 8 := by kernel_rfl
@[simp] theorem isStr_82 : isStr Try.prog 82 = false := by kernel_rfl
@[simp] theorem eqTy_82 : eqTy Try.prog 82 = none := by kernel_rfl
@[simp] theorem nIfc_83 : nIfc Try.prog 83 = true := by kernel_rfl
@[simp] theorem tyL_83 : tyL Try.prog 83 = some (1, false) := by kernel_rfl
@[simp] theorem nIfc_84 : nIfc Try.prog 84 = true := by kernel_rfl
@[simp] theorem tyL_84 : tyL Try.prog 84 = some (5, true) := by kernel_rfl
@[simp] theorem zcells_84 : zcells Try.prog 84 = some [.w false false (.str ByteArray.empty), .w false false (.str ByteArray.empty), .w false false (.str ByteArray.empty), .w false false (.str ByteArray.empty), .w false false (.str ByteArray.empty)] := by kernel_rfl
@[simp] theorem slE_84 : slE Try.prog 84 = none := by kernel_rfl
@[simp] theorem arE_84 : arE Try.prog 84 = some (5, 1) := by kernel_rfl
@[simp] theorem isStr_84 : isStr Try.prog 84 = false := by kernel_rfl
@[simp] theorem pls_84 : pls Try.prog 84 = some [(0, 1), (1, 1), (2, 1), (3, 1), (4, 1)] := by kernel_rfl
@[simp] theorem eqTy_84 : eqTy Try.prog 84 = some [2, 2, 2, 2, 2] := by kernel_rfl
@[simp] theorem nIfc_85 : nIfc Try.prog 85 = true := by kernel_rfl
@[simp] theorem tyL_85 : tyL Try.prog 85 = some (1, false) := by kernel_rfl
@[simp] theorem nIfc_86 : nIfc Try.prog 86 = true := by kernel_rfl
@[simp] theorem tyL_86 : tyL Try.prog 86 = some (1, false) := by kernel_rfl
@[simp] theorem nIfc_87 : nIfc Try.prog 87 = true := by kernel_rfl
@[simp] theorem tyL_87 : tyL Try.prog 87 = some (1, false) := by kernel_rfl
@[simp] theorem zcells_87 : zcells Try.prog 87 = some [.w true true (.sl 0 [])] := by kernel_rfl
@[simp] theorem slE_87 : slE Try.prog 87 = some (9, 1) := by kernel_rfl
@[simp] theorem byE_9 : byE Try.prog 9 = some 16 := by kernel_rfl
@[simp] theorem isStr_87 : isStr Try.prog 87 = false := by kernel_rfl
@[simp] theorem eqTy_87 : eqTy Try.prog 87 = none := by kernel_rfl
@[simp] theorem nIfc_88 : nIfc Try.prog 88 = true := by kernel_rfl
@[simp] theorem tyL_88 : tyL Try.prog 88 = some (1, false) := by kernel_rfl
@[simp] theorem nIfc_89 : nIfc Try.prog 89 = true := by kernel_rfl
@[simp] theorem tyL_89 : tyL Try.prog 89 = some (1, false) := by kernel_rfl
@[simp] theorem zcells_89 : zcells Try.prog 89 = some [.w true false .nilp] := by kernel_rfl
@[simp] theorem slE_89 : slE Try.prog 89 = none := by kernel_rfl
@[simp] theorem isStr_89 : isStr Try.prog 89 = false := by kernel_rfl
@[simp] theorem eqTy_89 : eqTy Try.prog 89 = none := by kernel_rfl
@[simp] theorem nIfc_90 : nIfc Try.prog 90 = true := by kernel_rfl
@[simp] theorem tyL_90 : tyL Try.prog 90 = some (1, false) := by kernel_rfl
@[simp] theorem nIfc_91 : nIfc Try.prog 91 = true := by kernel_rfl
@[simp] theorem tyL_91 : tyL Try.prog 91 = some (3, true) := by kernel_rfl
@[simp] theorem zcells_91 : zcells Try.prog 91 = some [.w false false (.str ByteArray.empty), .w false false (.str ByteArray.empty), .w false false (.str ByteArray.empty)] := by kernel_rfl
@[simp] theorem slE_91 : slE Try.prog 91 = none := by kernel_rfl
@[simp] theorem arE_91 : arE Try.prog 91 = some (3, 1) := by kernel_rfl
@[simp] theorem isStr_91 : isStr Try.prog 91 = false := by kernel_rfl
@[simp] theorem pls_91 : pls Try.prog 91 = some [(0, 1), (1, 1), (2, 1)] := by kernel_rfl
@[simp] theorem eqTy_91 : eqTy Try.prog 91 = some [2, 2, 2] := by kernel_rfl
@[simp] theorem nIfc_92 : nIfc Try.prog 92 = true := by kernel_rfl
@[simp] theorem tyL_92 : tyL Try.prog 92 = some (1, false) := by kernel_rfl
@[simp] theorem nIfc_93 : nIfc Try.prog 93 = true := by kernel_rfl
@[simp] theorem tyL_93 : tyL Try.prog 93 = some (2, true) := by kernel_rfl
@[simp] theorem zcells_93 : zcells Try.prog 93 = some [.w false false (.str ByteArray.empty), .w false false (.int .i64 (0))] := by kernel_rfl
@[simp] theorem slE_93 : slE Try.prog 93 = none := by kernel_rfl
@[simp] theorem isStr_93 : isStr Try.prog 93 = false := by kernel_rfl
@[simp] theorem fOf_93_0 : fOf Try.prog 93 0 = some (0, 1, false) := by kernel_rfl
@[simp] theorem fOf_93_1 : fOf Try.prog 93 1 = some (1, 1, false) := by kernel_rfl
@[simp] theorem pls_93 : pls Try.prog 93 = some [(0, 1), (1, 1)] := by kernel_rfl
@[simp] theorem eqTy_93 : eqTy Try.prog 93 = some [2, 1] := by kernel_rfl
@[simp] theorem nIfc_94 : nIfc Try.prog 94 = true := by kernel_rfl
@[simp] theorem tyL_94 : tyL Try.prog 94 = some (2, true) := by kernel_rfl
@[simp] theorem zcells_94 : zcells Try.prog 94 = some [.w false false (.str ByteArray.empty), .w false false (.int .i64 (0))] := by kernel_rfl
@[simp] theorem slE_94 : slE Try.prog 94 = none := by kernel_rfl
@[simp] theorem isStr_94 : isStr Try.prog 94 = false := by kernel_rfl
@[simp] theorem fOf_94_0 : fOf Try.prog 94 0 = some (0, 1, false) := by kernel_rfl
@[simp] theorem fOf_94_1 : fOf Try.prog 94 1 = some (1, 1, false) := by kernel_rfl
@[simp] theorem pls_94 : pls Try.prog 94 = some [(0, 1), (1, 1)] := by kernel_rfl
@[simp] theorem eqTy_94 : eqTy Try.prog 94 = some [2, 1] := by kernel_rfl
@[simp] theorem nIfc_95 : nIfc Try.prog 95 = true := by kernel_rfl
@[simp] theorem tyL_95 : tyL Try.prog 95 = some (1, false) := by kernel_rfl
@[simp] theorem nIfc_96 : nIfc Try.prog 96 = true := by kernel_rfl
@[simp] theorem tyL_96 : tyL Try.prog 96 = some (1, false) := by kernel_rfl
@[simp] theorem nIfc_97 : nIfc Try.prog 97 = true := by kernel_rfl
@[simp] theorem tyL_97 : tyL Try.prog 97 = some (1, false) := by kernel_rfl
@[simp] theorem zcells_97 : zcells Try.prog 97 = some [.w false false (.int .u64 (0))] := by kernel_rfl
@[simp] theorem slE_97 : slE Try.prog 97 = none := by kernel_rfl
@[simp] theorem isStr_97 : isStr Try.prog 97 = false := by kernel_rfl
@[simp] theorem kindOf_97 : kindOf Try.prog 97 = some .u64 := by kernel_rfl
@[simp] theorem eqTy_97 : eqTy Try.prog 97 = none := by kernel_rfl
@[simp] theorem nIfc_98 : nIfc Try.prog 98 = true := by kernel_rfl
@[simp] theorem tyL_98 : tyL Try.prog 98 = some (1, false) := by kernel_rfl
@[simp] theorem nIfc_99 : nIfc Try.prog 99 = true := by kernel_rfl
@[simp] theorem tyL_99 : tyL Try.prog 99 = some (1, false) := by kernel_rfl
@[simp] theorem nIfc_100 : nIfc Try.prog 100 = true := by kernel_rfl
@[simp] theorem tyL_100 : tyL Try.prog 100 = some (1, false) := by kernel_rfl
@[simp] theorem nIfc_102 : nIfc Try.prog 102 = true := by kernel_rfl
@[simp] theorem tyL_102 : tyL Try.prog 102 = some (1, false) := by kernel_rfl
@[simp] theorem nIfc_103 : nIfc Try.prog 103 = true := by kernel_rfl
@[simp] theorem tyL_103 : tyL Try.prog 103 = some (1, false) := by kernel_rfl
@[simp] theorem zcells_103 : zcells Try.prog 103 = some [.w true true (.sl 0 [])] := by kernel_rfl
@[simp] theorem slE_103 : slE Try.prog 103 = some (104, 1) := by kernel_rfl
@[simp] theorem byE_104 : byE Try.prog 104 = some 8 := by kernel_rfl
@[simp] theorem isStr_103 : isStr Try.prog 103 = false := by kernel_rfl
@[simp] theorem eqTy_103 : eqTy Try.prog 103 = none := by kernel_rfl
@[simp] theorem nIfc_104 : nIfc Try.prog 104 = true := by kernel_rfl
@[simp] theorem tyL_104 : tyL Try.prog 104 = some (1, false) := by kernel_rfl
@[simp] theorem zcells_104 : zcells Try.prog 104 = some [.w false false (.int .u64 (0))] := by kernel_rfl
@[simp] theorem slE_104 : slE Try.prog 104 = none := by kernel_rfl
@[simp] theorem isStr_104 : isStr Try.prog 104 = false := by kernel_rfl
@[simp] theorem kindOf_104 : kindOf Try.prog 104 = some .u64 := by kernel_rfl
@[simp] theorem eqTy_104 : eqTy Try.prog 104 = none := by kernel_rfl
@[simp] theorem nIfc_106 : nIfc Try.prog 106 = true := by kernel_rfl
@[simp] theorem tyL_106 : tyL Try.prog 106 = some (1, false) := by kernel_rfl
@[simp] theorem nIfc_107 : nIfc Try.prog 107 = true := by kernel_rfl
@[simp] theorem tyL_107 : tyL Try.prog 107 = some (1, false) := by kernel_rfl
@[simp] theorem nIfc_108 : nIfc Try.prog 108 = true := by kernel_rfl
@[simp] theorem tyL_108 : tyL Try.prog 108 = some (1, false) := by kernel_rfl
@[simp] theorem nIfc_109 : nIfc Try.prog 109 = true := by kernel_rfl
@[simp] theorem tyL_109 : tyL Try.prog 109 = some (1, false) := by kernel_rfl
@[simp] theorem nIfc_110 : nIfc Try.prog 110 = true := by kernel_rfl
@[simp] theorem tyL_110 : tyL Try.prog 110 = some (1, false) := by kernel_rfl
@[simp] theorem nIfc_111 : nIfc Try.prog 111 = true := by kernel_rfl
@[simp] theorem tyL_111 : tyL Try.prog 111 = some (1, false) := by kernel_rfl
@[simp] theorem nIfc_112 : nIfc Try.prog 112 = true := by kernel_rfl
@[simp] theorem tyL_112 : tyL Try.prog 112 = some (1, false) := by kernel_rfl
@[simp] theorem zcells_112 : zcells Try.prog 112 = some [.w true true (.sl 0 [])] := by kernel_rfl
@[simp] theorem slE_112 : slE Try.prog 112 = some (5, 1) := by kernel_rfl
@[simp] theorem byE_5 : byE Try.prog 5 = some 1 := by kernel_rfl
@[simp] theorem isStr_112 : isStr Try.prog 112 = false := by kernel_rfl
@[simp] theorem eqTy_112 : eqTy Try.prog 112 = none := by kernel_rfl
@[simp] theorem nIfc_113 : nIfc Try.prog 113 = true := by kernel_rfl
@[simp] theorem tyL_113 : tyL Try.prog 113 = some (1, false) := by kernel_rfl
@[simp] theorem nIfc_114 : nIfc Try.prog 114 = true := by kernel_rfl
@[simp] theorem tyL_114 : tyL Try.prog 114 = some (1, false) := by kernel_rfl
@[simp] theorem tyL_115 : tyL Try.prog 115 = some (1, false) := by kernel_rfl
@[simp] theorem zcells_115 : zcells Try.prog 115 = some [.w true false .nili] := by kernel_rfl
@[simp] theorem eqTy_115 : eqTy Try.prog 115 = none := by kernel_rfl
@[simp] theorem tyL_116 : tyL Try.prog 116 = some (1, false) := by kernel_rfl
@[simp] theorem zcells_116 : zcells Try.prog 116 = some [.w true false .nili] := by kernel_rfl
@[simp] theorem eqTy_116 : eqTy Try.prog 116 = none := by kernel_rfl
@[simp] theorem nIfc_117 : nIfc Try.prog 117 = true := by kernel_rfl
@[simp] theorem tyL_117 : tyL Try.prog 117 = some (1, false) := by kernel_rfl
@[simp] theorem nIfc_119 : nIfc Try.prog 119 = true := by kernel_rfl
@[simp] theorem tyL_119 : tyL Try.prog 119 = some (1, false) := by kernel_rfl
@[simp] theorem zcells_119 : zcells Try.prog 119 = some [.w false false (.int .u64 (0))] := by kernel_rfl
@[simp] theorem slE_119 : slE Try.prog 119 = none := by kernel_rfl
@[simp] theorem isStr_119 : isStr Try.prog 119 = false := by kernel_rfl
@[simp] theorem kindOf_119 : kindOf Try.prog 119 = some .u64 := by kernel_rfl
@[simp] theorem eqTy_119 : eqTy Try.prog 119 = none := by kernel_rfl
@[simp] theorem nIfc_121 : nIfc Try.prog 121 = true := by kernel_rfl
@[simp] theorem tyL_121 : tyL Try.prog 121 = some (3, true) := by kernel_rfl
@[simp] theorem zcells_121 : zcells Try.prog 121 = some [.w true false .nilp, .w true false .nilp, .w false false (.int .u64 (0))] := by kernel_rfl
@[simp] theorem slE_121 : slE Try.prog 121 = none := by kernel_rfl
@[simp] theorem isStr_121 : isStr Try.prog 121 = false := by kernel_rfl
@[simp] theorem fOf_121_0 : fOf Try.prog 121 0 = some (0, 1, false) := by kernel_rfl
@[simp] theorem fOf_121_1 : fOf Try.prog 121 1 = some (1, 1, false) := by kernel_rfl
@[simp] theorem fOf_121_2 : fOf Try.prog 121 2 = some (2, 1, false) := by kernel_rfl
@[simp] theorem pls_121 : pls Try.prog 121 = some [(0, 1), (1, 1), (2, 1)] := by kernel_rfl
@[simp] theorem nIfc_122 : nIfc Try.prog 122 = true := by kernel_rfl
@[simp] theorem tyL_122 : tyL Try.prog 122 = some (1, false) := by kernel_rfl
@[simp] theorem nIfc_123 : nIfc Try.prog 123 = true := by kernel_rfl
@[simp] theorem tyL_123 : tyL Try.prog 123 = some (1, false) := by kernel_rfl
@[simp] theorem nIfc_124 : nIfc Try.prog 124 = true := by kernel_rfl
@[simp] theorem tyL_124 : tyL Try.prog 124 = some (1, false) := by kernel_rfl
@[simp] theorem nIfc_125 : nIfc Try.prog 125 = true := by kernel_rfl
@[simp] theorem tyL_125 : tyL Try.prog 125 = some (1, false) := by kernel_rfl
@[simp] theorem nIfc_126 : nIfc Try.prog 126 = true := by kernel_rfl
@[simp] theorem tyL_126 : tyL Try.prog 126 = some (2, true) := by kernel_rfl
@[simp] theorem zcells_126 : zcells Try.prog 126 = some [.w false false .undef, .w false false .undef] := by kernel_rfl
@[simp] theorem slE_126 : slE Try.prog 126 = none := by kernel_rfl
@[simp] theorem isStr_126 : isStr Try.prog 126 = false := by kernel_rfl
@[simp] theorem fOf_126_0 : fOf Try.prog 126 0 = some (0, 1, false) := by kernel_rfl
@[simp] theorem fOf_126_1 : fOf Try.prog 126 1 = some (1, 1, false) := by kernel_rfl
@[simp] theorem pls_126 : pls Try.prog 126 = some [(0, 1), (1, 1)] := by kernel_rfl
@[simp] theorem nIfc_127 : nIfc Try.prog 127 = true := by kernel_rfl
@[simp] theorem tyL_127 : tyL Try.prog 127 = some (2, true) := by kernel_rfl
@[simp] theorem zcells_127 : zcells Try.prog 127 = some [.w false false .undef, .w false false .undef] := by kernel_rfl
@[simp] theorem slE_127 : slE Try.prog 127 = none := by kernel_rfl
@[simp] theorem isStr_127 : isStr Try.prog 127 = false := by kernel_rfl
@[simp] theorem fOf_127_0 : fOf Try.prog 127 0 = some (0, 1, false) := by kernel_rfl
@[simp] theorem fOf_127_1 : fOf Try.prog 127 1 = some (1, 1, false) := by kernel_rfl
@[simp] theorem pls_127 : pls Try.prog 127 = some [(0, 1), (1, 1)] := by kernel_rfl
@[simp] theorem nIfc_128 : nIfc Try.prog 128 = true := by kernel_rfl
@[simp] theorem tyL_128 : tyL Try.prog 128 = some (1, false) := by kernel_rfl
@[simp] theorem nIfc_129 : nIfc Try.prog 129 = true := by kernel_rfl
@[simp] theorem tyL_129 : tyL Try.prog 129 = some (1, false) := by kernel_rfl
@[simp] theorem nIfc_130 : nIfc Try.prog 130 = true := by kernel_rfl
@[simp] theorem tyL_130 : tyL Try.prog 130 = some (1, false) := by kernel_rfl
@[simp] theorem nIfc_131 : nIfc Try.prog 131 = true := by kernel_rfl
@[simp] theorem tyL_131 : tyL Try.prog 131 = some (1, false) := by kernel_rfl
@[simp] theorem nIfc_133 : nIfc Try.prog 133 = true := by kernel_rfl
@[simp] theorem tyL_133 : tyL Try.prog 133 = some (1, true) := by kernel_rfl
@[simp] theorem zcells_133 : zcells Try.prog 133 = some [.w true false .nilp] := by kernel_rfl
@[simp] theorem slE_133 : slE Try.prog 133 = none := by kernel_rfl
@[simp] theorem isStr_133 : isStr Try.prog 133 = false := by kernel_rfl
@[simp] theorem fOf_133_0 : fOf Try.prog 133 0 = some (0, 1, false) := by kernel_rfl
@[simp] theorem pls_133 : pls Try.prog 133 = some [(0, 1)] := by kernel_rfl
@[simp] theorem tyL_134 : tyL Try.prog 134 = some (1, false) := by kernel_rfl
@[simp] theorem zcells_134 : zcells Try.prog 134 = some [.w true false .nilp] := by kernel_rfl
@[simp] theorem slE_134 : slE Try.prog 134 = none := by kernel_rfl
@[simp] theorem isStr_134 : isStr Try.prog 134 = false := by kernel_rfl
@[simp] theorem eqTy_134 : eqTy Try.prog 134 = none := by kernel_rfl
@[simp] theorem nIfc_135 : nIfc Try.prog 135 = true := by kernel_rfl
@[simp] theorem tyL_135 : tyL Try.prog 135 = some (1, false) := by kernel_rfl
@[simp] theorem nIfc_136 : nIfc Try.prog 136 = true := by kernel_rfl
@[simp] theorem tyL_136 : tyL Try.prog 136 = some (1, false) := by kernel_rfl
@[simp] theorem nIfc_137 : nIfc Try.prog 137 = true := by kernel_rfl
@[simp] theorem tyL_137 : tyL Try.prog 137 = some (1, false) := by kernel_rfl
@[simp] theorem zcells_137 : zcells Try.prog 137 = some [.w true false .nilp] := by kernel_rfl
@[simp] theorem slE_137 : slE Try.prog 137 = none := by kernel_rfl
@[simp] theorem isStr_137 : isStr Try.prog 137 = false := by kernel_rfl
@[simp] theorem eqTy_137 : eqTy Try.prog 137 = none := by kernel_rfl
@[simp] theorem nIfc_138 : nIfc Try.prog 138 = true := by kernel_rfl
@[simp] theorem tyL_138 : tyL Try.prog 138 = some (1, false) := by kernel_rfl
@[simp] theorem nIfc_144 : nIfc Try.prog 144 = true := by kernel_rfl
@[simp] theorem tyL_144 : tyL Try.prog 144 = some (1, false) := by kernel_rfl
@[simp] theorem zcells_144 : zcells Try.prog 144 = some [.w false false (.int .u32 (0))] := by kernel_rfl
@[simp] theorem slE_144 : slE Try.prog 144 = none := by kernel_rfl
@[simp] theorem isStr_144 : isStr Try.prog 144 = false := by kernel_rfl
@[simp] theorem kindOf_144 : kindOf Try.prog 144 = some .u32 := by kernel_rfl
@[simp] theorem eqTy_144 : eqTy Try.prog 144 = none := by kernel_rfl
@[simp] theorem nIfc_148 : nIfc Try.prog 148 = true := by kernel_rfl
@[simp] theorem tyL_148 : tyL Try.prog 148 = some (1, false) := by kernel_rfl
@[simp] theorem zcells_148 : zcells Try.prog 148 = some [.w true false .nilp] := by kernel_rfl
@[simp] theorem slE_148 : slE Try.prog 148 = none := by kernel_rfl
@[simp] theorem isStr_148 : isStr Try.prog 148 = false := by kernel_rfl
@[simp] theorem eqTy_148 : eqTy Try.prog 148 = none := by kernel_rfl
@[simp] theorem tyL_154 : tyL Try.prog 154 = some (2, true) := by kernel_rfl
@[simp] theorem zcells_154 : zcells Try.prog 154 = some [.w false false (.str ByteArray.empty), .w false false (.int .u8 (0))] := by kernel_rfl
@[simp] theorem slE_154 : slE Try.prog 154 = none := by kernel_rfl
@[simp] theorem isStr_154 : isStr Try.prog 154 = false := by kernel_rfl
@[simp] theorem fOf_154_0 : fOf Try.prog 154 0 = some (0, 1, false) := by kernel_rfl
@[simp] theorem fOf_154_1 : fOf Try.prog 154 1 = some (1, 1, false) := by kernel_rfl
@[simp] theorem pls_154 : pls Try.prog 154 = some [(0, 1), (1, 1)] := by kernel_rfl
@[simp] theorem nIfc_155 : nIfc Try.prog 155 = true := by kernel_rfl
@[simp] theorem tyL_155 : tyL Try.prog 155 = some (1, true) := by kernel_rfl
@[simp] theorem zcells_155 : zcells Try.prog 155 = some [.w false false (.str ByteArray.empty)] := by kernel_rfl
@[simp] theorem slE_155 : slE Try.prog 155 = none := by kernel_rfl
@[simp] theorem isStr_155 : isStr Try.prog 155 = false := by kernel_rfl
@[simp] theorem fOf_155_0 : fOf Try.prog 155 0 = some (0, 1, false) := by kernel_rfl
@[simp] theorem pls_155 : pls Try.prog 155 = some [(0, 1)] := by kernel_rfl
@[simp] theorem eqTy_155 : eqTy Try.prog 155 = some [2] := by kernel_rfl
@[simp] theorem nIfc_156 : nIfc Try.prog 156 = true := by kernel_rfl
@[simp] theorem tyL_156 : tyL Try.prog 156 = some (1, true) := by kernel_rfl
@[simp] theorem zcells_156 : zcells Try.prog 156 = some [.w false false (.str ByteArray.empty)] := by kernel_rfl
@[simp] theorem slE_156 : slE Try.prog 156 = none := by kernel_rfl
@[simp] theorem isStr_156 : isStr Try.prog 156 = false := by kernel_rfl
@[simp] theorem fOf_156_0 : fOf Try.prog 156 0 = some (0, 1, false) := by kernel_rfl
@[simp] theorem pls_156 : pls Try.prog 156 = some [(0, 1)] := by kernel_rfl
@[simp] theorem eqTy_156 : eqTy Try.prog 156 = some [2] := by kernel_rfl
@[simp] theorem byteSl_9_112 : byteSl Try.prog 9 112 = true := by kernel_rfl
@[simp] theorem byteSl_10_112 : byteSl Try.prog 10 112 = true := by kernel_rfl
@[simp] theorem byteSl_11_112 : byteSl Try.prog 11 112 = true := by kernel_rfl
end Go.Proofs.Ytdgbfbgnbgfmjaa

