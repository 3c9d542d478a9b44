/- Contracts of functions for this claim: lemmas alone. -/
import Derived.Test.YtiialcomflggcaaProg
import Derived.Test.YtiialcomflggcaaLd
import Derived.KernelRfl
set_option linter.unusedSimpArgs false
set_option linter.unusedVariables false
namespace Go.Proofs.Ytiialcomflggcaa
open Go Go.Fi
set_option maxRecDepth 100000
@[simp] theorem nIfc_1 : nIfc Try.prog 1 = true := by kernel_rfl
@[simp] theorem tyL_1 : tyL Try.prog 1 = some (1, false) := by kernel_rfl
@[simp] theorem nIfc_2 : nIfc Try.prog 2 = true := by kernel_rfl
@[simp] theorem tyL_2 : tyL Try.prog 2 = some (1, false) := by kernel_rfl
@[simp] theorem zcells_2 : zcells Try.prog 2 = some [.w false false (.int .i64 (0))] := by kernel_rfl
@[simp] theorem slE_2 : slE Try.prog 2 = none := by kernel_rfl
@[simp] theorem isStr_2 : isStr Try.prog 2 = false := by kernel_rfl
@[simp] theorem kindOf_2 : kindOf Try.prog 2 = some .i64 := by kernel_rfl
@[simp] theorem eqTy_2 : eqTy Try.prog 2 = none := by kernel_rfl
@[simp] theorem nIfc_3 : nIfc Try.prog 3 = true := by kernel_rfl
@[simp] theorem tyL_3 : tyL Try.prog 3 = some (1, false) := by kernel_rfl
@[simp] theorem zcells_3 : zcells Try.prog 3 = some [.w false false (.int .i64 (0))] := by kernel_rfl
@[simp] theorem slE_3 : slE Try.prog 3 = none := by kernel_rfl
@[simp] theorem isStr_3 : isStr Try.prog 3 = false := by kernel_rfl
@[simp] theorem kindOf_3 : kindOf Try.prog 3 = some .i64 := by kernel_rfl
@[simp] theorem eqTy_3 : eqTy Try.prog 3 = none := by kernel_rfl
@[simp] theorem nIfc_4 : nIfc Try.prog 4 = true := by kernel_rfl
@[simp] theorem tyL_4 : tyL Try.prog 4 = some (1, false) := by kernel_rfl
@[simp] theorem zcells_4 : zcells Try.prog 4 = some [.w false false (.bool false)] := by kernel_rfl
@[simp] theorem slE_4 : slE Try.prog 4 = none := by kernel_rfl
@[simp] theorem isStr_4 : isStr Try.prog 4 = false := by kernel_rfl
@[simp] theorem isBool_4 : isBool Try.prog 4 = true := by kernel_rfl
@[simp] theorem eqTy_4 : eqTy Try.prog 4 = none := by kernel_rfl
@[simp] theorem nIfc_5 : nIfc Try.prog 5 = true := by kernel_rfl
@[simp] theorem tyL_5 : tyL Try.prog 5 = some (1, false) := by kernel_rfl
@[simp] theorem zcells_5 : zcells Try.prog 5 = some [.w false false (.int .u8 (0))] := by kernel_rfl
@[simp] theorem slE_5 : slE Try.prog 5 = none := by kernel_rfl
@[simp] theorem isStr_5 : isStr Try.prog 5 = false := by kernel_rfl
@[simp] theorem kindOf_5 : kindOf Try.prog 5 = some .u8 := by kernel_rfl
@[simp] theorem eqTy_5 : eqTy Try.prog 5 = none := by kernel_rfl
@[simp] theorem nIfc_9 : nIfc Try.prog 9 = true := by kernel_rfl
@[simp] theorem tyL_9 : tyL Try.prog 9 = some (1, false) := by kernel_rfl
@[simp] theorem zcells_9 : zcells Try.prog 9 = some [.w false false (.str ByteArray.empty)] := by kernel_rfl
@[simp] theorem slE_9 : slE Try.prog 9 = none := by kernel_rfl
@[simp] theorem isStr_9 : isStr Try.prog 9 = true := by kernel_rfl
@[simp] theorem eqTy_9 : eqTy Try.prog 9 = none := by kernel_rfl
@[simp] theorem tyL_20 : tyL Try.prog 20 = some (1, false) := by kernel_rfl
@[simp] theorem zcells_20 : zcells Try.prog 20 = some [.w true false .nili] := by kernel_rfl
@[simp] theorem eqTy_20 : eqTy Try.prog 20 = none := by kernel_rfl
@[simp] theorem nIfc_21 : nIfc Try.prog 21 = true := by kernel_rfl
@[simp] theorem tyL_21 : tyL Try.prog 21 = some (1, false) := by kernel_rfl
@[simp] theorem zcells_21 : zcells Try.prog 21 = some [.w false false (.int .i32 (0))] := by kernel_rfl
@[simp] theorem slE_21 : slE Try.prog 21 = none := by kernel_rfl
@[simp] theorem isStr_21 : isStr Try.prog 21 = false := by kernel_rfl
@[simp] theorem kindOf_21 : kindOf Try.prog 21 = some .i32 := by kernel_rfl
@[simp] theorem eqTy_21 : eqTy Try.prog 21 = none := by kernel_rfl
@[simp] theorem nIfc_22 : nIfc Try.prog 22 = true := by kernel_rfl
@[simp] theorem tyL_22 : tyL Try.prog 22 = some (1, false) := by kernel_rfl
@[simp] theorem zcells_22 : zcells Try.prog 22 = some [.w true true (.sl 0 [])] := by kernel_rfl
@[simp] theorem slE_22 : slE Try.prog 22 = some (60, 1) := by kernel_rfl
@[simp] theorem byE_60 : byE Try.prog 60 = some 24 := by kernel_rfl
@[simp] theorem isStr_22 : isStr Try.prog 22 = false := by kernel_rfl
@[simp] theorem eqTy_22 : eqTy Try.prog 22 = none := by kernel_rfl
@[simp] theorem nIfc_23 : nIfc Try.prog 23 = true := by kernel_rfl
@[simp] theorem tyL_23 : tyL Try.prog 23 = some (1, true) := by kernel_rfl
@[simp] theorem zcells_23 : zcells Try.prog 23 = some [.w true true (.sl 0 [])] := by kernel_rfl
@[simp] theorem slE_23 : slE Try.prog 23 = none := by kernel_rfl
@[simp] theorem isStr_23 : isStr Try.prog 23 = false := by kernel_rfl
@[simp] theorem fOf_23_0 : fOf Try.prog 23 0 = some (0, 1, false) := by kernel_rfl
@[simp] theorem pls_23 : pls Try.prog 23 = some [(0, 1)] := by kernel_rfl
@[simp] theorem nIfc_24 : nIfc Try.prog 24 = true := by kernel_rfl
@[simp] theorem tyL_24 : tyL Try.prog 24 = some (1, true) := by kernel_rfl
@[simp] theorem zcells_24 : zcells Try.prog 24 = some [.w true true (.sl 0 [])] := by kernel_rfl
@[simp] theorem slE_24 : slE Try.prog 24 = none := by kernel_rfl
@[simp] theorem isStr_24 : isStr Try.prog 24 = false := by kernel_rfl
@[simp] theorem fOf_24_0 : fOf Try.prog 24 0 = some (0, 1, false) := by kernel_rfl
@[simp] theorem pls_24 : pls Try.prog 24 = some [(0, 1)] := by kernel_rfl
@[simp] theorem nIfc_25 : nIfc Try.prog 25 = true := by kernel_rfl
@[simp] theorem tyL_25 : tyL Try.prog 25 = some (3, true) := by kernel_rfl
@[simp] theorem zcells_25 : zcells Try.prog 25 = some [.w false false (.int .i64 (0)), .w false false (.int .i64 (0)), .w false false (.int .i64 (0))] := by kernel_rfl
@[simp] theorem slE_25 : slE Try.prog 25 = none := by kernel_rfl
@[simp] theorem isStr_25 : isStr Try.prog 25 = false := by kernel_rfl
@[simp] theorem fOf_25_0 : fOf Try.prog 25 0 = some (0, 1, false) := by kernel_rfl
@[simp] theorem fOf_25_1 : fOf Try.prog 25 1 = some (1, 1, false) := by kernel_rfl
@[simp] theorem fOf_25_2 : fOf Try.prog 25 2 = some (2, 1, false) := by kernel_rfl
@[simp] theorem pls_25 : pls Try.prog 25 = some [(0, 1), (1, 1), (2, 1)] := by kernel_rfl
@[simp] theorem eqTy_25 : eqTy Try.prog 25 = some [1, 1, 1] := by kernel_rfl
@[simp] theorem nIfc_26 : nIfc Try.prog 26 = true := by kernel_rfl
@[simp] theorem tyL_26 : tyL Try.prog 26 = some (3, true) := by kernel_rfl
@[simp] theorem zcells_26 : zcells Try.prog 26 = some [.w false false (.int .i64 (0)), .w false false (.int .i64 (0)), .w false false (.int .i64 (0))] := by kernel_rfl
@[simp] theorem slE_26 : slE Try.prog 26 = none := by kernel_rfl
@[simp] theorem isStr_26 : isStr Try.prog 26 = false := by kernel_rfl
@[simp] theorem fOf_26_0 : fOf Try.prog 26 0 = some (0, 1, false) := by kernel_rfl
@[simp] theorem fOf_26_1 : fOf Try.prog 26 1 = some (1, 1, false) := by kernel_rfl
@[simp] theorem fOf_26_2 : fOf Try.prog 26 2 = some (2, 1, false) := by kernel_rfl
@[simp] theorem pls_26 : pls Try.prog 26 = some [(0, 1), (1, 1), (2, 1)] := by kernel_rfl
@[simp] theorem eqTy_26 : eqTy Try.prog 26 = some [1, 1, 1] := by kernel_rfl
@[simp] theorem nIfc_27 : nIfc Try.prog 27 = true := by kernel_rfl
@[simp] theorem tyL_27 : tyL Try.prog 27 = some (1, false) := by kernel_rfl
@[simp] theorem zcells_27 : zcells Try.prog 27 = some [.w true true (.sl 0 [])] := by kernel_rfl
@[simp] theorem slE_27 : slE Try.prog 27 = some (43, 8) := by kernel_rfl
@[simp] theorem byE_43 : byE Try.prog 43 = some 72 := by kernel_rfl
@[simp] theorem isStr_27 : isStr Try.prog 27 = false := by kernel_rfl
@[simp] theorem eqTy_27 : eqTy Try.prog 27 = none := by kernel_rfl
@[simp] theorem nIfc_28 : nIfc Try.prog 28 = true := by kernel_rfl
@[simp] theorem tyL_28 : tyL Try.prog 28 = some (1, false) := by kernel_rfl
@[simp] theorem zcells_28 : zcells Try.prog 28 = some [.w true true (.sl 0 [])] := by kernel_rfl
@[simp] theorem slE_28 : slE Try.prog 28 = some (86, 2) := by kernel_rfl
@[simp] theorem byE_86 : byE Try.prog 86 = some 16 := by kernel_rfl
@[simp] theorem isStr_28 : isStr Try.prog 28 = false := by kernel_rfl
@[simp] theorem eqTy_28 : eqTy Try.prog 28 = none := by kernel_rfl
@[simp] theorem nIfc_29 : nIfc Try.prog 29 = true := by kernel_rfl
@[simp] theorem tyL_29 : tyL Try.prog 29 = some (5, true) := by kernel_rfl
@[simp] theorem zcells_29 : zcells Try.prog 29 = some [.w false false (.int .i64 (0)), .w false false (.int .i64 (0)), .w false false (.int .i64 (0)), .w true true (.sl 0 []), .w true true (.sl 0 [])] := by kernel_rfl
@[simp] theorem slE_29 : slE Try.prog 29 = none := by kernel_rfl
@[simp] theorem isStr_29 : isStr Try.prog 29 = false := by kernel_rfl
@[simp] theorem fOf_29_0 : fOf Try.prog 29 0 = some (0, 3, true) := by kernel_rfl
@[simp] theorem fOf_29_1 : fOf Try.prog 29 1 = some (3, 1, false) := by kernel_rfl
@[simp] theorem fOf_29_2 : fOf Try.prog 29 2 = some (4, 1, false) := by kernel_rfl
@[simp] theorem pls_29 : pls Try.prog 29 = some [(0, 3), (3, 1), (4, 1)] := by kernel_rfl
@[simp] theorem nIfc_30 : nIfc Try.prog 30 = true := by kernel_rfl
@[simp] theorem tyL_30 : tyL Try.prog 30 = some (5, true) := by kernel_rfl
@[simp] theorem zcells_30 : zcells Try.prog 30 = some [.w false false (.int .i64 (0)), .w false false (.int .i64 (0)), .w false false (.int .i64 (0)), .w true true (.sl 0 []), .w true true (.sl 0 [])] := by kernel_rfl
@[simp] theorem slE_30 : slE Try.prog 30 = none := by kernel_rfl
@[simp] theorem isStr_30 : isStr Try.prog 30 = false := by kernel_rfl
@[simp] theorem fOf_30_0 : fOf Try.prog 30 0 = some (0, 3, true) := by kernel_rfl
@[simp] theorem fOf_30_1 : fOf Try.prog 30 1 = some (3, 1, false) := by kernel_rfl
@[simp] theorem fOf_30_2 : fOf Try.prog 30 2 = some (4, 1, false) := by kernel_rfl
@[simp] theorem pls_30 : pls Try.prog 30 = some [(0, 3), (3, 1), (4, 1)] := by kernel_rfl
@[simp] theorem nIfc_31 : nIfc Try.prog 31 = true := by kernel_rfl
@[simp] theorem tyL_31 : tyL Try.prog 31 = some (1, false) := by kernel_rfl
@[simp] theorem nIfc_32 : nIfc Try.prog 32 = true := by kernel_rfl
@[simp] theorem tyL_32 : tyL Try.prog 32 = some (1, false) := by kernel_rfl
@[simp] theorem nIfc_33 : nIfc Try.prog 33 = true := by kernel_rfl
@[simp] theorem tyL_33 : tyL Try.prog 33 = some (1, false) := by kernel_rfl
@[simp] theorem zcells_33 : zcells Try.prog 33 = some [.w false false (.int .i64 (0))] := by kernel_rfl
@[simp] theorem slE_33 : slE Try.prog 33 = none := by kernel_rfl
@[simp] theorem isStr_33 : isStr Try.prog 33 = false := by kernel_rfl
@[simp] theorem kindOf_33 : kindOf Try.prog 33 = some .i64 := by kernel_rfl
@[simp] theorem eqTy_33 : eqTy Try.prog 33 = none := by kernel_rfl
@[simp] theorem nIfc_35 : nIfc Try.prog 35 = true := by kernel_rfl
@[simp] theorem tyL_35 : tyL Try.prog 35 = some (1, false) := by kernel_rfl
@[simp] theorem nIfc_36 : nIfc Try.prog 36 = true := by kernel_rfl
@[simp] theorem tyL_36 : tyL Try.prog 36 = some (1, false) := by kernel_rfl
@[simp] theorem nIfc_37 : nIfc Try.prog 37 = true := by kernel_rfl
@[simp] theorem tyL_37 : tyL Try.prog 37 = some (1, false) := by kernel_rfl
@[simp] theorem nIfc_38 : nIfc Try.prog 38 = true := by kernel_rfl
@[simp] theorem tyL_38 : tyL Try.prog 38 = some (1, false) := by kernel_rfl
@[simp] theorem nIfc_39 : nIfc Try.prog 39 = true := by kernel_rfl
@[simp] theorem tyL_39 : tyL Try.prog 39 = some (1, false) := by kernel_rfl
@[simp] theorem nIfc_41 : nIfc Try.prog 41 = true := by kernel_rfl
@[simp] theorem tyL_41 : tyL Try.prog 41 = some (1, false) := by kernel_rfl
@[simp] theorem nIfc_42 : nIfc Try.prog 42 = true := by kernel_rfl
@[simp] theorem tyL_42 : tyL Try.prog 42 = some (8, true) := by kernel_rfl
@[simp] theorem zcells_42 : zcells Try.prog 42 = some [.w false false (.str ByteArray.empty), .w false false (.int .i64 (0)), .w false false (.int .i64 (0)), .w false false (.int .i64 (0)), .w false false (.int .i64 (0)), .w false false (.int .i64 (0)), .w false false (.bool false), .w false false (.int .i64 (0))] := by kernel_rfl
@[simp] theorem slE_42 : slE Try.prog 42 = none := by kernel_rfl
@[simp] theorem isStr_42 : isStr Try.prog 42 = false := by kernel_rfl
@[simp] theorem fOf_42_0 : fOf Try.prog 42 0 = some (0, 1, false) := by kernel_rfl
@[simp] theorem fOf_42_1 : fOf Try.prog 42 1 = some (1, 1, false) := by kernel_rfl
@[simp] theorem fOf_42_2 : fOf Try.prog 42 2 = some (2, 1, false) := by kernel_rfl
@[simp] theorem fOf_42_3 : fOf Try.prog 42 3 = some (3, 1, false) := by kernel_rfl
@[simp] theorem fOf_42_4 : fOf Try.prog 42 4 = some (4, 1, false) := by kernel_rfl
@[simp] theorem fOf_42_5 : fOf Try.prog 42 5 = some (5, 1, false) := by kernel_rfl
@[simp] theorem fOf_42_6 : fOf Try.prog 42 6 = some (6, 1, false) := by kernel_rfl
@[simp] theorem fOf_42_7 : fOf Try.prog 42 7 = some (7, 1, false) := by kernel_rfl
@[simp] theorem pls_42 : pls Try.prog 42 = some [(0, 1), (1, 1), (2, 1), (3, 1), (4, 1), (5, 1), (6, 1), (7, 1)] := by kernel_rfl
@[simp] theorem eqTy_42 : eqTy Try.prog 42 = some [2, 1, 1, 1, 1, 1, 0, 1] := by kernel_rfl
@[simp] theorem nIfc_43 : nIfc Try.prog 43 = true := by kernel_rfl
@[simp] theorem tyL_43 : tyL Try.prog 43 = some (8, true) := by kernel_rfl
@[simp] theorem zcells_43 : zcells Try.prog 43 = some [.w false false (.str ByteArray.empty), .w false false (.int .i64 (0)), .w false false (.int .i64 (0)), .w false false (.int .i64 (0)), .w false false (.int .i64 (0)), .w false false (.int .i64 (0)), .w false false (.bool false), .w false false (.int .i64 (0))] := by kernel_rfl
@[simp] theorem slE_43 : slE Try.prog 43 = none := by kernel_rfl
@[simp] theorem isStr_43 : isStr Try.prog 43 = false := by kernel_rfl
@[simp] theorem fOf_43_0 : fOf Try.prog 43 0 = some (0, 1, false) := by kernel_rfl
@[simp] theorem fOf_43_1 : fOf Try.prog 43 1 = some (1, 1, false) := by kernel_rfl
@[simp] theorem fOf_43_2 : fOf Try.prog 43 2 = some (2, 1, false) := by kernel_rfl
@[simp] theorem fOf_43_3 : fOf Try.prog 43 3 = some (3, 1, false) := by kernel_rfl
@[simp] theorem fOf_43_4 : fOf Try.prog 43 4 = some (4, 1, false) := by kernel_rfl
@[simp] theorem fOf_43_5 : fOf Try.prog 43 5 = some (5, 1, false) := by kernel_rfl
@[simp] theorem fOf_43_6 : fOf Try.prog 43 6 = some (6, 1, false) := by kernel_rfl
@[simp] theorem fOf_43_7 : fOf Try.prog 43 7 = some (7, 1, false) := by kernel_rfl
@[simp] theorem pls_43 : pls Try.prog 43 = some [(0, 1), (1, 1), (2, 1), (3, 1), (4, 1), (5, 1), (6, 1), (7, 1)] := by kernel_rfl
@[simp] theorem eqTy_43 : eqTy Try.prog 43 = some [2, 1, 1, 1, 1, 1, 0, 1] := by kernel_rfl
@[simp] theorem nIfc_44 : nIfc Try.prog 44 = true := by kernel_rfl
@[simp] theorem tyL_44 : tyL Try.prog 44 = some (1, false) := by kernel_rfl
@[simp] theorem nIfc_45 : nIfc Try.prog 45 = true := by kernel_rfl
@[simp] theorem tyL_45 : tyL Try.prog 45 = some (3, true) := by kernel_rfl
@[simp] theorem zcells_45 : zcells Try.prog 45 = some [.w false false (.int .i64 (0)), .w false false (.int .i64 (0)), .w false false (.int .i64 (0))] := by kernel_rfl
@[simp] theorem slE_45 : slE Try.prog 45 = none := by kernel_rfl
@[simp] theorem isStr_45 : isStr Try.prog 45 = false := by kernel_rfl
@[simp] theorem fOf_45_0 : fOf Try.prog 45 0 = some (0, 1, false) := by kernel_rfl
@[simp] theorem fOf_45_1 : fOf Try.prog 45 1 = some (1, 1, false) := by kernel_rfl
@[simp] theorem fOf_45_2 : fOf Try.prog 45 2 = some (2, 1, false) := by kernel_rfl
@[simp] theorem pls_45 : pls Try.prog 45 = some [(0, 1), (1, 1), (2, 1)] := by kernel_rfl
@[simp] theorem eqTy_45 : eqTy Try.prog 45 = some [1, 1, 1] := by kernel_rfl
@[simp] theorem nIfc_46 : nIfc Try.prog 46 = true := by kernel_rfl
@[simp] theorem tyL_46 : tyL Try.prog 46 = some (3, true) := by kernel_rfl
@[simp] theorem zcells_46 : zcells Try.prog 46 = some [.w false false (.int .i64 (0)), .w false false (.int .i64 (0)), .w false false (.int .i64 (0))] := by kernel_rfl
@[simp] theorem slE_46 : slE Try.prog 46 = none := by kernel_rfl
@[simp] theorem isStr_46 : isStr Try.prog 46 = false := by kernel_rfl
@[simp] theorem fOf_46_0 : fOf Try.prog 46 0 = some (0, 1, false) := by kernel_rfl
@[simp] theorem fOf_46_1 : fOf Try.prog 46 1 = some (1, 1, false) := by kernel_rfl
@[simp] theorem fOf_46_2 : fOf Try.prog 46 2 = some (2, 1, false) := by kernel_rfl
@[simp] theorem pls_46 : pls Try.prog 46 = some [(0, 1), (1, 1), (2, 1)] := by kernel_rfl
@[simp] theorem eqTy_46 : eqTy Try.prog 46 = some [1, 1, 1] := by kernel_rfl
@[simp] theorem nIfc_48 : nIfc Try.prog 48 = true := by kernel_rfl
@[simp] theorem tyL_48 : tyL Try.prog 48 = some (1, false) := by kernel_rfl
@[simp] theorem nIfc_50 : nIfc Try.prog 50 = true := by kernel_rfl
@[simp] theorem tyL_50 : tyL Try.prog 50 = some (1, false) := by kernel_rfl
@[simp] theorem nIfc_51 : nIfc Try.prog 51 = true := by kernel_rfl
@[simp] theorem tyL_51 : tyL Try.prog 51 = some (10, true) := by kernel_rfl
@[simp] theorem zcells_51 : zcells Try.prog 51 = some [.w false false (.str ByteArray.empty), .w false false (.int .i64 (0)), .w false false (.int .i64 (0)), .w false false (.int .i64 (0)), .w false false (.int .i64 (0)), .w false false (.int .i64 (0)), .w false false (.bool false), .w false false (.int .i64 (0)), .w false false (.int .i64 (0)), .w false false (.int .i64 (0))] := by kernel_rfl
@[simp] theorem slE_51 : slE Try.prog 51 = none := by kernel_rfl
@[simp] theorem isStr_51 : isStr Try.prog 51 = false := by kernel_rfl
@[simp] theorem fOf_51_0 : fOf Try.prog 51 0 = some (0, 8, true) := by kernel_rfl
@[simp] theorem fOf_51_1 : fOf Try.prog 51 1 = some (8, 1, false) := by kernel_rfl
@[simp] theorem fOf_51_2 : fOf Try.prog 51 2 = some (9, 1, false) := by kernel_rfl
@[simp] theorem pls_51 : pls Try.prog 51 = some [(0, 8), (8, 1), (9, 1)] := by kernel_rfl
@[simp] theorem eqTy_51 : eqTy Try.prog 51 = some [2, 1, 1, 1, 1, 1, 0, 1, 1, 1] := by kernel_rfl
@[simp] theorem nIfc_52 : nIfc Try.prog 52 = true := by kernel_rfl
@[simp] theorem tyL_52 : tyL Try.prog 52 = some (10, true) := by kernel_rfl
@[simp] theorem zcells_52 : zcells Try.prog 52 = some [.w false false (.str ByteArray.empty), .w false false (.int .i64 (0)), .w false false (.int .i64 (0)), .w false false (.int .i64 (0)), .w false false (.int .i64 (0)), .w false false (.int .i64 (0)), .w false false (.bool false), .w false false (.int .i64 (0)), .w false false (.int .i64 (0)), .w false false (.int .i64 (0))] := by kernel_rfl
@[simp] theorem slE_52 : slE Try.prog 52 = none := by kernel_rfl
@[simp] theorem isStr_52 : isStr Try.prog 52 = false := by kernel_rfl
@[simp] theorem fOf_52_0 : fOf Try.prog 52 0 = some (0, 8, true) := by kernel_rfl
@[simp] theorem fOf_52_1 : fOf Try.prog 52 1 = some (8, 1, false) := by kernel_rfl
@[simp] theorem fOf_52_2 : fOf Try.prog 52 2 = some (9, 1, false) := by kernel_rfl
@[simp] theorem pls_52 : pls Try.prog 52 = some [(0, 8), (8, 1), (9, 1)] := by kernel_rfl
@[simp] theorem eqTy_52 : eqTy Try.prog 52 = some [2, 1, 1, 1, 1, 1, 0, 1, 1, 1] := by kernel_rfl
@[simp] theorem nIfc_53 : nIfc Try.prog 53 = true := by kernel_rfl
@[simp] theorem tyL_53 : tyL Try.prog 53 = some (2, true) := by kernel_rfl
@[simp] theorem zcells_53 : zcells Try.prog 53 = some [.w false false (.int .i64 (0)), .w false false (.int .i64 (0))] := by kernel_rfl
@[simp] theorem slE_53 : slE Try.prog 53 = none := by kernel_rfl
@[simp] theorem isStr_53 : isStr Try.prog 53 = false := by kernel_rfl
@[simp] theorem fOf_53_0 : fOf Try.prog 53 0 = some (0, 1, false) := by kernel_rfl
@[simp] theorem fOf_53_1 : fOf Try.prog 53 1 = some (1, 1, false) := by kernel_rfl
@[simp] theorem pls_53 : pls Try.prog 53 = some [(0, 1), (1, 1)] := by kernel_rfl
@[simp] theorem eqTy_53 : eqTy Try.prog 53 = some [1, 1] := by kernel_rfl
@[simp] theorem nIfc_54 : nIfc Try.prog 54 = true := by kernel_rfl
@[simp] theorem tyL_54 : tyL Try.prog 54 = some (2, true) := by kernel_rfl
@[simp] theorem zcells_54 : zcells Try.prog 54 = some [.w false false (.int .i64 (0)), .w false false (.int .i64 (0))] := by kernel_rfl
@[simp] theorem slE_54 : slE Try.prog 54 = none := by kernel_rfl
@[simp] theorem isStr_54 : isStr Try.prog 54 = false := by kernel_rfl
@[simp] theorem fOf_54_0 : fOf Try.prog 54 0 = some (0, 1, false) := by kernel_rfl
@[simp] theorem fOf_54_1 : fOf Try.prog 54 1 = some (1, 1, false) := by kernel_rfl
@[simp] theorem pls_54 : pls Try.prog 54 = some [(0, 1), (1, 1)] := by kernel_rfl
@[simp] theorem eqTy_54 : eqTy Try.prog 54 = some [1, 1] := by kernel_rfl
@[simp] theorem nIfc_56 : nIfc Try.prog 56 = true := by kernel_rfl
@[simp] theorem tyL_56 : tyL Try.prog 56 = some (1, false) := by kernel_rfl
@[simp] theorem nIfc_58 : nIfc Try.prog 58 = true := by kernel_rfl
@[simp] theorem tyL_58 : tyL Try.prog 58 = some (1, false) := by kernel_rfl
@[simp] theorem nIfc_59 : nIfc Try.prog 59 = true := by kernel_rfl
@[simp] theorem tyL_59 : tyL Try.prog 59 = some (1, false) := by kernel_rfl
@[simp] theorem nIfc_60 : nIfc Try.prog 60 = true := by kernel_rfl
@[simp] theorem tyL_60 : tyL Try.prog 60 = some (1, false) := by kernel_rfl
@[simp] theorem zcells_60 : zcells Try.prog 60 = some [.w true true (.sl 0 [])] := by kernel_rfl
@[simp] theorem slE_60 : slE Try.prog 60 = some (3, 1) := by kernel_rfl
@[simp] theorem byE_3 : byE Try.prog 3 = some 8 := by kernel_rfl
@[simp] theorem isStr_60 : isStr Try.prog 60 = false := by kernel_rfl
@[simp] theorem eqTy_60 : eqTy Try.prog 60 = none := by kernel_rfl
@[simp] theorem nIfc_62 : nIfc Try.prog 62 = true := by kernel_rfl
@[simp] theorem tyL_62 : tyL Try.prog 62 = some (1, false) := by kernel_rfl
@[simp] theorem nIfc_63 : nIfc Try.prog 63 = true := by kernel_rfl
@[simp] theorem tyL_63 : tyL Try.prog 63 = some (1, false) := by kernel_rfl
@[simp] theorem nIfc_64 : nIfc Try.prog 64 = true := by kernel_rfl
@[simp] theorem tyL_64 : tyL Try.prog 64 = some (1, false) := by kernel_rfl
@[simp] theorem nIfc_65 : nIfc Try.prog 65 = true := by kernel_rfl
@[simp] theorem tyL_65 : tyL Try.prog 65 = some (1, false) := by kernel_rfl
@[simp] theorem zcells_65 : zcells Try.prog 65 = some [.w true true (.sl 0 [])] := by kernel_rfl
@[simp] theorem slE_65 : slE Try.prog 65 = some (46, 3) := by kernel_rfl
@[simp] theorem byE_46 : byE Try.prog 46 = some 24 := by kernel_rfl
@[simp] theorem isStr_65 : isStr Try.prog 65 = false := by kernel_rfl
@[simp] theorem eqTy_65 : eqTy Try.prog 65 = none := by kernel_rfl
@[simp] theorem nIfc_67 : nIfc Try.prog 67 = true := by kernel_rfl
@[simp] theorem tyL_67 : tyL Try.prog 67 = some (1, false) := by kernel_rfl
@[simp] theorem nIfc_68 : nIfc Try.prog 68 = true := by kernel_rfl
@[simp] theorem tyL_68 : tyL Try.prog 68 = some (1, false) := by kernel_rfl
@[simp] theorem nIfc_69 : nIfc Try.prog 69 = true := by kernel_rfl
@[simp] theorem tyL_69 : tyL Try.prog 69 = some (1, false) := by kernel_rfl
@[simp] theorem nIfc_70 : nIfc Try.prog 70 = true := by kernel_rfl
@[simp] theorem tyL_70 : tyL Try.prog 70 = some (1, false) := by kernel_rfl
@[simp] theorem nIfc_71 : nIfc Try.prog 71 = true := by kernel_rfl
@[simp] theorem tyL_71 : tyL Try.prog 71 = some (1, false) := by kernel_rfl
@[simp] theorem nIfc_72 : nIfc Try.prog 72 = true := by kernel_rfl
@[simp] theorem tyL_72 : tyL Try.prog 72 = some (1, false) := by kernel_rfl
@[simp] theorem nIfc_73 : nIfc Try.prog 73 = true := by kernel_rfl
@[simp] theorem tyL_73 : tyL Try.prog 73 = some (1, false) := by kernel_rfl
@[simp] theorem nIfc_74 : nIfc Try.prog 74 = true := by kernel_rfl
@[simp] theorem tyL_74 : tyL Try.prog 74 = some (1, false) := by kernel_rfl
@[simp] theorem zcells_74 : zcells Try.prog 74 = some [.w true false .nilp] := by kernel_rfl
@[simp] theorem slE_74 : slE Try.prog 74 = none := by kernel_rfl
@[simp] theorem isStr_74 : isStr Try.prog 74 = false := by kernel_rfl
@[simp] theorem eqTy_74 : eqTy Try.prog 74 = none := by kernel_rfl
@[simp] theorem nIfc_76 : nIfc Try.prog 76 = true := by kernel_rfl
@[simp] theorem tyL_76 : tyL Try.prog 76 = some (1, false) := by kernel_rfl
@[simp] theorem nIfc_77 : nIfc Try.prog 77 = true := by kernel_rfl
@[simp] theorem tyL_77 : tyL Try.prog 77 = some (1, false) := by kernel_rfl
@[simp] theorem nIfc_78 : nIfc Try.prog 78 = true := by kernel_rfl
@[simp] theorem tyL_78 : tyL Try.prog 78 = some (1, false) := by kernel_rfl
@[simp] theorem nIfc_79 : nIfc Try.prog 79 = true := by kernel_rfl
@[simp] theorem tyL_79 : tyL Try.prog 79 = some (1, false) := by kernel_rfl
@[simp] theorem nIfc_80 : nIfc Try.prog 80 = true := by kernel_rfl
@[simp] theorem tyL_80 : tyL Try.prog 80 = some (1, false) := by kernel_rfl
@[simp] theorem nIfc_81 : nIfc Try.prog 81 = true := by kernel_rfl
@[simp] theorem tyL_81 : tyL Try.prog 81 = some (1, false) := by kernel_rfl
@[simp] theorem nIfc_82 : nIfc Try.prog 82 = true := by kernel_rfl
@[simp] theorem tyL_82 : tyL Try.prog 82 = some (1, false) := by kernel_rfl
@[simp] theorem nIfc_83 : nIfc Try.prog 83 = true := by kernel_rfl
@[simp] theorem tyL_83 : tyL Try.prog 83 = some (1, false) := by kernel_rfl
@[simp] theorem nIfc_84 : nIfc Try.prog 84 = true := by kernel_rfl
@[simp] theorem tyL_84 : tyL Try.prog 84 = some (1, false) := by kernel_rfl
@[simp] theorem nIfc_85 : nIfc Try.prog 85 = true := by kernel_rfl
@[simp] theorem tyL_85 : tyL Try.prog 85 = some (2, true) := by kernel_rfl
@[simp] theorem zcells_85 : zcells Try.prog 85 = some [.w false false (.int .i64 (0)), .w false false (.bool false)] := by kernel_rfl
@[simp] theorem slE_85 : slE Try.prog 85 = none := by kernel_rfl
@[simp] theorem isStr_85 : isStr Try.prog 85 = false := by kernel_rfl
@[simp] theorem fOf_85_0 : fOf Try.prog 85 0 = some (0, 1, false) := by kernel_rfl
@[simp] theorem fOf_85_1 : fOf Try.prog 85 1 = some (1, 1, false) := by kernel_rfl
@[simp] theorem pls_85 : pls Try.prog 85 = some [(0, 1), (1, 1)] := by kernel_rfl
@[simp] theorem eqTy_85 : eqTy Try.prog 85 = some [1, 0] := by kernel_rfl
@[simp] theorem nIfc_86 : nIfc Try.prog 86 = true := by kernel_rfl
@[simp] theorem tyL_86 : tyL Try.prog 86 = some (2, true) := by kernel_rfl
@[simp] theorem zcells_86 : zcells Try.prog 86 = some [.w false false (.int .i64 (0)), .w false false (.bool false)] := by kernel_rfl
@[simp] theorem slE_86 : slE Try.prog 86 = none := by kernel_rfl
@[simp] theorem isStr_86 : isStr Try.prog 86 = false := by kernel_rfl
@[simp] theorem fOf_86_0 : fOf Try.prog 86 0 = some (0, 1, false) := by kernel_rfl
@[simp] theorem fOf_86_1 : fOf Try.prog 86 1 = some (1, 1, false) := by kernel_rfl
@[simp] theorem pls_86 : pls Try.prog 86 = some [(0, 1), (1, 1)] := by kernel_rfl
@[simp] theorem eqTy_86 : eqTy Try.prog 86 = some [1, 0] := by kernel_rfl
@[simp] theorem nIfc_87 : nIfc Try.prog 87 = true := by kernel_rfl
@[simp] theorem tyL_87 : tyL Try.prog 87 = some (1, false) := by kernel_rfl
@[simp] theorem nIfc_89 : nIfc Try.prog 89 = true := by kernel_rfl
@[simp] theorem tyL_89 : tyL Try.prog 89 = some (1, false) := by kernel_rfl
@[simp] theorem nIfc_90 : nIfc Try.prog 90 = true := by kernel_rfl
@[simp] theorem tyL_90 : tyL Try.prog 90 = some (1, false) := by kernel_rfl
@[simp] theorem nIfc_91 : nIfc Try.prog 91 = true := by kernel_rfl
@[simp] theorem tyL_91 : tyL Try.prog 91 = some (1, false) := by kernel_rfl
@[simp] theorem nIfc_93 : nIfc Try.prog 93 = true := by kernel_rfl
@[simp] theorem tyL_93 : tyL Try.prog 93 = some (1, false) := by kernel_rfl
@[simp] theorem nIfc_94 : nIfc Try.prog 94 = true := by kernel_rfl
@[simp] theorem tyL_94 : tyL Try.prog 94 = some (1, false) := by kernel_rfl
@[simp] theorem nIfc_95 : nIfc Try.prog 95 = true := by kernel_rfl
@[simp] theorem tyL_95 : tyL Try.prog 95 = some (1, false) := by kernel_rfl
@[simp] theorem nIfc_96 : nIfc Try.prog 96 = true := by kernel_rfl
@[simp] theorem tyL_96 : tyL Try.prog 96 = some (1, false) := by kernel_rfl
@[simp] theorem nIfc_97 : nIfc Try.prog 97 = true := by kernel_rfl
@[simp] theorem tyL_97 : tyL Try.prog 97 = some (1, false) := by kernel_rfl
@[simp] theorem nIfc_99 : nIfc Try.prog 99 = true := by kernel_rfl
@[simp] theorem tyL_99 : tyL Try.prog 99 = some (1, false) := by kernel_rfl
@[simp] theorem nIfc_100 : nIfc Try.prog 100 = true := by kernel_rfl
@[simp] theorem tyL_100 : tyL Try.prog 100 = some (1, false) := by kernel_rfl
@[simp] theorem nIfc_101 : nIfc Try.prog 101 = true := by kernel_rfl
@[simp] theorem tyL_101 : tyL Try.prog 101 = some (1, false) := by kernel_rfl
@[simp] theorem nIfc_102 : nIfc Try.prog 102 = true := by kernel_rfl
@[simp] theorem tyL_102 : tyL Try.prog 102 = some (1, false) := by kernel_rfl
@[simp] theorem nIfc_103 : nIfc Try.prog 103 = true := by kernel_rfl
@[simp] theorem tyL_103 : tyL Try.prog 103 = some (1, false) := by kernel_rfl
@[simp] theorem nIfc_104 : nIfc Try.prog 104 = true := by kernel_rfl
@[simp] theorem tyL_104 : tyL Try.prog 104 = some (1, false) := by kernel_rfl
@[simp] theorem nIfc_105 : nIfc Try.prog 105 = true := by kernel_rfl
@[simp] theorem tyL_105 : tyL Try.prog 105 = some (1, false) := by kernel_rfl
@[simp] theorem nIfc_106 : nIfc Try.prog 106 = true := by kernel_rfl
@[simp] theorem tyL_106 : tyL Try.prog 106 = some (1, false) := by kernel_rfl
@[simp] theorem nIfc_107 : nIfc Try.prog 107 = true := by kernel_rfl
@[simp] theorem tyL_107 : tyL Try.prog 107 = some (1, false) := by kernel_rfl
@[simp] theorem nIfc_108 : nIfc Try.prog 108 = true := by kernel_rfl
@[simp] theorem tyL_108 : tyL Try.prog 108 = some (1, false) := by kernel_rfl
@[simp] theorem nIfc_109 : nIfc Try.prog 109 = true := by kernel_rfl
@[simp] theorem tyL_109 : tyL Try.prog 109 = some (1, false) := by kernel_rfl
@[simp] theorem nIfc_110 : nIfc Try.prog 110 = true := by kernel_rfl
@[simp] theorem tyL_110 : tyL Try.prog 110 = some (1, false) := by kernel_rfl
@[simp] theorem nIfc_111 : nIfc Try.prog 111 = true := by kernel_rfl
@[simp] theorem tyL_111 : tyL Try.prog 111 = some (8, true) := by kernel_rfl
@[simp] theorem zcells_111 : zcells Try.prog 111 = some [.w false false (.int .i64 (0)), .w false false (.int .i64 (0)), .w false false (.int .i64 (0)), .w true true (.sl 0 []), .w true true (.sl 0 []), .w true true (.sl 0 []), .w true true (.sl 0 []), .w true true (.sl 0 [])] := by kernel_rfl
@[simp] theorem slE_111 : slE Try.prog 111 = none := by kernel_rfl
@[simp] theorem isStr_111 : isStr Try.prog 111 = false := by kernel_rfl
@[simp] theorem fOf_111_0 : fOf Try.prog 111 0 = some (0, 5, true) := by kernel_rfl
@[simp] theorem fOf_111_1 : fOf Try.prog 111 1 = some (5, 1, true) := by kernel_rfl
@[simp] theorem fOf_111_2 : fOf Try.prog 111 2 = some (6, 1, false) := by kernel_rfl
@[simp] theorem fOf_111_3 : fOf Try.prog 111 3 = some (7, 1, false) := by kernel_rfl
@[simp] theorem pls_111 : pls Try.prog 111 = some [(0, 5), (5, 1), (6, 1), (7, 1)] := by kernel_rfl
@[simp] theorem nIfc_112 : nIfc Try.prog 112 = true := by kernel_rfl
@[simp] theorem tyL_112 : tyL Try.prog 112 = some (8, true) := by kernel_rfl
@[simp] theorem zcells_112 : zcells Try.prog 112 = some [.w false false (.int .i64 (0)), .w false false (.int .i64 (0)), .w false false (.int .i64 (0)), .w true true (.sl 0 []), .w true true (.sl 0 []), .w true true (.sl 0 []), .w true true (.sl 0 []), .w true true (.sl 0 [])] := by kernel_rfl
@[simp] theorem slE_112 : slE Try.prog 112 = none := by kernel_rfl
@[simp] theorem isStr_112 : isStr Try.prog 112 = false := by kernel_rfl
@[simp] theorem fOf_112_0 : fOf Try.prog 112 0 = some (0, 5, true) := by kernel_rfl
@[simp] theorem fOf_112_1 : fOf Try.prog 112 1 = some (5, 1, true) := by kernel_rfl
@[simp] theorem fOf_112_2 : fOf Try.prog 112 2 = some (6, 1, false) := by kernel_rfl
@[simp] theorem fOf_112_3 : fOf Try.prog 112 3 = some (7, 1, false) := by kernel_rfl
@[simp] theorem pls_112 : pls Try.prog 112 = some [(0, 5), (5, 1), (6, 1), (7, 1)] := by kernel_rfl
@[simp] theorem nIfc_113 : nIfc Try.prog 113 = true := by kernel_rfl
@[simp] theorem tyL_113 : tyL Try.prog 113 = some (1, false) := by kernel_rfl
@[simp] theorem nIfc_114 : nIfc Try.prog 114 = true := by kernel_rfl
@[simp] theorem tyL_114 : tyL Try.prog 114 = some (1, false) := by kernel_rfl
@[simp] theorem nIfc_115 : nIfc Try.prog 115 = true := by kernel_rfl
@[simp] theorem tyL_115 : tyL Try.prog 115 = some (1, false) := by kernel_rfl
@[simp] theorem nIfc_116 : nIfc Try.prog 116 = true := by kernel_rfl
@[simp] theorem tyL_116 : tyL Try.prog 116 = some (1, false) := by kernel_rfl
@[simp] theorem nIfc_117 : nIfc Try.prog 117 = true := by kernel_rfl
@[simp] theorem tyL_117 : tyL Try.prog 117 = some (1, false) := by kernel_rfl
@[simp] theorem nIfc_118 : nIfc Try.prog 118 = true := by kernel_rfl
@[simp] theorem tyL_118 : tyL Try.prog 118 = some (1, false) := by kernel_rfl
@[simp] theorem nIfc_119 : nIfc Try.prog 119 = true := by kernel_rfl
@[simp] theorem tyL_119 : tyL Try.prog 119 = some (1, false) := by kernel_rfl
@[simp] theorem nIfc_120 : nIfc Try.prog 120 = true := by kernel_rfl
@[simp] theorem tyL_120 : tyL Try.prog 120 = some (1, false) := by kernel_rfl
@[simp] theorem nIfc_121 : nIfc Try.prog 121 = true := by kernel_rfl
@[simp] theorem tyL_121 : tyL Try.prog 121 = some (1, false) := by kernel_rfl
@[simp] theorem nIfc_122 : nIfc Try.prog 122 = true := by kernel_rfl
@[simp] theorem tyL_122 : tyL Try.prog 122 = some (2, true) := by kernel_rfl
@[simp] theorem zcells_122 : zcells Try.prog 122 = some [.w false false (.int .i64 (0)), .w false false (.int .i64 (0))] := by kernel_rfl
@[simp] theorem slE_122 : slE Try.prog 122 = none := by kernel_rfl
@[simp] theorem isStr_122 : isStr Try.prog 122 = false := by kernel_rfl
@[simp] theorem fOf_122_0 : fOf Try.prog 122 0 = some (0, 1, false) := by kernel_rfl
@[simp] theorem fOf_122_1 : fOf Try.prog 122 1 = some (1, 1, false) := by kernel_rfl
@[simp] theorem pls_122 : pls Try.prog 122 = some [(0, 1), (1, 1)] := by kernel_rfl
@[simp] theorem eqTy_122 : eqTy Try.prog 122 = some [1, 1] := by kernel_rfl
@[simp] theorem nIfc_123 : nIfc Try.prog 123 = true := by kernel_rfl
@[simp] theorem tyL_123 : tyL Try.prog 123 = some (2, true) := by kernel_rfl
@[simp] theorem zcells_123 : zcells Try.prog 123 = some [.w false false (.int .i64 (0)), .w false false (.int .i64 (0))] := by kernel_rfl
@[simp] theorem slE_123 : slE Try.prog 123 = none := by kernel_rfl
@[simp] theorem isStr_123 : isStr Try.prog 123 = false := by kernel_rfl
@[simp] theorem fOf_123_0 : fOf Try.prog 123 0 = some (0, 1, false) := by kernel_rfl
@[simp] theorem fOf_123_1 : fOf Try.prog 123 1 = some (1, 1, false) := by kernel_rfl
@[simp] theorem pls_123 : pls Try.prog 123 = some [(0, 1), (1, 1)] := by kernel_rfl
@[simp] theorem eqTy_123 : eqTy Try.prog 123 = some [1, 1] := by kernel_rfl
@[simp] theorem nIfc_124 : nIfc Try.prog 124 = true := by kernel_rfl
@[simp] theorem tyL_124 : tyL Try.prog 124 = some (1, false) := by kernel_rfl
@[simp] theorem nIfc_125 : nIfc Try.prog 125 = true := by kernel_rfl
@[simp] theorem tyL_125 : tyL Try.prog 125 = some (1, false) := by kernel_rfl
@[simp] theorem zcells_125 : zcells Try.prog 125 = some [.w true true (.sl 0 [])] := by kernel_rfl
@[simp] theorem slE_125 : slE Try.prog 125 = some (9, 1) := by kernel_rfl
@[simp] theorem byE_9 : byE Try.prog 9 = some 16 := by kernel_rfl
@[simp] theorem isStr_125 : isStr Try.prog 125 = false := by kernel_rfl
@[simp] theorem eqTy_125 : eqTy Try.prog 125 = none := by kernel_rfl
@[simp] theorem nIfc_126 : nIfc Try.prog 126 = true := by kernel_rfl
@[simp] theorem tyL_126 : tyL Try.prog 126 = some (1, false) := by kernel_rfl
@[simp] theorem nIfc_127 : nIfc Try.prog 127 = true := by kernel_rfl
@[simp] theorem tyL_127 : tyL Try.prog 127 = some (1, false) := by kernel_rfl
@[simp] theorem zcells_127 : zcells Try.prog 127 = some [.w true true (.sl 0 [])] := by kernel_rfl
@[simp] theorem slE_127 : slE Try.prog 127 = some (33, 1) := by kernel_rfl
@[simp] theorem byE_33 : byE Try.prog 33 = some 8 := by kernel_rfl
@[simp] theorem isStr_127 : isStr Try.prog 127 = false := by kernel_rfl
@[simp] theorem eqTy_127 : eqTy Try.prog 127 = none := by kernel_rfl
@[simp] theorem nIfc_128 : nIfc Try.prog 128 = true := by kernel_rfl
@[simp] theorem tyL_128 : tyL Try.prog 128 = some (1, false) := by kernel_rfl
@[simp] theorem nIfc_129 : nIfc Try.prog 129 = true := by kernel_rfl
@[simp] theorem tyL_129 : tyL Try.prog 129 = some (1, false) := by kernel_rfl
@[simp] theorem nIfc_130 : nIfc Try.prog 130 = true := by kernel_rfl
@[simp] theorem tyL_130 : tyL Try.prog 130 = some (1, false) := by kernel_rfl
@[simp] theorem nIfc_131 : nIfc Try.prog 131 = true := by kernel_rfl
@[simp] theorem tyL_131 : tyL Try.prog 131 = some (1, false) := by kernel_rfl
@[simp] theorem nIfc_132 : nIfc Try.prog 132 = true := by kernel_rfl
@[simp] theorem tyL_132 : tyL Try.prog 132 = some (1, false) := by kernel_rfl
@[simp] theorem nIfc_133 : nIfc Try.prog 133 = true := by kernel_rfl
@[simp] theorem tyL_133 : tyL Try.prog 133 = some (1, false) := by kernel_rfl
@[simp] theorem nIfc_134 : nIfc Try.prog 134 = true := by kernel_rfl
@[simp] theorem tyL_134 : tyL Try.prog 134 = some (1, false) := by kernel_rfl
@[simp] theorem nIfc_135 : nIfc Try.prog 135 = true := by kernel_rfl
@[simp] theorem tyL_135 : tyL Try.prog 135 = some (1, false) := by kernel_rfl
@[simp] theorem nIfc_136 : nIfc Try.prog 136 = true := by kernel_rfl
@[simp] theorem tyL_136 : tyL Try.prog 136 = some (1, false) := by kernel_rfl
@[simp] theorem nIfc_137 : nIfc Try.prog 137 = true := by kernel_rfl
@[simp] theorem tyL_137 : tyL Try.prog 137 = some (1, false) := by kernel_rfl
@[simp] theorem nIfc_138 : nIfc Try.prog 138 = true := by kernel_rfl
@[simp] theorem tyL_138 : tyL Try.prog 138 = some (2, true) := by kernel_rfl
@[simp] theorem zcells_138 : zcells Try.prog 138 = some [.w false false (.int .i64 (0)), .w false false (.int .i64 (0))] := by kernel_rfl
@[simp] theorem slE_138 : slE Try.prog 138 = none := by kernel_rfl
@[simp] theorem isStr_138 : isStr Try.prog 138 = false := by kernel_rfl
@[simp] theorem fOf_138_0 : fOf Try.prog 138 0 = some (0, 1, false) := by kernel_rfl
@[simp] theorem fOf_138_1 : fOf Try.prog 138 1 = some (1, 1, false) := by kernel_rfl
@[simp] theorem pls_138 : pls Try.prog 138 = some [(0, 1), (1, 1)] := by kernel_rfl
@[simp] theorem eqTy_138 : eqTy Try.prog 138 = some [1, 1] := by kernel_rfl
@[simp] theorem nIfc_139 : nIfc Try.prog 139 = true := by kernel_rfl
@[simp] theorem tyL_139 : tyL Try.prog 139 = some (2, true) := by kernel_rfl
@[simp] theorem zcells_139 : zcells Try.prog 139 = some [.w false false (.int .i64 (0)), .w false false (.int .i64 (0))] := by kernel_rfl
@[simp] theorem slE_139 : slE Try.prog 139 = none := by kernel_rfl
@[simp] theorem isStr_139 : isStr Try.prog 139 = false := by kernel_rfl
@[simp] theorem fOf_139_0 : fOf Try.prog 139 0 = some (0, 1, false) := by kernel_rfl
@[simp] theorem fOf_139_1 : fOf Try.prog 139 1 = some (1, 1, false) := by kernel_rfl
@[simp] theorem pls_139 : pls Try.prog 139 = some [(0, 1), (1, 1)] := by kernel_rfl
@[simp] theorem eqTy_139 : eqTy Try.prog 139 = some [1, 1] := by kernel_rfl
@[simp] theorem nIfc_140 : nIfc Try.prog 140 = true := by kernel_rfl
@[simp] theorem tyL_140 : tyL Try.prog 140 = some (1, false) := by kernel_rfl
@[simp] theorem nIfc_141 : nIfc Try.prog 141 = true := by kernel_rfl
@[simp] theorem tyL_141 : tyL Try.prog 141 = some (1, false) := by kernel_rfl
@[simp] theorem nIfc_142 : nIfc Try.prog 142 = true := by kernel_rfl
@[simp] theorem tyL_142 : tyL Try.prog 142 = some (1, false) := by kernel_rfl
@[simp] theorem nIfc_143 : nIfc Try.prog 143 = true := by kernel_rfl
@[simp] theorem tyL_143 : tyL Try.prog 143 = some (1, false) := by kernel_rfl
@[simp] theorem nIfc_144 : nIfc Try.prog 144 = true := by kernel_rfl
@[simp] theorem tyL_144 : tyL Try.prog 144 = some (1, false) := by kernel_rfl
@[simp] theorem zcells_144 : zcells Try.prog 144 = some [.w false false (.int .u64 (0))] := by kernel_rfl
@[simp] theorem slE_144 : slE Try.prog 144 = none := by kernel_rfl
@[simp] theorem isStr_144 : isStr Try.prog 144 = false := by kernel_rfl
@[simp] theorem kindOf_144 : kindOf Try.prog 144 = some .u64 := by kernel_rfl
@[simp] theorem eqTy_144 : eqTy Try.prog 144 = none := by kernel_rfl
@[simp] theorem nIfc_145 : nIfc Try.prog 145 = true := by kernel_rfl
@[simp] theorem tyL_145 : tyL Try.prog 145 = some (1, false) := by kernel_rfl
@[simp] theorem zcells_145 : zcells Try.prog 145 = some [.w true false .nilp] := by kernel_rfl
@[simp] theorem slE_145 : slE Try.prog 145 = none := by kernel_rfl
@[simp] theorem isStr_145 : isStr Try.prog 145 = false := by kernel_rfl
@[simp] theorem eqTy_145 : eqTy Try.prog 145 = none := by kernel_rfl
@[simp] theorem nIfc_146 : nIfc Try.prog 146 = true := by kernel_rfl
@[simp] theorem tyL_146 : tyL Try.prog 146 = some (1, false) := by kernel_rfl
@[simp] theorem zcells_146 : zcells Try.prog 146 = some [.w true true (.sl 0 [])] := by kernel_rfl
@[simp] theorem slE_146 : slE Try.prog 146 = some (5, 1) := by kernel_rfl
@[simp] theorem byE_5 : byE Try.prog 5 = some 1 := by kernel_rfl
@[simp] theorem isStr_146 : isStr Try.prog 146 = false := by kernel_rfl
@[simp] theorem eqTy_146 : eqTy Try.prog 146 = none := by kernel_rfl
@[simp] theorem nIfc_147 : nIfc Try.prog 147 = true := by kernel_rfl
@[simp] theorem tyL_147 : tyL Try.prog 147 = some (2, true) := by kernel_rfl
@[simp] theorem zcells_147 : zcells Try.prog 147 = some [.w true false .nilp, .w true true (.sl 0 [])] := by kernel_rfl
@[simp] theorem slE_147 : slE Try.prog 147 = none := by kernel_rfl
@[simp] theorem isStr_147 : isStr Try.prog 147 = false := by kernel_rfl
@[simp] theorem fOf_147_0 : fOf Try.prog 147 0 = some (0, 1, false) := by kernel_rfl
@[simp] theorem fOf_147_1 : fOf Try.prog 147 1 = some (1, 1, false) := by kernel_rfl
@[simp] theorem pls_147 : pls Try.prog 147 = some [(0, 1), (1, 1)] := by kernel_rfl
@[simp] theorem nIfc_148 : nIfc Try.prog 148 = true := by kernel_rfl
@[simp] theorem tyL_148 : tyL Try.prog 148 = some (2, true) := by kernel_rfl
@[simp] theorem zcells_148 : zcells Try.prog 148 = some [.w true false .nilp, .w true true (.sl 0 [])] := by kernel_rfl
@[simp] theorem slE_148 : slE Try.prog 148 = none := by kernel_rfl
@[simp] theorem isStr_148 : isStr Try.prog 148 = false := by kernel_rfl
@[simp] theorem fOf_148_0 : fOf Try.prog 148 0 = some (0, 1, false) := by kernel_rfl
@[simp] theorem fOf_148_1 : fOf Try.prog 148 1 = some (1, 1, false) := by kernel_rfl
@[simp] theorem pls_148 : pls Try.prog 148 = some [(0, 1), (1, 1)] := by kernel_rfl
@[simp] theorem nIfc_149 : nIfc Try.prog 149 = true := by kernel_rfl
@[simp] theorem tyL_149 : tyL Try.prog 149 = some (1, false) := by kernel_rfl
@[simp] theorem tyL_150 : tyL Try.prog 150 = some (1, false) := by kernel_rfl
@[simp] theorem zcells_150 : zcells Try.prog 150 = some [.w true false .nili] := by kernel_rfl
@[simp] theorem eqTy_150 : eqTy Try.prog 150 = none := by kernel_rfl
@[simp] theorem tyL_151 : tyL Try.prog 151 = some (1, false) := by kernel_rfl
@[simp] theorem zcells_151 : zcells Try.prog 151 = some [.w true false .nili] := by kernel_rfl
@[simp] theorem eqTy_151 : eqTy Try.prog 151 = none := by kernel_rfl
@[simp] theorem nIfc_153 : nIfc Try.prog 153 = true := by kernel_rfl
@[simp] theorem tyL_153 : tyL Try.prog 153 = some (1, false) := by kernel_rfl
@[simp] theorem nIfc_154 : nIfc Try.prog 154 = true := by kernel_rfl
@[simp] theorem tyL_154 : tyL Try.prog 154 = some (1, false) := by kernel_rfl
@[simp] theorem nIfc_155 : nIfc Try.prog 155 = true := by kernel_rfl
@[simp] theorem tyL_155 : tyL Try.prog 155 = some (1, false) := by kernel_rfl
@[simp] theorem nIfc_156 : nIfc Try.prog 156 = true := by kernel_rfl
@[simp] theorem tyL_156 : tyL Try.prog 156 = some (2, true) := by kernel_rfl
@[simp] theorem zcells_156 : zcells Try.prog 156 = some [.w false false (.int .i64 (0)), .w false false (.int .i64 (0))] := by kernel_rfl
@[simp] theorem slE_156 : slE Try.prog 156 = none := by kernel_rfl
@[simp] theorem arE_156 : arE Try.prog 156 = some (2, 1) := by kernel_rfl
@[simp] theorem isStr_156 : isStr Try.prog 156 = false := by kernel_rfl
@[simp] theorem pls_156 : pls Try.prog 156 = some [(0, 1), (1, 1)] := by kernel_rfl
@[simp] theorem eqTy_156 : eqTy Try.prog 156 = some [1, 1] := by kernel_rfl
@[simp] theorem nIfc_158 : nIfc Try.prog 158 = true := by kernel_rfl
@[simp] theorem tyL_158 : tyL Try.prog 158 = some (1, false) := by kernel_rfl
@[simp] theorem nIfc_159 : nIfc Try.prog 159 = true := by kernel_rfl
@[simp] theorem tyL_159 : tyL Try.prog 159 = some (1, false) := by kernel_rfl
@[simp] theorem nIfc_160 : nIfc Try.prog 160 = true := by kernel_rfl
@[simp] theorem tyL_160 : tyL Try.prog 160 = some (1, false) := by kernel_rfl
@[simp] theorem nIfc_161 : nIfc Try.prog 161 = true := by kernel_rfl
@[simp] theorem tyL_161 : tyL Try.prog 161 = some (1, false) := by kernel_rfl
@[simp] theorem nIfc_162 : nIfc Try.prog 162 = true := by kernel_rfl
@[simp] theorem tyL_162 : tyL Try.prog 162 = some (1, false) := by kernel_rfl
@[simp] theorem nIfc_163 : nIfc Try.prog 163 = true := by kernel_rfl
@[simp] theorem tyL_163 : tyL Try.prog 163 = some (1, false) := by kernel_rfl
@[simp] theorem zcells_163 : zcells Try.prog 163 = some [.w true true (.sl 0 [])] := by kernel_rfl
@[simp] theorem slE_163 : slE Try.prog 163 = some (27, 1) := by kernel_rfl
@[simp] theorem byE_27 : byE Try.prog 27 = some 24 := by kernel_rfl
@[simp] theorem isStr_163 : isStr Try.prog 163 = false := by kernel_rfl
@[simp] theorem eqTy_163 : eqTy Try.prog 163 = none := by kernel_rfl
@[simp] theorem nIfc_164 : nIfc Try.prog 164 = true := by kernel_rfl
@[simp] theorem tyL_164 : tyL Try.prog 164 = some (1, false) := by kernel_rfl
@[simp] theorem nIfc_165 : nIfc Try.prog 165 = true := by kernel_rfl
@[simp] theorem tyL_165 : tyL Try.prog 165 = some (1, false) := by kernel_rfl
@[simp] theorem nIfc_166 : nIfc Try.prog 166 = true := by kernel_rfl
@[simp] theorem tyL_166 : tyL Try.prog 166 = some (1, false) := by kernel_rfl
@[simp] theorem zcells_166 : zcells Try.prog 166 = some [.w true false .nilp] := by kernel_rfl
@[simp] theorem slE_166 : slE Try.prog 166 = none := by kernel_rfl
@[simp] theorem isStr_166 : isStr Try.prog 166 = false := by kernel_rfl
@[simp] theorem eqTy_166 : eqTy Try.prog 166 = none := by kernel_rfl
@[simp] theorem nIfc_168 : nIfc Try.prog 168 = true := by kernel_rfl
@[simp] theorem tyL_168 : tyL Try.prog 168 = some (1, false) := by kernel_rfl
@[simp] theorem nIfc_169 : nIfc Try.prog 169 = true := by kernel_rfl
@[simp] theorem tyL_169 : tyL Try.prog 169 = some (1, false) := by kernel_rfl
@[simp] theorem nIfc_172 : nIfc Try.prog 172 = true := by kernel_rfl
@[simp] theorem tyL_172 : tyL Try.prog 172 = some (1, false) := by kernel_rfl
@[simp] theorem nIfc_178 : nIfc Try.prog 178 = true := by kernel_rfl
@[simp] theorem tyL_178 : tyL Try.prog 178 = some (1, false) := by kernel_rfl
@[simp] theorem zcells_178 : zcells Try.prog 178 = some [.w false false (.int .u32 (0))] := by kernel_rfl
@[simp] theorem slE_178 : slE Try.prog 178 = none := by kernel_rfl
@[simp] theorem isStr_178 : isStr Try.prog 178 = false := by kernel_rfl
@[simp] theorem kindOf_178 : kindOf Try.prog 178 = some .u32 := by kernel_rfl
@[simp] theorem eqTy_178 : eqTy Try.prog 178 = none := by kernel_rfl
@[simp] theorem byteSl_9_146 : byteSl Try.prog 9 146 = true := by kernel_rfl
@[simp] theorem byteSl_10_146 : byteSl Try.prog 10 146 = true := by kernel_rfl
@[simp] theorem byteSl_11_146 : byteSl Try.prog 11 146 = true := by kernel_rfl
end Go.Proofs.Ytiialcomflggcaa

