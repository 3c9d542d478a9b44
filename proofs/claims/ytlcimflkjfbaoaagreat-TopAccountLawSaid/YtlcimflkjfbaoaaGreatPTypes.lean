/- Contracts of functions for this claim: lemmas alone. -/
import Derived.Test.YtlcimflkjfbaoaaGreatProg
import Derived.Test.YtlcimflkjfbaoaaGreatLd
import Derived.KernelRfl
set_option linter.unusedSimpArgs false
set_option linter.unusedVariables false
namespace Go.Proofs.YtlcimflkjfbaoaaGreat
open Go Go.Fi
set_option maxRecDepth 100000
@[simp] theorem nIfc_1 : nIfc Tryz.prog 1 = true := by kernel_rfl
@[simp] theorem tyL_1 : tyL Tryz.prog 1 = some (1, false) := by kernel_rfl
@[simp] theorem nIfc_2 : nIfc Tryz.prog 2 = true := by kernel_rfl
@[simp] theorem tyL_2 : tyL Tryz.prog 2 = some (1, false) := by kernel_rfl
@[simp] theorem zcells_2 : zcells Tryz.prog 2 = some [.w false false (.int .i64 (0))] := by kernel_rfl
@[simp] theorem slE_2 : slE Tryz.prog 2 = none := by kernel_rfl
@[simp] theorem isStr_2 : isStr Tryz.prog 2 = false := by kernel_rfl
@[simp] theorem kindOf_2 : kindOf Tryz.prog 2 = some .i64 := by kernel_rfl
@[simp] theorem eqTy_2 : eqTy Tryz.prog 2 = none := by kernel_rfl
@[simp] theorem nIfc_3 : nIfc Tryz.prog 3 = true := by kernel_rfl
@[simp] theorem tyL_3 : tyL Tryz.prog 3 = some (1, false) := by kernel_rfl
@[simp] theorem zcells_3 : zcells Tryz.prog 3 = some [.w false false (.int .i64 (0))] := by kernel_rfl
@[simp] theorem slE_3 : slE Tryz.prog 3 = none := by kernel_rfl
@[simp] theorem isStr_3 : isStr Tryz.prog 3 = false := by kernel_rfl
@[simp] theorem kindOf_3 : kindOf Tryz.prog 3 = some .i64 := by kernel_rfl
@[simp] theorem eqTy_3 : eqTy Tryz.prog 3 = none := by kernel_rfl
@[simp] theorem nIfc_4 : nIfc Tryz.prog 4 = true := by kernel_rfl
@[simp] theorem tyL_4 : tyL Tryz.prog 4 = some (1, false) := by kernel_rfl
@[simp] theorem zcells_4 : zcells Tryz.prog 4 = some [.w false false (.bool false)] := by kernel_rfl
@[simp] theorem slE_4 : slE Tryz.prog 4 = none := by kernel_rfl
@[simp] theorem isStr_4 : isStr Tryz.prog 4 = false := by kernel_rfl
@[simp] theorem isBool_4 : isBool Tryz.prog 4 = true := by kernel_rfl
@[simp] theorem eqTy_4 : eqTy Tryz.prog 4 = none := by kernel_rfl
@[simp] theorem nIfc_5 : nIfc Tryz.prog 5 = true := by kernel_rfl
@[simp] theorem tyL_5 : tyL Tryz.prog 5 = some (1, false) := by kernel_rfl
@[simp] theorem zcells_5 : zcells Tryz.prog 5 = some [.w false false (.int .u8 (0))] := by kernel_rfl
@[simp] theorem slE_5 : slE Tryz.prog 5 = none := by kernel_rfl
@[simp] theorem isStr_5 : isStr Tryz.prog 5 = false := by kernel_rfl
@[simp] theorem kindOf_5 : kindOf Tryz.prog 5 = some .u8 := by kernel_rfl
@[simp] theorem eqTy_5 : eqTy Tryz.prog 5 = none := by kernel_rfl
@[simp] theorem nIfc_9 : nIfc Tryz.prog 9 = true := by kernel_rfl
@[simp] theorem tyL_9 : tyL Tryz.prog 9 = some (1, false) := by kernel_rfl
@[simp] theorem zcells_9 : zcells Tryz.prog 9 = some [.w false false (.str ByteArray.empty)] := by kernel_rfl
@[simp] theorem slE_9 : slE Tryz.prog 9 = none := by kernel_rfl
@[simp] theorem isStr_9 : isStr Tryz.prog 9 = true := by kernel_rfl
@[simp] theorem eqTy_9 : eqTy Tryz.prog 9 = none := by kernel_rfl
@[simp] theorem tyL_20 : tyL Tryz.prog 20 = some (1, false) := by kernel_rfl
@[simp] theorem zcells_20 : zcells Tryz.prog 20 = some [.w true false .nili] := by kernel_rfl
@[simp] theorem eqTy_20 : eqTy Tryz.prog 20 = none := by kernel_rfl
@[simp] theorem nIfc_21 : nIfc Tryz.prog 21 = true := by kernel_rfl
@[simp] theorem tyL_21 : tyL Tryz.prog 21 = some (1, false) := by kernel_rfl
@[simp] theorem zcells_21 : zcells Tryz.prog 21 = some [.w false false (.int .i32 (0))] := by kernel_rfl
@[simp] theorem slE_21 : slE Tryz.prog 21 = none := by kernel_rfl
@[simp] theorem isStr_21 : isStr Tryz.prog 21 = false := by kernel_rfl
@[simp] theorem kindOf_21 : kindOf Tryz.prog 21 = some .i32 := by kernel_rfl
@[simp] theorem eqTy_21 : eqTy Tryz.prog 21 = none := by kernel_rfl
@[simp] theorem nIfc_22 : nIfc Tryz.prog 22 = true := by kernel_rfl
@[simp] theorem tyL_22 : tyL Tryz.prog 22 = some (1, false) := by kernel_rfl
@[simp] theorem zcells_22 : zcells Tryz.prog 22 = some [.w true true (.sl 0 [])] := by kernel_rfl
@[simp] theorem slE_22 : slE Tryz.prog 22 = some (38, 3) := by kernel_rfl
@[simp] theorem byE_38 : byE Tryz.prog 38 = some 24 := by kernel_rfl
@[simp] theorem isStr_22 : isStr Tryz.prog 22 = false := by kernel_rfl
@[simp] theorem eqTy_22 : eqTy Tryz.prog 22 = none := by kernel_rfl
@[simp] theorem nIfc_23 : nIfc Tryz.prog 23 = true := by kernel_rfl
@[simp] theorem tyL_23 : tyL Tryz.prog 23 = some (1, false) := by kernel_rfl
@[simp] theorem nIfc_24 : nIfc Tryz.prog 24 = true := by kernel_rfl
@[simp] theorem tyL_24 : tyL Tryz.prog 24 = some (1, false) := by kernel_rfl
@[simp] theorem nIfc_25 : nIfc Tryz.prog 25 = true := by kernel_rfl
@[simp] theorem tyL_25 : tyL Tryz.prog 25 = some (1, false) := by kernel_rfl
@[simp] theorem zcells_25 : zcells Tryz.prog 25 = some [.w true true (.sl 0 [])] := by kernel_rfl
@[simp] theorem slE_25 : slE Tryz.prog 25 = some (9, 1) := by kernel_rfl
@[simp] theorem byE_9 : byE Tryz.prog 9 = some 16 := by kernel_rfl
@[simp] theorem isStr_25 : isStr Tryz.prog 25 = false := by kernel_rfl
@[simp] theorem eqTy_25 : eqTy Tryz.prog 25 = none := by kernel_rfl
@[simp] theorem nIfc_26 : nIfc Tryz.prog 26 = true := by kernel_rfl
@[simp] theorem tyL_26 : tyL Tryz.prog 26 = some (1, false) := by kernel_rfl
@[simp] theorem zcells_26 : zcells Tryz.prog 26 = some [.w true true (.sl 0 [])] := by kernel_rfl
@[simp] theorem slE_26 : slE Tryz.prog 26 = some (3, 1) := by kernel_rfl
@[simp] theorem byE_3 : byE Tryz.prog 3 = some 8 := by kernel_rfl
@[simp] theorem isStr_26 : isStr Tryz.prog 26 = false := by kernel_rfl
@[simp] theorem eqTy_26 : eqTy Tryz.prog 26 = none := by kernel_rfl
@[simp] theorem nIfc_27 : nIfc Tryz.prog 27 = true := by kernel_rfl
@[simp] theorem tyL_27 : tyL Tryz.prog 27 = some (1, false) := by kernel_rfl
@[simp] theorem zcells_27 : zcells Tryz.prog 27 = some [.w true true (.sl 0 [])] := by kernel_rfl
@[simp] theorem slE_27 : slE Tryz.prog 27 = some (79, 10) := by kernel_rfl
@[simp] theorem byE_79 : byE Tryz.prog 79 = some 120 := by kernel_rfl
@[simp] theorem isStr_27 : isStr Tryz.prog 27 = false := by kernel_rfl
@[simp] theorem eqTy_27 : eqTy Tryz.prog 27 = none := by kernel_rfl
@[simp] theorem nIfc_28 : nIfc Tryz.prog 28 = true := by kernel_rfl
@[simp] theorem tyL_28 : tyL Tryz.prog 28 = some (1, false) := by kernel_rfl
@[simp] theorem zcells_28 : zcells Tryz.prog 28 = some [.w true true (.sl 0 [])] := by kernel_rfl
@[simp] theorem slE_28 : slE Tryz.prog 28 = some (81, 2) := by kernel_rfl
@[simp] theorem byE_81 : byE Tryz.prog 81 = some 24 := by kernel_rfl
@[simp] theorem isStr_28 : isStr Tryz.prog 28 = false := by kernel_rfl
@[simp] theorem eqTy_28 : eqTy Tryz.prog 28 = none := by kernel_rfl
@[simp] theorem nIfc_29 : nIfc Tryz.prog 29 = true := by kernel_rfl
@[simp] theorem tyL_29 : tyL Tryz.prog 29 = some (1, false) := by kernel_rfl
@[simp] theorem zcells_29 : zcells Tryz.prog 29 = some [.w true true (.sl 0 [])] := by kernel_rfl
@[simp] theorem slE_29 : slE Tryz.prog 29 = some (83, 3) := by kernel_rfl
@[simp] theorem byE_83 : byE Tryz.prog 83 = some 24 := by kernel_rfl
@[simp] theorem isStr_29 : isStr Tryz.prog 29 = false := by kernel_rfl
@[simp] theorem eqTy_29 : eqTy Tryz.prog 29 = none := by kernel_rfl
@[simp] theorem nIfc_30 : nIfc Tryz.prog 30 = true := by kernel_rfl
@[simp] theorem tyL_30 : tyL Tryz.prog 30 = some (8, true) := by kernel_rfl
@[simp] theorem zcells_30 : zcells Tryz.prog 30 = some [.w false false (.str ByteArray.empty), .w false false (.int .i64 (0)), .w false false (.int .i64 (0)), .w true true (.sl 0 []), .w true true (.sl 0 []), .w true true (.sl 0 []), .w true true (.sl 0 []), .w true true (.sl 0 [])] := by kernel_rfl
@[simp] theorem slE_30 : slE Tryz.prog 30 = none := by kernel_rfl
@[simp] theorem isStr_30 : isStr Tryz.prog 30 = false := by kernel_rfl
@[simp] theorem fOf_30_0 : fOf Tryz.prog 30 0 = some (0, 1, false) := by kernel_rfl
@[simp] theorem fOf_30_1 : fOf Tryz.prog 30 1 = some (1, 1, false) := by kernel_rfl
@[simp] theorem fOf_30_2 : fOf Tryz.prog 30 2 = some (2, 1, false) := by kernel_rfl
@[simp] theorem fOf_30_3 : fOf Tryz.prog 30 3 = some (3, 1, false) := by kernel_rfl
@[simp] theorem fOf_30_4 : fOf Tryz.prog 30 4 = some (4, 1, false) := by kernel_rfl
@[simp] theorem fOf_30_5 : fOf Tryz.prog 30 5 = some (5, 1, false) := by kernel_rfl
@[simp] theorem fOf_30_6 : fOf Tryz.prog 30 6 = some (6, 1, false) := by kernel_rfl
@[simp] theorem fOf_30_7 : fOf Tryz.prog 30 7 = some (7, 1, false) := by kernel_rfl
@[simp] theorem pls_30 : pls Tryz.prog 30 = some [(0, 1), (1, 1), (2, 1), (3, 1), (4, 1), (5, 1), (6, 1), (7, 1)] := by kernel_rfl
@[simp] theorem nIfc_31 : nIfc Tryz.prog 31 = true := by kernel_rfl
@[simp] theorem tyL_31 : tyL Tryz.prog 31 = some (8, true) := by kernel_rfl
@[simp] theorem zcells_31 : zcells Tryz.prog 31 = some [.w false false (.str ByteArray.empty), .w false false (.int .i64 (0)), .w false false (.int .i64 (0)), .w true true (.sl 0 []), .w true true (.sl 0 []), .w true true (.sl 0 []), .w true true (.sl 0 []), .w true true (.sl 0 [])] := by kernel_rfl
@[simp] theorem slE_31 : slE Tryz.prog 31 = none := by kernel_rfl
@[simp] theorem isStr_31 : isStr Tryz.prog 31 = false := by kernel_rfl
@[simp] theorem fOf_31_0 : fOf Tryz.prog 31 0 = some (0, 1, false) := by kernel_rfl
@[simp] theorem fOf_31_1 : fOf Tryz.prog 31 1 = some (1, 1, false) := by kernel_rfl
@[simp] theorem fOf_31_2 : fOf Tryz.prog 31 2 = some (2, 1, false) := by kernel_rfl
@[simp] theorem fOf_31_3 : fOf Tryz.prog 31 3 = some (3, 1, false) := by kernel_rfl
@[simp] theorem fOf_31_4 : fOf Tryz.prog 31 4 = some (4, 1, false) := by kernel_rfl
@[simp] theorem fOf_31_5 : fOf Tryz.prog 31 5 = some (5, 1, false) := by kernel_rfl
@[simp] theorem fOf_31_6 : fOf Tryz.prog 31 6 = some (6, 1, false) := by kernel_rfl
@[simp] theorem fOf_31_7 : fOf Tryz.prog 31 7 = some (7, 1, false) := by kernel_rfl
@[simp] theorem pls_31 : pls Tryz.prog 31 = some [(0, 1), (1, 1), (2, 1), (3, 1), (4, 1), (5, 1), (6, 1), (7, 1)] := by kernel_rfl
@[simp] theorem nIfc_32 : nIfc Tryz.prog 32 = true := by kernel_rfl
@[simp] theorem tyL_32 : tyL Tryz.prog 32 = some (1, false) := by kernel_rfl
@[simp] theorem nIfc_33 : nIfc Tryz.prog 33 = true := by kernel_rfl
@[simp] theorem tyL_33 : tyL Tryz.prog 33 = some (2, true) := by kernel_rfl
@[simp] theorem zcells_33 : zcells Tryz.prog 33 = some [.w false false (.int .i64 (0)), .w false false (.int .i64 (0))] := by kernel_rfl
@[simp] theorem slE_33 : slE Tryz.prog 33 = none := by kernel_rfl
@[simp] theorem isStr_33 : isStr Tryz.prog 33 = false := by kernel_rfl
@[simp] theorem fOf_33_0 : fOf Tryz.prog 33 0 = some (0, 1, false) := by kernel_rfl
@[simp] theorem fOf_33_1 : fOf Tryz.prog 33 1 = some (1, 1, false) := by kernel_rfl
@[simp] theorem pls_33 : pls Tryz.prog 33 = some [(0, 1), (1, 1)] := by kernel_rfl
@[simp] theorem eqTy_33 : eqTy Tryz.prog 33 = some [1, 1] := by kernel_rfl
@[simp] theorem nIfc_34 : nIfc Tryz.prog 34 = true := by kernel_rfl
@[simp] theorem tyL_34 : tyL Tryz.prog 34 = some (2, true) := by kernel_rfl
@[simp] theorem zcells_34 : zcells Tryz.prog 34 = some [.w false false (.int .i64 (0)), .w false false (.int .i64 (0))] := by kernel_rfl
@[simp] theorem slE_34 : slE Tryz.prog 34 = none := by kernel_rfl
@[simp] theorem isStr_34 : isStr Tryz.prog 34 = false := by kernel_rfl
@[simp] theorem fOf_34_0 : fOf Tryz.prog 34 0 = some (0, 1, false) := by kernel_rfl
@[simp] theorem fOf_34_1 : fOf Tryz.prog 34 1 = some (1, 1, false) := by kernel_rfl
@[simp] theorem pls_34 : pls Tryz.prog 34 = some [(0, 1), (1, 1)] := by kernel_rfl
@[simp] theorem eqTy_34 : eqTy Tryz.prog 34 = some [1, 1] := by kernel_rfl
@[simp] theorem nIfc_35 : nIfc Tryz.prog 35 = true := by kernel_rfl
@[simp] theorem tyL_35 : tyL Tryz.prog 35 = some (5, true) := by kernel_rfl
@[simp] theorem zcells_35 : zcells Tryz.prog 35 = some [.w false false (.int .i64 (0)), .w false false (.int .i64 (0)), .w false false (.bool false), .w true true (.sl 0 []), .w true true (.sl 0 [])] := by kernel_rfl
@[simp] theorem slE_35 : slE Tryz.prog 35 = none := by kernel_rfl
@[simp] theorem isStr_35 : isStr Tryz.prog 35 = false := by kernel_rfl
@[simp] theorem fOf_35_0 : fOf Tryz.prog 35 0 = some (0, 2, true) := by kernel_rfl
@[simp] theorem fOf_35_1 : fOf Tryz.prog 35 1 = some (2, 1, false) := by kernel_rfl
@[simp] theorem fOf_35_2 : fOf Tryz.prog 35 2 = some (3, 1, false) := by kernel_rfl
@[simp] theorem fOf_35_3 : fOf Tryz.prog 35 3 = some (4, 1, false) := by kernel_rfl
@[simp] theorem pls_35 : pls Tryz.prog 35 = some [(0, 2), (2, 1), (3, 1), (4, 1)] := by kernel_rfl
@[simp] theorem nIfc_36 : nIfc Tryz.prog 36 = true := by kernel_rfl
@[simp] theorem tyL_36 : tyL Tryz.prog 36 = some (5, true) := by kernel_rfl
@[simp] theorem zcells_36 : zcells Tryz.prog 36 = some [.w false false (.int .i64 (0)), .w false false (.int .i64 (0)), .w false false (.bool false), .w true true (.sl 0 []), .w true true (.sl 0 [])] := by kernel_rfl
@[simp] theorem slE_36 : slE Tryz.prog 36 = none := by kernel_rfl
@[simp] theorem isStr_36 : isStr Tryz.prog 36 = false := by kernel_rfl
@[simp] theorem fOf_36_0 : fOf Tryz.prog 36 0 = some (0, 2, true) := by kernel_rfl
@[simp] theorem fOf_36_1 : fOf Tryz.prog 36 1 = some (2, 1, false) := by kernel_rfl
@[simp] theorem fOf_36_2 : fOf Tryz.prog 36 2 = some (3, 1, false) := by kernel_rfl
@[simp] theorem fOf_36_3 : fOf Tryz.prog 36 3 = some (4, 1, false) := by kernel_rfl
@[simp] theorem pls_36 : pls Tryz.prog 36 = some [(0, 2), (2, 1), (3, 1), (4, 1)] := by kernel_rfl
@[simp] theorem nIfc_37 : nIfc Tryz.prog 37 = true := by kernel_rfl
@[simp] theorem tyL_37 : tyL Tryz.prog 37 = some (3, true) := by kernel_rfl
@[simp] theorem zcells_37 : zcells Tryz.prog 37 = some [.w false false (.int .i64 (0)), .w false false (.int .i64 (0)), .w false false (.int .i64 (0))] := by kernel_rfl
@[simp] theorem slE_37 : slE Tryz.prog 37 = none := by kernel_rfl
@[simp] theorem isStr_37 : isStr Tryz.prog 37 = false := by kernel_rfl
@[simp] theorem fOf_37_0 : fOf Tryz.prog 37 0 = some (0, 1, false) := by kernel_rfl
@[simp] theorem fOf_37_1 : fOf Tryz.prog 37 1 = some (1, 1, false) := by kernel_rfl
@[simp] theorem fOf_37_2 : fOf Tryz.prog 37 2 = some (2, 1, false) := by kernel_rfl
@[simp] theorem pls_37 : pls Tryz.prog 37 = some [(0, 1), (1, 1), (2, 1)] := by kernel_rfl
@[simp] theorem eqTy_37 : eqTy Tryz.prog 37 = some [1, 1, 1] := by kernel_rfl
@[simp] theorem nIfc_38 : nIfc Tryz.prog 38 = true := by kernel_rfl
@[simp] theorem tyL_38 : tyL Tryz.prog 38 = some (3, true) := by kernel_rfl
@[simp] theorem zcells_38 : zcells Tryz.prog 38 = some [.w false false (.int .i64 (0)), .w false false (.int .i64 (0)), .w false false (.int .i64 (0))] := by kernel_rfl
@[simp] theorem slE_38 : slE Tryz.prog 38 = none := by kernel_rfl
@[simp] theorem isStr_38 : isStr Tryz.prog 38 = false := by kernel_rfl
@[simp] theorem fOf_38_0 : fOf Tryz.prog 38 0 = some (0, 1, false) := by kernel_rfl
@[simp] theorem fOf_38_1 : fOf Tryz.prog 38 1 = some (1, 1, false) := by kernel_rfl
@[simp] theorem fOf_38_2 : fOf Tryz.prog 38 2 = some (2, 1, false) := by kernel_rfl
@[simp] theorem pls_38 : pls Tryz.prog 38 = some [(0, 1), (1, 1), (2, 1)] := by kernel_rfl
@[simp] theorem eqTy_38 : eqTy Tryz.prog 38 = some [1, 1, 1] := by kernel_rfl
@[simp] theorem nIfc_39 : nIfc Tryz.prog 39 = true := by kernel_rfl
@[simp] theorem tyL_39 : tyL Tryz.prog 39 = some (4, true) := by kernel_rfl
@[simp] theorem zcells_39 : zcells Tryz.prog 39 = some [.w false false (.int .i64 (0)), .w false false (.int .i64 (0)), .w false false (.int .i64 (0)), .w false false (.int .i64 (0))] := by kernel_rfl
@[simp] theorem slE_39 : slE Tryz.prog 39 = none := by kernel_rfl
@[simp] theorem isStr_39 : isStr Tryz.prog 39 = false := by kernel_rfl
@[simp] theorem fOf_39_0 : fOf Tryz.prog 39 0 = some (0, 1, false) := by kernel_rfl
@[simp] theorem fOf_39_1 : fOf Tryz.prog 39 1 = some (1, 1, false) := by kernel_rfl
@[simp] theorem fOf_39_2 : fOf Tryz.prog 39 2 = some (2, 1, false) := by kernel_rfl
@[simp] theorem fOf_39_3 : fOf Tryz.prog 39 3 = some (3, 1, false) := by kernel_rfl
@[simp] theorem pls_39 : pls Tryz.prog 39 = some [(0, 1), (1, 1), (2, 1), (3, 1)] := by kernel_rfl
@[simp] theorem eqTy_39 : eqTy Tryz.prog 39 = some [1, 1, 1, 1] := by kernel_rfl
@[simp] theorem nIfc_40 : nIfc Tryz.prog 40 = true := by kernel_rfl
@[simp] theorem tyL_40 : tyL Tryz.prog 40 = some (4, true) := by kernel_rfl
@[simp] theorem zcells_40 : zcells Tryz.prog 40 = some [.w false false (.int .i64 (0)), .w false false (.int .i64 (0)), .w false false (.int .i64 (0)), .w false false (.int .i64 (0))] := by kernel_rfl
@[simp] theorem slE_40 : slE Tryz.prog 40 = none := by kernel_rfl
@[simp] theorem isStr_40 : isStr Tryz.prog 40 = false := by kernel_rfl
@[simp] theorem fOf_40_0 : fOf Tryz.prog 40 0 = some (0, 1, false) := by kernel_rfl
@[simp] theorem fOf_40_1 : fOf Tryz.prog 40 1 = some (1, 1, false) := by kernel_rfl
@[simp] theorem fOf_40_2 : fOf Tryz.prog 40 2 = some (2, 1, false) := by kernel_rfl
@[simp] theorem fOf_40_3 : fOf Tryz.prog 40 3 = some (3, 1, false) := by kernel_rfl
@[simp] theorem pls_40 : pls Tryz.prog 40 = some [(0, 1), (1, 1), (2, 1), (3, 1)] := by kernel_rfl
@[simp] theorem eqTy_40 : eqTy Tryz.prog 40 = some [1, 1, 1, 1] := by kernel_rfl
@[simp] theorem nIfc_41 : nIfc Tryz.prog 41 = true := by kernel_rfl
@[simp] theorem tyL_41 : tyL Tryz.prog 41 = some (1, false) := by kernel_rfl
@[simp] theorem zcells_41 : zcells Tryz.prog 41 = some [.w false false (.int .i64 (0))] := by kernel_rfl
@[simp] theorem slE_41 : slE Tryz.prog 41 = none := by kernel_rfl
@[simp] theorem isStr_41 : isStr Tryz.prog 41 = false := by kernel_rfl
@[simp] theorem kindOf_41 : kindOf Tryz.prog 41 = some .i64 := by kernel_rfl
@[simp] theorem eqTy_41 : eqTy Tryz.prog 41 = none := by kernel_rfl
@[simp] theorem nIfc_43 : nIfc Tryz.prog 43 = true := by kernel_rfl
@[simp] theorem tyL_43 : tyL Tryz.prog 43 = some (1, false) := by kernel_rfl
@[simp] theorem nIfc_44 : nIfc Tryz.prog 44 = true := by kernel_rfl
@[simp] theorem tyL_44 : tyL Tryz.prog 44 = some (2, true) := by kernel_rfl
@[simp] theorem zcells_44 : zcells Tryz.prog 44 = some [.w false false (.int .i64 (0)), .w false false (.int .i64 (0))] := by kernel_rfl
@[simp] theorem slE_44 : slE Tryz.prog 44 = none := by kernel_rfl
@[simp] theorem isStr_44 : isStr Tryz.prog 44 = false := by kernel_rfl
@[simp] theorem fOf_44_0 : fOf Tryz.prog 44 0 = some (0, 1, false) := by kernel_rfl
@[simp] theorem fOf_44_1 : fOf Tryz.prog 44 1 = some (1, 1, false) := by kernel_rfl
@[simp] theorem pls_44 : pls Tryz.prog 44 = some [(0, 1), (1, 1)] := by kernel_rfl
@[simp] theorem eqTy_44 : eqTy Tryz.prog 44 = some [1, 1] := by kernel_rfl
@[simp] theorem nIfc_45 : nIfc Tryz.prog 45 = true := by kernel_rfl
@[simp] theorem tyL_45 : tyL Tryz.prog 45 = some (2, true) := by kernel_rfl
@[simp] theorem zcells_45 : zcells Tryz.prog 45 = some [.w false false (.int .i64 (0)), .w false false (.int .i64 (0))] := by kernel_rfl
@[simp] theorem slE_45 : slE Tryz.prog 45 = none := by kernel_rfl
@[simp] theorem isStr_45 : isStr Tryz.prog 45 = false := by kernel_rfl
@[simp] theorem fOf_45_0 : fOf Tryz.prog 45 0 = some (0, 1, false) := by kernel_rfl
@[simp] theorem fOf_45_1 : fOf Tryz.prog 45 1 = some (1, 1, false) := by kernel_rfl
@[simp] theorem pls_45 : pls Tryz.prog 45 = some [(0, 1), (1, 1)] := by kernel_rfl
@[simp] theorem eqTy_45 : eqTy Tryz.prog 45 = some [1, 1] := by kernel_rfl
@[simp] theorem nIfc_47 : nIfc Tryz.prog 47 = true := by kernel_rfl
@[simp] theorem tyL_47 : tyL Tryz.prog 47 = some (1, false) := by kernel_rfl
@[simp] theorem nIfc_49 : nIfc Tryz.prog 49 = true := by kernel_rfl
@[simp] theorem tyL_49 : tyL Tryz.prog 49 = some (1, false) := by kernel_rfl
@[simp] theorem nIfc_50 : nIfc Tryz.prog 50 = true := by kernel_rfl
@[simp] theorem tyL_50 : tyL Tryz.prog 50 = some (6, true) := by kernel_rfl
@[simp] theorem zcells_50 : zcells Tryz.prog 50 = some [.w false false (.int .i64 (0)), .w false false (.str ByteArray.empty), .w false false (.int .i64 (0)), .w false false (.int .i64 (0)), .w false false (.int .i64 (0)), .w false false (.int .i64 (0))] := by kernel_rfl
@[simp] theorem slE_50 : slE Tryz.prog 50 = none := by kernel_rfl
@[simp] theorem isStr_50 : isStr Tryz.prog 50 = false := by kernel_rfl
@[simp] theorem fOf_50_0 : fOf Tryz.prog 50 0 = some (0, 1, false) := by kernel_rfl
@[simp] theorem fOf_50_1 : fOf Tryz.prog 50 1 = some (1, 1, false) := by kernel_rfl
@[simp] theorem fOf_50_2 : fOf Tryz.prog 50 2 = some (2, 1, false) := by kernel_rfl
@[simp] theorem fOf_50_3 : fOf Tryz.prog 50 3 = some (3, 2, true) := by kernel_rfl
@[simp] theorem fOf_50_4 : fOf Tryz.prog 50 4 = some (5, 1, false) := by kernel_rfl
@[simp] theorem pls_50 : pls Tryz.prog 50 = some [(0, 1), (1, 1), (2, 1), (3, 2), (5, 1)] := by kernel_rfl
@[simp] theorem eqTy_50 : eqTy Tryz.prog 50 = some [1, 2, 1, 1, 1, 1] := by kernel_rfl
@[simp] theorem nIfc_51 : nIfc Tryz.prog 51 = true := by kernel_rfl
@[simp] theorem tyL_51 : tyL Tryz.prog 51 = some (6, true) := by kernel_rfl
@[simp] theorem zcells_51 : zcells Tryz.prog 51 = some [.w false false (.int .i64 (0)), .w false false (.str ByteArray.empty), .w false false (.int .i64 (0)), .w false false (.int .i64 (0)), .w false false (.int .i64 (0)), .w false false (.int .i64 (0))] := by kernel_rfl
@[simp] theorem slE_51 : slE Tryz.prog 51 = none := by kernel_rfl
@[simp] theorem isStr_51 : isStr Tryz.prog 51 = false := by kernel_rfl
@[simp] theorem fOf_51_0 : fOf Tryz.prog 51 0 = some (0, 1, false) := by kernel_rfl
@[simp] theorem fOf_51_1 : fOf Tryz.prog 51 1 = some (1, 1, false) := by kernel_rfl
@[simp] theorem fOf_51_2 : fOf Tryz.prog 51 2 = some (2, 1, false) := by kernel_rfl
@[simp] theorem fOf_51_3 : fOf Tryz.prog 51 3 = some (3, 2, true) := by kernel_rfl
@[simp] theorem fOf_51_4 : fOf Tryz.prog 51 4 = some (5, 1, false) := by kernel_rfl
@[simp] theorem pls_51 : pls Tryz.prog 51 = some [(0, 1), (1, 1), (2, 1), (3, 2), (5, 1)] := by kernel_rfl
@[simp] theorem eqTy_51 : eqTy Tryz.prog 51 = some [1, 2, 1, 1, 1, 1] := by kernel_rfl
@[simp] theorem nIfc_52 : nIfc Tryz.prog 52 = true := by kernel_rfl
@[simp] theorem tyL_52 : tyL Tryz.prog 52 = some (1, false) := by kernel_rfl
@[simp] theorem zcells_52 : zcells Tryz.prog 52 = some [.w true true (.sl 0 [])] := by kernel_rfl
@[simp] theorem slE_52 : slE Tryz.prog 52 = some (140, 2) := by kernel_rfl
@[simp] theorem byE_140 : byE Tryz.prog 140 = some 24 := by kernel_rfl
@[simp] theorem isStr_52 : isStr Tryz.prog 52 = false := by kernel_rfl
@[simp] theorem eqTy_52 : eqTy Tryz.prog 52 = none := by kernel_rfl
@[simp] theorem nIfc_53 : nIfc Tryz.prog 53 = true := by kernel_rfl
@[simp] theorem tyL_53 : tyL Tryz.prog 53 = some (3, true) := by kernel_rfl
@[simp] theorem zcells_53 : zcells Tryz.prog 53 = some [.w false false (.int .i64 (0)), .w false false (.str ByteArray.empty), .w true true (.sl 0 [])] := by kernel_rfl
@[simp] theorem slE_53 : slE Tryz.prog 53 = none := by kernel_rfl
@[simp] theorem isStr_53 : isStr Tryz.prog 53 = false := by kernel_rfl
@[simp] theorem fOf_53_0 : fOf Tryz.prog 53 0 = some (0, 1, false) := by kernel_rfl
@[simp] theorem fOf_53_1 : fOf Tryz.prog 53 1 = some (1, 1, false) := by kernel_rfl
@[simp] theorem fOf_53_2 : fOf Tryz.prog 53 2 = some (2, 1, false) := by kernel_rfl
@[simp] theorem pls_53 : pls Tryz.prog 53 = some [(0, 1), (1, 1), (2, 1)] := by kernel_rfl
@[simp] theorem nIfc_54 : nIfc Tryz.prog 54 = true := by kernel_rfl
@[simp] theorem tyL_54 : tyL Tryz.prog 54 = some (3, true) := by kernel_rfl
@[simp] theorem zcells_54 : zcells Tryz.prog 54 = some [.w false false (.int .i64 (0)), .w false false (.str ByteArray.empty), .w true true (.sl 0 [])] := by kernel_rfl
@[simp] theorem slE_54 : slE Tryz.prog 54 = none := by kernel_rfl
@[simp] theorem isStr_54 : isStr Tryz.prog 54 = false := by kernel_rfl
@[simp] theorem fOf_54_0 : fOf Tryz.prog 54 0 = some (0, 1, false) := by kernel_rfl
@[simp] theorem fOf_54_1 : fOf Tryz.prog 54 1 = some (1, 1, false) := by kernel_rfl
@[simp] theorem fOf_54_2 : fOf Tryz.prog 54 2 = some (2, 1, false) := by kernel_rfl
@[simp] theorem pls_54 : pls Tryz.prog 54 = some [(0, 1), (1, 1), (2, 1)] := by kernel_rfl
@[simp] theorem nIfc_56 : nIfc Tryz.prog 56 = true := by kernel_rfl
@[simp] theorem tyL_56 : tyL Tryz.prog 56 = some (1, false) := by kernel_rfl
@[simp] theorem nIfc_57 : nIfc Tryz.prog 57 = true := by kernel_rfl
@[simp] theorem tyL_57 : tyL Tryz.prog 57 = some (1, false) := by kernel_rfl
@[simp] theorem zcells_57 : zcells Tryz.prog 57 = some [.w true true (.sl 0 [])] := by kernel_rfl
@[simp] theorem slE_57 : slE Tryz.prog 57 = some (108, 2) := by kernel_rfl
@[simp] theorem byE_108 : byE Tryz.prog 108 = some 24 := by kernel_rfl
@[simp] theorem isStr_57 : isStr Tryz.prog 57 = false := by kernel_rfl
@[simp] theorem eqTy_57 : eqTy Tryz.prog 57 = none := by kernel_rfl
@[simp] theorem nIfc_58 : nIfc Tryz.prog 58 = true := by kernel_rfl
@[simp] theorem tyL_58 : tyL Tryz.prog 58 = some (1, false) := by kernel_rfl
@[simp] theorem nIfc_59 : nIfc Tryz.prog 59 = true := by kernel_rfl
@[simp] theorem tyL_59 : tyL Tryz.prog 59 = some (3, true) := by kernel_rfl
@[simp] theorem zcells_59 : zcells Tryz.prog 59 = some [.w false false (.int .i64 (0)), .w false false (.int .i64 (0)), .w false false (.int .i64 (0))] := by kernel_rfl
@[simp] theorem slE_59 : slE Tryz.prog 59 = none := by kernel_rfl
@[simp] theorem arE_59 : arE Tryz.prog 59 = some (3, 1) := by kernel_rfl
@[simp] theorem isStr_59 : isStr Tryz.prog 59 = false := by kernel_rfl
@[simp] theorem pls_59 : pls Tryz.prog 59 = some [(0, 1), (1, 1), (2, 1)] := by kernel_rfl
@[simp] theorem eqTy_59 : eqTy Tryz.prog 59 = some [1, 1, 1] := by kernel_rfl
@[simp] theorem nIfc_60 : nIfc Tryz.prog 60 = true := by kernel_rfl
@[simp] theorem tyL_60 : tyL Tryz.prog 60 = some (8, true) := by kernel_rfl
@[simp] theorem zcells_60 : zcells Tryz.prog 60 = some [.w false false (.str ByteArray.empty), .w false false (.str ByteArray.empty), .w false false (.str ByteArray.empty), .w false false (.int .i64 (0)), .w false false (.int .i64 (0)), .w false false (.int .i64 (0)), .w false false (.str ByteArray.empty), .w false false (.str ByteArray.empty)] := by kernel_rfl
@[simp] theorem slE_60 : slE Tryz.prog 60 = none := by kernel_rfl
@[simp] theorem isStr_60 : isStr Tryz.prog 60 = false := by kernel_rfl
@[simp] theorem fOf_60_0 : fOf Tryz.prog 60 0 = some (0, 1, false) := by kernel_rfl
@[simp] theorem fOf_60_1 : fOf Tryz.prog 60 1 = some (1, 1, false) := by kernel_rfl
@[simp] theorem fOf_60_2 : fOf Tryz.prog 60 2 = some (2, 1, false) := by kernel_rfl
@[simp] theorem fOf_60_3 : fOf Tryz.prog 60 3 = some (3, 3, true) := by kernel_rfl
@[simp] theorem fOf_60_4 : fOf Tryz.prog 60 4 = some (6, 1, false) := by kernel_rfl
@[simp] theorem fOf_60_5 : fOf Tryz.prog 60 5 = some (7, 1, false) := by kernel_rfl
@[simp] theorem pls_60 : pls Tryz.prog 60 = some [(0, 1), (1, 1), (2, 1), (3, 3), (6, 1), (7, 1)] := by kernel_rfl
@[simp] theorem eqTy_60 : eqTy Tryz.prog 60 = some [2, 2, 2, 1, 1, 1, 2, 2] := by kernel_rfl
@[simp] theorem nIfc_61 : nIfc Tryz.prog 61 = true := by kernel_rfl
@[simp] theorem tyL_61 : tyL Tryz.prog 61 = some (8, true) := by kernel_rfl
@[simp] theorem zcells_61 : zcells Tryz.prog 61 = some [.w false false (.str ByteArray.empty), .w false false (.str ByteArray.empty), .w false false (.str ByteArray.empty), .w false false (.int .i64 (0)), .w false false (.int .i64 (0)), .w false false (.int .i64 (0)), .w false false (.str ByteArray.empty), .w false false (.str ByteArray.empty)] := by kernel_rfl
@[simp] theorem slE_61 : slE Tryz.prog 61 = none := by kernel_rfl
@[simp] theorem isStr_61 : isStr Tryz.prog 61 = false := by kernel_rfl
@[simp] theorem fOf_61_0 : fOf Tryz.prog 61 0 = some (0, 1, false) := by kernel_rfl
@[simp] theorem fOf_61_1 : fOf Tryz.prog 61 1 = some (1, 1, false) := by kernel_rfl
@[simp] theorem fOf_61_2 : fOf Tryz.prog 61 2 = some (2, 1, false) := by kernel_rfl
@[simp] theorem fOf_61_3 : fOf Tryz.prog 61 3 = some (3, 3, true) := by kernel_rfl
@[simp] theorem fOf_61_4 : fOf Tryz.prog 61 4 = some (6, 1, false) := by kernel_rfl
@[simp] theorem fOf_61_5 : fOf Tryz.prog 61 5 = some (7, 1, false) := by kernel_rfl
@[simp] theorem pls_61 : pls Tryz.prog 61 = some [(0, 1), (1, 1), (2, 1), (3, 3), (6, 1), (7, 1)] := by kernel_rfl
@[simp] theorem eqTy_61 : eqTy Tryz.prog 61 = some [2, 2, 2, 1, 1, 1, 2, 2] := by kernel_rfl
@[simp] theorem nIfc_62 : nIfc Tryz.prog 62 = true := by kernel_rfl
@[simp] theorem tyL_62 : tyL Tryz.prog 62 = some (1, false) := by kernel_rfl
@[simp] theorem nIfc_63 : nIfc Tryz.prog 63 = true := by kernel_rfl
@[simp] theorem tyL_63 : tyL Tryz.prog 63 = some (5, true) := by kernel_rfl
@[simp] theorem zcells_63 : zcells Tryz.prog 63 = some [.w false false (.int .i64 (0)), .w false false (.str ByteArray.empty), .w false false (.int .i64 (0)), .w false false (.int .i64 (0)), .w false false (.int .i64 (0))] := by kernel_rfl
@[simp] theorem slE_63 : slE Tryz.prog 63 = none := by kernel_rfl
@[simp] theorem isStr_63 : isStr Tryz.prog 63 = false := by kernel_rfl
@[simp] theorem fOf_63_0 : fOf Tryz.prog 63 0 = some (0, 1, false) := by kernel_rfl
@[simp] theorem fOf_63_1 : fOf Tryz.prog 63 1 = some (1, 1, false) := by kernel_rfl
@[simp] theorem fOf_63_2 : fOf Tryz.prog 63 2 = some (2, 1, false) := by kernel_rfl
@[simp] theorem fOf_63_3 : fOf Tryz.prog 63 3 = some (3, 1, false) := by kernel_rfl
@[simp] theorem fOf_63_4 : fOf Tryz.prog 63 4 = some (4, 1, false) := by kernel_rfl
@[simp] theorem pls_63 : pls Tryz.prog 63 = some [(0, 1), (1, 1), (2, 1), (3, 1), (4, 1)] := by kernel_rfl
@[simp] theorem eqTy_63 : eqTy Tryz.prog 63 = some [1, 2, 1, 1, 1] := by kernel_rfl
@[simp] theorem nIfc_64 : nIfc Tryz.prog 64 = true := by kernel_rfl
@[simp] theorem tyL_64 : tyL Tryz.prog 64 = some (5, true) := by kernel_rfl
@[simp] theorem zcells_64 : zcells Tryz.prog 64 = some [.w false false (.int .i64 (0)), .w false false (.str ByteArray.empty), .w false false (.int .i64 (0)), .w false false (.int .i64 (0)), .w false false (.int .i64 (0))] := by kernel_rfl
@[simp] theorem slE_64 : slE Tryz.prog 64 = none := by kernel_rfl
@[simp] theorem isStr_64 : isStr Tryz.prog 64 = false := by kernel_rfl
@[simp] theorem fOf_64_0 : fOf Tryz.prog 64 0 = some (0, 1, false) := by kernel_rfl
@[simp] theorem fOf_64_1 : fOf Tryz.prog 64 1 = some (1, 1, false) := by kernel_rfl
@[simp] theorem fOf_64_2 : fOf Tryz.prog 64 2 = some (2, 1, false) := by kernel_rfl
@[simp] theorem fOf_64_3 : fOf Tryz.prog 64 3 = some (3, 1, false) := by kernel_rfl
@[simp] theorem fOf_64_4 : fOf Tryz.prog 64 4 = some (4, 1, false) := by kernel_rfl
@[simp] theorem pls_64 : pls Tryz.prog 64 = some [(0, 1), (1, 1), (2, 1), (3, 1), (4, 1)] := by kernel_rfl
@[simp] theorem eqTy_64 : eqTy Tryz.prog 64 = some [1, 2, 1, 1, 1] := by kernel_rfl
@[simp] theorem nIfc_65 : nIfc Tryz.prog 65 = true := by kernel_rfl
@[simp] theorem tyL_65 : tyL Tryz.prog 65 = some (1, false) := by kernel_rfl
@[simp] theorem nIfc_66 : nIfc Tryz.prog 66 = true := by kernel_rfl
@[simp] theorem tyL_66 : tyL Tryz.prog 66 = some (1, false) := by kernel_rfl
@[simp] theorem zcells_66 : zcells Tryz.prog 66 = some [.w true true (.sl 0 [])] := by kernel_rfl
@[simp] theorem slE_66 : slE Tryz.prog 66 = some (54, 3) := by kernel_rfl
@[simp] theorem byE_54 : byE Tryz.prog 54 = some 48 := by kernel_rfl
@[simp] theorem isStr_66 : isStr Tryz.prog 66 = false := by kernel_rfl
@[simp] theorem eqTy_66 : eqTy Tryz.prog 66 = none := by kernel_rfl
@[simp] theorem nIfc_67 : nIfc Tryz.prog 67 = true := by kernel_rfl
@[simp] theorem tyL_67 : tyL Tryz.prog 67 = some (3, true) := by kernel_rfl
@[simp] theorem zcells_67 : zcells Tryz.prog 67 = some [.w true true (.sl 0 []), .w true true (.sl 0 []), .w false false (.int .i64 (0))] := by kernel_rfl
@[simp] theorem slE_67 : slE Tryz.prog 67 = none := by kernel_rfl
@[simp] theorem isStr_67 : isStr Tryz.prog 67 = false := by kernel_rfl
@[simp] theorem fOf_67_0 : fOf Tryz.prog 67 0 = some (0, 1, false) := by kernel_rfl
@[simp] theorem fOf_67_1 : fOf Tryz.prog 67 1 = some (1, 1, false) := by kernel_rfl
@[simp] theorem fOf_67_2 : fOf Tryz.prog 67 2 = some (2, 1, false) := by kernel_rfl
@[simp] theorem pls_67 : pls Tryz.prog 67 = some [(0, 1), (1, 1), (2, 1)] := by kernel_rfl
@[simp] theorem nIfc_68 : nIfc Tryz.prog 68 = true := by kernel_rfl
@[simp] theorem tyL_68 : tyL Tryz.prog 68 = some (3, true) := by kernel_rfl
@[simp] theorem zcells_68 : zcells Tryz.prog 68 = some [.w true true (.sl 0 []), .w true true (.sl 0 []), .w false false (.int .i64 (0))] := by kernel_rfl
@[simp] theorem slE_68 : slE Tryz.prog 68 = none := by kernel_rfl
@[simp] theorem isStr_68 : isStr Tryz.prog 68 = false := by kernel_rfl
@[simp] theorem fOf_68_0 : fOf Tryz.prog 68 0 = some (0, 1, false) := by kernel_rfl
@[simp] theorem fOf_68_1 : fOf Tryz.prog 68 1 = some (1, 1, false) := by kernel_rfl
@[simp] theorem fOf_68_2 : fOf Tryz.prog 68 2 = some (2, 1, false) := by kernel_rfl
@[simp] theorem pls_68 : pls Tryz.prog 68 = some [(0, 1), (1, 1), (2, 1)] := by kernel_rfl
@[simp] theorem nIfc_70 : nIfc Tryz.prog 70 = true := by kernel_rfl
@[simp] theorem tyL_70 : tyL Tryz.prog 70 = some (1, false) := by kernel_rfl
@[simp] theorem nIfc_72 : nIfc Tryz.prog 72 = true := by kernel_rfl
@[simp] theorem tyL_72 : tyL Tryz.prog 72 = some (1, false) := by kernel_rfl
@[simp] theorem nIfc_73 : nIfc Tryz.prog 73 = true := by kernel_rfl
@[simp] theorem tyL_73 : tyL Tryz.prog 73 = some (1, false) := by kernel_rfl
@[simp] theorem nIfc_75 : nIfc Tryz.prog 75 = true := by kernel_rfl
@[simp] theorem tyL_75 : tyL Tryz.prog 75 = some (1, false) := by kernel_rfl
@[simp] theorem nIfc_76 : nIfc Tryz.prog 76 = true := by kernel_rfl
@[simp] theorem tyL_76 : tyL Tryz.prog 76 = some (1, false) := by kernel_rfl
@[simp] theorem nIfc_77 : nIfc Tryz.prog 77 = true := by kernel_rfl
@[simp] theorem tyL_77 : tyL Tryz.prog 77 = some (1, false) := by kernel_rfl
@[simp] theorem nIfc_78 : nIfc Tryz.prog 78 = true := by kernel_rfl
@[simp] theorem tyL_78 : tyL Tryz.prog 78 = some (10, true) := by kernel_rfl
@[simp] theorem zcells_78 : zcells Tryz.prog 78 = some [.w false false (.str ByteArray.empty), .w false false (.int .i64 (0)), .w false false (.int .i64 (0)), .w true true (.sl 0 []), .w true true (.sl 0 []), .w false false (.int .i64 (0)), .w false false (.int .i64 (0)), .w false false (.int .i64 (0)), .w false false (.int .i64 (0)), .w false false (.int .i64 (0))] := by kernel_rfl
@[simp] theorem slE_78 : slE Tryz.prog 78 = none := by kernel_rfl
@[simp] theorem isStr_78 : isStr Tryz.prog 78 = false := by kernel_rfl
@[simp] theorem fOf_78_0 : fOf Tryz.prog 78 0 = some (0, 1, false) := by kernel_rfl
@[simp] theorem fOf_78_1 : fOf Tryz.prog 78 1 = some (1, 1, false) := by kernel_rfl
@[simp] theorem fOf_78_2 : fOf Tryz.prog 78 2 = some (2, 1, false) := by kernel_rfl
@[simp] theorem fOf_78_3 : fOf Tryz.prog 78 3 = some (3, 1, false) := by kernel_rfl
@[simp] theorem fOf_78_4 : fOf Tryz.prog 78 4 = some (4, 1, false) := by kernel_rfl
@[simp] theorem fOf_78_5 : fOf Tryz.prog 78 5 = some (5, 1, false) := by kernel_rfl
@[simp] theorem fOf_78_6 : fOf Tryz.prog 78 6 = some (6, 1, false) := by kernel_rfl
@[simp] theorem fOf_78_7 : fOf Tryz.prog 78 7 = some (7, 1, false) := by kernel_rfl
@[simp] theorem fOf_78_8 : fOf Tryz.prog 78 8 = some (8, 1, false) := by kernel_rfl
@[simp] theorem fOf_78_9 : fOf Tryz.prog 78 9 = some (9, 1, false) := by kernel_rfl
@[simp] theorem pls_78 : pls Tryz.prog 78 = some [(0, 1), (1, 1), (2, 1), (3, 1), (4, 1), (5, 1), (6, 1), (7, 1), (8, 1), (9, 1)] := by kernel_rfl
@[simp] theorem nIfc_79 : nIfc Tryz.prog 79 = true := by kernel_rfl
@[simp] theorem tyL_79 : tyL Tryz.prog 79 = some (10, true) := by kernel_rfl
@[simp] theorem zcells_79 : zcells Tryz.prog 79 = some [.w false false (.str ByteArray.empty), .w false false (.int .i64 (0)), .w false false (.int .i64 (0)), .w true true (.sl 0 []), .w true true (.sl 0 []), .w false false (.int .i64 (0)), .w false false (.int .i64 (0)), .w false false (.int .i64 (0)), .w false false (.int .i64 (0)), .w false false (.int .i64 (0))] := by kernel_rfl
@[simp] theorem slE_79 : slE Tryz.prog 79 = none := by kernel_rfl
@[simp] theorem isStr_79 : isStr Tryz.prog 79 = false := by kernel_rfl
@[simp] theorem fOf_79_0 : fOf Tryz.prog 79 0 = some (0, 1, false) := by kernel_rfl
@[simp] theorem fOf_79_1 : fOf Tryz.prog 79 1 = some (1, 1, false) := by kernel_rfl
@[simp] theorem fOf_79_2 : fOf Tryz.prog 79 2 = some (2, 1, false) := by kernel_rfl
@[simp] theorem fOf_79_3 : fOf Tryz.prog 79 3 = some (3, 1, false) := by kernel_rfl
@[simp] theorem fOf_79_4 : fOf Tryz.prog 79 4 = some (4, 1, false) := by kernel_rfl
@[simp] theorem fOf_79_5 : fOf Tryz.prog 79 5 = some (5, 1, false) := by kernel_rfl
@[simp] theorem fOf_79_6 : fOf Tryz.prog 79 6 = some (6, 1, false) := by kernel_rfl
@[simp] theorem fOf_79_7 : fOf Tryz.prog 79 7 = some (7, 1, false) := by kernel_rfl
@[simp] theorem fOf_79_8 : fOf Tryz.prog 79 8 = some (8, 1, false) := by kernel_rfl
@[simp] theorem fOf_79_9 : fOf Tryz.prog 79 9 = some (9, 1, false) := by kernel_rfl
@[simp] theorem pls_79 : pls Tryz.prog 79 = some [(0, 1), (1, 1), (2, 1), (3, 1), (4, 1), (5, 1), (6, 1), (7, 1), (8, 1), (9, 1)] := by kernel_rfl
@[simp] theorem nIfc_80 : nIfc Tryz.prog 80 = true := by kernel_rfl
@[simp] theorem tyL_80 : tyL Tryz.prog 80 = some (2, true) := by kernel_rfl
@[simp] theorem zcells_80 : zcells Tryz.prog 80 = some [.w false false (.str ByteArray.empty), .w false false (.int .i64 (0))] := by kernel_rfl
@[simp] theorem slE_80 : slE Tryz.prog 80 = none := by kernel_rfl
@[simp] theorem isStr_80 : isStr Tryz.prog 80 = false := by kernel_rfl
@[simp] theorem fOf_80_0 : fOf Tryz.prog 80 0 = some (0, 1, false) := by kernel_rfl
@[simp] theorem fOf_80_1 : fOf Tryz.prog 80 1 = some (1, 1, false) := by kernel_rfl
@[simp] theorem pls_80 : pls Tryz.prog 80 = some [(0, 1), (1, 1)] := by kernel_rfl
@[simp] theorem eqTy_80 : eqTy Tryz.prog 80 = some [2, 1] := by kernel_rfl
@[simp] theorem nIfc_81 : nIfc Tryz.prog 81 = true := by kernel_rfl
@[simp] theorem tyL_81 : tyL Tryz.prog 81 = some (2, true) := by kernel_rfl
@[simp] theorem zcells_81 : zcells Tryz.prog 81 = some [.w false false (.str ByteArray.empty), .w false false (.int .i64 (0))] := by kernel_rfl
@[simp] theorem slE_81 : slE Tryz.prog 81 = none := by kernel_rfl
@[simp] theorem isStr_81 : isStr Tryz.prog 81 = false := by kernel_rfl
@[simp] theorem fOf_81_0 : fOf Tryz.prog 81 0 = some (0, 1, false) := by kernel_rfl
@[simp] theorem fOf_81_1 : fOf Tryz.prog 81 1 = some (1, 1, false) := by kernel_rfl
@[simp] theorem pls_81 : pls Tryz.prog 81 = some [(0, 1), (1, 1)] := by kernel_rfl
@[simp] theorem eqTy_81 : eqTy Tryz.prog 81 = some [2, 1] := by kernel_rfl
@[simp] theorem nIfc_82 : nIfc Tryz.prog 82 = true := by kernel_rfl
@[simp] theorem tyL_82 : tyL Tryz.prog 82 = some (3, true) := by kernel_rfl
@[simp] theorem zcells_82 : zcells Tryz.prog 82 = some [.w false false (.int .i64 (0)), .w false false (.int .i64 (0)), .w false false (.int .i64 (0))] := by kernel_rfl
@[simp] theorem slE_82 : slE Tryz.prog 82 = none := by kernel_rfl
@[simp] theorem isStr_82 : isStr Tryz.prog 82 = false := by kernel_rfl
@[simp] theorem fOf_82_0 : fOf Tryz.prog 82 0 = some (0, 1, false) := by kernel_rfl
@[simp] theorem fOf_82_1 : fOf Tryz.prog 82 1 = some (1, 1, false) := by kernel_rfl
@[simp] theorem fOf_82_2 : fOf Tryz.prog 82 2 = some (2, 1, false) := by kernel_rfl
@[simp] theorem pls_82 : pls Tryz.prog 82 = some [(0, 1), (1, 1), (2, 1)] := by kernel_rfl
@[simp] theorem eqTy_82 : eqTy Tryz.prog 82 = some [1, 1, 1] := by kernel_rfl
@[simp] theorem nIfc_83 : nIfc Tryz.prog 83 = true := by kernel_rfl
@[simp] theorem tyL_83 : tyL Tryz.prog 83 = some (3, true) := by kernel_rfl
@[simp] theorem zcells_83 : zcells Tryz.prog 83 = some [.w false false (.int .i64 (0)), .w false false (.int .i64 (0)), .w false false (.int .i64 (0))] := by kernel_rfl
@[simp] theorem slE_83 : slE Tryz.prog 83 = none := by kernel_rfl
@[simp] theorem isStr_83 : isStr Tryz.prog 83 = false := by kernel_rfl
@[simp] theorem fOf_83_0 : fOf Tryz.prog 83 0 = some (0, 1, false) := by kernel_rfl
@[simp] theorem fOf_83_1 : fOf Tryz.prog 83 1 = some (1, 1, false) := by kernel_rfl
@[simp] theorem fOf_83_2 : fOf Tryz.prog 83 2 = some (2, 1, false) := by kernel_rfl
@[simp] theorem pls_83 : pls Tryz.prog 83 = some [(0, 1), (1, 1), (2, 1)] := by kernel_rfl
@[simp] theorem eqTy_83 : eqTy Tryz.prog 83 = some [1, 1, 1] := by kernel_rfl
@[simp] theorem nIfc_84 : nIfc Tryz.prog 84 = true := by kernel_rfl
@[simp] theorem tyL_84 : tyL Tryz.prog 84 = some (8, true) := by kernel_rfl
@[simp] theorem zcells_84 : zcells Tryz.prog 84 = some [.w false false (.str ByteArray.empty), .w false false (.int .i64 (0)), .w false false (.int .i64 (0)), .w true true (.sl 0 []), .w true true (.sl 0 []), .w true true (.sl 0 []), .w true true (.sl 0 []), .w true true (.sl 0 [])] := by kernel_rfl
@[simp] theorem slE_84 : slE Tryz.prog 84 = none := by kernel_rfl
@[simp] theorem isStr_84 : isStr Tryz.prog 84 = false := by kernel_rfl
@[simp] theorem fOf_84_0 : fOf Tryz.prog 84 0 = some (0, 8, true) := by kernel_rfl
@[simp] theorem pls_84 : pls Tryz.prog 84 = some [(0, 8)] := by kernel_rfl
@[simp] theorem nIfc_85 : nIfc Tryz.prog 85 = true := by kernel_rfl
@[simp] theorem tyL_85 : tyL Tryz.prog 85 = some (8, true) := by kernel_rfl
@[simp] theorem zcells_85 : zcells Tryz.prog 85 = some [.w false false (.str ByteArray.empty), .w false false (.int .i64 (0)), .w false false (.int .i64 (0)), .w true true (.sl 0 []), .w true true (.sl 0 []), .w true true (.sl 0 []), .w true true (.sl 0 []), .w true true (.sl 0 [])] := by kernel_rfl
@[simp] theorem slE_85 : slE Tryz.prog 85 = none := by kernel_rfl
@[simp] theorem isStr_85 : isStr Tryz.prog 85 = false := by kernel_rfl
@[simp] theorem fOf_85_0 : fOf Tryz.prog 85 0 = some (0, 8, true) := by kernel_rfl
@[simp] theorem pls_85 : pls Tryz.prog 85 = some [(0, 8)] := by kernel_rfl
@[simp] theorem nIfc_86 : nIfc Tryz.prog 86 = true := by kernel_rfl
@[simp] theorem tyL_86 : tyL Tryz.prog 86 = some (1, false) := by kernel_rfl
@[simp] theorem zcells_86 : zcells Tryz.prog 86 = some [.w true true (.sl 0 [])] := by kernel_rfl
@[simp] theorem slE_86 : slE Tryz.prog 86 = some (95, 13) := by kernel_rfl
@[simp] theorem byE_95 : byE Tryz.prog 95 = some 144 := by kernel_rfl
@[simp] theorem isStr_86 : isStr Tryz.prog 86 = false := by kernel_rfl
@[simp] theorem eqTy_86 : eqTy Tryz.prog 86 = none := by kernel_rfl
@[simp] theorem nIfc_87 : nIfc Tryz.prog 87 = true := by kernel_rfl
@[simp] theorem tyL_87 : tyL Tryz.prog 87 = some (14, true) := by kernel_rfl
@[simp] theorem zcells_87 : zcells Tryz.prog 87 = some [.w false false (.str ByteArray.empty), .w false false (.int .i64 (0)), .w false false (.int .i64 (0)), .w true true (.sl 0 []), .w true true (.sl 0 []), .w true true (.sl 0 []), .w true true (.sl 0 []), .w true true (.sl 0 []), .w false false (.int .i64 (0)), .w false false (.int .i64 (0)), .w false false (.bool false), .w true true (.sl 0 []), .w true true (.sl 0 []), .w true true (.sl 0 [])] := by kernel_rfl
@[simp] theorem slE_87 : slE Tryz.prog 87 = none := by kernel_rfl
@[simp] theorem isStr_87 : isStr Tryz.prog 87 = false := by kernel_rfl
@[simp] theorem fOf_87_0 : fOf Tryz.prog 87 0 = some (0, 8, true) := by kernel_rfl
@[simp] theorem fOf_87_1 : fOf Tryz.prog 87 1 = some (8, 5, true) := by kernel_rfl
@[simp] theorem fOf_87_2 : fOf Tryz.prog 87 2 = some (13, 1, false) := by kernel_rfl
@[simp] theorem pls_87 : pls Tryz.prog 87 = some [(0, 8), (8, 5), (13, 1)] := by kernel_rfl
@[simp] theorem nIfc_88 : nIfc Tryz.prog 88 = true := by kernel_rfl
@[simp] theorem tyL_88 : tyL Tryz.prog 88 = some (14, true) := by kernel_rfl
@[simp] theorem zcells_88 : zcells Tryz.prog 88 = some [.w false false (.str ByteArray.empty), .w false false (.int .i64 (0)), .w false false (.int .i64 (0)), .w true true (.sl 0 []), .w true true (.sl 0 []), .w true true (.sl 0 []), .w true true (.sl 0 []), .w true true (.sl 0 []), .w false false (.int .i64 (0)), .w false false (.int .i64 (0)), .w false false (.bool false), .w true true (.sl 0 []), .w true true (.sl 0 []), .w true true (.sl 0 [])] := by kernel_rfl
@[simp] theorem slE_88 : slE Tryz.prog 88 = none := by kernel_rfl
@[simp] theorem isStr_88 : isStr Tryz.prog 88 = false := by kernel_rfl
@[simp] theorem fOf_88_0 : fOf Tryz.prog 88 0 = some (0, 8, true) := by kernel_rfl
@[simp] theorem fOf_88_1 : fOf Tryz.prog 88 1 = some (8, 5, true) := by kernel_rfl
@[simp] theorem fOf_88_2 : fOf Tryz.prog 88 2 = some (13, 1, false) := by kernel_rfl
@[simp] theorem pls_88 : pls Tryz.prog 88 = some [(0, 8), (8, 5), (13, 1)] := by kernel_rfl
@[simp] theorem nIfc_90 : nIfc Tryz.prog 90 = true := by kernel_rfl
@[simp] theorem tyL_90 : tyL Tryz.prog 90 = some (1, false) := by kernel_rfl
@[simp] theorem nIfc_91 : nIfc Tryz.prog 91 = true := by kernel_rfl
@[simp] theorem tyL_91 : tyL Tryz.prog 91 = some (1, false) := by kernel_rfl
@[simp] theorem nIfc_92 : nIfc Tryz.prog 92 = true := by kernel_rfl
@[simp] theorem tyL_92 : tyL Tryz.prog 92 = some (1, false) := by kernel_rfl
@[simp] theorem nIfc_93 : nIfc Tryz.prog 93 = true := by kernel_rfl
@[simp] theorem tyL_93 : tyL Tryz.prog 93 = some (1, false) := by kernel_rfl
@[simp] theorem nIfc_94 : nIfc Tryz.prog 94 = true := by kernel_rfl
@[simp] theorem tyL_94 : tyL Tryz.prog 94 = some (13, true) := by kernel_rfl
@[simp] theorem zcells_94 : zcells Tryz.prog 94 = some [.w false false (.int .i64 (0)), .w false false (.str ByteArray.empty), .w false false (.int .i64 (0)), .w false false (.int .i64 (0)), .w true true (.sl 0 []), .w true true (.sl 0 []), .w false false (.int .i64 (0)), .w false false (.int .i64 (0)), .w false false (.int .i64 (0)), .w false false (.int .i64 (0)), .w false false (.int .i64 (0)), .w false false (.int .i64 (0)), .w false false (.int .i64 (0))] := by kernel_rfl
@[simp] theorem slE_94 : slE Tryz.prog 94 = none := by kernel_rfl
@[simp] theorem isStr_94 : isStr Tryz.prog 94 = false := by kernel_rfl
@[simp] theorem fOf_94_0 : fOf Tryz.prog 94 0 = some (0, 1, false) := by kernel_rfl
@[simp] theorem fOf_94_1 : fOf Tryz.prog 94 1 = some (1, 10, true) := by kernel_rfl
@[simp] theorem fOf_94_2 : fOf Tryz.prog 94 2 = some (11, 1, false) := by kernel_rfl
@[simp] theorem fOf_94_3 : fOf Tryz.prog 94 3 = some (12, 1, false) := by kernel_rfl
@[simp] theorem pls_94 : pls Tryz.prog 94 = some [(0, 1), (1, 10), (11, 1), (12, 1)] := by kernel_rfl
@[simp] theorem nIfc_95 : nIfc Tryz.prog 95 = true := by kernel_rfl
@[simp] theorem tyL_95 : tyL Tryz.prog 95 = some (13, true) := by kernel_rfl
@[simp] theorem zcells_95 : zcells Tryz.prog 95 = some [.w false false (.int .i64 (0)), .w false false (.str ByteArray.empty), .w false false (.int .i64 (0)), .w false false (.int .i64 (0)), .w true true (.sl 0 []), .w true true (.sl 0 []), .w false false (.int .i64 (0)), .w false false (.int .i64 (0)), .w false false (.int .i64 (0)), .w false false (.int .i64 (0)), .w false false (.int .i64 (0)), .w false false (.int .i64 (0)), .w false false (.int .i64 (0))] := by kernel_rfl
@[simp] theorem slE_95 : slE Tryz.prog 95 = none := by kernel_rfl
@[simp] theorem isStr_95 : isStr Tryz.prog 95 = false := by kernel_rfl
@[simp] theorem fOf_95_0 : fOf Tryz.prog 95 0 = some (0, 1, false) := by kernel_rfl
@[simp] theorem fOf_95_1 : fOf Tryz.prog 95 1 = some (1, 10, true) := by kernel_rfl
@[simp] theorem fOf_95_2 : fOf Tryz.prog 95 2 = some (11, 1, false) := by kernel_rfl
@[simp] theorem fOf_95_3 : fOf Tryz.prog 95 3 = some (12, 1, false) := by kernel_rfl
@[simp] theorem pls_95 : pls Tryz.prog 95 = some [(0, 1), (1, 10), (11, 1), (12, 1)] := by kernel_rfl
@[simp] theorem nIfc_96 : nIfc Tryz.prog 96 = true := by kernel_rfl
@[simp] theorem tyL_96 : tyL Tryz.prog 96 = some (1, false) := by kernel_rfl
@[simp] theorem nIfc_97 : nIfc Tryz.prog 97 = true := by kernel_rfl
@[simp] theorem tyL_97 : tyL Tryz.prog 97 = some (1, false) := by kernel_rfl
@[simp] theorem nIfc_98 : nIfc Tryz.prog 98 = true := by kernel_rfl
@[simp] theorem tyL_98 : tyL Tryz.prog 98 = some (1, false) := by kernel_rfl
@[simp] theorem nIfc_99 : nIfc Tryz.prog 99 = true := by kernel_rfl
@[simp] theorem tyL_99 : tyL Tryz.prog 99 = some (1, false) := by kernel_rfl
@[simp] theorem nIfc_100 : nIfc Tryz.prog 100 = true := by kernel_rfl
@[simp] theorem tyL_100 : tyL Tryz.prog 100 = some (1, false) := by kernel_rfl
@[simp] theorem nIfc_101 : nIfc Tryz.prog 101 = true := by kernel_rfl
@[simp] theorem tyL_101 : tyL Tryz.prog 101 = some (1, false) := by kernel_rfl
@[simp] theorem nIfc_102 : nIfc Tryz.prog 102 = true := by kernel_rfl
@[simp] theorem tyL_102 : tyL Tryz.prog 102 = some (1, false) := by kernel_rfl
@[simp] theorem nIfc_103 : nIfc Tryz.prog 103 = true := by kernel_rfl
@[simp] theorem tyL_103 : tyL Tryz.prog 103 = some (3, true) := by kernel_rfl
@[simp] theorem zcells_103 : zcells Tryz.prog 103 = some [.w false false (.int .i64 (0)), .w false false (.str ByteArray.empty), .w true true (.sl 0 [])] := by kernel_rfl
@[simp] theorem slE_103 : slE Tryz.prog 103 = none := by kernel_rfl
@[simp] theorem isStr_103 : isStr Tryz.prog 103 = false := by kernel_rfl
@[simp] theorem fOf_103_0 : fOf Tryz.prog 103 0 = some (0, 3, true) := by kernel_rfl
@[simp] theorem pls_103 : pls Tryz.prog 103 = some [(0, 3)] := by kernel_rfl
@[simp] theorem nIfc_104 : nIfc Tryz.prog 104 = true := by kernel_rfl
@[simp] theorem tyL_104 : tyL Tryz.prog 104 = some (3, true) := by kernel_rfl
@[simp] theorem zcells_104 : zcells Tryz.prog 104 = some [.w false false (.int .i64 (0)), .w false false (.str ByteArray.empty), .w true true (.sl 0 [])] := by kernel_rfl
@[simp] theorem slE_104 : slE Tryz.prog 104 = none := by kernel_rfl
@[simp] theorem isStr_104 : isStr Tryz.prog 104 = false := by kernel_rfl
@[simp] theorem fOf_104_0 : fOf Tryz.prog 104 0 = some (0, 3, true) := by kernel_rfl
@[simp] theorem pls_104 : pls Tryz.prog 104 = some [(0, 3)] := by kernel_rfl
@[simp] theorem nIfc_105 : nIfc Tryz.prog 105 = true := by kernel_rfl
@[simp] theorem tyL_105 : tyL Tryz.prog 105 = some (1, false) := by kernel_rfl
@[simp] theorem nIfc_106 : nIfc Tryz.prog 106 = true := by kernel_rfl
@[simp] theorem tyL_106 : tyL Tryz.prog 106 = some (1, false) := by kernel_rfl
@[simp] theorem nIfc_107 : nIfc Tryz.prog 107 = true := by kernel_rfl
@[simp] theorem tyL_107 : tyL Tryz.prog 107 = some (2, true) := by kernel_rfl
@[simp] theorem zcells_107 : zcells Tryz.prog 107 = some [.w false false (.str ByteArray.empty), .w false false (.int .i64 (0))] := by kernel_rfl
@[simp] theorem slE_107 : slE Tryz.prog 107 = none := by kernel_rfl
@[simp] theorem isStr_107 : isStr Tryz.prog 107 = false := by kernel_rfl
@[simp] theorem fOf_107_0 : fOf Tryz.prog 107 0 = some (0, 1, false) := by kernel_rfl
@[simp] theorem fOf_107_1 : fOf Tryz.prog 107 1 = some (1, 1, false) := by kernel_rfl
@[simp] theorem pls_107 : pls Tryz.prog 107 = some [(0, 1), (1, 1)] := by kernel_rfl
@[simp] theorem eqTy_107 : eqTy Tryz.prog 107 = some [2, 1] := by kernel_rfl
@[simp] theorem nIfc_108 : nIfc Tryz.prog 108 = true := by kernel_rfl
@[simp] theorem tyL_108 : tyL Tryz.prog 108 = some (2, true) := by kernel_rfl
@[simp] theorem zcells_108 : zcells Tryz.prog 108 = some [.w false false (.str ByteArray.empty), .w false false (.int .i64 (0))] := by kernel_rfl
@[simp] theorem slE_108 : slE Tryz.prog 108 = none := by kernel_rfl
@[simp] theorem isStr_108 : isStr Tryz.prog 108 = false := by kernel_rfl
@[simp] theorem fOf_108_0 : fOf Tryz.prog 108 0 = some (0, 1, false) := by kernel_rfl
@[simp] theorem fOf_108_1 : fOf Tryz.prog 108 1 = some (1, 1, false) := by kernel_rfl
@[simp] theorem pls_108 : pls Tryz.prog 108 = some [(0, 1), (1, 1)] := by kernel_rfl
@[simp] theorem eqTy_108 : eqTy Tryz.prog 108 = some [2, 1] := by kernel_rfl
@[simp] theorem nIfc_109 : nIfc Tryz.prog 109 = true := by kernel_rfl
@[simp] theorem tyL_109 : tyL Tryz.prog 109 = some (1, false) := by kernel_rfl
@[simp] theorem nIfc_110 : nIfc Tryz.prog 110 = true := by kernel_rfl
@[simp] theorem tyL_110 : tyL Tryz.prog 110 = some (3, true) := by kernel_rfl
@[simp] theorem zcells_110 : zcells Tryz.prog 110 = some [.w true true (.sl 0 []), .w true true (.sl 0 []), .w false false (.int .i64 (0))] := by kernel_rfl
@[simp] theorem slE_110 : slE Tryz.prog 110 = none := by kernel_rfl
@[simp] theorem isStr_110 : isStr Tryz.prog 110 = false := by kernel_rfl
@[simp] theorem fOf_110_0 : fOf Tryz.prog 110 0 = some (0, 3, true) := by kernel_rfl
@[simp] theorem pls_110 : pls Tryz.prog 110 = some [(0, 3)] := by kernel_rfl
@[simp] theorem nIfc_111 : nIfc Tryz.prog 111 = true := by kernel_rfl
@[simp] theorem tyL_111 : tyL Tryz.prog 111 = some (3, true) := by kernel_rfl
@[simp] theorem zcells_111 : zcells Tryz.prog 111 = some [.w true true (.sl 0 []), .w true true (.sl 0 []), .w false false (.int .i64 (0))] := by kernel_rfl
@[simp] theorem slE_111 : slE Tryz.prog 111 = none := by kernel_rfl
@[simp] theorem isStr_111 : isStr Tryz.prog 111 = false := by kernel_rfl
@[simp] theorem fOf_111_0 : fOf Tryz.prog 111 0 = some (0, 3, true) := by kernel_rfl
@[simp] theorem pls_111 : pls Tryz.prog 111 = some [(0, 3)] := by kernel_rfl
@[simp] theorem nIfc_113 : nIfc Tryz.prog 113 = true := by kernel_rfl
@[simp] theorem tyL_113 : tyL Tryz.prog 113 = some (1, false) := by kernel_rfl
@[simp] theorem nIfc_114 : nIfc Tryz.prog 114 = true := by kernel_rfl
@[simp] theorem tyL_114 : tyL Tryz.prog 114 = some (1, false) := by kernel_rfl
@[simp] theorem zcells_114 : zcells Tryz.prog 114 = some [.w true true (.sl 0 [])] := by kernel_rfl
@[simp] theorem slE_114 : slE Tryz.prog 114 = some (108, 2) := by kernel_rfl
@[simp] theorem isStr_114 : isStr Tryz.prog 114 = false := by kernel_rfl
@[simp] theorem eqTy_114 : eqTy Tryz.prog 114 = none := by kernel_rfl
@[simp] theorem nIfc_115 : nIfc Tryz.prog 115 = true := by kernel_rfl
@[simp] theorem tyL_115 : tyL Tryz.prog 115 = some (1, false) := by kernel_rfl
@[simp] theorem nIfc_116 : nIfc Tryz.prog 116 = true := by kernel_rfl
@[simp] theorem tyL_116 : tyL Tryz.prog 116 = some (1, false) := by kernel_rfl
@[simp] theorem nIfc_117 : nIfc Tryz.prog 117 = true := by kernel_rfl
@[simp] theorem tyL_117 : tyL Tryz.prog 117 = some (1, false) := by kernel_rfl
@[simp] theorem nIfc_118 : nIfc Tryz.prog 118 = true := by kernel_rfl
@[simp] theorem tyL_118 : tyL Tryz.prog 118 = some (1, false) := by kernel_rfl
@[simp] theorem nIfc_119 : nIfc Tryz.prog 119 = true := by kernel_rfl
@[simp] theorem tyL_119 : tyL Tryz.prog 119 = some (1, false) := by kernel_rfl
@[simp] theorem nIfc_120 : nIfc Tryz.prog 120 = true := by kernel_rfl
@[simp] theorem tyL_120 : tyL Tryz.prog 120 = some (1, false) := by kernel_rfl
@[simp] theorem nIfc_121 : nIfc Tryz.prog 121 = true := by kernel_rfl
@[simp] theorem tyL_121 : tyL Tryz.prog 121 = some (1, false) := by kernel_rfl
@[simp] theorem nIfc_122 : nIfc Tryz.prog 122 = true := by kernel_rfl
@[simp] theorem tyL_122 : tyL Tryz.prog 122 = some (1, false) := by kernel_rfl
@[simp] theorem nIfc_123 : nIfc Tryz.prog 123 = true := by kernel_rfl
@[simp] theorem tyL_123 : tyL Tryz.prog 123 = some (1, false) := by kernel_rfl
@[simp] theorem nIfc_124 : nIfc Tryz.prog 124 = true := by kernel_rfl
@[simp] theorem tyL_124 : tyL Tryz.prog 124 = some (1, false) := by kernel_rfl
@[simp] theorem nIfc_126 : nIfc Tryz.prog 126 = true := by kernel_rfl
@[simp] theorem tyL_126 : tyL Tryz.prog 126 = some (1, false) := by kernel_rfl
@[simp] theorem nIfc_127 : nIfc Tryz.prog 127 = true := by kernel_rfl
@[simp] theorem tyL_127 : tyL Tryz.prog 127 = some (1, false) := by kernel_rfl
@[simp] theorem nIfc_128 : nIfc Tryz.prog 128 = true := by kernel_rfl
@[simp] theorem tyL_128 : tyL Tryz.prog 128 = some (1, false) := by kernel_rfl
@[simp] theorem nIfc_129 : nIfc Tryz.prog 129 = true := by kernel_rfl
@[simp] theorem tyL_129 : tyL Tryz.prog 129 = some (1, false) := by kernel_rfl
@[simp] theorem zcells_129 : zcells Tryz.prog 129 = some [.w true true (.sl 0 [])] := by kernel_rfl
@[simp] theorem slE_129 : slE Tryz.prog 129 = some (41, 1) := by kernel_rfl
@[simp] theorem byE_41 : byE Tryz.prog 41 = some 8 := by kernel_rfl
@[simp] theorem isStr_129 : isStr Tryz.prog 129 = false := by kernel_rfl
@[simp] theorem eqTy_129 : eqTy Tryz.prog 129 = none := by kernel_rfl
@[simp] theorem nIfc_130 : nIfc Tryz.prog 130 = true := by kernel_rfl
@[simp] theorem tyL_130 : tyL Tryz.prog 130 = some (1, false) := by kernel_rfl
@[simp] theorem nIfc_131 : nIfc Tryz.prog 131 = true := by kernel_rfl
@[simp] theorem tyL_131 : tyL Tryz.prog 131 = some (1, false) := by kernel_rfl
@[simp] theorem nIfc_132 : nIfc Tryz.prog 132 = true := by kernel_rfl
@[simp] theorem tyL_132 : tyL Tryz.prog 132 = some (1, false) := by kernel_rfl
@[simp] theorem nIfc_133 : nIfc Tryz.prog 133 = true := by kernel_rfl
@[simp] theorem tyL_133 : tyL Tryz.prog 133 = some (5, true) := by kernel_rfl
@[simp] theorem zcells_133 : zcells Tryz.prog 133 = some [.w false false (.str ByteArray.empty), .w false false (.str ByteArray.empty), .w false false (.str ByteArray.empty), .w false false (.str ByteArray.empty), .w false false (.str ByteArray.empty)] := by kernel_rfl
@[simp] theorem slE_133 : slE Tryz.prog 133 = none := by kernel_rfl
@[simp] theorem arE_133 : arE Tryz.prog 133 = some (5, 1) := by kernel_rfl
@[simp] theorem isStr_133 : isStr Tryz.prog 133 = false := by kernel_rfl
@[simp] theorem pls_133 : pls Tryz.prog 133 = some [(0, 1), (1, 1), (2, 1), (3, 1), (4, 1)] := by kernel_rfl
@[simp] theorem eqTy_133 : eqTy Tryz.prog 133 = some [2, 2, 2, 2, 2] := by kernel_rfl
@[simp] theorem nIfc_134 : nIfc Tryz.prog 134 = true := by kernel_rfl
@[simp] theorem tyL_134 : tyL Tryz.prog 134 = some (1, false) := by kernel_rfl
@[simp] theorem nIfc_135 : nIfc Tryz.prog 135 = true := by kernel_rfl
@[simp] theorem tyL_135 : tyL Tryz.prog 135 = some (1, false) := by kernel_rfl
@[simp] theorem zcells_135 : zcells Tryz.prog 135 = some [.w true false .nilp] := by kernel_rfl
@[simp] theorem slE_135 : slE Tryz.prog 135 = none := by kernel_rfl
@[simp] theorem isStr_135 : isStr Tryz.prog 135 = false := by kernel_rfl
@[simp] theorem eqTy_135 : eqTy Tryz.prog 135 = none := by kernel_rfl
@[simp] theorem nIfc_136 : nIfc Tryz.prog 136 = true := by kernel_rfl
@[simp] theorem tyL_136 : tyL Tryz.prog 136 = some (1, false) := by kernel_rfl
@[simp] theorem nIfc_137 : nIfc Tryz.prog 137 = true := by kernel_rfl
@[simp] theorem tyL_137 : tyL Tryz.prog 137 = some (3, true) := by kernel_rfl
@[simp] theorem zcells_137 : zcells Tryz.prog 137 = some [.w false false (.str ByteArray.empty), .w false false (.str ByteArray.empty), .w false false (.str ByteArray.empty)] := by kernel_rfl
@[simp] theorem slE_137 : slE Tryz.prog 137 = none := by kernel_rfl
@[simp] theorem arE_137 : arE Tryz.prog 137 = some (3, 1) := by kernel_rfl
@[simp] theorem isStr_137 : isStr Tryz.prog 137 = false := by kernel_rfl
@[simp] theorem pls_137 : pls Tryz.prog 137 = some [(0, 1), (1, 1), (2, 1)] := by kernel_rfl
@[simp] theorem eqTy_137 : eqTy Tryz.prog 137 = some [2, 2, 2] := by kernel_rfl
@[simp] theorem nIfc_138 : nIfc Tryz.prog 138 = true := by kernel_rfl
@[simp] theorem tyL_138 : tyL Tryz.prog 138 = some (1, false) := by kernel_rfl
@[simp] theorem nIfc_139 : nIfc Tryz.prog 139 = true := by kernel_rfl
@[simp] theorem tyL_139 : tyL Tryz.prog 139 = some (2, true) := by kernel_rfl
@[simp] theorem zcells_139 : zcells Tryz.prog 139 = some [.w false false (.str ByteArray.empty), .w false false (.int .i64 (0))] := by kernel_rfl
@[simp] theorem slE_139 : slE Tryz.prog 139 = none := by kernel_rfl
@[simp] theorem isStr_139 : isStr Tryz.prog 139 = false := by kernel_rfl
@[simp] theorem fOf_139_0 : fOf Tryz.prog 139 0 = some (0, 1, false) := by kernel_rfl
@[simp] theorem fOf_139_1 : fOf Tryz.prog 139 1 = some (1, 1, false) := by kernel_rfl
@[simp] theorem pls_139 : pls Tryz.prog 139 = some [(0, 1), (1, 1)] := by kernel_rfl
@[simp] theorem eqTy_139 : eqTy Tryz.prog 139 = some [2, 1] := by kernel_rfl
@[simp] theorem nIfc_140 : nIfc Tryz.prog 140 = true := by kernel_rfl
@[simp] theorem tyL_140 : tyL Tryz.prog 140 = some (2, true) := by kernel_rfl
@[simp] theorem zcells_140 : zcells Tryz.prog 140 = some [.w false false (.str ByteArray.empty), .w false false (.int .i64 (0))] := by kernel_rfl
@[simp] theorem slE_140 : slE Tryz.prog 140 = none := by kernel_rfl
@[simp] theorem isStr_140 : isStr Tryz.prog 140 = false := by kernel_rfl
@[simp] theorem fOf_140_0 : fOf Tryz.prog 140 0 = some (0, 1, false) := by kernel_rfl
@[simp] theorem fOf_140_1 : fOf Tryz.prog 140 1 = some (1, 1, false) := by kernel_rfl
@[simp] theorem pls_140 : pls Tryz.prog 140 = some [(0, 1), (1, 1)] := by kernel_rfl
@[simp] theorem eqTy_140 : eqTy Tryz.prog 140 = some [2, 1] := by kernel_rfl
@[simp] theorem nIfc_141 : nIfc Tryz.prog 141 = true := by kernel_rfl
@[simp] theorem tyL_141 : tyL Tryz.prog 141 = some (1, false) := by kernel_rfl
@[simp] theorem nIfc_142 : nIfc Tryz.prog 142 = true := by kernel_rfl
@[simp] theorem tyL_142 : tyL Tryz.prog 142 = some (1, false) := by kernel_rfl
@[simp] theorem nIfc_143 : nIfc Tryz.prog 143 = true := by kernel_rfl
@[simp] theorem tyL_143 : tyL Tryz.prog 143 = some (1, false) := by kernel_rfl
@[simp] theorem nIfc_144 : nIfc Tryz.prog 144 = true := by kernel_rfl
@[simp] theorem tyL_144 : tyL Tryz.prog 144 = some (1, false) := by kernel_rfl
@[simp] theorem zcells_144 : zcells Tryz.prog 144 = some [.w false false (.int .u64 (0))] := by kernel_rfl
@[simp] theorem slE_144 : slE Tryz.prog 144 = none := by kernel_rfl
@[simp] theorem isStr_144 : isStr Tryz.prog 144 = false := by kernel_rfl
@[simp] theorem kindOf_144 : kindOf Tryz.prog 144 = some .u64 := by kernel_rfl
@[simp] theorem eqTy_144 : eqTy Tryz.prog 144 = none := by kernel_rfl
@[simp] theorem nIfc_145 : nIfc Tryz.prog 145 = true := by kernel_rfl
@[simp] theorem tyL_145 : tyL Tryz.prog 145 = some (1, false) := by kernel_rfl
@[simp] theorem nIfc_146 : nIfc Tryz.prog 146 = true := by kernel_rfl
@[simp] theorem tyL_146 : tyL Tryz.prog 146 = some (1, false) := by kernel_rfl
@[simp] theorem nIfc_147 : nIfc Tryz.prog 147 = true := by kernel_rfl
@[simp] theorem tyL_147 : tyL Tryz.prog 147 = some (1, false) := by kernel_rfl
@[simp] theorem nIfc_149 : nIfc Tryz.prog 149 = true := by kernel_rfl
@[simp] theorem tyL_149 : tyL Tryz.prog 149 = some (1, false) := by kernel_rfl
@[simp] theorem nIfc_150 : nIfc Tryz.prog 150 = true := by kernel_rfl
@[simp] theorem tyL_150 : tyL Tryz.prog 150 = some (1, false) := by kernel_rfl
@[simp] theorem zcells_150 : zcells Tryz.prog 150 = some [.w true true (.sl 0 [])] := by kernel_rfl
@[simp] theorem slE_150 : slE Tryz.prog 150 = some (151, 1) := by kernel_rfl
@[simp] theorem byE_151 : byE Tryz.prog 151 = some 8 := by kernel_rfl
@[simp] theorem isStr_150 : isStr Tryz.prog 150 = false := by kernel_rfl
@[simp] theorem eqTy_150 : eqTy Tryz.prog 150 = none := by kernel_rfl
@[simp] theorem nIfc_151 : nIfc Tryz.prog 151 = true := by kernel_rfl
@[simp] theorem tyL_151 : tyL Tryz.prog 151 = some (1, false) := by kernel_rfl
@[simp] theorem zcells_151 : zcells Tryz.prog 151 = some [.w false false (.int .u64 (0))] := by kernel_rfl
@[simp] theorem slE_151 : slE Tryz.prog 151 = none := by kernel_rfl
@[simp] theorem isStr_151 : isStr Tryz.prog 151 = false := by kernel_rfl
@[simp] theorem kindOf_151 : kindOf Tryz.prog 151 = some .u64 := by kernel_rfl
@[simp] theorem eqTy_151 : eqTy Tryz.prog 151 = none := by kernel_rfl
@[simp] theorem nIfc_153 : nIfc Tryz.prog 153 = true := by kernel_rfl
@[simp] theorem tyL_153 : tyL Tryz.prog 153 = some (1, false) := by kernel_rfl
@[simp] theorem nIfc_154 : nIfc Tryz.prog 154 = true := by kernel_rfl
@[simp] theorem tyL_154 : tyL Tryz.prog 154 = some (1, false) := by kernel_rfl
@[simp] theorem nIfc_155 : nIfc Tryz.prog 155 = true := by kernel_rfl
@[simp] theorem tyL_155 : tyL Tryz.prog 155 = some (1, false) := by kernel_rfl
@[simp] theorem nIfc_157 : nIfc Tryz.prog 157 = true := by kernel_rfl
@[simp] theorem tyL_157 : tyL Tryz.prog 157 = some (1, false) := by kernel_rfl
@[simp] theorem nIfc_158 : nIfc Tryz.prog 158 = true := by kernel_rfl
@[simp] theorem tyL_158 : tyL Tryz.prog 158 = some (1, false) := by kernel_rfl
@[simp] theorem nIfc_159 : nIfc Tryz.prog 159 = true := by kernel_rfl
@[simp] theorem tyL_159 : tyL Tryz.prog 159 = some (1, false) := by kernel_rfl
@[simp] theorem nIfc_160 : nIfc Tryz.prog 160 = true := by kernel_rfl
@[simp] theorem tyL_160 : tyL Tryz.prog 160 = some (2, true) := by kernel_rfl
@[simp] theorem zcells_160 : zcells Tryz.prog 160 = some [.w false false (.int .i64 (0)), .w false false (.int .i64 (0))] := by kernel_rfl
@[simp] theorem slE_160 : slE Tryz.prog 160 = none := by kernel_rfl
@[simp] theorem isStr_160 : isStr Tryz.prog 160 = false := by kernel_rfl
@[simp] theorem fOf_160_0 : fOf Tryz.prog 160 0 = some (0, 1, false) := by kernel_rfl
@[simp] theorem fOf_160_1 : fOf Tryz.prog 160 1 = some (1, 1, false) := by kernel_rfl
@[simp] theorem pls_160 : pls Tryz.prog 160 = some [(0, 1), (1, 1)] := by kernel_rfl
@[simp] theorem eqTy_160 : eqTy Tryz.prog 160 = some [1, 1] := by kernel_rfl
@[simp] theorem nIfc_161 : nIfc Tryz.prog 161 = true := by kernel_rfl
@[simp] theorem tyL_161 : tyL Tryz.prog 161 = some (2, true) := by kernel_rfl
@[simp] theorem zcells_161 : zcells Tryz.prog 161 = some [.w false false (.int .i64 (0)), .w false false (.int .i64 (0))] := by kernel_rfl
@[simp] theorem slE_161 : slE Tryz.prog 161 = none := by kernel_rfl
@[simp] theorem isStr_161 : isStr Tryz.prog 161 = false := by kernel_rfl
@[simp] theorem fOf_161_0 : fOf Tryz.prog 161 0 = some (0, 1, false) := by kernel_rfl
@[simp] theorem fOf_161_1 : fOf Tryz.prog 161 1 = some (1, 1, false) := by kernel_rfl
@[simp] theorem pls_161 : pls Tryz.prog 161 = some [(0, 1), (1, 1)] := by kernel_rfl
@[simp] theorem eqTy_161 : eqTy Tryz.prog 161 = some [1, 1] := by kernel_rfl
@[simp] theorem nIfc_163 : nIfc Tryz.prog 163 = true := by kernel_rfl
@[simp] theorem tyL_163 : tyL Tryz.prog 163 = some (1, false) := by kernel_rfl
@[simp] theorem nIfc_164 : nIfc Tryz.prog 164 = true := by kernel_rfl
@[simp] theorem tyL_164 : tyL Tryz.prog 164 = some (3, true) := by kernel_rfl
@[simp] theorem zcells_164 : zcells Tryz.prog 164 = some [.w false false (.int .i64 (0)), .w false false (.int .i64 (0)), .w false false (.int .i64 (0))] := by kernel_rfl
@[simp] theorem slE_164 : slE Tryz.prog 164 = none := by kernel_rfl
@[simp] theorem isStr_164 : isStr Tryz.prog 164 = false := by kernel_rfl
@[simp] theorem fOf_164_0 : fOf Tryz.prog 164 0 = some (0, 1, false) := by kernel_rfl
@[simp] theorem fOf_164_1 : fOf Tryz.prog 164 1 = some (1, 2, true) := by kernel_rfl
@[simp] theorem pls_164 : pls Tryz.prog 164 = some [(0, 1), (1, 2)] := by kernel_rfl
@[simp] theorem eqTy_164 : eqTy Tryz.prog 164 = some [1, 1, 1] := by kernel_rfl
@[simp] theorem nIfc_165 : nIfc Tryz.prog 165 = true := by kernel_rfl
@[simp] theorem tyL_165 : tyL Tryz.prog 165 = some (3, true) := by kernel_rfl
@[simp] theorem zcells_165 : zcells Tryz.prog 165 = some [.w false false (.int .i64 (0)), .w false false (.int .i64 (0)), .w false false (.int .i64 (0))] := by kernel_rfl
@[simp] theorem slE_165 : slE Tryz.prog 165 = none := by kernel_rfl
@[simp] theorem isStr_165 : isStr Tryz.prog 165 = false := by kernel_rfl
@[simp] theorem fOf_165_0 : fOf Tryz.prog 165 0 = some (0, 1, false) := by kernel_rfl
@[simp] theorem fOf_165_1 : fOf Tryz.prog 165 1 = some (1, 2, true) := by kernel_rfl
@[simp] theorem pls_165 : pls Tryz.prog 165 = some [(0, 1), (1, 2)] := by kernel_rfl
@[simp] theorem eqTy_165 : eqTy Tryz.prog 165 = some [1, 1, 1] := by kernel_rfl
@[simp] theorem nIfc_166 : nIfc Tryz.prog 166 = true := by kernel_rfl
@[simp] theorem tyL_166 : tyL Tryz.prog 166 = some (1, false) := by kernel_rfl
@[simp] theorem nIfc_167 : nIfc Tryz.prog 167 = true := by kernel_rfl
@[simp] theorem tyL_167 : tyL Tryz.prog 167 = some (1, false) := by kernel_rfl
@[simp] theorem nIfc_168 : nIfc Tryz.prog 168 = true := by kernel_rfl
@[simp] theorem tyL_168 : tyL Tryz.prog 168 = some (1, false) := by kernel_rfl
@[simp] theorem zcells_168 : zcells Tryz.prog 168 = some [.w true true (.sl 0 [])] := by kernel_rfl
@[simp] theorem slE_168 : slE Tryz.prog 168 = some (5, 1) := by kernel_rfl
@[simp] theorem byE_5 : byE Tryz.prog 5 = some 1 := by kernel_rfl
@[simp] theorem isStr_168 : isStr Tryz.prog 168 = false := by kernel_rfl
@[simp] theorem eqTy_168 : eqTy Tryz.prog 168 = none := by kernel_rfl
@[simp] theorem nIfc_169 : nIfc Tryz.prog 169 = true := by kernel_rfl
@[simp] theorem tyL_169 : tyL Tryz.prog 169 = some (1, false) := by kernel_rfl
@[simp] theorem nIfc_170 : nIfc Tryz.prog 170 = true := by kernel_rfl
@[simp] theorem tyL_170 : tyL Tryz.prog 170 = some (1, false) := by kernel_rfl
@[simp] theorem nIfc_171 : nIfc Tryz.prog 171 = true := by kernel_rfl
@[simp] theorem tyL_171 : tyL Tryz.prog 171 = some (1, false) := by kernel_rfl
@[simp] theorem nIfc_172 : nIfc Tryz.prog 172 = true := by kernel_rfl
@[simp] theorem tyL_172 : tyL Tryz.prog 172 = some (1, false) := by kernel_rfl
@[simp] theorem nIfc_173 : nIfc Tryz.prog 173 = true := by kernel_rfl
@[simp] theorem tyL_173 : tyL Tryz.prog 173 = some (1, false) := by kernel_rfl
@[simp] theorem tyL_174 : tyL Tryz.prog 174 = some (1, false) := by kernel_rfl
@[simp] theorem zcells_174 : zcells Tryz.prog 174 = some [.w true false .nili] := by kernel_rfl
@[simp] theorem eqTy_174 : eqTy Tryz.prog 174 = none := by kernel_rfl
@[simp] theorem tyL_175 : tyL Tryz.prog 175 = some (1, false) := by kernel_rfl
@[simp] theorem zcells_175 : zcells Tryz.prog 175 = some [.w true false .nili] := by kernel_rfl
@[simp] theorem eqTy_175 : eqTy Tryz.prog 175 = none := by kernel_rfl
@[simp] theorem nIfc_176 : nIfc Tryz.prog 176 = true := by kernel_rfl
@[simp] theorem tyL_176 : tyL Tryz.prog 176 = some (1, false) := by kernel_rfl
@[simp] theorem nIfc_178 : nIfc Tryz.prog 178 = true := by kernel_rfl
@[simp] theorem tyL_178 : tyL Tryz.prog 178 = some (1, false) := by kernel_rfl
@[simp] theorem zcells_178 : zcells Tryz.prog 178 = some [.w false false (.int .u64 (0))] := by kernel_rfl
@[simp] theorem slE_178 : slE Tryz.prog 178 = none := by kernel_rfl
@[simp] theorem isStr_178 : isStr Tryz.prog 178 = false := by kernel_rfl
@[simp] theorem kindOf_178 : kindOf Tryz.prog 178 = some .u64 := by kernel_rfl
@[simp] theorem eqTy_178 : eqTy Tryz.prog 178 = none := by kernel_rfl
@[simp] theorem nIfc_180 : nIfc Tryz.prog 180 = true := by kernel_rfl
@[simp] theorem tyL_180 : tyL Tryz.prog 180 = some (3, true) := by kernel_rfl
@[simp] theorem zcells_180 : zcells Tryz.prog 180 = some [.w true false .nilp, .w true false .nilp, .w false false (.int .u64 (0))] := by kernel_rfl
@[simp] theorem slE_180 : slE Tryz.prog 180 = none := by kernel_rfl
@[simp] theorem isStr_180 : isStr Tryz.prog 180 = false := by kernel_rfl
@[simp] theorem fOf_180_0 : fOf Tryz.prog 180 0 = some (0, 1, false) := by kernel_rfl
@[simp] theorem fOf_180_1 : fOf Tryz.prog 180 1 = some (1, 1, false) := by kernel_rfl
@[simp] theorem fOf_180_2 : fOf Tryz.prog 180 2 = some (2, 1, false) := by kernel_rfl
@[simp] theorem pls_180 : pls Tryz.prog 180 = some [(0, 1), (1, 1), (2, 1)] := by kernel_rfl
@[simp] theorem nIfc_181 : nIfc Tryz.prog 181 = true := by kernel_rfl
@[simp] theorem tyL_181 : tyL Tryz.prog 181 = some (1, false) := by kernel_rfl
@[simp] theorem nIfc_182 : nIfc Tryz.prog 182 = true := by kernel_rfl
@[simp] theorem tyL_182 : tyL Tryz.prog 182 = some (1, false) := by kernel_rfl
@[simp] theorem nIfc_183 : nIfc Tryz.prog 183 = true := by kernel_rfl
@[simp] theorem tyL_183 : tyL Tryz.prog 183 = some (1, false) := by kernel_rfl
@[simp] theorem nIfc_184 : nIfc Tryz.prog 184 = true := by kernel_rfl
@[simp] theorem tyL_184 : tyL Tryz.prog 184 = some (1, false) := by kernel_rfl
@[simp] theorem nIfc_185 : nIfc Tryz.prog 185 = true := by kernel_rfl
@[simp] theorem tyL_185 : tyL Tryz.prog 185 = some (2, true) := by kernel_rfl
@[simp] theorem zcells_185 : zcells Tryz.prog 185 = some [.w false false .undef, .w false false .undef] := by kernel_rfl
@[simp] theorem slE_185 : slE Tryz.prog 185 = none := by kernel_rfl
@[simp] theorem isStr_185 : isStr Tryz.prog 185 = false := by kernel_rfl
@[simp] theorem fOf_185_0 : fOf Tryz.prog 185 0 = some (0, 1, false) := by kernel_rfl
@[simp] theorem fOf_185_1 : fOf Tryz.prog 185 1 = some (1, 1, false) := by kernel_rfl
@[simp] theorem pls_185 : pls Tryz.prog 185 = some [(0, 1), (1, 1)] := by kernel_rfl
@[simp] theorem nIfc_186 : nIfc Tryz.prog 186 = true := by kernel_rfl
@[simp] theorem tyL_186 : tyL Tryz.prog 186 = some (2, true) := by kernel_rfl
@[simp] theorem zcells_186 : zcells Tryz.prog 186 = some [.w false false .undef, .w false false .undef] := by kernel_rfl
@[simp] theorem slE_186 : slE Tryz.prog 186 = none := by kernel_rfl
@[simp] theorem isStr_186 : isStr Tryz.prog 186 = false := by kernel_rfl
@[simp] theorem fOf_186_0 : fOf Tryz.prog 186 0 = some (0, 1, false) := by kernel_rfl
@[simp] theorem fOf_186_1 : fOf Tryz.prog 186 1 = some (1, 1, false) := by kernel_rfl
@[simp] theorem pls_186 : pls Tryz.prog 186 = some [(0, 1), (1, 1)] := by kernel_rfl
@[simp] theorem nIfc_187 : nIfc Tryz.prog 187 = true := by kernel_rfl
@[simp] theorem tyL_187 : tyL Tryz.prog 187 = some (2, true) := by kernel_rfl
@[simp] theorem zcells_187 : zcells Tryz.prog 187 = some [.w false false (.int .i64 (0)), .w false false (.int .i64 (0))] := by kernel_rfl
@[simp] theorem slE_187 : slE Tryz.prog 187 = none := by kernel_rfl
@[simp] theorem isStr_187 : isStr Tryz.prog 187 = false := by kernel_rfl
@[simp] theorem fOf_187_0 : fOf Tryz.prog 187 0 = some (0, 1, false) := by kernel_rfl
@[simp] theorem fOf_187_1 : fOf Tryz.prog 187 1 = some (1, 1, false) := by kernel_rfl
@[simp] theorem pls_187 : pls Tryz.prog 187 = some [(0, 1), (1, 1)] := by kernel_rfl
@[simp] theorem eqTy_187 : eqTy Tryz.prog 187 = some [1, 1] := by kernel_rfl
@[simp] theorem nIfc_188 : nIfc Tryz.prog 188 = true := by kernel_rfl
@[simp] theorem tyL_188 : tyL Tryz.prog 188 = some (2, true) := by kernel_rfl
@[simp] theorem zcells_188 : zcells Tryz.prog 188 = some [.w false false (.int .i64 (0)), .w false false (.int .i64 (0))] := by kernel_rfl
@[simp] theorem slE_188 : slE Tryz.prog 188 = none := by kernel_rfl
@[simp] theorem isStr_188 : isStr Tryz.prog 188 = false := by kernel_rfl
@[simp] theorem fOf_188_0 : fOf Tryz.prog 188 0 = some (0, 1, false) := by kernel_rfl
@[simp] theorem fOf_188_1 : fOf Tryz.prog 188 1 = some (1, 1, false) := by kernel_rfl
@[simp] theorem pls_188 : pls Tryz.prog 188 = some [(0, 1), (1, 1)] := by kernel_rfl
@[simp] theorem eqTy_188 : eqTy Tryz.prog 188 = some [1, 1] := by kernel_rfl
@[simp] theorem nIfc_190 : nIfc Tryz.prog 190 = true := by kernel_rfl
@[simp] theorem tyL_190 : tyL Tryz.prog 190 = some (1, false) := by kernel_rfl
@[simp] theorem nIfc_191 : nIfc Tryz.prog 191 = true := by kernel_rfl
@[simp] theorem tyL_191 : tyL Tryz.prog 191 = some (1, false) := by kernel_rfl
@[simp] theorem nIfc_192 : nIfc Tryz.prog 192 = true := by kernel_rfl
@[simp] theorem tyL_192 : tyL Tryz.prog 192 = some (1, false) := by kernel_rfl
@[simp] theorem nIfc_193 : nIfc Tryz.prog 193 = true := by kernel_rfl
@[simp] theorem tyL_193 : tyL Tryz.prog 193 = some (1, false) := by kernel_rfl
@[simp] theorem nIfc_194 : nIfc Tryz.prog 194 = true := by kernel_rfl
@[simp] theorem tyL_194 : tyL Tryz.prog 194 = some (1, false) := by kernel_rfl
@[simp] theorem nIfc_195 : nIfc Tryz.prog 195 = true := by kernel_rfl
@[simp] theorem tyL_195 : tyL Tryz.prog 195 = some (1, false) := by kernel_rfl
@[simp] theorem nIfc_197 : nIfc Tryz.prog 197 = true := by kernel_rfl
@[simp] theorem tyL_197 : tyL Tryz.prog 197 = some (1, true) := by kernel_rfl
@[simp] theorem zcells_197 : zcells Tryz.prog 197 = some [.w true false .nilp] := by kernel_rfl
@[simp] theorem slE_197 : slE Tryz.prog 197 = none := by kernel_rfl
@[simp] theorem isStr_197 : isStr Tryz.prog 197 = false := by kernel_rfl
@[simp] theorem fOf_197_0 : fOf Tryz.prog 197 0 = some (0, 1, false) := by kernel_rfl
@[simp] theorem pls_197 : pls Tryz.prog 197 = some [(0, 1)] := by kernel_rfl
@[simp] theorem tyL_198 : tyL Tryz.prog 198 = some (1, false) := by kernel_rfl
@[simp] theorem zcells_198 : zcells Tryz.prog 198 = some [.w true false .nilp] := by kernel_rfl
@[simp] theorem slE_198 : slE Tryz.prog 198 = none := by kernel_rfl
@[simp] theorem isStr_198 : isStr Tryz.prog 198 = false := by kernel_rfl
@[simp] theorem eqTy_198 : eqTy Tryz.prog 198 = none := by kernel_rfl
@[simp] theorem nIfc_199 : nIfc Tryz.prog 199 = true := by kernel_rfl
@[simp] theorem tyL_199 : tyL Tryz.prog 199 = some (1, false) := by kernel_rfl
@[simp] theorem nIfc_200 : nIfc Tryz.prog 200 = true := by kernel_rfl
@[simp] theorem tyL_200 : tyL Tryz.prog 200 = some (1, false) := by kernel_rfl
@[simp] theorem nIfc_201 : nIfc Tryz.prog 201 = true := by kernel_rfl
@[simp] theorem tyL_201 : tyL Tryz.prog 201 = some (1, false) := by kernel_rfl
@[simp] theorem nIfc_202 : nIfc Tryz.prog 202 = true := by kernel_rfl
@[simp] theorem tyL_202 : tyL Tryz.prog 202 = some (4, true) := by kernel_rfl
@[simp] theorem zcells_202 : zcells Tryz.prog 202 = some [.w false false (.int .i64 (0)), .w false false (.int .i64 (0)), .w false false (.int .i64 (0)), .w false false .undef] := by kernel_rfl
@[simp] theorem slE_202 : slE Tryz.prog 202 = none := by kernel_rfl
@[simp] theorem isStr_202 : isStr Tryz.prog 202 = false := by kernel_rfl
@[simp] theorem fOf_202_0 : fOf Tryz.prog 202 0 = some (0, 1, false) := by kernel_rfl
@[simp] theorem fOf_202_1 : fOf Tryz.prog 202 1 = some (1, 1, false) := by kernel_rfl
@[simp] theorem fOf_202_2 : fOf Tryz.prog 202 2 = some (2, 1, false) := by kernel_rfl
@[simp] theorem fOf_202_3 : fOf Tryz.prog 202 3 = some (3, 1, false) := by kernel_rfl
@[simp] theorem pls_202 : pls Tryz.prog 202 = some [(0, 1), (1, 1), (2, 1), (3, 1)] := by kernel_rfl
@[simp] theorem nIfc_203 : nIfc Tryz.prog 203 = true := by kernel_rfl
@[simp] theorem tyL_203 : tyL Tryz.prog 203 = some (4, true) := by kernel_rfl
@[simp] theorem zcells_203 : zcells Tryz.prog 203 = some [.w false false (.int .i64 (0)), .w false false (.int .i64 (0)), .w false false (.int .i64 (0)), .w false false .undef] := by kernel_rfl
@[simp] theorem slE_203 : slE Tryz.prog 203 = none := by kernel_rfl
@[simp] theorem isStr_203 : isStr Tryz.prog 203 = false := by kernel_rfl
@[simp] theorem fOf_203_0 : fOf Tryz.prog 203 0 = some (0, 1, false) := by kernel_rfl
@[simp] theorem fOf_203_1 : fOf Tryz.prog 203 1 = some (1, 1, false) := by kernel_rfl
@[simp] theorem fOf_203_2 : fOf Tryz.prog 203 2 = some (2, 1, false) := by kernel_rfl
@[simp] theorem fOf_203_3 : fOf Tryz.prog 203 3 = some (3, 1, false) := by kernel_rfl
@[simp] theorem pls_203 : pls Tryz.prog 203 = some [(0, 1), (1, 1), (2, 1), (3, 1)] := by kernel_rfl
@[simp] theorem nIfc_204 : nIfc Tryz.prog 204 = true := by kernel_rfl
@[simp] theorem tyL_204 : tyL Tryz.prog 204 = some (1, false) := by kernel_rfl
@[simp] theorem nIfc_205 : nIfc Tryz.prog 205 = true := by kernel_rfl
@[simp] theorem tyL_205 : tyL Tryz.prog 205 = some (1, false) := by kernel_rfl
@[simp] theorem nIfc_206 : nIfc Tryz.prog 206 = true := by kernel_rfl
@[simp] theorem tyL_206 : tyL Tryz.prog 206 = some (1, false) := by kernel_rfl
@[simp] theorem nIfc_207 : nIfc Tryz.prog 207 = true := by kernel_rfl
@[simp] theorem tyL_207 : tyL Tryz.prog 207 = some (1, false) := by kernel_rfl
@[simp] theorem nIfc_208 : nIfc Tryz.prog 208 = true := by kernel_rfl
@[simp] theorem tyL_208 : tyL Tryz.prog 208 = some (1, false) := by kernel_rfl
@[simp] theorem nIfc_209 : nIfc Tryz.prog 209 = true := by kernel_rfl
@[simp] theorem tyL_209 : tyL Tryz.prog 209 = some (1, false) := by kernel_rfl
@[simp] theorem nIfc_210 : nIfc Tryz.prog 210 = true := by kernel_rfl
@[simp] theorem tyL_210 : tyL Tryz.prog 210 = some (1, false) := by kernel_rfl
@[simp] theorem nIfc_211 : nIfc Tryz.prog 211 = true := by kernel_rfl
@[simp] theorem tyL_211 : tyL Tryz.prog 211 = some (20, true) := by kernel_rfl
@[simp] theorem zcells_211 : zcells Tryz.prog 211 = some [.w false false (.int .i64 (0)), .w false false (.int .i64 (0)), .w false false (.int .i64 (0)), .w false false .undef, .w false false (.int .i64 (0)), .w false false (.int .i64 (0)), .w false false (.int .i64 (0)), .w false false .undef, .w false false (.int .i64 (0)), .w false false (.int .i64 (0)), .w false false (.int .i64 (0)), .w false false .undef, .w false false (.int .i64 (0)), .w false false (.int .i64 (0)), .w false false (.int .i64 (0)), .w false false .undef, .w false false (.int .i64 (0)), .w false false (.int .i64 (0)), .w false false (.int .i64 (0)), .w false false .undef] := by kernel_rfl
@[simp] theorem slE_211 : slE Tryz.prog 211 = none := by kernel_rfl
@[simp] theorem arE_211 : arE Tryz.prog 211 = some (5, 4) := by kernel_rfl
@[simp] theorem isStr_211 : isStr Tryz.prog 211 = false := by kernel_rfl
@[simp] theorem pls_211 : pls Tryz.prog 211 = some [(0, 4), (4, 4), (8, 4), (12, 4), (16, 4)] := by kernel_rfl
@[simp] theorem nIfc_212 : nIfc Tryz.prog 212 = true := by kernel_rfl
@[simp] theorem tyL_212 : tyL Tryz.prog 212 = some (1, false) := by kernel_rfl
@[simp] theorem nIfc_213 : nIfc Tryz.prog 213 = true := by kernel_rfl
@[simp] theorem tyL_213 : tyL Tryz.prog 213 = some (1, false) := by kernel_rfl
@[simp] theorem nIfc_214 : nIfc Tryz.prog 214 = true := by kernel_rfl
@[simp] theorem tyL_214 : tyL Tryz.prog 214 = some (1, false) := by kernel_rfl
@[simp] theorem nIfc_215 : nIfc Tryz.prog 215 = true := by kernel_rfl
@[simp] theorem tyL_215 : tyL Tryz.prog 215 = some (1, false) := by kernel_rfl
@[simp] theorem nIfc_216 : nIfc Tryz.prog 216 = true := by kernel_rfl
@[simp] theorem tyL_216 : tyL Tryz.prog 216 = some (1, false) := by kernel_rfl
@[simp] theorem nIfc_217 : nIfc Tryz.prog 217 = true := by kernel_rfl
@[simp] theorem tyL_217 : tyL Tryz.prog 217 = some (1, false) := by kernel_rfl
@[simp] theorem nIfc_218 : nIfc Tryz.prog 218 = true := by kernel_rfl
@[simp] theorem tyL_218 : tyL Tryz.prog 218 = some (1, false) := by kernel_rfl
@[simp] theorem nIfc_219 : nIfc Tryz.prog 219 = true := by kernel_rfl
@[simp] theorem tyL_219 : tyL Tryz.prog 219 = some (1, false) := by kernel_rfl
@[simp] theorem zcells_219 : zcells Tryz.prog 219 = some [.w true false .nilp] := by kernel_rfl
@[simp] theorem slE_219 : slE Tryz.prog 219 = none := by kernel_rfl
@[simp] theorem isStr_219 : isStr Tryz.prog 219 = false := by kernel_rfl
@[simp] theorem eqTy_219 : eqTy Tryz.prog 219 = none := by kernel_rfl
@[simp] theorem nIfc_220 : nIfc Tryz.prog 220 = true := by kernel_rfl
@[simp] theorem tyL_220 : tyL Tryz.prog 220 = some (1, false) := by kernel_rfl
@[simp] theorem nIfc_226 : nIfc Tryz.prog 226 = true := by kernel_rfl
@[simp] theorem tyL_226 : tyL Tryz.prog 226 = some (1, false) := by kernel_rfl
@[simp] theorem zcells_226 : zcells Tryz.prog 226 = some [.w false false (.int .u32 (0))] := by kernel_rfl
@[simp] theorem slE_226 : slE Tryz.prog 226 = none := by kernel_rfl
@[simp] theorem isStr_226 : isStr Tryz.prog 226 = false := by kernel_rfl
@[simp] theorem kindOf_226 : kindOf Tryz.prog 226 = some .u32 := by kernel_rfl
@[simp] theorem eqTy_226 : eqTy Tryz.prog 226 = none := by kernel_rfl
@[simp] theorem nIfc_230 : nIfc Tryz.prog 230 = true := by kernel_rfl
@[simp] theorem tyL_230 : tyL Tryz.prog 230 = some (1, false) := by kernel_rfl
@[simp] theorem zcells_230 : zcells Tryz.prog 230 = some [.w true false .nilp] := by kernel_rfl
@[simp] theorem slE_230 : slE Tryz.prog 230 = none := by kernel_rfl
@[simp] theorem isStr_230 : isStr Tryz.prog 230 = false := by kernel_rfl
@[simp] theorem eqTy_230 : eqTy Tryz.prog 230 = none := by kernel_rfl
@[simp] theorem tyL_236 : tyL Tryz.prog 236 = some (2, true) := by kernel_rfl
@[simp] theorem zcells_236 : zcells Tryz.prog 236 = some [.w false false (.str ByteArray.empty), .w false false (.int .u8 (0))] := by kernel_rfl
@[simp] theorem slE_236 : slE Tryz.prog 236 = none := by kernel_rfl
@[simp] theorem isStr_236 : isStr Tryz.prog 236 = false := by kernel_rfl
@[simp] theorem fOf_236_0 : fOf Tryz.prog 236 0 = some (0, 1, false) := by kernel_rfl
@[simp] theorem fOf_236_1 : fOf Tryz.prog 236 1 = some (1, 1, false) := by kernel_rfl
@[simp] theorem pls_236 : pls Tryz.prog 236 = some [(0, 1), (1, 1)] := by kernel_rfl
@[simp] theorem nIfc_237 : nIfc Tryz.prog 237 = true := by kernel_rfl
@[simp] theorem tyL_237 : tyL Tryz.prog 237 = some (1, true) := by kernel_rfl
@[simp] theorem zcells_237 : zcells Tryz.prog 237 = some [.w false false (.str ByteArray.empty)] := by kernel_rfl
@[simp] theorem slE_237 : slE Tryz.prog 237 = none := by kernel_rfl
@[simp] theorem isStr_237 : isStr Tryz.prog 237 = false := by kernel_rfl
@[simp] theorem fOf_237_0 : fOf Tryz.prog 237 0 = some (0, 1, false) := by kernel_rfl
@[simp] theorem pls_237 : pls Tryz.prog 237 = some [(0, 1)] := by kernel_rfl
@[simp] theorem eqTy_237 : eqTy Tryz.prog 237 = some [2] := by kernel_rfl
@[simp] theorem nIfc_238 : nIfc Tryz.prog 238 = true := by kernel_rfl
@[simp] theorem tyL_238 : tyL Tryz.prog 238 = some (1, true) := by kernel_rfl
@[simp] theorem zcells_238 : zcells Tryz.prog 238 = some [.w false false (.str ByteArray.empty)] := by kernel_rfl
@[simp] theorem slE_238 : slE Tryz.prog 238 = none := by kernel_rfl
@[simp] theorem isStr_238 : isStr Tryz.prog 238 = false := by kernel_rfl
@[simp] theorem fOf_238_0 : fOf Tryz.prog 238 0 = some (0, 1, false) := by kernel_rfl
@[simp] theorem pls_238 : pls Tryz.prog 238 = some [(0, 1)] := by kernel_rfl
@[simp] theorem eqTy_238 : eqTy Tryz.prog 238 = some [2] := by kernel_rfl
@[simp] theorem byteSl_9_168 : byteSl Tryz.prog 9 168 = true := by kernel_rfl
@[simp] theorem byteSl_10_168 : byteSl Tryz.prog 10 168 = true := by kernel_rfl
@[simp] theorem byteSl_11_168 : byteSl Tryz.prog 11 168 = true := by kernel_rfl
end Go.Proofs.YtlcimflkjfbaoaaGreat

