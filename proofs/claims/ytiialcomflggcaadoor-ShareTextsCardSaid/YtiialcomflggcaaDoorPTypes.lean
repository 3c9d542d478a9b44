/- Contracts of functions for this claim: lemmas alone. -/
import Derived.Test.YtiialcomflggcaaDoorProg
import Derived.Test.YtiialcomflggcaaDoorLd
import Derived.KernelRfl
set_option linter.unusedSimpArgs false
set_option linter.unusedVariables false
namespace Go.Proofs.YtiialcomflggcaaDoor
open Go Go.Fi
set_option maxRecDepth 100000
@[simp] theorem nIfc_1 : nIfc Tryd.prog 1 = true := by kernel_rfl
@[simp] theorem tyL_1 : tyL Tryd.prog 1 = some (1, false) := by kernel_rfl
@[simp] theorem nIfc_2 : nIfc Tryd.prog 2 = true := by kernel_rfl
@[simp] theorem tyL_2 : tyL Tryd.prog 2 = some (1, false) := by kernel_rfl
@[simp] theorem zcells_2 : zcells Tryd.prog 2 = some [.w false false (.int .i64 (0))] := by kernel_rfl
@[simp] theorem slE_2 : slE Tryd.prog 2 = none := by kernel_rfl
@[simp] theorem isStr_2 : isStr Tryd.prog 2 = false := by kernel_rfl
@[simp] theorem kindOf_2 : kindOf Tryd.prog 2 = some .i64 := by kernel_rfl
@[simp] theorem eqTy_2 : eqTy Tryd.prog 2 = none := by kernel_rfl
@[simp] theorem nIfc_3 : nIfc Tryd.prog 3 = true := by kernel_rfl
@[simp] theorem tyL_3 : tyL Tryd.prog 3 = some (1, false) := by kernel_rfl
@[simp] theorem zcells_3 : zcells Tryd.prog 3 = some [.w false false (.int .i64 (0))] := by kernel_rfl
@[simp] theorem slE_3 : slE Tryd.prog 3 = none := by kernel_rfl
@[simp] theorem isStr_3 : isStr Tryd.prog 3 = false := by kernel_rfl
@[simp] theorem kindOf_3 : kindOf Tryd.prog 3 = some .i64 := by kernel_rfl
@[simp] theorem eqTy_3 : eqTy Tryd.prog 3 = none := by kernel_rfl
@[simp] theorem nIfc_4 : nIfc Tryd.prog 4 = true := by kernel_rfl
@[simp] theorem tyL_4 : tyL Tryd.prog 4 = some (1, false) := by kernel_rfl
@[simp] theorem zcells_4 : zcells Tryd.prog 4 = some [.w false false (.bool false)] := by kernel_rfl
@[simp] theorem slE_4 : slE Tryd.prog 4 = none := by kernel_rfl
@[simp] theorem isStr_4 : isStr Tryd.prog 4 = false := by kernel_rfl
@[simp] theorem isBool_4 : isBool Tryd.prog 4 = true := by kernel_rfl
@[simp] theorem eqTy_4 : eqTy Tryd.prog 4 = none := by kernel_rfl
@[simp] theorem nIfc_5 : nIfc Tryd.prog 5 = true := by kernel_rfl
@[simp] theorem tyL_5 : tyL Tryd.prog 5 = some (1, false) := by kernel_rfl
@[simp] theorem zcells_5 : zcells Tryd.prog 5 = some [.w false false (.int .u8 (0))] := by kernel_rfl
@[simp] theorem slE_5 : slE Tryd.prog 5 = none := by kernel_rfl
@[simp] theorem isStr_5 : isStr Tryd.prog 5 = false := by kernel_rfl
@[simp] theorem kindOf_5 : kindOf Tryd.prog 5 = some .u8 := by kernel_rfl
@[simp] theorem eqTy_5 : eqTy Tryd.prog 5 = none := by kernel_rfl
@[simp] theorem nIfc_9 : nIfc Tryd.prog 9 = true := by kernel_rfl
@[simp] theorem tyL_9 : tyL Tryd.prog 9 = some (1, false) := by kernel_rfl
@[simp] theorem zcells_9 : zcells Tryd.prog 9 = some [.w false false (.str ByteArray.empty)] := by kernel_rfl
@[simp] theorem slE_9 : slE Tryd.prog 9 = none := by kernel_rfl
@[simp] theorem isStr_9 : isStr Tryd.prog 9 = true := by kernel_rfl
@[simp] theorem eqTy_9 : eqTy Tryd.prog 9 = none := by kernel_rfl
@[simp] theorem tyL_20 : tyL Tryd.prog 20 = some (1, false) := by kernel_rfl
@[simp] theorem zcells_20 : zcells Tryd.prog 20 = some [.w true false .nili] := by kernel_rfl
@[simp] theorem eqTy_20 : eqTy Tryd.prog 20 = none := by kernel_rfl
@[simp] theorem nIfc_21 : nIfc Tryd.prog 21 = true := by kernel_rfl
@[simp] theorem tyL_21 : tyL Tryd.prog 21 = some (1, false) := by kernel_rfl
@[simp] theorem zcells_21 : zcells Tryd.prog 21 = some [.w false false (.int .i32 (0))] := by kernel_rfl
@[simp] theorem slE_21 : slE Tryd.prog 21 = none := by kernel_rfl
@[simp] theorem isStr_21 : isStr Tryd.prog 21 = false := by kernel_rfl
@[simp] theorem kindOf_21 : kindOf Tryd.prog 21 = some .i32 := by kernel_rfl
@[simp] theorem eqTy_21 : eqTy Tryd.prog 21 = none := by kernel_rfl
@[simp] theorem nIfc_22 : nIfc Tryd.prog 22 = true := by kernel_rfl
@[simp] theorem tyL_22 : tyL Tryd.prog 22 = some (1, false) := by kernel_rfl
@[simp] theorem zcells_22 : zcells Tryd.prog 22 = some [.w true true (.sl 0 [])] := by kernel_rfl
@[simp] theorem slE_22 : slE Tryd.prog 22 = some (43, 1) := by kernel_rfl
@[simp] theorem byE_43 : byE Tryd.prog 43 = some 24 := by kernel_rfl
@[simp] theorem isStr_22 : isStr Tryd.prog 22 = false := by kernel_rfl
@[simp] theorem eqTy_22 : eqTy Tryd.prog 22 = none := by kernel_rfl
@[simp] theorem nIfc_23 : nIfc Tryd.prog 23 = true := by kernel_rfl
@[simp] theorem tyL_23 : tyL Tryd.prog 23 = some (1, true) := by kernel_rfl
@[simp] theorem zcells_23 : zcells Tryd.prog 23 = some [.w true true (.sl 0 [])] := by kernel_rfl
@[simp] theorem slE_23 : slE Tryd.prog 23 = none := by kernel_rfl
@[simp] theorem isStr_23 : isStr Tryd.prog 23 = false := by kernel_rfl
@[simp] theorem fOf_23_0 : fOf Tryd.prog 23 0 = some (0, 1, false) := by kernel_rfl
@[simp] theorem pls_23 : pls Tryd.prog 23 = some [(0, 1)] := by kernel_rfl
@[simp] theorem nIfc_24 : nIfc Tryd.prog 24 = true := by kernel_rfl
@[simp] theorem tyL_24 : tyL Tryd.prog 24 = some (1, true) := by kernel_rfl
@[simp] theorem zcells_24 : zcells Tryd.prog 24 = some [.w true true (.sl 0 [])] := by kernel_rfl
@[simp] theorem slE_24 : slE Tryd.prog 24 = none := by kernel_rfl
@[simp] theorem isStr_24 : isStr Tryd.prog 24 = false := by kernel_rfl
@[simp] theorem fOf_24_0 : fOf Tryd.prog 24 0 = some (0, 1, false) := by kernel_rfl
@[simp] theorem pls_24 : pls Tryd.prog 24 = some [(0, 1)] := by kernel_rfl
@[simp] theorem nIfc_25 : nIfc Tryd.prog 25 = true := by kernel_rfl
@[simp] theorem tyL_25 : tyL Tryd.prog 25 = some (3, true) := by kernel_rfl
@[simp] theorem zcells_25 : zcells Tryd.prog 25 = some [.w false false (.int .i64 (0)), .w false false (.int .i64 (0)), .w false false (.int .i64 (0))] := by kernel_rfl
@[simp] theorem slE_25 : slE Tryd.prog 25 = none := by kernel_rfl
@[simp] theorem isStr_25 : isStr Tryd.prog 25 = false := by kernel_rfl
@[simp] theorem fOf_25_0 : fOf Tryd.prog 25 0 = some (0, 1, false) := by kernel_rfl
@[simp] theorem fOf_25_1 : fOf Tryd.prog 25 1 = some (1, 1, false) := by kernel_rfl
@[simp] theorem fOf_25_2 : fOf Tryd.prog 25 2 = some (2, 1, false) := by kernel_rfl
@[simp] theorem pls_25 : pls Tryd.prog 25 = some [(0, 1), (1, 1), (2, 1)] := by kernel_rfl
@[simp] theorem eqTy_25 : eqTy Tryd.prog 25 = some [1, 1, 1] := by kernel_rfl
@[simp] theorem nIfc_26 : nIfc Tryd.prog 26 = true := by kernel_rfl
@[simp] theorem tyL_26 : tyL Tryd.prog 26 = some (3, true) := by kernel_rfl
@[simp] theorem zcells_26 : zcells Tryd.prog 26 = some [.w false false (.int .i64 (0)), .w false false (.int .i64 (0)), .w false false (.int .i64 (0))] := by kernel_rfl
@[simp] theorem slE_26 : slE Tryd.prog 26 = none := by kernel_rfl
@[simp] theorem isStr_26 : isStr Tryd.prog 26 = false := by kernel_rfl
@[simp] theorem fOf_26_0 : fOf Tryd.prog 26 0 = some (0, 1, false) := by kernel_rfl
@[simp] theorem fOf_26_1 : fOf Tryd.prog 26 1 = some (1, 1, false) := by kernel_rfl
@[simp] theorem fOf_26_2 : fOf Tryd.prog 26 2 = some (2, 1, false) := by kernel_rfl
@[simp] theorem pls_26 : pls Tryd.prog 26 = some [(0, 1), (1, 1), (2, 1)] := by kernel_rfl
@[simp] theorem eqTy_26 : eqTy Tryd.prog 26 = some [1, 1, 1] := by kernel_rfl
@[simp] theorem nIfc_27 : nIfc Tryd.prog 27 = true := by kernel_rfl
@[simp] theorem tyL_27 : tyL Tryd.prog 27 = some (1, false) := by kernel_rfl
@[simp] theorem zcells_27 : zcells Tryd.prog 27 = some [.w true true (.sl 0 [])] := by kernel_rfl
@[simp] theorem slE_27 : slE Tryd.prog 27 = some (52, 8) := by kernel_rfl
@[simp] theorem byE_52 : byE Tryd.prog 52 = some 72 := by kernel_rfl
@[simp] theorem isStr_27 : isStr Tryd.prog 27 = false := by kernel_rfl
@[simp] theorem eqTy_27 : eqTy Tryd.prog 27 = none := by kernel_rfl
@[simp] theorem nIfc_28 : nIfc Tryd.prog 28 = true := by kernel_rfl
@[simp] theorem tyL_28 : tyL Tryd.prog 28 = some (1, false) := by kernel_rfl
@[simp] theorem zcells_28 : zcells Tryd.prog 28 = some [.w true true (.sl 0 [])] := by kernel_rfl
@[simp] theorem slE_28 : slE Tryd.prog 28 = some (63, 2) := by kernel_rfl
@[simp] theorem byE_63 : byE Tryd.prog 63 = some 16 := by kernel_rfl
@[simp] theorem isStr_28 : isStr Tryd.prog 28 = false := by kernel_rfl
@[simp] theorem eqTy_28 : eqTy Tryd.prog 28 = none := by kernel_rfl
@[simp] theorem nIfc_29 : nIfc Tryd.prog 29 = true := by kernel_rfl
@[simp] theorem tyL_29 : tyL Tryd.prog 29 = some (5, true) := by kernel_rfl
@[simp] theorem zcells_29 : zcells Tryd.prog 29 = some [.w false false (.int .i64 (0)), .w false false (.int .i64 (0)), .w false false (.int .i64 (0)), .w true true (.sl 0 []), .w true true (.sl 0 [])] := by kernel_rfl
@[simp] theorem slE_29 : slE Tryd.prog 29 = none := by kernel_rfl
@[simp] theorem isStr_29 : isStr Tryd.prog 29 = false := by kernel_rfl
@[simp] theorem fOf_29_0 : fOf Tryd.prog 29 0 = some (0, 3, true) := by kernel_rfl
@[simp] theorem fOf_29_1 : fOf Tryd.prog 29 1 = some (3, 1, false) := by kernel_rfl
@[simp] theorem fOf_29_2 : fOf Tryd.prog 29 2 = some (4, 1, false) := by kernel_rfl
@[simp] theorem pls_29 : pls Tryd.prog 29 = some [(0, 3), (3, 1), (4, 1)] := by kernel_rfl
@[simp] theorem nIfc_30 : nIfc Tryd.prog 30 = true := by kernel_rfl
@[simp] theorem tyL_30 : tyL Tryd.prog 30 = some (5, true) := by kernel_rfl
@[simp] theorem zcells_30 : zcells Tryd.prog 30 = some [.w false false (.int .i64 (0)), .w false false (.int .i64 (0)), .w false false (.int .i64 (0)), .w true true (.sl 0 []), .w true true (.sl 0 [])] := by kernel_rfl
@[simp] theorem slE_30 : slE Tryd.prog 30 = none := by kernel_rfl
@[simp] theorem isStr_30 : isStr Tryd.prog 30 = false := by kernel_rfl
@[simp] theorem fOf_30_0 : fOf Tryd.prog 30 0 = some (0, 3, true) := by kernel_rfl
@[simp] theorem fOf_30_1 : fOf Tryd.prog 30 1 = some (3, 1, false) := by kernel_rfl
@[simp] theorem fOf_30_2 : fOf Tryd.prog 30 2 = some (4, 1, false) := by kernel_rfl
@[simp] theorem pls_30 : pls Tryd.prog 30 = some [(0, 3), (3, 1), (4, 1)] := by kernel_rfl
@[simp] theorem nIfc_31 : nIfc Tryd.prog 31 = true := by kernel_rfl
@[simp] theorem tyL_31 : tyL Tryd.prog 31 = some (1, false) := by kernel_rfl
@[simp] theorem nIfc_32 : nIfc Tryd.prog 32 = true := by kernel_rfl
@[simp] theorem tyL_32 : tyL Tryd.prog 32 = some (1, false) := by kernel_rfl
@[simp] theorem nIfc_33 : nIfc Tryd.prog 33 = true := by kernel_rfl
@[simp] theorem tyL_33 : tyL Tryd.prog 33 = some (1, false) := by kernel_rfl
@[simp] theorem nIfc_34 : nIfc Tryd.prog 34 = true := by kernel_rfl
@[simp] theorem tyL_34 : tyL Tryd.prog 34 = some (1, false) := by kernel_rfl
@[simp] theorem nIfc_35 : nIfc Tryd.prog 35 = true := by kernel_rfl
@[simp] theorem tyL_35 : tyL Tryd.prog 35 = some (1, false) := by kernel_rfl
@[simp] theorem zcells_35 : zcells Tryd.prog 35 = some [.w false false (.int .i64 (0))] := by kernel_rfl
@[simp] theorem slE_35 : slE Tryd.prog 35 = none := by kernel_rfl
@[simp] theorem isStr_35 : isStr Tryd.prog 35 = false := by kernel_rfl
@[simp] theorem kindOf_35 : kindOf Tryd.prog 35 = some .i64 := by kernel_rfl
@[simp] theorem eqTy_35 : eqTy Tryd.prog 35 = none := by kernel_rfl
@[simp] theorem nIfc_37 : nIfc Tryd.prog 37 = true := by kernel_rfl
@[simp] theorem tyL_37 : tyL Tryd.prog 37 = some (1, false) := by kernel_rfl
@[simp] theorem nIfc_39 : nIfc Tryd.prog 39 = true := by kernel_rfl
@[simp] theorem tyL_39 : tyL Tryd.prog 39 = some (1, false) := by kernel_rfl
@[simp] theorem nIfc_40 : nIfc Tryd.prog 40 = true := by kernel_rfl
@[simp] theorem tyL_40 : tyL Tryd.prog 40 = some (1, false) := by kernel_rfl
@[simp] theorem nIfc_41 : nIfc Tryd.prog 41 = true := by kernel_rfl
@[simp] theorem tyL_41 : tyL Tryd.prog 41 = some (1, false) := by kernel_rfl
@[simp] theorem nIfc_42 : nIfc Tryd.prog 42 = true := by kernel_rfl
@[simp] theorem tyL_42 : tyL Tryd.prog 42 = some (1, false) := by kernel_rfl
@[simp] theorem nIfc_43 : nIfc Tryd.prog 43 = true := by kernel_rfl
@[simp] theorem tyL_43 : tyL Tryd.prog 43 = some (1, false) := by kernel_rfl
@[simp] theorem zcells_43 : zcells Tryd.prog 43 = some [.w true true (.sl 0 [])] := by kernel_rfl
@[simp] theorem slE_43 : slE Tryd.prog 43 = some (3, 1) := by kernel_rfl
@[simp] theorem byE_3 : byE Tryd.prog 3 = some 8 := by kernel_rfl
@[simp] theorem isStr_43 : isStr Tryd.prog 43 = false := by kernel_rfl
@[simp] theorem eqTy_43 : eqTy Tryd.prog 43 = none := by kernel_rfl
@[simp] theorem nIfc_45 : nIfc Tryd.prog 45 = true := by kernel_rfl
@[simp] theorem tyL_45 : tyL Tryd.prog 45 = some (1, false) := by kernel_rfl
@[simp] theorem nIfc_46 : nIfc Tryd.prog 46 = true := by kernel_rfl
@[simp] theorem tyL_46 : tyL Tryd.prog 46 = some (1, false) := by kernel_rfl
@[simp] theorem nIfc_47 : nIfc Tryd.prog 47 = true := by kernel_rfl
@[simp] theorem tyL_47 : tyL Tryd.prog 47 = some (1, false) := by kernel_rfl
@[simp] theorem nIfc_48 : nIfc Tryd.prog 48 = true := by kernel_rfl
@[simp] theorem tyL_48 : tyL Tryd.prog 48 = some (1, false) := by kernel_rfl
@[simp] theorem zcells_48 : zcells Tryd.prog 48 = some [.w true true (.sl 0 [])] := by kernel_rfl
@[simp] theorem slE_48 : slE Tryd.prog 48 = some (59, 3) := by kernel_rfl
@[simp] theorem byE_59 : byE Tryd.prog 59 = some 24 := by kernel_rfl
@[simp] theorem isStr_48 : isStr Tryd.prog 48 = false := by kernel_rfl
@[simp] theorem eqTy_48 : eqTy Tryd.prog 48 = none := by kernel_rfl
@[simp] theorem nIfc_50 : nIfc Tryd.prog 50 = true := by kernel_rfl
@[simp] theorem tyL_50 : tyL Tryd.prog 50 = some (1, false) := by kernel_rfl
@[simp] theorem nIfc_51 : nIfc Tryd.prog 51 = true := by kernel_rfl
@[simp] theorem tyL_51 : tyL Tryd.prog 51 = some (8, true) := by kernel_rfl
@[simp] theorem zcells_51 : zcells Tryd.prog 51 = some [.w false false (.str ByteArray.empty), .w false false (.int .i64 (0)), .w false false (.int .i64 (0)), .w false false (.int .i64 (0)), .w false false (.int .i64 (0)), .w false false (.int .i64 (0)), .w false false (.bool false), .w false false (.int .i64 (0))] := by kernel_rfl
@[simp] theorem slE_51 : slE Tryd.prog 51 = none := by kernel_rfl
@[simp] theorem isStr_51 : isStr Tryd.prog 51 = false := by kernel_rfl
@[simp] theorem fOf_51_0 : fOf Tryd.prog 51 0 = some (0, 1, false) := by kernel_rfl
@[simp] theorem fOf_51_1 : fOf Tryd.prog 51 1 = some (1, 1, false) := by kernel_rfl
@[simp] theorem fOf_51_2 : fOf Tryd.prog 51 2 = some (2, 1, false) := by kernel_rfl
@[simp] theorem fOf_51_3 : fOf Tryd.prog 51 3 = some (3, 1, false) := by kernel_rfl
@[simp] theorem fOf_51_4 : fOf Tryd.prog 51 4 = some (4, 1, false) := by kernel_rfl
@[simp] theorem fOf_51_5 : fOf Tryd.prog 51 5 = some (5, 1, false) := by kernel_rfl
@[simp] theorem fOf_51_6 : fOf Tryd.prog 51 6 = some (6, 1, false) := by kernel_rfl
@[simp] theorem fOf_51_7 : fOf Tryd.prog 51 7 = some (7, 1, false) := by kernel_rfl
@[simp] theorem pls_51 : pls Tryd.prog 51 = some [(0, 1), (1, 1), (2, 1), (3, 1), (4, 1), (5, 1), (6, 1), (7, 1)] := by kernel_rfl
@[simp] theorem eqTy_51 : eqTy Tryd.prog 51 = some [2, 1, 1, 1, 1, 1, 0, 1] := by kernel_rfl
@[simp] theorem nIfc_52 : nIfc Tryd.prog 52 = true := by kernel_rfl
@[simp] theorem tyL_52 : tyL Tryd.prog 52 = some (8, true) := by kernel_rfl
@[simp] theorem zcells_52 : zcells Tryd.prog 52 = some [.w false false (.str ByteArray.empty), .w false false (.int .i64 (0)), .w false false (.int .i64 (0)), .w false false (.int .i64 (0)), .w false false (.int .i64 (0)), .w false false (.int .i64 (0)), .w false false (.bool false), .w false false (.int .i64 (0))] := by kernel_rfl
@[simp] theorem slE_52 : slE Tryd.prog 52 = none := by kernel_rfl
@[simp] theorem isStr_52 : isStr Tryd.prog 52 = false := by kernel_rfl
@[simp] theorem fOf_52_0 : fOf Tryd.prog 52 0 = some (0, 1, false) := by kernel_rfl
@[simp] theorem fOf_52_1 : fOf Tryd.prog 52 1 = some (1, 1, false) := by kernel_rfl
@[simp] theorem fOf_52_2 : fOf Tryd.prog 52 2 = some (2, 1, false) := by kernel_rfl
@[simp] theorem fOf_52_3 : fOf Tryd.prog 52 3 = some (3, 1, false) := by kernel_rfl
@[simp] theorem fOf_52_4 : fOf Tryd.prog 52 4 = some (4, 1, false) := by kernel_rfl
@[simp] theorem fOf_52_5 : fOf Tryd.prog 52 5 = some (5, 1, false) := by kernel_rfl
@[simp] theorem fOf_52_6 : fOf Tryd.prog 52 6 = some (6, 1, false) := by kernel_rfl
@[simp] theorem fOf_52_7 : fOf Tryd.prog 52 7 = some (7, 1, false) := by kernel_rfl
@[simp] theorem pls_52 : pls Tryd.prog 52 = some [(0, 1), (1, 1), (2, 1), (3, 1), (4, 1), (5, 1), (6, 1), (7, 1)] := by kernel_rfl
@[simp] theorem eqTy_52 : eqTy Tryd.prog 52 = some [2, 1, 1, 1, 1, 1, 0, 1] := by kernel_rfl
@[simp] theorem nIfc_53 : nIfc Tryd.prog 53 = true := by kernel_rfl
@[simp] theorem tyL_53 : tyL Tryd.prog 53 = some (1, false) := by kernel_rfl
@[simp] theorem nIfc_55 : nIfc Tryd.prog 55 = true := by kernel_rfl
@[simp] theorem tyL_55 : tyL Tryd.prog 55 = some (1, false) := by kernel_rfl
@[simp] theorem nIfc_56 : nIfc Tryd.prog 56 = true := by kernel_rfl
@[simp] theorem tyL_56 : tyL Tryd.prog 56 = some (1, false) := by kernel_rfl
@[simp] theorem nIfc_57 : nIfc Tryd.prog 57 = true := by kernel_rfl
@[simp] theorem tyL_57 : tyL Tryd.prog 57 = some (1, false) := by kernel_rfl
@[simp] theorem nIfc_58 : nIfc Tryd.prog 58 = true := by kernel_rfl
@[simp] theorem tyL_58 : tyL Tryd.prog 58 = some (3, true) := by kernel_rfl
@[simp] theorem zcells_58 : zcells Tryd.prog 58 = some [.w false false (.int .i64 (0)), .w false false (.int .i64 (0)), .w false false (.int .i64 (0))] := by kernel_rfl
@[simp] theorem slE_58 : slE Tryd.prog 58 = none := by kernel_rfl
@[simp] theorem isStr_58 : isStr Tryd.prog 58 = false := by kernel_rfl
@[simp] theorem fOf_58_0 : fOf Tryd.prog 58 0 = some (0, 1, false) := by kernel_rfl
@[simp] theorem fOf_58_1 : fOf Tryd.prog 58 1 = some (1, 1, false) := by kernel_rfl
@[simp] theorem fOf_58_2 : fOf Tryd.prog 58 2 = some (2, 1, false) := by kernel_rfl
@[simp] theorem pls_58 : pls Tryd.prog 58 = some [(0, 1), (1, 1), (2, 1)] := by kernel_rfl
@[simp] theorem eqTy_58 : eqTy Tryd.prog 58 = some [1, 1, 1] := by kernel_rfl
@[simp] theorem nIfc_59 : nIfc Tryd.prog 59 = true := by kernel_rfl
@[simp] theorem tyL_59 : tyL Tryd.prog 59 = some (3, true) := by kernel_rfl
@[simp] theorem zcells_59 : zcells Tryd.prog 59 = some [.w false false (.int .i64 (0)), .w false false (.int .i64 (0)), .w false false (.int .i64 (0))] := by kernel_rfl
@[simp] theorem slE_59 : slE Tryd.prog 59 = none := by kernel_rfl
@[simp] theorem isStr_59 : isStr Tryd.prog 59 = false := by kernel_rfl
@[simp] theorem fOf_59_0 : fOf Tryd.prog 59 0 = some (0, 1, false) := by kernel_rfl
@[simp] theorem fOf_59_1 : fOf Tryd.prog 59 1 = some (1, 1, false) := by kernel_rfl
@[simp] theorem fOf_59_2 : fOf Tryd.prog 59 2 = some (2, 1, false) := by kernel_rfl
@[simp] theorem pls_59 : pls Tryd.prog 59 = some [(0, 1), (1, 1), (2, 1)] := by kernel_rfl
@[simp] theorem eqTy_59 : eqTy Tryd.prog 59 = some [1, 1, 1] := by kernel_rfl
@[simp] theorem nIfc_60 : nIfc Tryd.prog 60 = true := by kernel_rfl
@[simp] theorem tyL_60 : tyL Tryd.prog 60 = some (1, false) := by kernel_rfl
@[simp] theorem nIfc_61 : nIfc Tryd.prog 61 = true := by kernel_rfl
@[simp] theorem tyL_61 : tyL Tryd.prog 61 = some (1, false) := by kernel_rfl
@[simp] theorem zcells_61 : zcells Tryd.prog 61 = some [.w true true (.sl 0 [])] := by kernel_rfl
@[simp] theorem slE_61 : slE Tryd.prog 61 = some (9, 1) := by kernel_rfl
@[simp] theorem byE_9 : byE Tryd.prog 9 = some 16 := by kernel_rfl
@[simp] theorem isStr_61 : isStr Tryd.prog 61 = false := by kernel_rfl
@[simp] theorem eqTy_61 : eqTy Tryd.prog 61 = none := by kernel_rfl
@[simp] theorem nIfc_62 : nIfc Tryd.prog 62 = true := by kernel_rfl
@[simp] theorem tyL_62 : tyL Tryd.prog 62 = some (2, true) := by kernel_rfl
@[simp] theorem zcells_62 : zcells Tryd.prog 62 = some [.w false false (.int .i64 (0)), .w false false (.bool false)] := by kernel_rfl
@[simp] theorem slE_62 : slE Tryd.prog 62 = none := by kernel_rfl
@[simp] theorem isStr_62 : isStr Tryd.prog 62 = false := by kernel_rfl
@[simp] theorem fOf_62_0 : fOf Tryd.prog 62 0 = some (0, 1, false) := by kernel_rfl
@[simp] theorem fOf_62_1 : fOf Tryd.prog 62 1 = some (1, 1, false) := by kernel_rfl
@[simp] theorem pls_62 : pls Tryd.prog 62 = some [(0, 1), (1, 1)] := by kernel_rfl
@[simp] theorem eqTy_62 : eqTy Tryd.prog 62 = some [1, 0] := by kernel_rfl
@[simp] theorem nIfc_63 : nIfc Tryd.prog 63 = true := by kernel_rfl
@[simp] theorem tyL_63 : tyL Tryd.prog 63 = some (2, true) := by kernel_rfl
@[simp] theorem zcells_63 : zcells Tryd.prog 63 = some [.w false false (.int .i64 (0)), .w false false (.bool false)] := by kernel_rfl
@[simp] theorem slE_63 : slE Tryd.prog 63 = none := by kernel_rfl
@[simp] theorem isStr_63 : isStr Tryd.prog 63 = false := by kernel_rfl
@[simp] theorem fOf_63_0 : fOf Tryd.prog 63 0 = some (0, 1, false) := by kernel_rfl
@[simp] theorem fOf_63_1 : fOf Tryd.prog 63 1 = some (1, 1, false) := by kernel_rfl
@[simp] theorem pls_63 : pls Tryd.prog 63 = some [(0, 1), (1, 1)] := by kernel_rfl
@[simp] theorem eqTy_63 : eqTy Tryd.prog 63 = some [1, 0] := by kernel_rfl
@[simp] theorem nIfc_64 : nIfc Tryd.prog 64 = true := by kernel_rfl
@[simp] theorem tyL_64 : tyL Tryd.prog 64 = some (1, false) := by kernel_rfl
@[simp] theorem nIfc_65 : nIfc Tryd.prog 65 = true := by kernel_rfl
@[simp] theorem tyL_65 : tyL Tryd.prog 65 = some (1, false) := by kernel_rfl
@[simp] theorem nIfc_66 : nIfc Tryd.prog 66 = true := by kernel_rfl
@[simp] theorem tyL_66 : tyL Tryd.prog 66 = some (1, false) := by kernel_rfl
@[simp] theorem zcells_66 : zcells Tryd.prog 66 = some [.w false false .undef] := by kernel_rfl
@[simp] theorem slE_66 : slE Tryd.prog 66 = none := by kernel_rfl
@[simp] theorem isStr_66 : isStr Tryd.prog 66 = false := by kernel_rfl
@[simp] theorem eqTy_66 : eqTy Tryd.prog 66 = none := by kernel_rfl
@[simp] theorem nIfc_68 : nIfc Tryd.prog 68 = true := by kernel_rfl
@[simp] theorem tyL_68 : tyL Tryd.prog 68 = some (1, false) := by kernel_rfl
@[simp] theorem nIfc_69 : nIfc Tryd.prog 69 = true := by kernel_rfl
@[simp] theorem tyL_69 : tyL Tryd.prog 69 = some (1, false) := by kernel_rfl
@[simp] theorem nIfc_70 : nIfc Tryd.prog 70 = true := by kernel_rfl
@[simp] theorem tyL_70 : tyL Tryd.prog 70 = some (1, false) := by kernel_rfl
@[simp] theorem nIfc_71 : nIfc Tryd.prog 71 = true := by kernel_rfl
@[simp] theorem tyL_71 : tyL Tryd.prog 71 = some (1, false) := by kernel_rfl
@[simp] theorem nIfc_72 : nIfc Tryd.prog 72 = true := by kernel_rfl
@[simp] theorem tyL_72 : tyL Tryd.prog 72 = some (1, false) := by kernel_rfl
@[simp] theorem nIfc_73 : nIfc Tryd.prog 73 = true := by kernel_rfl
@[simp] theorem tyL_73 : tyL Tryd.prog 73 = some (1, false) := by kernel_rfl
@[simp] theorem nIfc_74 : nIfc Tryd.prog 74 = true := by kernel_rfl
@[simp] theorem tyL_74 : tyL Tryd.prog 74 = some (1, false) := by kernel_rfl
@[simp] theorem nIfc_76 : nIfc Tryd.prog 76 = true := by kernel_rfl
@[simp] theorem tyL_76 : tyL Tryd.prog 76 = some (1, false) := by kernel_rfl
@[simp] theorem nIfc_77 : nIfc Tryd.prog 77 = true := by kernel_rfl
@[simp] theorem tyL_77 : tyL Tryd.prog 77 = some (1, false) := by kernel_rfl
@[simp] theorem nIfc_78 : nIfc Tryd.prog 78 = true := by kernel_rfl
@[simp] theorem tyL_78 : tyL Tryd.prog 78 = some (1, false) := by kernel_rfl
@[simp] theorem zcells_78 : zcells Tryd.prog 78 = some [.w true false .nilp] := by kernel_rfl
@[simp] theorem slE_78 : slE Tryd.prog 78 = none := by kernel_rfl
@[simp] theorem isStr_78 : isStr Tryd.prog 78 = false := by kernel_rfl
@[simp] theorem eqTy_78 : eqTy Tryd.prog 78 = none := by kernel_rfl
@[simp] theorem nIfc_79 : nIfc Tryd.prog 79 = true := by kernel_rfl
@[simp] theorem tyL_79 : tyL Tryd.prog 79 = some (8, true) := by kernel_rfl
@[simp] theorem zcells_79 : zcells Tryd.prog 79 = some [.w false false (.int .i64 (0)), .w false false (.int .i64 (0)), .w false false (.int .i64 (0)), .w true true (.sl 0 []), .w true true (.sl 0 []), .w true true (.sl 0 []), .w true true (.sl 0 []), .w true true (.sl 0 [])] := by kernel_rfl
@[simp] theorem slE_79 : slE Tryd.prog 79 = none := by kernel_rfl
@[simp] theorem isStr_79 : isStr Tryd.prog 79 = false := by kernel_rfl
@[simp] theorem fOf_79_0 : fOf Tryd.prog 79 0 = some (0, 5, true) := by kernel_rfl
@[simp] theorem fOf_79_1 : fOf Tryd.prog 79 1 = some (5, 1, true) := by kernel_rfl
@[simp] theorem fOf_79_2 : fOf Tryd.prog 79 2 = some (6, 1, false) := by kernel_rfl
@[simp] theorem fOf_79_3 : fOf Tryd.prog 79 3 = some (7, 1, false) := by kernel_rfl
@[simp] theorem pls_79 : pls Tryd.prog 79 = some [(0, 5), (5, 1), (6, 1), (7, 1)] := by kernel_rfl
@[simp] theorem nIfc_80 : nIfc Tryd.prog 80 = true := by kernel_rfl
@[simp] theorem tyL_80 : tyL Tryd.prog 80 = some (8, true) := by kernel_rfl
@[simp] theorem zcells_80 : zcells Tryd.prog 80 = some [.w false false (.int .i64 (0)), .w false false (.int .i64 (0)), .w false false (.int .i64 (0)), .w true true (.sl 0 []), .w true true (.sl 0 []), .w true true (.sl 0 []), .w true true (.sl 0 []), .w true true (.sl 0 [])] := by kernel_rfl
@[simp] theorem slE_80 : slE Tryd.prog 80 = none := by kernel_rfl
@[simp] theorem isStr_80 : isStr Tryd.prog 80 = false := by kernel_rfl
@[simp] theorem fOf_80_0 : fOf Tryd.prog 80 0 = some (0, 5, true) := by kernel_rfl
@[simp] theorem fOf_80_1 : fOf Tryd.prog 80 1 = some (5, 1, true) := by kernel_rfl
@[simp] theorem fOf_80_2 : fOf Tryd.prog 80 2 = some (6, 1, false) := by kernel_rfl
@[simp] theorem fOf_80_3 : fOf Tryd.prog 80 3 = some (7, 1, false) := by kernel_rfl
@[simp] theorem pls_80 : pls Tryd.prog 80 = some [(0, 5), (5, 1), (6, 1), (7, 1)] := by kernel_rfl
@[simp] theorem nIfc_81 : nIfc Tryd.prog 81 = true := by kernel_rfl
@[simp] theorem tyL_81 : tyL Tryd.prog 81 = some (1, false) := by kernel_rfl
@[simp] theorem nIfc_82 : nIfc Tryd.prog 82 = true := by kernel_rfl
@[simp] theorem tyL_82 : tyL Tryd.prog 82 = some (1, false) := by kernel_rfl
@[simp] theorem nIfc_83 : nIfc Tryd.prog 83 = true := by kernel_rfl
@[simp] theorem tyL_83 : tyL Tryd.prog 83 = some (1, false) := by kernel_rfl
@[simp] theorem nIfc_84 : nIfc Tryd.prog 84 = true := by kernel_rfl
@[simp] theorem tyL_84 : tyL Tryd.prog 84 = some (1, false) := by kernel_rfl
@[simp] theorem nIfc_85 : nIfc Tryd.prog 85 = true := by kernel_rfl
@[simp] theorem tyL_85 : tyL Tryd.prog 85 = some (1, false) := by kernel_rfl
@[simp] theorem nIfc_86 : nIfc Tryd.prog 86 = true := by kernel_rfl
@[simp] theorem tyL_86 : tyL Tryd.prog 86 = some (1, false) := by kernel_rfl
@[simp] theorem nIfc_87 : nIfc Tryd.prog 87 = true := by kernel_rfl
@[simp] theorem tyL_87 : tyL Tryd.prog 87 = some (1, false) := by kernel_rfl
@[simp] theorem nIfc_88 : nIfc Tryd.prog 88 = true := by kernel_rfl
@[simp] theorem tyL_88 : tyL Tryd.prog 88 = some (1, false) := by kernel_rfl
@[simp] theorem nIfc_89 : nIfc Tryd.prog 89 = true := by kernel_rfl
@[simp] theorem tyL_89 : tyL Tryd.prog 89 = some (1, false) := by kernel_rfl
@[simp] theorem nIfc_90 : nIfc Tryd.prog 90 = true := by kernel_rfl
@[simp] theorem tyL_90 : tyL Tryd.prog 90 = some (1, false) := by kernel_rfl
@[simp] theorem nIfc_91 : nIfc Tryd.prog 91 = true := by kernel_rfl
@[simp] theorem tyL_91 : tyL Tryd.prog 91 = some (1, false) := by kernel_rfl
@[simp] theorem nIfc_92 : nIfc Tryd.prog 92 = true := by kernel_rfl
@[simp] theorem tyL_92 : tyL Tryd.prog 92 = some (2, true) := by kernel_rfl
@[simp] theorem zcells_92 : zcells Tryd.prog 92 = some [.w false false (.int .i64 (0)), .w false false (.int .i64 (0))] := by kernel_rfl
@[simp] theorem slE_92 : slE Tryd.prog 92 = none := by kernel_rfl
@[simp] theorem isStr_92 : isStr Tryd.prog 92 = false := by kernel_rfl
@[simp] theorem fOf_92_0 : fOf Tryd.prog 92 0 = some (0, 1, false) := by kernel_rfl
@[simp] theorem fOf_92_1 : fOf Tryd.prog 92 1 = some (1, 1, false) := by kernel_rfl
@[simp] theorem pls_92 : pls Tryd.prog 92 = some [(0, 1), (1, 1)] := by kernel_rfl
@[simp] theorem eqTy_92 : eqTy Tryd.prog 92 = some [1, 1] := by kernel_rfl
@[simp] theorem nIfc_93 : nIfc Tryd.prog 93 = true := by kernel_rfl
@[simp] theorem tyL_93 : tyL Tryd.prog 93 = some (2, true) := by kernel_rfl
@[simp] theorem zcells_93 : zcells Tryd.prog 93 = some [.w false false (.int .i64 (0)), .w false false (.int .i64 (0))] := by kernel_rfl
@[simp] theorem slE_93 : slE Tryd.prog 93 = none := by kernel_rfl
@[simp] theorem isStr_93 : isStr Tryd.prog 93 = false := by kernel_rfl
@[simp] theorem fOf_93_0 : fOf Tryd.prog 93 0 = some (0, 1, false) := by kernel_rfl
@[simp] theorem fOf_93_1 : fOf Tryd.prog 93 1 = some (1, 1, false) := by kernel_rfl
@[simp] theorem pls_93 : pls Tryd.prog 93 = some [(0, 1), (1, 1)] := by kernel_rfl
@[simp] theorem eqTy_93 : eqTy Tryd.prog 93 = some [1, 1] := by kernel_rfl
@[simp] theorem nIfc_94 : nIfc Tryd.prog 94 = true := by kernel_rfl
@[simp] theorem tyL_94 : tyL Tryd.prog 94 = some (1, false) := by kernel_rfl
@[simp] theorem nIfc_95 : nIfc Tryd.prog 95 = true := by kernel_rfl
@[simp] theorem tyL_95 : tyL Tryd.prog 95 = some (1, false) := by kernel_rfl
@[simp] theorem nIfc_96 : nIfc Tryd.prog 96 = true := by kernel_rfl
@[simp] theorem tyL_96 : tyL Tryd.prog 96 = some (1, false) := by kernel_rfl
@[simp] theorem zcells_96 : zcells Tryd.prog 96 = some [.w true false .nilp] := by kernel_rfl
@[simp] theorem slE_96 : slE Tryd.prog 96 = none := by kernel_rfl
@[simp] theorem isStr_96 : isStr Tryd.prog 96 = false := by kernel_rfl
@[simp] theorem eqTy_96 : eqTy Tryd.prog 96 = none := by kernel_rfl
@[simp] theorem nIfc_97 : nIfc Tryd.prog 97 = true := by kernel_rfl
@[simp] theorem tyL_97 : tyL Tryd.prog 97 = some (1, false) := by kernel_rfl
@[simp] theorem zcells_97 : zcells Tryd.prog 97 = some [.w true true (.sl 0 [])] := by kernel_rfl
@[simp] theorem slE_97 : slE Tryd.prog 97 = some (5, 1) := by kernel_rfl
@[simp] theorem byE_5 : byE Tryd.prog 5 = some 1 := by kernel_rfl
@[simp] theorem isStr_97 : isStr Tryd.prog 97 = false := by kernel_rfl
@[simp] theorem eqTy_97 : eqTy Tryd.prog 97 = none := by kernel_rfl
@[simp] theorem nIfc_98 : nIfc Tryd.prog 98 = true := by kernel_rfl
@[simp] theorem tyL_98 : tyL Tryd.prog 98 = some (2, true) := by kernel_rfl
@[simp] theorem zcells_98 : zcells Tryd.prog 98 = some [.w true false .nilp, .w true true (.sl 0 [])] := by kernel_rfl
@[simp] theorem slE_98 : slE Tryd.prog 98 = none := by kernel_rfl
@[simp] theorem isStr_98 : isStr Tryd.prog 98 = false := by kernel_rfl
@[simp] theorem fOf_98_0 : fOf Tryd.prog 98 0 = some (0, 1, false) := by kernel_rfl
@[simp] theorem fOf_98_1 : fOf Tryd.prog 98 1 = some (1, 1, false) := by kernel_rfl
@[simp] theorem pls_98 : pls Tryd.prog 98 = some [(0, 1), (1, 1)] := by kernel_rfl
@[simp] theorem nIfc_99 : nIfc Tryd.prog 99 = true := by kernel_rfl
@[simp] theorem tyL_99 : tyL Tryd.prog 99 = some (2, true) := by kernel_rfl
@[simp] theorem zcells_99 : zcells Tryd.prog 99 = some [.w true false .nilp, .w true true (.sl 0 [])] := by kernel_rfl
@[simp] theorem slE_99 : slE Tryd.prog 99 = none := by kernel_rfl
@[simp] theorem isStr_99 : isStr Tryd.prog 99 = false := by kernel_rfl
@[simp] theorem fOf_99_0 : fOf Tryd.prog 99 0 = some (0, 1, false) := by kernel_rfl
@[simp] theorem fOf_99_1 : fOf Tryd.prog 99 1 = some (1, 1, false) := by kernel_rfl
@[simp] theorem pls_99 : pls Tryd.prog 99 = some [(0, 1), (1, 1)] := by kernel_rfl
@[simp] theorem nIfc_100 : nIfc Tryd.prog 100 = true := by kernel_rfl
@[simp] theorem tyL_100 : tyL Tryd.prog 100 = some (1, false) := by kernel_rfl
@[simp] theorem tyL_101 : tyL Tryd.prog 101 = some (1, false) := by kernel_rfl
@[simp] theorem zcells_101 : zcells Tryd.prog 101 = some [.w true false .nili] := by kernel_rfl
@[simp] theorem eqTy_101 : eqTy Tryd.prog 101 = none := by kernel_rfl
@[simp] theorem tyL_102 : tyL Tryd.prog 102 = some (1, false) := by kernel_rfl
@[simp] theorem zcells_102 : zcells Tryd.prog 102 = some [.w true false .nili] := by kernel_rfl
@[simp] theorem eqTy_102 : eqTy Tryd.prog 102 = none := by kernel_rfl
@[simp] theorem nIfc_104 : nIfc Tryd.prog 104 = true := by kernel_rfl
@[simp] theorem tyL_104 : tyL Tryd.prog 104 = some (1, false) := by kernel_rfl
@[simp] theorem nIfc_105 : nIfc Tryd.prog 105 = true := by kernel_rfl
@[simp] theorem tyL_105 : tyL Tryd.prog 105 = some (1, false) := by kernel_rfl
@[simp] theorem nIfc_106 : nIfc Tryd.prog 106 = true := by kernel_rfl
@[simp] theorem tyL_106 : tyL Tryd.prog 106 = some (1, false) := by kernel_rfl
@[simp] theorem zcells_106 : zcells Tryd.prog 106 = some [.w true true (.sl 0 [])] := by kernel_rfl
@[simp] theorem slE_106 : slE Tryd.prog 106 = some (35, 1) := by kernel_rfl
@[simp] theorem byE_35 : byE Tryd.prog 35 = some 8 := by kernel_rfl
@[simp] theorem isStr_106 : isStr Tryd.prog 106 = false := by kernel_rfl
@[simp] theorem eqTy_106 : eqTy Tryd.prog 106 = none := by kernel_rfl
@[simp] theorem nIfc_107 : nIfc Tryd.prog 107 = true := by kernel_rfl
@[simp] theorem tyL_107 : tyL Tryd.prog 107 = some (1, false) := by kernel_rfl
@[simp] theorem nIfc_108 : nIfc Tryd.prog 108 = true := by kernel_rfl
@[simp] theorem tyL_108 : tyL Tryd.prog 108 = some (1, false) := by kernel_rfl
@[simp] theorem nIfc_109 : nIfc Tryd.prog 109 = true := by kernel_rfl
@[simp] theorem tyL_109 : tyL Tryd.prog 109 = some (1, false) := by kernel_rfl
@[simp] theorem nIfc_110 : nIfc Tryd.prog 110 = true := by kernel_rfl
@[simp] theorem tyL_110 : tyL Tryd.prog 110 = some (1, false) := by kernel_rfl
@[simp] theorem nIfc_111 : nIfc Tryd.prog 111 = true := by kernel_rfl
@[simp] theorem tyL_111 : tyL Tryd.prog 111 = some (1, false) := by kernel_rfl
@[simp] theorem nIfc_113 : nIfc Tryd.prog 113 = true := by kernel_rfl
@[simp] theorem tyL_113 : tyL Tryd.prog 113 = some (1, false) := by kernel_rfl
@[simp] theorem nIfc_114 : nIfc Tryd.prog 114 = true := by kernel_rfl
@[simp] theorem tyL_114 : tyL Tryd.prog 114 = some (1, false) := by kernel_rfl
@[simp] theorem nIfc_115 : nIfc Tryd.prog 115 = true := by kernel_rfl
@[simp] theorem tyL_115 : tyL Tryd.prog 115 = some (1, false) := by kernel_rfl
@[simp] theorem nIfc_116 : nIfc Tryd.prog 116 = true := by kernel_rfl
@[simp] theorem tyL_116 : tyL Tryd.prog 116 = some (1, false) := by kernel_rfl
@[simp] theorem nIfc_117 : nIfc Tryd.prog 117 = true := by kernel_rfl
@[simp] theorem tyL_117 : tyL Tryd.prog 117 = some (1, false) := by kernel_rfl
@[simp] theorem nIfc_118 : nIfc Tryd.prog 118 = true := by kernel_rfl
@[simp] theorem tyL_118 : tyL Tryd.prog 118 = some (1, false) := by kernel_rfl
@[simp] theorem nIfc_119 : nIfc Tryd.prog 119 = true := by kernel_rfl
@[simp] theorem tyL_119 : tyL Tryd.prog 119 = some (1, false) := by kernel_rfl
@[simp] theorem nIfc_120 : nIfc Tryd.prog 120 = true := by kernel_rfl
@[simp] theorem tyL_120 : tyL Tryd.prog 120 = some (1, false) := by kernel_rfl
@[simp] theorem nIfc_121 : nIfc Tryd.prog 121 = true := by kernel_rfl
@[simp] theorem tyL_121 : tyL Tryd.prog 121 = some (2, true) := by kernel_rfl
@[simp] theorem zcells_121 : zcells Tryd.prog 121 = some [.w false false (.int .i64 (0)), .w false false (.int .i64 (0))] := by kernel_rfl
@[simp] theorem slE_121 : slE Tryd.prog 121 = none := by kernel_rfl
@[simp] theorem isStr_121 : isStr Tryd.prog 121 = false := by kernel_rfl
@[simp] theorem fOf_121_0 : fOf Tryd.prog 121 0 = some (0, 1, false) := by kernel_rfl
@[simp] theorem fOf_121_1 : fOf Tryd.prog 121 1 = some (1, 1, false) := by kernel_rfl
@[simp] theorem pls_121 : pls Tryd.prog 121 = some [(0, 1), (1, 1)] := by kernel_rfl
@[simp] theorem eqTy_121 : eqTy Tryd.prog 121 = some [1, 1] := by kernel_rfl
@[simp] theorem nIfc_122 : nIfc Tryd.prog 122 = true := by kernel_rfl
@[simp] theorem tyL_122 : tyL Tryd.prog 122 = some (2, true) := by kernel_rfl
@[simp] theorem zcells_122 : zcells Tryd.prog 122 = some [.w false false (.int .i64 (0)), .w false false (.int .i64 (0))] := by kernel_rfl
@[simp] theorem slE_122 : slE Tryd.prog 122 = none := by kernel_rfl
@[simp] theorem isStr_122 : isStr Tryd.prog 122 = false := by kernel_rfl
@[simp] theorem fOf_122_0 : fOf Tryd.prog 122 0 = some (0, 1, false) := by kernel_rfl
@[simp] theorem fOf_122_1 : fOf Tryd.prog 122 1 = some (1, 1, false) := by kernel_rfl
@[simp] theorem pls_122 : pls Tryd.prog 122 = some [(0, 1), (1, 1)] := by kernel_rfl
@[simp] theorem eqTy_122 : eqTy Tryd.prog 122 = some [1, 1] := by kernel_rfl
@[simp] theorem nIfc_124 : nIfc Tryd.prog 124 = true := by kernel_rfl
@[simp] theorem tyL_124 : tyL Tryd.prog 124 = some (1, false) := by kernel_rfl
@[simp] theorem nIfc_125 : nIfc Tryd.prog 125 = true := by kernel_rfl
@[simp] theorem tyL_125 : tyL Tryd.prog 125 = some (1, false) := by kernel_rfl
@[simp] theorem zcells_125 : zcells Tryd.prog 125 = some [.w false false (.int .u64 (0))] := by kernel_rfl
@[simp] theorem slE_125 : slE Tryd.prog 125 = none := by kernel_rfl
@[simp] theorem isStr_125 : isStr Tryd.prog 125 = false := by kernel_rfl
@[simp] theorem kindOf_125 : kindOf Tryd.prog 125 = some .u64 := by kernel_rfl
@[simp] theorem eqTy_125 : eqTy Tryd.prog 125 = none := by kernel_rfl
@[simp] theorem nIfc_126 : nIfc Tryd.prog 126 = true := by kernel_rfl
@[simp] theorem tyL_126 : tyL Tryd.prog 126 = some (1, false) := by kernel_rfl
@[simp] theorem zcells_126 : zcells Tryd.prog 126 = some [.w true false .nilp] := by kernel_rfl
@[simp] theorem slE_126 : slE Tryd.prog 126 = none := by kernel_rfl
@[simp] theorem isStr_126 : isStr Tryd.prog 126 = false := by kernel_rfl
@[simp] theorem eqTy_126 : eqTy Tryd.prog 126 = none := by kernel_rfl
@[simp] theorem nIfc_127 : nIfc Tryd.prog 127 = true := by kernel_rfl
@[simp] theorem tyL_127 : tyL Tryd.prog 127 = some (1, false) := by kernel_rfl
@[simp] theorem nIfc_128 : nIfc Tryd.prog 128 = true := by kernel_rfl
@[simp] theorem tyL_128 : tyL Tryd.prog 128 = some (1, false) := by kernel_rfl
@[simp] theorem nIfc_129 : nIfc Tryd.prog 129 = true := by kernel_rfl
@[simp] theorem tyL_129 : tyL Tryd.prog 129 = some (2, true) := by kernel_rfl
@[simp] theorem zcells_129 : zcells Tryd.prog 129 = some [.w false false (.int .i64 (0)), .w false false (.int .i64 (0))] := by kernel_rfl
@[simp] theorem slE_129 : slE Tryd.prog 129 = none := by kernel_rfl
@[simp] theorem arE_129 : arE Tryd.prog 129 = some (2, 1) := by kernel_rfl
@[simp] theorem isStr_129 : isStr Tryd.prog 129 = false := by kernel_rfl
@[simp] theorem pls_129 : pls Tryd.prog 129 = some [(0, 1), (1, 1)] := by kernel_rfl
@[simp] theorem eqTy_129 : eqTy Tryd.prog 129 = some [1, 1] := by kernel_rfl
@[simp] theorem nIfc_131 : nIfc Tryd.prog 131 = true := by kernel_rfl
@[simp] theorem tyL_131 : tyL Tryd.prog 131 = some (1, false) := by kernel_rfl
@[simp] theorem nIfc_132 : nIfc Tryd.prog 132 = true := by kernel_rfl
@[simp] theorem tyL_132 : tyL Tryd.prog 132 = some (1, false) := by kernel_rfl
@[simp] theorem nIfc_133 : nIfc Tryd.prog 133 = true := by kernel_rfl
@[simp] theorem tyL_133 : tyL Tryd.prog 133 = some (1, false) := by kernel_rfl
@[simp] theorem nIfc_134 : nIfc Tryd.prog 134 = true := by kernel_rfl
@[simp] theorem tyL_134 : tyL Tryd.prog 134 = some (1, false) := by kernel_rfl
@[simp] theorem nIfc_135 : nIfc Tryd.prog 135 = true := by kernel_rfl
@[simp] theorem tyL_135 : tyL Tryd.prog 135 = some (1, false) := by kernel_rfl
@[simp] theorem nIfc_136 : nIfc Tryd.prog 136 = true := by kernel_rfl
@[simp] theorem tyL_136 : tyL Tryd.prog 136 = some (2, true) := by kernel_rfl
@[simp] theorem zcells_136 : zcells Tryd.prog 136 = some [.w false false (.int .i64 (0)), .w false false (.int .i64 (0))] := by kernel_rfl
@[simp] theorem slE_136 : slE Tryd.prog 136 = none := by kernel_rfl
@[simp] theorem isStr_136 : isStr Tryd.prog 136 = false := by kernel_rfl
@[simp] theorem fOf_136_0 : fOf Tryd.prog 136 0 = some (0, 1, false) := by kernel_rfl
@[simp] theorem fOf_136_1 : fOf Tryd.prog 136 1 = some (1, 1, false) := by kernel_rfl
@[simp] theorem pls_136 : pls Tryd.prog 136 = some [(0, 1), (1, 1)] := by kernel_rfl
@[simp] theorem eqTy_136 : eqTy Tryd.prog 136 = some [1, 1] := by kernel_rfl
@[simp] theorem nIfc_137 : nIfc Tryd.prog 137 = true := by kernel_rfl
@[simp] theorem tyL_137 : tyL Tryd.prog 137 = some (2, true) := by kernel_rfl
@[simp] theorem zcells_137 : zcells Tryd.prog 137 = some [.w false false (.int .i64 (0)), .w false false (.int .i64 (0))] := by kernel_rfl
@[simp] theorem slE_137 : slE Tryd.prog 137 = none := by kernel_rfl
@[simp] theorem isStr_137 : isStr Tryd.prog 137 = false := by kernel_rfl
@[simp] theorem fOf_137_0 : fOf Tryd.prog 137 0 = some (0, 1, false) := by kernel_rfl
@[simp] theorem fOf_137_1 : fOf Tryd.prog 137 1 = some (1, 1, false) := by kernel_rfl
@[simp] theorem pls_137 : pls Tryd.prog 137 = some [(0, 1), (1, 1)] := by kernel_rfl
@[simp] theorem eqTy_137 : eqTy Tryd.prog 137 = some [1, 1] := by kernel_rfl
@[simp] theorem nIfc_138 : nIfc Tryd.prog 138 = true := by kernel_rfl
@[simp] theorem tyL_138 : tyL Tryd.prog 138 = some (1, false) := by kernel_rfl
@[simp] theorem nIfc_141 : nIfc Tryd.prog 141 = true := by kernel_rfl
@[simp] theorem tyL_141 : tyL Tryd.prog 141 = some (1, false) := by kernel_rfl
@[simp] theorem nIfc_142 : nIfc Tryd.prog 142 = true := by kernel_rfl
@[simp] theorem tyL_142 : tyL Tryd.prog 142 = some (1, false) := by kernel_rfl
@[simp] theorem nIfc_144 : nIfc Tryd.prog 144 = true := by kernel_rfl
@[simp] theorem tyL_144 : tyL Tryd.prog 144 = some (1, false) := by kernel_rfl
@[simp] theorem nIfc_145 : nIfc Tryd.prog 145 = true := by kernel_rfl
@[simp] theorem tyL_145 : tyL Tryd.prog 145 = some (1, false) := by kernel_rfl
@[simp] theorem nIfc_146 : nIfc Tryd.prog 146 = true := by kernel_rfl
@[simp] theorem tyL_146 : tyL Tryd.prog 146 = some (1, false) := by kernel_rfl
@[simp] theorem nIfc_147 : nIfc Tryd.prog 147 = true := by kernel_rfl
@[simp] theorem tyL_147 : tyL Tryd.prog 147 = some (1, false) := by kernel_rfl
@[simp] theorem nIfc_148 : nIfc Tryd.prog 148 = true := by kernel_rfl
@[simp] theorem tyL_148 : tyL Tryd.prog 148 = some (1, false) := by kernel_rfl
@[simp] theorem zcells_148 : zcells Tryd.prog 148 = some [.w true true (.sl 0 [])] := by kernel_rfl
@[simp] theorem slE_148 : slE Tryd.prog 148 = some (27, 1) := by kernel_rfl
@[simp] theorem byE_27 : byE Tryd.prog 27 = some 24 := by kernel_rfl
@[simp] theorem isStr_148 : isStr Tryd.prog 148 = false := by kernel_rfl
@[simp] theorem eqTy_148 : eqTy Tryd.prog 148 = none := by kernel_rfl
@[simp] theorem nIfc_149 : nIfc Tryd.prog 149 = true := by kernel_rfl
@[simp] theorem tyL_149 : tyL Tryd.prog 149 = some (1, false) := by kernel_rfl
@[simp] theorem nIfc_150 : nIfc Tryd.prog 150 = true := by kernel_rfl
@[simp] theorem tyL_150 : tyL Tryd.prog 150 = some (1, false) := by kernel_rfl
@[simp] theorem nIfc_151 : nIfc Tryd.prog 151 = true := by kernel_rfl
@[simp] theorem tyL_151 : tyL Tryd.prog 151 = some (1, false) := by kernel_rfl
@[simp] theorem nIfc_153 : nIfc Tryd.prog 153 = true := by kernel_rfl
@[simp] theorem tyL_153 : tyL Tryd.prog 153 = some (1, false) := by kernel_rfl
@[simp] theorem nIfc_154 : nIfc Tryd.prog 154 = true := by kernel_rfl
@[simp] theorem tyL_154 : tyL Tryd.prog 154 = some (1, false) := by kernel_rfl
@[simp] theorem nIfc_155 : nIfc Tryd.prog 155 = true := by kernel_rfl
@[simp] theorem tyL_155 : tyL Tryd.prog 155 = some (256, true) := by kernel_rfl
@[simp] theorem slE_155 : slE Tryd.prog 155 = none := by kernel_rfl
@[simp] theorem arE_155 : arE Tryd.prog 155 = some (256, 1) := by kernel_rfl
@[simp] theorem isStr_155 : isStr Tryd.prog 155 = false := by kernel_rfl
@[simp] theorem eqTy_155 : eqTy Tryd.prog 155 = some [1, 1, 1, 1, 1, 1, 1, 1, 1, 1, 1, 1, 1, 1, 1, 1, 1, 1, 1, 1, 1, 1, 1, 1, 1, 1, 1, 1, 1, 1, 1, 1, 1, 1, 1, 1, 1, 1, 1, 1, 1, 1, 1, 1, 1, 1, 1, 1, 1, 1, 1, 1, 1, 1, 1, 1, 1, 1, 1, 1, 1, 1, 1, 1, 1, 1, 1, 1, 1, 1, 1, 1, 1, 1, 1, 1, 1, 1, 1, 1, 1, 1, 1, 1, 1, 1, 1, 1, 1, 1, 1, 1, 1, 1, 1, 1, 1, 1, 1, 1, 1, 1, 1, 1, 1, 1, 1, 1, 1, 1, 1, 1, 1, 1, 1, 1, 1, 1, 1, 1, 1, 1, 1, 1, 1, 1, 1, 1, 1, 1, 1, 1, 1, 1, 1, 1, 1, 1, 1, 1, 1, 1, 1, 1, 1, 1, 1, 1, 1, 1, 1, 1, 1, 1, 1, 1, 1, 1, 1, 1, 1, 1, 1, 1, 1, 1, 1, 1, 1, 1, 1, 1, 1, 1, 1, 1, 1, 1, 1, 1, 1, 1, 1, 1, 1, 1, 1, 1, 1, 1, 1, 1, 1, 1, 1, 1, 1, 1, 1, 1, 1, 1, 1, 1, 1, 1, 1, 1, 1, 1, 1, 1, 1, 1, 1, 1, 1, 1, 1, 1, 1, 1, 1, 1, 1, 1, 1, 1, 1, 1, 1, 1, 1, 1, 1, 1, 1, 1, 1, 1, 1, 1, 1, 1, 1, 1, 1, 1, 1, 1, 1, 1, 1, 1, 1, 1] := by kernel_rfl
@[simp] theorem nIfc_156 : nIfc Tryd.prog 156 = true := by kernel_rfl
@[simp] theorem tyL_156 : tyL Tryd.prog 156 = some (2, true) := by kernel_rfl
@[simp] theorem zcells_156 : zcells Tryd.prog 156 = some [.w false false (.int .u8 (0)), .w false false (.int .u8 (0))] := by kernel_rfl
@[simp] theorem slE_156 : slE Tryd.prog 156 = none := by kernel_rfl
@[simp] theorem isStr_156 : isStr Tryd.prog 156 = false := by kernel_rfl
@[simp] theorem fOf_156_0 : fOf Tryd.prog 156 0 = some (0, 1, false) := by kernel_rfl
@[simp] theorem fOf_156_1 : fOf Tryd.prog 156 1 = some (1, 1, false) := by kernel_rfl
@[simp] theorem pls_156 : pls Tryd.prog 156 = some [(0, 1), (1, 1)] := by kernel_rfl
@[simp] theorem eqTy_156 : eqTy Tryd.prog 156 = some [1, 1] := by kernel_rfl
@[simp] theorem nIfc_157 : nIfc Tryd.prog 157 = true := by kernel_rfl
@[simp] theorem tyL_157 : tyL Tryd.prog 157 = some (2, true) := by kernel_rfl
@[simp] theorem zcells_157 : zcells Tryd.prog 157 = some [.w false false (.int .u8 (0)), .w false false (.int .u8 (0))] := by kernel_rfl
@[simp] theorem slE_157 : slE Tryd.prog 157 = none := by kernel_rfl
@[simp] theorem isStr_157 : isStr Tryd.prog 157 = false := by kernel_rfl
@[simp] theorem fOf_157_0 : fOf Tryd.prog 157 0 = some (0, 1, false) := by kernel_rfl
@[simp] theorem fOf_157_1 : fOf Tryd.prog 157 1 = some (1, 1, false) := by kernel_rfl
@[simp] theorem pls_157 : pls Tryd.prog 157 = some [(0, 1), (1, 1)] := by kernel_rfl
@[simp] theorem eqTy_157 : eqTy Tryd.prog 157 = some [1, 1] := by kernel_rfl
@[simp] theorem nIfc_158 : nIfc Tryd.prog 158 = true := by kernel_rfl
@[simp] theorem tyL_158 : tyL Tryd.prog 158 = some (32, true) := by kernel_rfl
@[simp] theorem slE_158 : slE Tryd.prog 158 = none := by kernel_rfl
@[simp] theorem arE_158 : arE Tryd.prog 158 = some (16, 2) := by kernel_rfl
@[simp] theorem isStr_158 : isStr Tryd.prog 158 = false := by kernel_rfl
@[simp] theorem eqTy_158 : eqTy Tryd.prog 158 = some [1, 1, 1, 1, 1, 1, 1, 1, 1, 1, 1, 1, 1, 1, 1, 1, 1, 1, 1, 1, 1, 1, 1, 1, 1, 1, 1, 1, 1, 1, 1, 1] := by kernel_rfl
@[simp] theorem nIfc_159 : nIfc Tryd.prog 159 = true := by kernel_rfl
@[simp] theorem tyL_159 : tyL Tryd.prog 159 = some (1, false) := by kernel_rfl
@[simp] theorem zcells_159 : zcells Tryd.prog 159 = some [.w false false (.int .u32 (0))] := by kernel_rfl
@[simp] theorem slE_159 : slE Tryd.prog 159 = none := by kernel_rfl
@[simp] theorem isStr_159 : isStr Tryd.prog 159 = false := by kernel_rfl
@[simp] theorem kindOf_159 : kindOf Tryd.prog 159 = some .u32 := by kernel_rfl
@[simp] theorem eqTy_159 : eqTy Tryd.prog 159 = none := by kernel_rfl
@[simp] theorem nIfc_161 : nIfc Tryd.prog 161 = true := by kernel_rfl
@[simp] theorem tyL_161 : tyL Tryd.prog 161 = some (1, false) := by kernel_rfl
@[simp] theorem byteSl_9_97 : byteSl Tryd.prog 9 97 = true := by kernel_rfl
@[simp] theorem byteSl_10_97 : byteSl Tryd.prog 10 97 = true := by kernel_rfl
@[simp] theorem byteSl_11_97 : byteSl Tryd.prog 11 97 = true := by kernel_rfl
end Go.Proofs.YtiialcomflggcaaDoor

