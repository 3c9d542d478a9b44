/- Contracts of functions for this claim: lemmas alone. -/
import Derived.Test.YtfpamehamllndaaGreatDoorProg
import Derived.Test.YtfpamehamllndaaGreatDoorLd
import Derived.KernelRfl
set_option linter.unusedSimpArgs false
set_option linter.unusedVariables false
namespace Go.Proofs.YtfpamehamllndaaGreatDoor
open Go Go.Fi
set_option maxRecDepth 100000
@[simp] theorem nIfc_1 : nIfc Tryz.prog 1 = true := by kernel_rfl
@[simp] theorem tyL_1 : tyL Tryz.prog 1 = some (1, false) := by kernel_rfl
@[simp] theorem nIfc_2 : nIfc Tryz.prog 2 = true := by kernel_rfl
@[simp] theorem tyL_2 : tyL Tryz.prog 2 = some (1, false) := by kernel_rfl
@[simp] theorem zcells_2 : zcells Tryz.prog 2 = some [.w false false (.int .i64 (0))] := by kernel_rfl
@[simp] theorem slE_2 : slE Tryz.prog 2 = none := by kernel_rfl
@[simp] theorem isStr_2 : isStr Tryz.prog 2 = false := by kernel_rfl
@[simp] theorem kindOf_2 : kindOf Tryz.prog 2 = some .i64 := by kernel_rfl
@[simp] theorem eqTy_2 : eqTy Tryz.prog 2 = none := by kernel_rfl
@[simp] theorem nIfc_3 : nIfc Tryz.prog 3 = true := by kernel_rfl
@[simp] theorem tyL_3 : tyL Tryz.prog 3 = some (1, false) := by kernel_rfl
@[simp] theorem zcells_3 : zcells Tryz.prog 3 = some [.w false false (.int .i64 (0))] := by kernel_rfl
@[simp] theorem slE_3 : slE Tryz.prog 3 = none := by kernel_rfl
@[simp] theorem isStr_3 : isStr Tryz.prog 3 = false := by kernel_rfl
@[simp] theorem kindOf_3 : kindOf Tryz.prog 3 = some .i64 := by kernel_rfl
@[simp] theorem eqTy_3 : eqTy Tryz.prog 3 = none := by kernel_rfl
@[simp] theorem nIfc_4 : nIfc Tryz.prog 4 = true := by kernel_rfl
@[simp] theorem tyL_4 : tyL Tryz.prog 4 = some (1, false) := by kernel_rfl
@[simp] theorem zcells_4 : zcells Tryz.prog 4 = some [.w false false (.bool false)] := by kernel_rfl
@[simp] theorem slE_4 : slE Tryz.prog 4 = none := by kernel_rfl
@[simp] theorem isStr_4 : isStr Tryz.prog 4 = false := by kernel_rfl
@[simp] theorem isBool_4 : isBool Tryz.prog 4 = true := by kernel_rfl
@[simp] theorem eqTy_4 : eqTy Tryz.prog 4 = none := by kernel_rfl
@[simp] theorem nIfc_5 : nIfc Tryz.prog 5 = true := by kernel_rfl
@[simp] theorem tyL_5 : tyL Tryz.prog 5 = some (1, false) := by kernel_rfl
@[simp] theorem zcells_5 : zcells Tryz.prog 5 = some [.w false false (.int .u8 (0))] := by kernel_rfl
@[simp] theorem slE_5 : slE Tryz.prog 5 = none := by kernel_rfl
@[simp] theorem isStr_5 : isStr Tryz.prog 5 = false := by kernel_rfl
@[simp] theorem kindOf_5 : kindOf Tryz.prog 5 = some .u8 := by kernel_rfl
@[simp] theorem eqTy_5 : eqTy Tryz.prog 5 = none := by kernel_rfl
@[simp] theorem nIfc_9 : nIfc Tryz.prog 9 = true := by kernel_rfl
@[simp] theorem tyL_9 : tyL Tryz.prog 9 = some (1, false) := by kernel_rfl
@[simp] theorem zcells_9 : zcells Tryz.prog 9 = some [.w false false (.str ByteArray.empty)] := by kernel_rfl
@[simp] theorem slE_9 : slE Tryz.prog 9 = none := by kernel_rfl
@[simp] theorem isStr_9 : isStr Tryz.prog 9 = true := by kernel_rfl
@[simp] theorem eqTy_9 : eqTy Tryz.prog 9 = none := by kernel_rfl
@[simp] theorem tyL_20 : tyL Tryz.prog 20 = some (1, false) := by kernel_rfl
@[simp] theorem zcells_20 : zcells Tryz.prog 20 = some [.w true false .nili] := by kernel_rfl
@[simp] theorem eqTy_20 : eqTy Tryz.prog 20 = none := by kernel_rfl
@[simp] theorem nIfc_21 : nIfc Tryz.prog 21 = true := by kernel_rfl
@[simp] theorem tyL_21 : tyL Tryz.prog 21 = some (1, false) := by kernel_rfl
@[simp] theorem zcells_21 : zcells Tryz.prog 21 = some [.w false false (.int .i32 (0))] := by kernel_rfl
@[simp] theorem slE_21 : slE Tryz.prog 21 = none := by kernel_rfl
@[simp] theorem isStr_21 : isStr Tryz.prog 21 = false := by kernel_rfl
@[simp] theorem kindOf_21 : kindOf Tryz.prog 21 = some .i32 := by kernel_rfl
@[simp] theorem eqTy_21 : eqTy Tryz.prog 21 = none := by kernel_rfl
@[simp] theorem nIfc_22 : nIfc Tryz.prog 22 = true := by kernel_rfl
@[simp] theorem tyL_22 : tyL Tryz.prog 22 = some (1, false) := by kernel_rfl
@[simp] theorem zcells_22 : zcells Tryz.prog 22 = some [.w true true (.sl 0 [])] := by kernel_rfl
@[simp] theorem slE_22 : slE Tryz.prog 22 = some (9, 1) := by kernel_rfl
@[simp] theorem byE_9 : byE Tryz.prog 9 = some 16 := by kernel_rfl
@[simp] theorem isStr_22 : isStr Tryz.prog 22 = false := by kernel_rfl
@[simp] theorem eqTy_22 : eqTy Tryz.prog 22 = none := by kernel_rfl
@[simp] theorem nIfc_23 : nIfc Tryz.prog 23 = true := by kernel_rfl
@[simp] theorem tyL_23 : tyL Tryz.prog 23 = some (1, false) := by kernel_rfl
@[simp] theorem zcells_23 : zcells Tryz.prog 23 = some [.w true true (.sl 0 [])] := by kernel_rfl
@[simp] theorem slE_23 : slE Tryz.prog 23 = some (55, 5) := by kernel_rfl
@[simp] theorem byE_55 : byE Tryz.prog 55 = some 64 := by kernel_rfl
@[simp] theorem isStr_23 : isStr Tryz.prog 23 = false := by kernel_rfl
@[simp] theorem eqTy_23 : eqTy Tryz.prog 23 = none := by kernel_rfl
@[simp] theorem nIfc_24 : nIfc Tryz.prog 24 = true := by kernel_rfl
@[simp] theorem tyL_24 : tyL Tryz.prog 24 = some (2, true) := by kernel_rfl
@[simp] theorem zcells_24 : zcells Tryz.prog 24 = some [.w true true (.sl 0 []), .w true true (.sl 0 [])] := by kernel_rfl
@[simp] theorem slE_24 : slE Tryz.prog 24 = none := by kernel_rfl
@[simp] theorem isStr_24 : isStr Tryz.prog 24 = false := by kernel_rfl
@[simp] theorem fOf_24_0 : fOf Tryz.prog 24 0 = some (0, 1, false) := by kernel_rfl
@[simp] theorem fOf_24_1 : fOf Tryz.prog 24 1 = some (1, 1, false) := by kernel_rfl
@[simp] theorem pls_24 : pls Tryz.prog 24 = some [(0, 1), (1, 1)] := by kernel_rfl
@[simp] theorem nIfc_25 : nIfc Tryz.prog 25 = true := by kernel_rfl
@[simp] theorem tyL_25 : tyL Tryz.prog 25 = some (2, true) := by kernel_rfl
@[simp] theorem zcells_25 : zcells Tryz.prog 25 = some [.w true true (.sl 0 []), .w true true (.sl 0 [])] := by kernel_rfl
@[simp] theorem slE_25 : slE Tryz.prog 25 = none := by kernel_rfl
@[simp] theorem isStr_25 : isStr Tryz.prog 25 = false := by kernel_rfl
@[simp] theorem fOf_25_0 : fOf Tryz.prog 25 0 = some (0, 1, false) := by kernel_rfl
@[simp] theorem fOf_25_1 : fOf Tryz.prog 25 1 = some (1, 1, false) := by kernel_rfl
@[simp] theorem pls_25 : pls Tryz.prog 25 = some [(0, 1), (1, 1)] := by kernel_rfl
@[simp] theorem nIfc_26 : nIfc Tryz.prog 26 = true := by kernel_rfl
@[simp] theorem tyL_26 : tyL Tryz.prog 26 = some (1, false) := by kernel_rfl
@[simp] theorem nIfc_27 : nIfc Tryz.prog 27 = true := by kernel_rfl
@[simp] theorem tyL_27 : tyL Tryz.prog 27 = some (1, false) := by kernel_rfl
@[simp] theorem nIfc_28 : nIfc Tryz.prog 28 = true := by kernel_rfl
@[simp] theorem tyL_28 : tyL Tryz.prog 28 = some (1, false) := by kernel_rfl
@[simp] theorem zcells_28 : zcells Tryz.prog 28 = some [.w false false (.int .i64 (0))] := by kernel_rfl
@[simp] theorem slE_28 : slE Tryz.prog 28 = none := by kernel_rfl
@[simp] theorem isStr_28 : isStr Tryz.prog 28 = false := by kernel_rfl
@[simp] theorem kindOf_28 : kindOf Tryz.prog 28 = some .i64 := by kernel_rfl
@[simp] theorem eqTy_28 : eqTy Tryz.prog 28 = none := by kernel_rfl
@[simp] theorem nIfc_30 : nIfc Tryz.prog 30 = true := by kernel_rfl
@[simp] theorem tyL_30 : tyL Tryz.prog 30 = some (1, false) := by kernel_rfl
@[simp] theorem nIfc_31 : nIfc Tryz.prog 31 = true := by kernel_rfl
@[simp] theorem tyL_31 : tyL Tryz.prog 31 = some (1, false) := by kernel_rfl
@[simp] theorem nIfc_33 : nIfc Tryz.prog 33 = true := by kernel_rfl
@[simp] theorem tyL_33 : tyL Tryz.prog 33 = some (1, false) := by kernel_rfl
@[simp] theorem nIfc_35 : nIfc Tryz.prog 35 = true := by kernel_rfl
@[simp] theorem tyL_35 : tyL Tryz.prog 35 = some (1, false) := by kernel_rfl
@[simp] theorem nIfc_36 : nIfc Tryz.prog 36 = true := by kernel_rfl
@[simp] theorem tyL_36 : tyL Tryz.prog 36 = some (1, false) := by kernel_rfl
@[simp] theorem nIfc_37 : nIfc Tryz.prog 37 = true := by kernel_rfl
@[simp] theorem tyL_37 : tyL Tryz.prog 37 = some (1, false) := by kernel_rfl
@[simp] theorem nIfc_38 : nIfc Tryz.prog 38 = true := by kernel_rfl
@[simp] theorem tyL_38 : tyL Tryz.prog 38 = some (1, false) := by kernel_rfl
@[simp] theorem nIfc_39 : nIfc Tryz.prog 39 = true := by kernel_rfl
@[simp] theorem tyL_39 : tyL Tryz.prog 39 = some (1, false) := by kernel_rfl
@[simp] theorem nIfc_40 : nIfc Tryz.prog 40 = true := by kernel_rfl
@[simp] theorem tyL_40 : tyL Tryz.prog 40 = some (2, true) := by kernel_rfl
@[simp] theorem zcells_40 : zcells Tryz.prog 40 = some [.w false false (.int .i64 (0)), .w false false (.int .i64 (0))] := by kernel_rfl
@[simp] theorem slE_40 : slE Tryz.prog 40 = none := by kernel_rfl
@[simp] theorem isStr_40 : isStr Tryz.prog 40 = false := by kernel_rfl
@[simp] theorem fOf_40_0 : fOf Tryz.prog 40 0 = some (0, 1, false) := by kernel_rfl
@[simp] theorem fOf_40_1 : fOf Tryz.prog 40 1 = some (1, 1, false) := by kernel_rfl
@[simp] theorem pls_40 : pls Tryz.prog 40 = some [(0, 1), (1, 1)] := by kernel_rfl
@[simp] theorem eqTy_40 : eqTy Tryz.prog 40 = some [1, 1] := by kernel_rfl
@[simp] theorem nIfc_41 : nIfc Tryz.prog 41 = true := by kernel_rfl
@[simp] theorem tyL_41 : tyL Tryz.prog 41 = some (2, true) := by kernel_rfl
@[simp] theorem zcells_41 : zcells Tryz.prog 41 = some [.w false false (.int .i64 (0)), .w false false (.int .i64 (0))] := by kernel_rfl
@[simp] theorem slE_41 : slE Tryz.prog 41 = none := by kernel_rfl
@[simp] theorem isStr_41 : isStr Tryz.prog 41 = false := by kernel_rfl
@[simp] theorem fOf_41_0 : fOf Tryz.prog 41 0 = some (0, 1, false) := by kernel_rfl
@[simp] theorem fOf_41_1 : fOf Tryz.prog 41 1 = some (1, 1, false) := by kernel_rfl
@[simp] theorem pls_41 : pls Tryz.prog 41 = some [(0, 1), (1, 1)] := by kernel_rfl
@[simp] theorem eqTy_41 : eqTy Tryz.prog 41 = some [1, 1] := by kernel_rfl
@[simp] theorem nIfc_43 : nIfc Tryz.prog 43 = true := by kernel_rfl
@[simp] theorem tyL_43 : tyL Tryz.prog 43 = some (1, false) := by kernel_rfl
@[simp] theorem nIfc_44 : nIfc Tryz.prog 44 = true := by kernel_rfl
@[simp] theorem tyL_44 : tyL Tryz.prog 44 = some (1, false) := by kernel_rfl
@[simp] theorem nIfc_45 : nIfc Tryz.prog 45 = true := by kernel_rfl
@[simp] theorem tyL_45 : tyL Tryz.prog 45 = some (1, false) := by kernel_rfl
@[simp] theorem nIfc_46 : nIfc Tryz.prog 46 = true := by kernel_rfl
@[simp] theorem tyL_46 : tyL Tryz.prog 46 = some (3, true) := by kernel_rfl
@[simp] theorem zcells_46 : zcells Tryz.prog 46 = some [.w false false (.int .i64 (0)), .w false false (.int .i64 (0)), .w false false (.int .i64 (0))] := by kernel_rfl
@[simp] theorem slE_46 : slE Tryz.prog 46 = none := by kernel_rfl
@[simp] theorem isStr_46 : isStr Tryz.prog 46 = false := by kernel_rfl
@[simp] theorem fOf_46_0 : fOf Tryz.prog 46 0 = some (0, 1, false) := by kernel_rfl
@[simp] theorem fOf_46_1 : fOf Tryz.prog 46 1 = some (1, 1, false) := by kernel_rfl
@[simp] theorem fOf_46_2 : fOf Tryz.prog 46 2 = some (2, 1, false) := by kernel_rfl
@[simp] theorem pls_46 : pls Tryz.prog 46 = some [(0, 1), (1, 1), (2, 1)] := by kernel_rfl
@[simp] theorem eqTy_46 : eqTy Tryz.prog 46 = some [1, 1, 1] := by kernel_rfl
@[simp] theorem nIfc_47 : nIfc Tryz.prog 47 = true := by kernel_rfl
@[simp] theorem tyL_47 : tyL Tryz.prog 47 = some (3, true) := by kernel_rfl
@[simp] theorem zcells_47 : zcells Tryz.prog 47 = some [.w false false (.int .i64 (0)), .w false false (.int .i64 (0)), .w false false (.int .i64 (0))] := by kernel_rfl
@[simp] theorem slE_47 : slE Tryz.prog 47 = none := by kernel_rfl
@[simp] theorem isStr_47 : isStr Tryz.prog 47 = false := by kernel_rfl
@[simp] theorem fOf_47_0 : fOf Tryz.prog 47 0 = some (0, 1, false) := by kernel_rfl
@[simp] theorem fOf_47_1 : fOf Tryz.prog 47 1 = some (1, 1, false) := by kernel_rfl
@[simp] theorem fOf_47_2 : fOf Tryz.prog 47 2 = some (2, 1, false) := by kernel_rfl
@[simp] theorem pls_47 : pls Tryz.prog 47 = some [(0, 1), (1, 1), (2, 1)] := by kernel_rfl
@[simp] theorem eqTy_47 : eqTy Tryz.prog 47 = some [1, 1, 1] := by kernel_rfl
@[simp] theorem nIfc_48 : nIfc Tryz.prog 48 = true := by kernel_rfl
@[simp] theorem tyL_48 : tyL Tryz.prog 48 = some (1, false) := by kernel_rfl
@[simp] theorem zcells_48 : zcells Tryz.prog 48 = some [.w true true (.sl 0 [])] := by kernel_rfl
@[simp] theorem slE_48 : slE Tryz.prog 48 = some (3, 1) := by kernel_rfl
@[simp] theorem byE_3 : byE Tryz.prog 3 = some 8 := by kernel_rfl
@[simp] theorem isStr_48 : isStr Tryz.prog 48 = false := by kernel_rfl
@[simp] theorem eqTy_48 : eqTy Tryz.prog 48 = none := by kernel_rfl
@[simp] theorem nIfc_50 : nIfc Tryz.prog 50 = true := by kernel_rfl
@[simp] theorem tyL_50 : tyL Tryz.prog 50 = some (1, false) := by kernel_rfl
@[simp] theorem nIfc_52 : nIfc Tryz.prog 52 = true := by kernel_rfl
@[simp] theorem tyL_52 : tyL Tryz.prog 52 = some (1, false) := by kernel_rfl
@[simp] theorem nIfc_53 : nIfc Tryz.prog 53 = true := by kernel_rfl
@[simp] theorem tyL_53 : tyL Tryz.prog 53 = some (1, false) := by kernel_rfl
@[simp] theorem zcells_53 : zcells Tryz.prog 53 = some [.w true true (.sl 0 [])] := by kernel_rfl
@[simp] theorem slE_53 : slE Tryz.prog 53 = some (70, 3) := by kernel_rfl
@[simp] theorem byE_70 : byE Tryz.prog 70 = some 24 := by kernel_rfl
@[simp] theorem isStr_53 : isStr Tryz.prog 53 = false := by kernel_rfl
@[simp] theorem eqTy_53 : eqTy Tryz.prog 53 = none := by kernel_rfl
@[simp] theorem nIfc_54 : nIfc Tryz.prog 54 = true := by kernel_rfl
@[simp] theorem tyL_54 : tyL Tryz.prog 54 = some (5, true) := by kernel_rfl
@[simp] theorem zcells_54 : zcells Tryz.prog 54 = some [.w false false (.str ByteArray.empty), .w false false (.int .i64 (0)), .w false false (.int .i64 (0)), .w false false (.int .i64 (0)), .w true true (.sl 0 [])] := by kernel_rfl
@[simp] theorem slE_54 : slE Tryz.prog 54 = none := by kernel_rfl
@[simp] theorem isStr_54 : isStr Tryz.prog 54 = false := by kernel_rfl
@[simp] theorem fOf_54_0 : fOf Tryz.prog 54 0 = some (0, 1, false) := by kernel_rfl
@[simp] theorem fOf_54_1 : fOf Tryz.prog 54 1 = some (1, 1, false) := by kernel_rfl
@[simp] theorem fOf_54_2 : fOf Tryz.prog 54 2 = some (2, 1, false) := by kernel_rfl
@[simp] theorem fOf_54_3 : fOf Tryz.prog 54 3 = some (3, 1, false) := by kernel_rfl
@[simp] theorem fOf_54_4 : fOf Tryz.prog 54 4 = some (4, 1, false) := by kernel_rfl
@[simp] theorem pls_54 : pls Tryz.prog 54 = some [(0, 1), (1, 1), (2, 1), (3, 1), (4, 1)] := by kernel_rfl
@[simp] theorem nIfc_55 : nIfc Tryz.prog 55 = true := by kernel_rfl
@[simp] theorem tyL_55 : tyL Tryz.prog 55 = some (5, true) := by kernel_rfl
@[simp] theorem zcells_55 : zcells Tryz.prog 55 = some [.w false false (.str ByteArray.empty), .w false false (.int .i64 (0)), .w false false (.int .i64 (0)), .w false false (.int .i64 (0)), .w true true (.sl 0 [])] := by kernel_rfl
@[simp] theorem slE_55 : slE Tryz.prog 55 = none := by kernel_rfl
@[simp] theorem isStr_55 : isStr Tryz.prog 55 = false := by kernel_rfl
@[simp] theorem fOf_55_0 : fOf Tryz.prog 55 0 = some (0, 1, false) := by kernel_rfl
@[simp] theorem fOf_55_1 : fOf Tryz.prog 55 1 = some (1, 1, false) := by kernel_rfl
@[simp] theorem fOf_55_2 : fOf Tryz.prog 55 2 = some (2, 1, false) := by kernel_rfl
@[simp] theorem fOf_55_3 : fOf Tryz.prog 55 3 = some (3, 1, false) := by kernel_rfl
@[simp] theorem fOf_55_4 : fOf Tryz.prog 55 4 = some (4, 1, false) := by kernel_rfl
@[simp] theorem pls_55 : pls Tryz.prog 55 = some [(0, 1), (1, 1), (2, 1), (3, 1), (4, 1)] := by kernel_rfl
@[simp] theorem nIfc_56 : nIfc Tryz.prog 56 = true := by kernel_rfl
@[simp] theorem tyL_56 : tyL Tryz.prog 56 = some (2, true) := by kernel_rfl
@[simp] theorem zcells_56 : zcells Tryz.prog 56 = some [.w true true (.sl 0 []), .w true true (.sl 0 [])] := by kernel_rfl
@[simp] theorem slE_56 : slE Tryz.prog 56 = none := by kernel_rfl
@[simp] theorem isStr_56 : isStr Tryz.prog 56 = false := by kernel_rfl
@[simp] theorem fOf_56_0 : fOf Tryz.prog 56 0 = some (0, 2, true) := by kernel_rfl
@[simp] theorem pls_56 : pls Tryz.prog 56 = some [(0, 2)] := by kernel_rfl
@[simp] theorem nIfc_57 : nIfc Tryz.prog 57 = true := by kernel_rfl
@[simp] theorem tyL_57 : tyL Tryz.prog 57 = some (2, true) := by kernel_rfl
@[simp] theorem zcells_57 : zcells Tryz.prog 57 = some [.w true true (.sl 0 []), .w true true (.sl 0 [])] := by kernel_rfl
@[simp] theorem slE_57 : slE Tryz.prog 57 = none := by kernel_rfl
@[simp] theorem isStr_57 : isStr Tryz.prog 57 = false := by kernel_rfl
@[simp] theorem fOf_57_0 : fOf Tryz.prog 57 0 = some (0, 2, true) := by kernel_rfl
@[simp] theorem pls_57 : pls Tryz.prog 57 = some [(0, 2)] := by kernel_rfl
@[simp] theorem nIfc_59 : nIfc Tryz.prog 59 = true := by kernel_rfl
@[simp] theorem tyL_59 : tyL Tryz.prog 59 = some (1, false) := by kernel_rfl
@[simp] theorem nIfc_60 : nIfc Tryz.prog 60 = true := by kernel_rfl
@[simp] theorem tyL_60 : tyL Tryz.prog 60 = some (1, false) := by kernel_rfl
@[simp] theorem zcells_60 : zcells Tryz.prog 60 = some [.w true false .nilp] := by kernel_rfl
@[simp] theorem slE_60 : slE Tryz.prog 60 = none := by kernel_rfl
@[simp] theorem isStr_60 : isStr Tryz.prog 60 = false := by kernel_rfl
@[simp] theorem eqTy_60 : eqTy Tryz.prog 60 = none := by kernel_rfl
@[simp] theorem nIfc_61 : nIfc Tryz.prog 61 = true := by kernel_rfl
@[simp] theorem tyL_61 : tyL Tryz.prog 61 = some (1, false) := by kernel_rfl
@[simp] theorem zcells_61 : zcells Tryz.prog 61 = some [.w true true (.sl 0 [])] := by kernel_rfl
@[simp] theorem slE_61 : slE Tryz.prog 61 = some (5, 1) := by kernel_rfl
@[simp] theorem byE_5 : byE Tryz.prog 5 = some 1 := by kernel_rfl
@[simp] theorem isStr_61 : isStr Tryz.prog 61 = false := by kernel_rfl
@[simp] theorem eqTy_61 : eqTy Tryz.prog 61 = none := by kernel_rfl
@[simp] theorem nIfc_62 : nIfc Tryz.prog 62 = true := by kernel_rfl
@[simp] theorem tyL_62 : tyL Tryz.prog 62 = some (2, true) := by kernel_rfl
@[simp] theorem zcells_62 : zcells Tryz.prog 62 = some [.w true false .nilp, .w true true (.sl 0 [])] := by kernel_rfl
@[simp] theorem slE_62 : slE Tryz.prog 62 = none := by kernel_rfl
@[simp] theorem isStr_62 : isStr Tryz.prog 62 = false := by kernel_rfl
@[simp] theorem fOf_62_0 : fOf Tryz.prog 62 0 = some (0, 1, false) := by kernel_rfl
@[simp] theorem fOf_62_1 : fOf Tryz.prog 62 1 = some (1, 1, false) := by kernel_rfl
@[simp] theorem pls_62 : pls Tryz.prog 62 = some [(0, 1), (1, 1)] := by kernel_rfl
@[simp] theorem nIfc_63 : nIfc Tryz.prog 63 = true := by kernel_rfl
@[simp] theorem tyL_63 : tyL Tryz.prog 63 = some (2, true) := by kernel_rfl
@[simp] theorem zcells_63 : zcells Tryz.prog 63 = some [.w true false .nilp, .w true true (.sl 0 [])] := by kernel_rfl
@[simp] theorem slE_63 : slE Tryz.prog 63 = none := by kernel_rfl
@[simp] theorem isStr_63 : isStr Tryz.prog 63 = false := by kernel_rfl
@[simp] theorem fOf_63_0 : fOf Tryz.prog 63 0 = some (0, 1, false) := by kernel_rfl
@[simp] theorem fOf_63_1 : fOf Tryz.prog 63 1 = some (1, 1, false) := by kernel_rfl
@[simp] theorem pls_63 : pls Tryz.prog 63 = some [(0, 1), (1, 1)] := by kernel_rfl
@[simp] theorem tyL_64 : tyL Tryz.prog 64 = some (1, false) := by kernel_rfl
@[simp] theorem zcells_64 : zcells Tryz.prog 64 = some [.w true false .nili] := by kernel_rfl
@[simp] theorem eqTy_64 : eqTy Tryz.prog 64 = none := by kernel_rfl
@[simp] theorem tyL_65 : tyL Tryz.prog 65 = some (1, false) := by kernel_rfl
@[simp] theorem zcells_65 : zcells Tryz.prog 65 = some [.w true false .nili] := by kernel_rfl
@[simp] theorem eqTy_65 : eqTy Tryz.prog 65 = none := by kernel_rfl
@[simp] theorem nIfc_67 : nIfc Tryz.prog 67 = true := by kernel_rfl
@[simp] theorem tyL_67 : tyL Tryz.prog 67 = some (1, false) := by kernel_rfl
@[simp] theorem nIfc_68 : nIfc Tryz.prog 68 = true := by kernel_rfl
@[simp] theorem tyL_68 : tyL Tryz.prog 68 = some (1, false) := by kernel_rfl
@[simp] theorem nIfc_69 : nIfc Tryz.prog 69 = true := by kernel_rfl
@[simp] theorem tyL_69 : tyL Tryz.prog 69 = some (3, true) := by kernel_rfl
@[simp] theorem zcells_69 : zcells Tryz.prog 69 = some [.w false false (.int .i64 (0)), .w false false (.int .i64 (0)), .w false false (.int .i64 (0))] := by kernel_rfl
@[simp] theorem slE_69 : slE Tryz.prog 69 = none := by kernel_rfl
@[simp] theorem isStr_69 : isStr Tryz.prog 69 = false := by kernel_rfl
@[simp] theorem fOf_69_0 : fOf Tryz.prog 69 0 = some (0, 1, false) := by kernel_rfl
@[simp] theorem fOf_69_1 : fOf Tryz.prog 69 1 = some (1, 2, true) := by kernel_rfl
@[simp] theorem pls_69 : pls Tryz.prog 69 = some [(0, 1), (1, 2)] := by kernel_rfl
@[simp] theorem eqTy_69 : eqTy Tryz.prog 69 = some [1, 1, 1] := by kernel_rfl
@[simp] theorem nIfc_70 : nIfc Tryz.prog 70 = true := by kernel_rfl
@[simp] theorem tyL_70 : tyL Tryz.prog 70 = some (3, true) := by kernel_rfl
@[simp] theorem zcells_70 : zcells Tryz.prog 70 = some [.w false false (.int .i64 (0)), .w false false (.int .i64 (0)), .w false false (.int .i64 (0))] := by kernel_rfl
@[simp] theorem slE_70 : slE Tryz.prog 70 = none := by kernel_rfl
@[simp] theorem isStr_70 : isStr Tryz.prog 70 = false := by kernel_rfl
@[simp] theorem fOf_70_0 : fOf Tryz.prog 70 0 = some (0, 1, false) := by kernel_rfl
@[simp] theorem fOf_70_1 : fOf Tryz.prog 70 1 = some (1, 2, true) := by kernel_rfl
@[simp] theorem pls_70 : pls Tryz.prog 70 = some [(0, 1), (1, 2)] := by kernel_rfl
@[simp] theorem eqTy_70 : eqTy Tryz.prog 70 = some [1, 1, 1] := by kernel_rfl
@[simp] theorem nIfc_71 : nIfc Tryz.prog 71 = true := by kernel_rfl
@[simp] theorem tyL_71 : tyL Tryz.prog 71 = some (1, false) := by kernel_rfl
@[simp] theorem nIfc_72 : nIfc Tryz.prog 72 = true := by kernel_rfl
@[simp] theorem tyL_72 : tyL Tryz.prog 72 = some (1, false) := by kernel_rfl
@[simp] theorem nIfc_73 : nIfc Tryz.prog 73 = true := by kernel_rfl
@[simp] theorem tyL_73 : tyL Tryz.prog 73 = some (1, false) := by kernel_rfl
@[simp] theorem zcells_73 : zcells Tryz.prog 73 = some [.w true true (.sl 0 [])] := by kernel_rfl
@[simp] theorem slE_73 : slE Tryz.prog 73 = some (84, 3) := by kernel_rfl
@[simp] theorem byE_84 : byE Tryz.prog 84 = some 40 := by kernel_rfl
@[simp] theorem isStr_73 : isStr Tryz.prog 73 = false := by kernel_rfl
@[simp] theorem eqTy_73 : eqTy Tryz.prog 73 = none := by kernel_rfl
@[simp] theorem nIfc_74 : nIfc Tryz.prog 74 = true := by kernel_rfl
@[simp] theorem tyL_74 : tyL Tryz.prog 74 = some (3, true) := by kernel_rfl
@[simp] theorem zcells_74 : zcells Tryz.prog 74 = some [.w true true (.sl 0 []), .w true true (.sl 0 []), .w true true (.sl 0 [])] := by kernel_rfl
@[simp] theorem slE_74 : slE Tryz.prog 74 = none := by kernel_rfl
@[simp] theorem isStr_74 : isStr Tryz.prog 74 = false := by kernel_rfl
@[simp] theorem fOf_74_0 : fOf Tryz.prog 74 0 = some (0, 2, true) := by kernel_rfl
@[simp] theorem fOf_74_1 : fOf Tryz.prog 74 1 = some (2, 1, false) := by kernel_rfl
@[simp] theorem pls_74 : pls Tryz.prog 74 = some [(0, 2), (2, 1)] := by kernel_rfl
@[simp] theorem nIfc_75 : nIfc Tryz.prog 75 = true := by kernel_rfl
@[simp] theorem tyL_75 : tyL Tryz.prog 75 = some (3, true) := by kernel_rfl
@[simp] theorem zcells_75 : zcells Tryz.prog 75 = some [.w true true (.sl 0 []), .w true true (.sl 0 []), .w true true (.sl 0 [])] := by kernel_rfl
@[simp] theorem slE_75 : slE Tryz.prog 75 = none := by kernel_rfl
@[simp] theorem isStr_75 : isStr Tryz.prog 75 = false := by kernel_rfl
@[simp] theorem fOf_75_0 : fOf Tryz.prog 75 0 = some (0, 2, true) := by kernel_rfl
@[simp] theorem fOf_75_1 : fOf Tryz.prog 75 1 = some (2, 1, false) := by kernel_rfl
@[simp] theorem pls_75 : pls Tryz.prog 75 = some [(0, 2), (2, 1)] := by kernel_rfl
@[simp] theorem nIfc_76 : nIfc Tryz.prog 76 = true := by kernel_rfl
@[simp] theorem tyL_76 : tyL Tryz.prog 76 = some (1, false) := by kernel_rfl
@[simp] theorem nIfc_77 : nIfc Tryz.prog 77 = true := by kernel_rfl
@[simp] theorem tyL_77 : tyL Tryz.prog 77 = some (1, false) := by kernel_rfl
@[simp] theorem nIfc_78 : nIfc Tryz.prog 78 = true := by kernel_rfl
@[simp] theorem tyL_78 : tyL Tryz.prog 78 = some (1, false) := by kernel_rfl
@[simp] theorem nIfc_80 : nIfc Tryz.prog 80 = true := by kernel_rfl
@[simp] theorem tyL_80 : tyL Tryz.prog 80 = some (1, false) := by kernel_rfl
@[simp] theorem nIfc_81 : nIfc Tryz.prog 81 = true := by kernel_rfl
@[simp] theorem tyL_81 : tyL Tryz.prog 81 = some (1, false) := by kernel_rfl
@[simp] theorem nIfc_82 : nIfc Tryz.prog 82 = true := by kernel_rfl
@[simp] theorem tyL_82 : tyL Tryz.prog 82 = some (1, false) := by kernel_rfl
@[simp] theorem nIfc_83 : nIfc Tryz.prog 83 = true := by kernel_rfl
@[simp] theorem tyL_83 : tyL Tryz.prog 83 = some (3, true) := by kernel_rfl
@[simp] theorem zcells_83 : zcells Tryz.prog 83 = some [.w false false (.int .i64 (0)), .w false false (.str ByteArray.empty), .w false false (.str ByteArray.empty)] := by kernel_rfl
@[simp] theorem slE_83 : slE Tryz.prog 83 = none := by kernel_rfl
@[simp] theorem isStr_83 : isStr Tryz.prog 83 = false := by kernel_rfl
@[simp] theorem fOf_83_0 : fOf Tryz.prog 83 0 = some (0, 1, false) := by kernel_rfl
@[simp] theorem fOf_83_1 : fOf Tryz.prog 83 1 = some (1, 1, false) := by kernel_rfl
@[simp] theorem fOf_83_2 : fOf Tryz.prog 83 2 = some (2, 1, false) := by kernel_rfl
@[simp] theorem pls_83 : pls Tryz.prog 83 = some [(0, 1), (1, 1), (2, 1)] := by kernel_rfl
@[simp] theorem eqTy_83 : eqTy Tryz.prog 83 = some [1, 2, 2] := by kernel_rfl
@[simp] theorem nIfc_84 : nIfc Tryz.prog 84 = true := by kernel_rfl
@[simp] theorem tyL_84 : tyL Tryz.prog 84 = some (3, true) := by kernel_rfl
@[simp] theorem zcells_84 : zcells Tryz.prog 84 = some [.w false false (.int .i64 (0)), .w false false (.str ByteArray.empty), .w false false (.str ByteArray.empty)] := by kernel_rfl
@[simp] theorem slE_84 : slE Tryz.prog 84 = none := by kernel_rfl
@[simp] theorem isStr_84 : isStr Tryz.prog 84 = false := by kernel_rfl
@[simp] theorem fOf_84_0 : fOf Tryz.prog 84 0 = some (0, 1, false) := by kernel_rfl
@[simp] theorem fOf_84_1 : fOf Tryz.prog 84 1 = some (1, 1, false) := by kernel_rfl
@[simp] theorem fOf_84_2 : fOf Tryz.prog 84 2 = some (2, 1, false) := by kernel_rfl
@[simp] theorem pls_84 : pls Tryz.prog 84 = some [(0, 1), (1, 1), (2, 1)] := by kernel_rfl
@[simp] theorem eqTy_84 : eqTy Tryz.prog 84 = some [1, 2, 2] := by kernel_rfl
@[simp] theorem nIfc_85 : nIfc Tryz.prog 85 = true := by kernel_rfl
@[simp] theorem tyL_85 : tyL Tryz.prog 85 = some (1, false) := by kernel_rfl
@[simp] theorem nIfc_86 : nIfc Tryz.prog 86 = true := by kernel_rfl
@[simp] theorem tyL_86 : tyL Tryz.prog 86 = some (1, false) := by kernel_rfl
@[simp] theorem zcells_86 : zcells Tryz.prog 86 = some [.w true true (.sl 0 [])] := by kernel_rfl
@[simp] theorem slE_86 : slE Tryz.prog 86 = some (92, 2) := by kernel_rfl
@[simp] theorem byE_92 : byE Tryz.prog 92 = some 32 := by kernel_rfl
@[simp] theorem isStr_86 : isStr Tryz.prog 86 = false := by kernel_rfl
@[simp] theorem eqTy_86 : eqTy Tryz.prog 86 = none := by kernel_rfl
@[simp] theorem nIfc_87 : nIfc Tryz.prog 87 = true := by kernel_rfl
@[simp] theorem tyL_87 : tyL Tryz.prog 87 = some (1, false) := by kernel_rfl
@[simp] theorem nIfc_88 : nIfc Tryz.prog 88 = true := by kernel_rfl
@[simp] theorem tyL_88 : tyL Tryz.prog 88 = some (1, false) := by kernel_rfl
@[simp] theorem nIfc_89 : nIfc Tryz.prog 89 = true := by kernel_rfl
@[simp] theorem tyL_89 : tyL Tryz.prog 89 = some (1, false) := by kernel_rfl
@[simp] theorem zcells_89 : zcells Tryz.prog 89 = some [.w true false .nilp] := by kernel_rfl
@[simp] theorem slE_89 : slE Tryz.prog 89 = none := by kernel_rfl
@[simp] theorem isStr_89 : isStr Tryz.prog 89 = false := by kernel_rfl
@[simp] theorem eqTy_89 : eqTy Tryz.prog 89 = none := by kernel_rfl
@[simp] theorem nIfc_90 : nIfc Tryz.prog 90 = true := by kernel_rfl
@[simp] theorem tyL_90 : tyL Tryz.prog 90 = some (1, false) := by kernel_rfl
@[simp] theorem zcells_90 : zcells Tryz.prog 90 = some [.w true false .nilp] := by kernel_rfl
@[simp] theorem slE_90 : slE Tryz.prog 90 = none := by kernel_rfl
@[simp] theorem isStr_90 : isStr Tryz.prog 90 = false := by kernel_rfl
@[simp] theorem eqTy_90 : eqTy Tryz.prog 90 = none := by kernel_rfl
@[simp] theorem nIfc_91 : nIfc Tryz.prog 91 = true := by kernel_rfl
@[simp] theorem tyL_91 : tyL Tryz.prog 91 = some (1, false) := by kernel_rfl
@[simp] theorem nIfc_92 : nIfc Tryz.prog 92 = true := by kernel_rfl
@[simp] theorem tyL_92 : tyL Tryz.prog 92 = some (2, true) := by kernel_rfl
@[simp] theorem zcells_92 : zcells Tryz.prog 92 = some [.w false false (.str ByteArray.empty), .w false false (.str ByteArray.empty)] := by kernel_rfl
@[simp] theorem slE_92 : slE Tryz.prog 92 = none := by kernel_rfl
@[simp] theorem arE_92 : arE Tryz.prog 92 = some (2, 1) := by kernel_rfl
@[simp] theorem isStr_92 : isStr Tryz.prog 92 = false := by kernel_rfl
@[simp] theorem pls_92 : pls Tryz.prog 92 = some [(0, 1), (1, 1)] := by kernel_rfl
@[simp] theorem eqTy_92 : eqTy Tryz.prog 92 = some [2, 2] := by kernel_rfl
@[simp] theorem nIfc_93 : nIfc Tryz.prog 93 = true := by kernel_rfl
@[simp] theorem tyL_93 : tyL Tryz.prog 93 = some (1, false) := by kernel_rfl
@[simp] theorem nIfc_94 : nIfc Tryz.prog 94 = true := by kernel_rfl
@[simp] theorem tyL_94 : tyL Tryz.prog 94 = some (2, true) := by kernel_rfl
@[simp] theorem zcells_94 : zcells Tryz.prog 94 = some [.w false false (.int .i64 (0)), .w false false (.int .i64 (0))] := by kernel_rfl
@[simp] theorem slE_94 : slE Tryz.prog 94 = none := by kernel_rfl
@[simp] theorem isStr_94 : isStr Tryz.prog 94 = false := by kernel_rfl
@[simp] theorem fOf_94_0 : fOf Tryz.prog 94 0 = some (0, 1, false) := by kernel_rfl
@[simp] theorem fOf_94_1 : fOf Tryz.prog 94 1 = some (1, 1, false) := by kernel_rfl
@[simp] theorem pls_94 : pls Tryz.prog 94 = some [(0, 1), (1, 1)] := by kernel_rfl
@[simp] theorem eqTy_94 : eqTy Tryz.prog 94 = some [1, 1] := by kernel_rfl
@[simp] theorem nIfc_95 : nIfc Tryz.prog 95 = true := by kernel_rfl
@[simp] theorem tyL_95 : tyL Tryz.prog 95 = some (2, true) := by kernel_rfl
@[simp] theorem zcells_95 : zcells Tryz.prog 95 = some [.w false false (.int .i64 (0)), .w false false (.int .i64 (0))] := by kernel_rfl
@[simp] theorem slE_95 : slE Tryz.prog 95 = none := by kernel_rfl
@[simp] theorem isStr_95 : isStr Tryz.prog 95 = false := by kernel_rfl
@[simp] theorem fOf_95_0 : fOf Tryz.prog 95 0 = some (0, 1, false) := by kernel_rfl
@[simp] theorem fOf_95_1 : fOf Tryz.prog 95 1 = some (1, 1, false) := by kernel_rfl
@[simp] theorem pls_95 : pls Tryz.prog 95 = some [(0, 1), (1, 1)] := by kernel_rfl
@[simp] theorem eqTy_95 : eqTy Tryz.prog 95 = some [1, 1] := by kernel_rfl
@[simp] theorem nIfc_97 : nIfc Tryz.prog 97 = true := by kernel_rfl
@[simp] theorem tyL_97 : tyL Tryz.prog 97 = some (1, false) := by kernel_rfl
@[simp] theorem nIfc_98 : nIfc Tryz.prog 98 = true := by kernel_rfl
@[simp] theorem tyL_98 : tyL Tryz.prog 98 = some (1, false) := by kernel_rfl
@[simp] theorem nIfc_99 : nIfc Tryz.prog 99 = true := by kernel_rfl
@[simp] theorem tyL_99 : tyL Tryz.prog 99 = some (1, false) := by kernel_rfl
@[simp] theorem nIfc_100 : nIfc Tryz.prog 100 = true := by kernel_rfl
@[simp] theorem tyL_100 : tyL Tryz.prog 100 = some (1, false) := by kernel_rfl
@[simp] theorem nIfc_101 : nIfc Tryz.prog 101 = true := by kernel_rfl
@[simp] theorem tyL_101 : tyL Tryz.prog 101 = some (1, false) := by kernel_rfl
@[simp] theorem nIfc_102 : nIfc Tryz.prog 102 = true := by kernel_rfl
@[simp] theorem tyL_102 : tyL Tryz.prog 102 = some (1, false) := by kernel_rfl
@[simp] theorem nIfc_103 : nIfc Tryz.prog 103 = true := by kernel_rfl
@[simp] theorem tyL_103 : tyL Tryz.prog 103 = some (1, false) := by kernel_rfl
@[simp] theorem nIfc_104 : nIfc Tryz.prog 104 = true := by kernel_rfl
@[simp] theorem tyL_104 : tyL Tryz.prog 104 = some (2, true) := by kernel_rfl
@[simp] theorem zcells_104 : zcells Tryz.prog 104 = some [.w true true (.sl 0 []), .w true true (.sl 0 [])] := by kernel_rfl
@[simp] theorem slE_104 : slE Tryz.prog 104 = none := by kernel_rfl
@[simp] theorem isStr_104 : isStr Tryz.prog 104 = false := by kernel_rfl
@[simp] theorem fOf_104_0 : fOf Tryz.prog 104 0 = some (0, 1, false) := by kernel_rfl
@[simp] theorem fOf_104_1 : fOf Tryz.prog 104 1 = some (1, 1, false) := by kernel_rfl
@[simp] theorem pls_104 : pls Tryz.prog 104 = some [(0, 1), (1, 1)] := by kernel_rfl
@[simp] theorem nIfc_105 : nIfc Tryz.prog 105 = true := by kernel_rfl
@[simp] theorem tyL_105 : tyL Tryz.prog 105 = some (2, true) := by kernel_rfl
@[simp] theorem zcells_105 : zcells Tryz.prog 105 = some [.w true true (.sl 0 []), .w true true (.sl 0 [])] := by kernel_rfl
@[simp] theorem slE_105 : slE Tryz.prog 105 = none := by kernel_rfl
@[simp] theorem isStr_105 : isStr Tryz.prog 105 = false := by kernel_rfl
@[simp] theorem fOf_105_0 : fOf Tryz.prog 105 0 = some (0, 1, false) := by kernel_rfl
@[simp] theorem fOf_105_1 : fOf Tryz.prog 105 1 = some (1, 1, false) := by kernel_rfl
@[simp] theorem pls_105 : pls Tryz.prog 105 = some [(0, 1), (1, 1)] := by kernel_rfl
@[simp] theorem nIfc_106 : nIfc Tryz.prog 106 = true := by kernel_rfl
@[simp] theorem tyL_106 : tyL Tryz.prog 106 = some (1, false) := by kernel_rfl
@[simp] theorem nIfc_107 : nIfc Tryz.prog 107 = true := by kernel_rfl
@[simp] theorem tyL_107 : tyL Tryz.prog 107 = some (1, false) := by kernel_rfl
@[simp] theorem nIfc_108 : nIfc Tryz.prog 108 = true := by kernel_rfl
@[simp] theorem tyL_108 : tyL Tryz.prog 108 = some (1, false) := by kernel_rfl
@[simp] theorem nIfc_109 : nIfc Tryz.prog 109 = true := by kernel_rfl
@[simp] theorem tyL_109 : tyL Tryz.prog 109 = some (1, false) := by kernel_rfl
@[simp] theorem nIfc_110 : nIfc Tryz.prog 110 = true := by kernel_rfl
@[simp] theorem tyL_110 : tyL Tryz.prog 110 = some (1, false) := by kernel_rfl
@[simp] theorem nIfc_112 : nIfc Tryz.prog 112 = true := by kernel_rfl
@[simp] theorem tyL_112 : tyL Tryz.prog 112 = some (1, false) := by kernel_rfl
@[simp] theorem nIfc_113 : nIfc Tryz.prog 113 = true := by kernel_rfl
@[simp] theorem tyL_113 : tyL Tryz.prog 113 = some (1, false) := by kernel_rfl
@[simp] theorem nIfc_114 : nIfc Tryz.prog 114 = true := by kernel_rfl
@[simp] theorem tyL_114 : tyL Tryz.prog 114 = some (1, false) := by kernel_rfl
@[simp] theorem zcells_114 : zcells Tryz.prog 114 = some [.w true false .nilp] := by kernel_rfl
@[simp] theorem slE_114 : slE Tryz.prog 114 = none := by kernel_rfl
@[simp] theorem isStr_114 : isStr Tryz.prog 114 = false := by kernel_rfl
@[simp] theorem eqTy_114 : eqTy Tryz.prog 114 = none := by kernel_rfl
@[simp] theorem nIfc_115 : nIfc Tryz.prog 115 = true := by kernel_rfl
@[simp] theorem tyL_115 : tyL Tryz.prog 115 = some (1, false) := by kernel_rfl
@[simp] theorem nIfc_116 : nIfc Tryz.prog 116 = true := by kernel_rfl
@[simp] theorem tyL_116 : tyL Tryz.prog 116 = some (1, false) := by kernel_rfl
@[simp] theorem nIfc_117 : nIfc Tryz.prog 117 = true := by kernel_rfl
@[simp] theorem tyL_117 : tyL Tryz.prog 117 = some (1, false) := by kernel_rfl
@[simp] theorem zcells_117 : zcells Tryz.prog 117 = some [.w true false .nilp] := by kernel_rfl
@[simp] theorem slE_117 : slE Tryz.prog 117 = none := by kernel_rfl
@[simp] theorem isStr_117 : isStr Tryz.prog 117 = false := by kernel_rfl
@[simp] theorem eqTy_117 : eqTy Tryz.prog 117 = none := by kernel_rfl
@[simp] theorem nIfc_118 : nIfc Tryz.prog 118 = true := by kernel_rfl
@[simp] theorem tyL_118 : tyL Tryz.prog 118 = some (1, false) := by kernel_rfl
@[simp] theorem nIfc_120 : nIfc Tryz.prog 120 = true := by kernel_rfl
@[simp] theorem tyL_120 : tyL Tryz.prog 120 = some (1, false) := by kernel_rfl
@[simp] theorem nIfc_121 : nIfc Tryz.prog 121 = true := by kernel_rfl
@[simp] theorem tyL_121 : tyL Tryz.prog 121 = some (1, false) := by kernel_rfl
@[simp] theorem zcells_121 : zcells Tryz.prog 121 = some [.w true false .nilp] := by kernel_rfl
@[simp] theorem slE_121 : slE Tryz.prog 121 = none := by kernel_rfl
@[simp] theorem isStr_121 : isStr Tryz.prog 121 = false := by kernel_rfl
@[simp] theorem eqTy_121 : eqTy Tryz.prog 121 = none := by kernel_rfl
@[simp] theorem nIfc_122 : nIfc Tryz.prog 122 = true := by kernel_rfl
@[simp] theorem tyL_122 : tyL Tryz.prog 122 = some (1, false) := by kernel_rfl
@[simp] theorem nIfc_124 : nIfc Tryz.prog 124 = true := by kernel_rfl
@[simp] theorem tyL_124 : tyL Tryz.prog 124 = some (1, false) := by kernel_rfl
@[simp] theorem nIfc_125 : nIfc Tryz.prog 125 = true := by kernel_rfl
@[simp] theorem tyL_125 : tyL Tryz.prog 125 = some (3, true) := by kernel_rfl
@[simp] theorem zcells_125 : zcells Tryz.prog 125 = some [.w false false (.int .i64 (0)), .w false false (.int .i64 (0)), .w false false (.int .i64 (0))] := by kernel_rfl
@[simp] theorem slE_125 : slE Tryz.prog 125 = none := by kernel_rfl
@[simp] theorem arE_125 : arE Tryz.prog 125 = some (3, 1) := by kernel_rfl
@[simp] theorem isStr_125 : isStr Tryz.prog 125 = false := by kernel_rfl
@[simp] theorem pls_125 : pls Tryz.prog 125 = some [(0, 1), (1, 1), (2, 1)] := by kernel_rfl
@[simp] theorem eqTy_125 : eqTy Tryz.prog 125 = some [1, 1, 1] := by kernel_rfl
@[simp] theorem nIfc_127 : nIfc Tryz.prog 127 = true := by kernel_rfl
@[simp] theorem tyL_127 : tyL Tryz.prog 127 = some (1, false) := by kernel_rfl
@[simp] theorem nIfc_128 : nIfc Tryz.prog 128 = true := by kernel_rfl
@[simp] theorem tyL_128 : tyL Tryz.prog 128 = some (1, false) := by kernel_rfl
@[simp] theorem nIfc_129 : nIfc Tryz.prog 129 = true := by kernel_rfl
@[simp] theorem tyL_129 : tyL Tryz.prog 129 = some (1, false) := by kernel_rfl
@[simp] theorem zcells_129 : zcells Tryz.prog 129 = some [.w true true (.sl 0 [])] := by kernel_rfl
@[simp] theorem slE_129 : slE Tryz.prog 129 = some (28, 1) := by kernel_rfl
@[simp] theorem byE_28 : byE Tryz.prog 28 = some 8 := by kernel_rfl
@[simp] theorem isStr_129 : isStr Tryz.prog 129 = false := by kernel_rfl
@[simp] theorem eqTy_129 : eqTy Tryz.prog 129 = none := by kernel_rfl
@[simp] theorem nIfc_130 : nIfc Tryz.prog 130 = true := by kernel_rfl
@[simp] theorem tyL_130 : tyL Tryz.prog 130 = some (1, false) := by kernel_rfl
@[simp] theorem nIfc_131 : nIfc Tryz.prog 131 = true := by kernel_rfl
@[simp] theorem tyL_131 : tyL Tryz.prog 131 = some (1, false) := by kernel_rfl
@[simp] theorem nIfc_132 : nIfc Tryz.prog 132 = true := by kernel_rfl
@[simp] theorem tyL_132 : tyL Tryz.prog 132 = some (1, false) := by kernel_rfl
@[simp] theorem nIfc_134 : nIfc Tryz.prog 134 = true := by kernel_rfl
@[simp] theorem tyL_134 : tyL Tryz.prog 134 = some (1, false) := by kernel_rfl
@[simp] theorem nIfc_135 : nIfc Tryz.prog 135 = true := by kernel_rfl
@[simp] theorem tyL_135 : tyL Tryz.prog 135 = some (1, false) := by kernel_rfl
@[simp] theorem nIfc_136 : nIfc Tryz.prog 136 = true := by kernel_rfl
@[simp] theorem tyL_136 : tyL Tryz.prog 136 = some (1, false) := by kernel_rfl
@[simp] theorem nIfc_137 : nIfc Tryz.prog 137 = true := by kernel_rfl
@[simp] theorem tyL_137 : tyL Tryz.prog 137 = some (1, false) := by kernel_rfl
@[simp] theorem nIfc_138 : nIfc Tryz.prog 138 = true := by kernel_rfl
@[simp] theorem tyL_138 : tyL Tryz.prog 138 = some (1, false) := by kernel_rfl
@[simp] theorem nIfc_139 : nIfc Tryz.prog 139 = true := by kernel_rfl
@[simp] theorem tyL_139 : tyL Tryz.prog 139 = some (1, false) := by kernel_rfl
@[simp] theorem nIfc_140 : nIfc Tryz.prog 140 = true := by kernel_rfl
@[simp] theorem tyL_140 : tyL Tryz.prog 140 = some (1, false) := by kernel_rfl
@[simp] theorem zcells_140 : zcells Tryz.prog 140 = some [.w false false (.int .u64 (0))] := by kernel_rfl
@[simp] theorem slE_140 : slE Tryz.prog 140 = none := by kernel_rfl
@[simp] theorem isStr_140 : isStr Tryz.prog 140 = false := by kernel_rfl
@[simp] theorem kindOf_140 : kindOf Tryz.prog 140 = some .u64 := by kernel_rfl
@[simp] theorem eqTy_140 : eqTy Tryz.prog 140 = none := by kernel_rfl
@[simp] theorem nIfc_141 : nIfc Tryz.prog 141 = true := by kernel_rfl
@[simp] theorem tyL_141 : tyL Tryz.prog 141 = some (1, false) := by kernel_rfl
@[simp] theorem nIfc_142 : nIfc Tryz.prog 142 = true := by kernel_rfl
@[simp] theorem tyL_142 : tyL Tryz.prog 142 = some (1, false) := by kernel_rfl
@[simp] theorem nIfc_143 : nIfc Tryz.prog 143 = true := by kernel_rfl
@[simp] theorem tyL_143 : tyL Tryz.prog 143 = some (1, false) := by kernel_rfl
@[simp] theorem nIfc_144 : nIfc Tryz.prog 144 = true := by kernel_rfl
@[simp] theorem tyL_144 : tyL Tryz.prog 144 = some (1, false) := by kernel_rfl
@[simp] theorem nIfc_147 : nIfc Tryz.prog 147 = true := by kernel_rfl
@[simp] theorem tyL_147 : tyL Tryz.prog 147 = some (1, false) := by kernel_rfl
@[simp] theorem nIfc_148 : nIfc Tryz.prog 148 = true := by kernel_rfl
@[simp] theorem tyL_148 : tyL Tryz.prog 148 = some (1, false) := by kernel_rfl
@[simp] theorem nIfc_149 : nIfc Tryz.prog 149 = true := by kernel_rfl
@[simp] theorem tyL_149 : tyL Tryz.prog 149 = some (1, false) := by kernel_rfl
@[simp] theorem nIfc_150 : nIfc Tryz.prog 150 = true := by kernel_rfl
@[simp] theorem tyL_150 : tyL Tryz.prog 150 = some (1, false) := by kernel_rfl
@[simp] theorem nIfc_151 : nIfc Tryz.prog 151 = true := by kernel_rfl
@[simp] theorem tyL_151 : tyL Tryz.prog 151 = some (1, false) := by kernel_rfl
@[simp] theorem nIfc_152 : nIfc Tryz.prog 152 = true := by kernel_rfl
@[simp] theorem tyL_152 : tyL Tryz.prog 152 = some (1, false) := by kernel_rfl
@[simp] theorem nIfc_153 : nIfc Tryz.prog 153 = true := by kernel_rfl
@[simp] theorem tyL_153 : tyL Tryz.prog 153 = some (1, false) := by kernel_rfl
@[simp] theorem nIfc_154 : nIfc Tryz.prog 154 = true := by kernel_rfl
@[simp] theorem tyL_154 : tyL Tryz.prog 154 = some (1, false) := by kernel_rfl
@[simp] theorem nIfc_155 : nIfc Tryz.prog 155 = true := by kernel_rfl
@[simp] theorem tyL_155 : tyL Tryz.prog 155 = some (1, false) := by kernel_rfl
@[simp] theorem nIfc_156 : nIfc Tryz.prog 156 = true := by kernel_rfl
@[simp] theorem tyL_156 : tyL Tryz.prog 156 = some (1, false) := by kernel_rfl
@[simp] theorem nIfc_158 : nIfc Tryz.prog 158 = true := by kernel_rfl
@[simp] theorem tyL_158 : tyL Tryz.prog 158 = some (1, false) := by kernel_rfl
@[simp] theorem nIfc_159 : nIfc Tryz.prog 159 = true := by kernel_rfl
@[simp] theorem tyL_159 : tyL Tryz.prog 159 = some (24, true) := by kernel_rfl
@[simp] theorem zcells_159 : zcells Tryz.prog 159 = some [.w false false (.int .u8 (0)), .w false false (.int .u8 (0)), .w false false (.int .u8 (0)), .w false false (.int .u8 (0)), .w false false (.int .u8 (0)), .w false false (.int .u8 (0)), .w false false (.int .u8 (0)), .w false false (.int .u8 (0)), .w false false (.int .u8 (0)), .w false false (.int .u8 (0)), .w false false (.int .u8 (0)), .w false false (.int .u8 (0)), .w false false (.int .u8 (0)), .w false false (.int .u8 (0)), .w false false (.int .u8 (0)), .w false false (.int .u8 (0)), .w false false (.int .u8 (0)), .w false false (.int .u8 (0)), .w false false (.int .u8 (0)), .w false false (.int .u8 (0)), .w false false (.int .u8 (0)), .w false false (.int .u8 (0)), .w false false (.int .u8 (0)), .w false false (.int .u8 (0))] := by kernel_rfl
@[simp] theorem slE_159 : slE Tryz.prog 159 = none := by kernel_rfl
@[simp] theorem arE_159 : arE Tryz.prog 159 = some (24, 1) := by kernel_rfl
@[simp] theorem isStr_159 : isStr Tryz.prog 159 = false := by kernel_rfl
@[simp] theorem eqTy_159 : eqTy Tryz.prog 159 = some [1, 1, 1, 1, 1, 1, 1, 1, 1, 1, 1, 1, 1, 1, 1, 1, 1, 1, 1, 1, 1, 1, 1, 1] := by kernel_rfl
@[simp] theorem nIfc_160 : nIfc Tryz.prog 160 = true := by kernel_rfl
@[simp] theorem tyL_160 : tyL Tryz.prog 160 = some (1, false) := by kernel_rfl
@[simp] theorem zcells_160 : zcells Tryz.prog 160 = some [.w false false (.int .u64 (0))] := by kernel_rfl
@[simp] theorem slE_160 : slE Tryz.prog 160 = none := by kernel_rfl
@[simp] theorem isStr_160 : isStr Tryz.prog 160 = false := by kernel_rfl
@[simp] theorem kindOf_160 : kindOf Tryz.prog 160 = some .u64 := by kernel_rfl
@[simp] theorem eqTy_160 : eqTy Tryz.prog 160 = none := by kernel_rfl
@[simp] theorem nIfc_161 : nIfc Tryz.prog 161 = true := by kernel_rfl
@[simp] theorem tyL_161 : tyL Tryz.prog 161 = some (1, false) := by kernel_rfl
@[simp] theorem nIfc_162 : nIfc Tryz.prog 162 = true := by kernel_rfl
@[simp] theorem tyL_162 : tyL Tryz.prog 162 = some (1, false) := by kernel_rfl
@[simp] theorem nIfc_164 : nIfc Tryz.prog 164 = true := by kernel_rfl
@[simp] theorem tyL_164 : tyL Tryz.prog 164 = some (1, false) := by kernel_rfl
@[simp] theorem nIfc_165 : nIfc Tryz.prog 165 = true := by kernel_rfl
@[simp] theorem tyL_165 : tyL Tryz.prog 165 = some (1, false) := by kernel_rfl
@[simp] theorem tyL_166 : tyL Tryz.prog 166 = some (1, false) := by kernel_rfl
@[simp] theorem zcells_166 : zcells Tryz.prog 166 = some [.w false false (.int .i64 (0))] := by kernel_rfl
@[simp] theorem slE_166 : slE Tryz.prog 166 = none := by kernel_rfl
@[simp] theorem isStr_166 : isStr Tryz.prog 166 = false := by kernel_rfl
@[simp] theorem kindOf_166 : kindOf Tryz.prog 166 = some .i64 := by kernel_rfl
@[simp] theorem eqTy_166 : eqTy Tryz.prog 166 = none := by kernel_rfl
@[simp] theorem nIfc_168 : nIfc Tryz.prog 168 = true := by kernel_rfl
@[simp] theorem tyL_168 : tyL Tryz.prog 168 = some (1, false) := by kernel_rfl
@[simp] theorem tyL_169 : tyL Tryz.prog 169 = some (1, false) := by kernel_rfl
@[simp] theorem zcells_169 : zcells Tryz.prog 169 = some [.w true false .nilp] := by kernel_rfl
@[simp] theorem slE_169 : slE Tryz.prog 169 = none := by kernel_rfl
@[simp] theorem isStr_169 : isStr Tryz.prog 169 = false := by kernel_rfl
@[simp] theorem eqTy_169 : eqTy Tryz.prog 169 = none := by kernel_rfl
@[simp] theorem tyL_170 : tyL Tryz.prog 170 = some (1, false) := by kernel_rfl
@[simp] theorem tyL_171 : tyL Tryz.prog 171 = some (1, false) := by kernel_rfl
@[simp] theorem nIfc_172 : nIfc Tryz.prog 172 = true := by kernel_rfl
@[simp] theorem tyL_172 : tyL Tryz.prog 172 = some (1, false) := by kernel_rfl
@[simp] theorem nIfc_173 : nIfc Tryz.prog 173 = true := by kernel_rfl
@[simp] theorem tyL_173 : tyL Tryz.prog 173 = some (20, true) := by kernel_rfl
@[simp] theorem zcells_173 : zcells Tryz.prog 173 = some [.w false false (.int .u64 (0)), .w false false (.int .u64 (0)), .w false false (.int .u64 (0)), .w false false (.int .u64 (0)), .w false false (.int .u64 (0)), .w false false (.int .u64 (0)), .w false false (.int .u64 (0)), .w false false (.int .u64 (0)), .w false false (.int .u64 (0)), .w false false (.int .u64 (0)), .w false false (.int .u64 (0)), .w false false (.int .u64 (0)), .w false false (.int .u64 (0)), .w false false (.int .u64 (0)), .w false false (.int .u64 (0)), .w false false (.int .u64 (0)), .w false false (.int .u64 (0)), .w false false (.int .u64 (0)), .w false false (.int .u64 (0)), .w false false (.int .u64 (0))] := by kernel_rfl
@[simp] theorem slE_173 : slE Tryz.prog 173 = none := by kernel_rfl
@[simp] theorem arE_173 : arE Tryz.prog 173 = some (20, 1) := by kernel_rfl
@[simp] theorem isStr_173 : isStr Tryz.prog 173 = false := by kernel_rfl
@[simp] theorem eqTy_173 : eqTy Tryz.prog 173 = some [1, 1, 1, 1, 1, 1, 1, 1, 1, 1, 1, 1, 1, 1, 1, 1, 1, 1, 1, 1] := by kernel_rfl
@[simp] theorem nIfc_174 : nIfc Tryz.prog 174 = true := by kernel_rfl
@[simp] theorem tyL_174 : tyL Tryz.prog 174 = some (1, false) := by kernel_rfl
@[simp] theorem zcells_174 : zcells Tryz.prog 174 = some [.w false false (.int .u32 (0))] := by kernel_rfl
@[simp] theorem slE_174 : slE Tryz.prog 174 = none := by kernel_rfl
@[simp] theorem isStr_174 : isStr Tryz.prog 174 = false := by kernel_rfl
@[simp] theorem kindOf_174 : kindOf Tryz.prog 174 = some .u32 := by kernel_rfl
@[simp] theorem eqTy_174 : eqTy Tryz.prog 174 = none := by kernel_rfl
@[simp] theorem nIfc_175 : nIfc Tryz.prog 175 = true := by kernel_rfl
@[simp] theorem tyL_175 : tyL Tryz.prog 175 = some (65, true) := by kernel_rfl
@[simp] theorem slE_175 : slE Tryz.prog 175 = none := by kernel_rfl
@[simp] theorem arE_175 : arE Tryz.prog 175 = some (65, 1) := by kernel_rfl
@[simp] theorem isStr_175 : isStr Tryz.prog 175 = false := by kernel_rfl
@[simp] theorem eqTy_175 : eqTy Tryz.prog 175 = some [1, 1, 1, 1, 1, 1, 1, 1, 1, 1, 1, 1, 1, 1, 1, 1, 1, 1, 1, 1, 1, 1, 1, 1, 1, 1, 1, 1, 1, 1, 1, 1, 1, 1, 1, 1, 1, 1, 1, 1, 1, 1, 1, 1, 1, 1, 1, 1, 1, 1, 1, 1, 1, 1, 1, 1, 1, 1, 1, 1, 1, 1, 1, 1, 1] := by kernel_rfl
@[simp] theorem nIfc_176 : nIfc Tryz.prog 176 = true := by kernel_rfl
@[simp] theorem tyL_176 : tyL Tryz.prog 176 = some (1, false) := by kernel_rfl
@[simp] theorem nIfc_178 : nIfc Tryz.prog 178 = true := by kernel_rfl
@[simp] theorem tyL_178 : tyL Tryz.prog 178 = some (1, false) := by kernel_rfl
@[simp] theorem nIfc_179 : nIfc Tryz.prog 179 = true := by kernel_rfl
@[simp] theorem tyL_179 : tyL Tryz.prog 179 = some (1, false) := by kernel_rfl
@[simp] theorem nIfc_180 : nIfc Tryz.prog 180 = true := by kernel_rfl
@[simp] theorem tyL_180 : tyL Tryz.prog 180 = some (3, true) := by kernel_rfl
@[simp] theorem zcells_180 : zcells Tryz.prog 180 = some [.w false false (.str ByteArray.empty), .w false false (.str ByteArray.empty), .w true false .nili] := by kernel_rfl
@[simp] theorem slE_180 : slE Tryz.prog 180 = none := by kernel_rfl
@[simp] theorem isStr_180 : isStr Tryz.prog 180 = false := by kernel_rfl
@[simp] theorem fOf_180_0 : fOf Tryz.prog 180 0 = some (0, 1, false) := by kernel_rfl
@[simp] theorem fOf_180_1 : fOf Tryz.prog 180 1 = some (1, 1, false) := by kernel_rfl
@[simp] theorem fOf_180_2 : fOf Tryz.prog 180 2 = some (2, 1, false) := by kernel_rfl
@[simp] theorem pls_180 : pls Tryz.prog 180 = some [(0, 1), (1, 1), (2, 1)] := by kernel_rfl
@[simp] theorem tyL_181 : tyL Tryz.prog 181 = some (3, true) := by kernel_rfl
@[simp] theorem zcells_181 : zcells Tryz.prog 181 = some [.w false false (.str ByteArray.empty), .w false false (.str ByteArray.empty), .w true false .nili] := by kernel_rfl
@[simp] theorem slE_181 : slE Tryz.prog 181 = none := by kernel_rfl
@[simp] theorem isStr_181 : isStr Tryz.prog 181 = false := by kernel_rfl
@[simp] theorem fOf_181_0 : fOf Tryz.prog 181 0 = some (0, 1, false) := by kernel_rfl
@[simp] theorem fOf_181_1 : fOf Tryz.prog 181 1 = some (1, 1, false) := by kernel_rfl
@[simp] theorem fOf_181_2 : fOf Tryz.prog 181 2 = some (2, 1, false) := by kernel_rfl
@[simp] theorem pls_181 : pls Tryz.prog 181 = some [(0, 1), (1, 1), (2, 1)] := by kernel_rfl
@[simp] theorem nIfc_182 : nIfc Tryz.prog 182 = true := by kernel_rfl
@[simp] theorem tyL_182 : tyL Tryz.prog 182 = some (1, false) := by kernel_rfl
@[simp] theorem nIfc_183 : nIfc Tryz.prog 183 = true := by kernel_rfl
@[simp] theorem tyL_183 : tyL Tryz.prog 183 = some (256, true) := by kernel_rfl
@[simp] theorem slE_183 : slE Tryz.prog 183 = none := by kernel_rfl
@[simp] theorem arE_183 : arE Tryz.prog 183 = some (256, 1) := by kernel_rfl
@[simp] theorem isStr_183 : isStr Tryz.prog 183 = false := by kernel_rfl
@[simp] theorem eqTy_183 : eqTy Tryz.prog 183 = some [1, 1, 1, 1, 1, 1, 1, 1, 1, 1, 1, 1, 1, 1, 1, 1, 1, 1, 1, 1, 1, 1, 1, 1, 1, 1, 1, 1, 1, 1, 1, 1, 1, 1, 1, 1, 1, 1, 1, 1, 1, 1, 1, 1, 1, 1, 1, 1, 1, 1, 1, 1, 1, 1, 1, 1, 1, 1, 1, 1, 1, 1, 1, 1, 1, 1, 1, 1, 1, 1, 1, 1, 1, 1, 1, 1, 1, 1, 1, 1, 1, 1, 1, 1, 1, 1, 1, 1, 1, 1, 1, 1, 1, 1, 1, 1, 1, 1, 1, 1, 1, 1, 1, 1, 1, 1, 1, 1, 1, 1, 1, 1, 1, 1, 1, 1, 1, 1, 1, 1, 1, 1, 1, 1, 1, 1, 1, 1, 1, 1, 1, 1, 1, 1, 1, 1, 1, 1, 1, 1, 1, 1, 1, 1, 1, 1, 1, 1, 1, 1, 1, 1, 1, 1, 1, 1, 1, 1, 1, 1, 1, 1, 1, 1, 1, 1, 1, 1, 1, 1, 1, 1, 1, 1, 1, 1, 1, 1, 1, 1, 1, 1, 1, 1, 1, 1, 1, 1, 1, 1, 1, 1, 1, 1, 1, 1, 1, 1, 1, 1, 1, 1, 1, 1, 1, 1, 1, 1, 1, 1, 1, 1, 1, 1, 1, 1, 1, 1, 1, 1, 1, 1, 1, 1, 1, 1, 1, 1, 1, 1, 1, 1, 1, 1, 1, 1, 1, 1, 1, 1, 1, 1, 1, 1, 1, 1, 1, 1, 1, 1, 1, 1, 1, 1, 1, 1] := by kernel_rfl
@[simp] theorem nIfc_184 : nIfc Tryz.prog 184 = true := by kernel_rfl
@[simp] theorem tyL_184 : tyL Tryz.prog 184 = some (2, true) := by kernel_rfl
@[simp] theorem zcells_184 : zcells Tryz.prog 184 = some [.w false false (.int .u8 (0)), .w false false (.int .u8 (0))] := by kernel_rfl
@[simp] theorem slE_184 : slE Tryz.prog 184 = none := by kernel_rfl
@[simp] theorem isStr_184 : isStr Tryz.prog 184 = false := by kernel_rfl
@[simp] theorem fOf_184_0 : fOf Tryz.prog 184 0 = some (0, 1, false) := by kernel_rfl
@[simp] theorem fOf_184_1 : fOf Tryz.prog 184 1 = some (1, 1, false) := by kernel_rfl
@[simp] theorem pls_184 : pls Tryz.prog 184 = some [(0, 1), (1, 1)] := by kernel_rfl
@[simp] theorem eqTy_184 : eqTy Tryz.prog 184 = some [1, 1] := by kernel_rfl
@[simp] theorem nIfc_185 : nIfc Tryz.prog 185 = true := by kernel_rfl
@[simp] theorem tyL_185 : tyL Tryz.prog 185 = some (2, true) := by kernel_rfl
@[simp] theorem zcells_185 : zcells Tryz.prog 185 = some [.w false false (.int .u8 (0)), .w false false (.int .u8 (0))] := by kernel_rfl
@[simp] theorem slE_185 : slE Tryz.prog 185 = none := by kernel_rfl
@[simp] theorem isStr_185 : isStr Tryz.prog 185 = false := by kernel_rfl
@[simp] theorem fOf_185_0 : fOf Tryz.prog 185 0 = some (0, 1, false) := by kernel_rfl
@[simp] theorem fOf_185_1 : fOf Tryz.prog 185 1 = some (1, 1, false) := by kernel_rfl
@[simp] theorem pls_185 : pls Tryz.prog 185 = some [(0, 1), (1, 1)] := by kernel_rfl
@[simp] theorem eqTy_185 : eqTy Tryz.prog 185 = some [1, 1] := by kernel_rfl
@[simp] theorem nIfc_186 : nIfc Tryz.prog 186 = true := by kernel_rfl
@[simp] theorem tyL_186 : tyL Tryz.prog 186 = some (32, true) := by kernel_rfl
@[simp] theorem slE_186 : slE Tryz.prog 186 = none := by kernel_rfl
@[simp] theorem arE_186 : arE Tryz.prog 186 = some (16, 2) := by kernel_rfl
@[simp] theorem isStr_186 : isStr Tryz.prog 186 = false := by kernel_rfl
@[simp] theorem eqTy_186 : eqTy Tryz.prog 186 = some [1, 1, 1, 1, 1, 1, 1, 1, 1, 1, 1, 1, 1, 1, 1, 1, 1, 1, 1, 1, 1, 1, 1, 1, 1, 1, 1, 1, 1, 1, 1, 1] := by kernel_rfl
@[simp] theorem nIfc_188 : nIfc Tryz.prog 188 = true := by kernel_rfl
@[simp] theorem tyL_188 : tyL Tryz.prog 188 = some (1, false) := by kernel_rfl
@[simp] theorem nIfc_189 : nIfc Tryz.prog 189 = true := by kernel_rfl
@[simp] theorem tyL_189 : tyL Tryz.prog 189 = some (1, false) := by kernel_rfl
@[simp] theorem nIfc_190 : nIfc Tryz.prog 190 = true := by kernel_rfl
@[simp] theorem tyL_190 : tyL Tryz.prog 190 = some (1, false) := by kernel_rfl
@[simp] theorem nIfc_191 : nIfc Tryz.prog 191 = true := by kernel_rfl
@[simp] theorem tyL_191 : tyL Tryz.prog 191 = some (1, false) := by kernel_rfl
@[simp] theorem zcells_191 : zcells Tryz.prog 191 = some [.w true false .nilp] := by kernel_rfl
@[simp] theorem slE_191 : slE Tryz.prog 191 = none := by kernel_rfl
@[simp] theorem isStr_191 : isStr Tryz.prog 191 = false := by kernel_rfl
@[simp] theorem eqTy_191 : eqTy Tryz.prog 191 = none := by kernel_rfl
@[simp] theorem nIfc_192 : nIfc Tryz.prog 192 = true := by kernel_rfl
@[simp] theorem tyL_192 : tyL Tryz.prog 192 = some (1, true) := by kernel_rfl
@[simp] theorem zcells_192 : zcells Tryz.prog 192 = some [.w false false (.str ByteArray.empty)] := by kernel_rfl
@[simp] theorem slE_192 : slE Tryz.prog 192 = none := by kernel_rfl
@[simp] theorem isStr_192 : isStr Tryz.prog 192 = false := by kernel_rfl
@[simp] theorem fOf_192_0 : fOf Tryz.prog 192 0 = some (0, 1, false) := by kernel_rfl
@[simp] theorem pls_192 : pls Tryz.prog 192 = some [(0, 1)] := by kernel_rfl
@[simp] theorem eqTy_192 : eqTy Tryz.prog 192 = some [2] := by kernel_rfl
@[simp] theorem nIfc_193 : nIfc Tryz.prog 193 = true := by kernel_rfl
@[simp] theorem tyL_193 : tyL Tryz.prog 193 = some (1, true) := by kernel_rfl
@[simp] theorem zcells_193 : zcells Tryz.prog 193 = some [.w false false (.str ByteArray.empty)] := by kernel_rfl
@[simp] theorem slE_193 : slE Tryz.prog 193 = none := by kernel_rfl
@[simp] theorem isStr_193 : isStr Tryz.prog 193 = false := by kernel_rfl
@[simp] theorem fOf_193_0 : fOf Tryz.prog 193 0 = some (0, 1, false) := by kernel_rfl
@[simp] theorem pls_193 : pls Tryz.prog 193 = some [(0, 1)] := by kernel_rfl
@[simp] theorem eqTy_193 : eqTy Tryz.prog 193 = some [2] := by kernel_rfl
@[simp] theorem nIfc_194 : nIfc Tryz.prog 194 = true := by kernel_rfl
@[simp] theorem tyL_194 : tyL Tryz.prog 194 = some (32, true) := by kernel_rfl
@[simp] theorem slE_194 : slE Tryz.prog 194 = none := by kernel_rfl
@[simp] theorem arE_194 : arE Tryz.prog 194 = some (32, 1) := by kernel_rfl
@[simp] theorem isStr_194 : isStr Tryz.prog 194 = false := by kernel_rfl
@[simp] theorem eqTy_194 : eqTy Tryz.prog 194 = some [1, 1, 1, 1, 1, 1, 1, 1, 1, 1, 1, 1, 1, 1, 1, 1, 1, 1, 1, 1, 1, 1, 1, 1, 1, 1, 1, 1, 1, 1, 1, 1] := by kernel_rfl
@[simp] theorem nIfc_195 : nIfc Tryz.prog 195 = true := by kernel_rfl
@[simp] theorem tyL_195 : tyL Tryz.prog 195 = some (64, true) := by kernel_rfl
@[simp] theorem slE_195 : slE Tryz.prog 195 = none := by kernel_rfl
@[simp] theorem arE_195 : arE Tryz.prog 195 = some (64, 1) := by kernel_rfl
@[simp] theorem isStr_195 : isStr Tryz.prog 195 = false := by kernel_rfl
@[simp] theorem eqTy_195 : eqTy Tryz.prog 195 = some [1, 1, 1, 1, 1, 1, 1, 1, 1, 1, 1, 1, 1, 1, 1, 1, 1, 1, 1, 1, 1, 1, 1, 1, 1, 1, 1, 1, 1, 1, 1, 1, 1, 1, 1, 1, 1, 1, 1, 1, 1, 1, 1, 1, 1, 1, 1, 1, 1, 1, 1, 1, 1, 1, 1, 1, 1, 1, 1, 1, 1, 1, 1, 1] := by kernel_rfl
@[simp] theorem nIfc_201 : nIfc Tryz.prog 201 = true := by kernel_rfl
@[simp] theorem tyL_201 : tyL Tryz.prog 201 = some (1, false) := by kernel_rfl
@[simp] theorem byteSl_9_61 : byteSl Tryz.prog 9 61 = true := by kernel_rfl
@[simp] theorem byteSl_10_61 : byteSl Tryz.prog 10 61 = true := by kernel_rfl
@[simp] theorem byteSl_11_61 : byteSl Tryz.prog 11 61 = true := by kernel_rfl
end Go.Proofs.YtfpamehamllndaaGreatDoor

