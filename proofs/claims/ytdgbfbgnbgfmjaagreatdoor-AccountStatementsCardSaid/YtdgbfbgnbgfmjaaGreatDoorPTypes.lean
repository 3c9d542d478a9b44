/- Contracts of functions for this claim: lemmas alone. -/
import Derived.Test.YtdgbfbgnbgfmjaaGreatDoorProg
import Derived.Test.YtdgbfbgnbgfmjaaGreatDoorLd
import Derived.KernelRfl
set_option linter.unusedSimpArgs false
set_option linter.unusedVariables false
namespace Go.Proofs.YtdgbfbgnbgfmjaaGreatDoor
open Go Go.Fi
set_option maxRecDepth 100000
@[simp] theorem nIfc_1 : nIfc Tryz.prog 1 = true := by kernel_rfl
@[simp] theorem tyL_1 : tyL Tryz.prog 1 = some (1, false) := by kernel_rfl
@[simp] theorem nIfc_2 : nIfc Tryz.prog 2 = true := by kernel_rfl
@[simp] theorem tyL_2 : tyL Tryz.prog 2 = some (1, false) := by kernel_rfl
@[simp] theorem zcells_2 : zcells Tryz.prog 2 = some [.w false false (.int .i64 (0))] := by kernel_rfl
@[simp] theorem slE_2 : slE Tryz.prog 2 = none := by kernel_rfl
@[simp] theorem isStr_2 : isStr Tryz.prog 2 = false := by kernel_rfl
@[simp] theorem kindOf_2 : kindOf Tryz.prog 2 = some .i64 := by kernel_rfl
@[simp] theorem eqTy_2 : eqTy Tryz.prog 2 = none := by kernel_rfl
@[simp] theorem nIfc_3 : nIfc Tryz.prog 3 = true := by kernel_rfl
@[simp] theorem tyL_3 : tyL Tryz.prog 3 = some (1, false) := by kernel_rfl
@[simp] theorem zcells_3 : zcells Tryz.prog 3 = some [.w false false (.int .i64 (0))] := by kernel_rfl
@[simp] theorem slE_3 : slE Tryz.prog 3 = none := by kernel_rfl
@[simp] theorem isStr_3 : isStr Tryz.prog 3 = false := by kernel_rfl
@[simp] theorem kindOf_3 : kindOf Tryz.prog 3 = some .i64 := by kernel_rfl
@[simp] theorem eqTy_3 : eqTy Tryz.prog 3 = none := by kernel_rfl
@[simp] theorem nIfc_4 : nIfc Tryz.prog 4 = true := by kernel_rfl
@[simp] theorem tyL_4 : tyL Tryz.prog 4 = some (1, false) := by kernel_rfl
@[simp] theorem zcells_4 : zcells Tryz.prog 4 = some [.w false false (.bool false)] := by kernel_rfl
@[simp] theorem slE_4 : slE Tryz.prog 4 = none := by kernel_rfl
@[simp] theorem isStr_4 : isStr Tryz.prog 4 = false := by kernel_rfl
@[simp] theorem isBool_4 : isBool Tryz.prog 4 = true := by kernel_rfl
@[simp] theorem eqTy_4 : eqTy Tryz.prog 4 = none := by kernel_rfl
@[simp] theorem nIfc_5 : nIfc Tryz.prog 5 = true := by kernel_rfl
@[simp] theorem tyL_5 : tyL Tryz.prog 5 = some (1, false) := by kernel_rfl
@[simp] theorem zcells_5 : zcells Tryz.prog 5 = some [.w false false (.int .u8 (0))] := by kernel_rfl
@[simp] theorem slE_5 : slE Tryz.prog 5 = none := by kernel_rfl
@[simp] theorem isStr_5 : isStr Tryz.prog 5 = false := by kernel_rfl
@[simp] theorem kindOf_5 : kindOf Tryz.prog 5 = some .u8 := by kernel_rfl
@[simp] theorem eqTy_5 : eqTy Tryz.prog 5 = none := by kernel_rfl
@[simp] theorem nIfc_9 : nIfc Tryz.prog 9 = true := by kernel_rfl
@[simp] theorem tyL_9 : tyL Tryz.prog 9 = some (1, false) := by kernel_rfl
@[simp] theorem zcells_9 : zcells Tryz.prog 9 = some [.w false false (.str ByteArray.empty)] := by kernel_rfl
@[simp] theorem slE_9 : slE Tryz.prog 9 = none := by kernel_rfl
@[simp] theorem isStr_9 : isStr Tryz.prog 9 = true := by kernel_rfl
@[simp] theorem eqTy_9 : eqTy Tryz.prog 9 = none := by kernel_rfl
@[simp] theorem tyL_20 : tyL Tryz.prog 20 = some (1, false) := by kernel_rfl
@[simp] theorem zcells_20 : zcells Tryz.prog 20 = some [.w true false .nili] := by kernel_rfl
@[simp] theorem eqTy_20 : eqTy Tryz.prog 20 = none := by kernel_rfl
@[simp] theorem nIfc_21 : nIfc Tryz.prog 21 = true := by kernel_rfl
@[simp] theorem tyL_21 : tyL Tryz.prog 21 = some (1, false) := by kernel_rfl
@[simp] theorem zcells_21 : zcells Tryz.prog 21 = some [.w false false (.int .i32 (0))] := by kernel_rfl
@[simp] theorem slE_21 : slE Tryz.prog 21 = none := by kernel_rfl
@[simp] theorem isStr_21 : isStr Tryz.prog 21 = false := by kernel_rfl
@[simp] theorem kindOf_21 : kindOf Tryz.prog 21 = some .i32 := by kernel_rfl
@[simp] theorem eqTy_21 : eqTy Tryz.prog 21 = none := by kernel_rfl
@[simp] theorem nIfc_22 : nIfc Tryz.prog 22 = true := by kernel_rfl
@[simp] theorem tyL_22 : tyL Tryz.prog 22 = some (1, false) := by kernel_rfl
@[simp] theorem zcells_22 : zcells Tryz.prog 22 = some [.w true true (.sl 0 [])] := by kernel_rfl
@[simp] theorem slE_22 : slE Tryz.prog 22 = some (3, 1) := by kernel_rfl
@[simp] theorem byE_3 : byE Tryz.prog 3 = some 8 := by kernel_rfl
@[simp] theorem isStr_22 : isStr Tryz.prog 22 = false := by kernel_rfl
@[simp] theorem eqTy_22 : eqTy Tryz.prog 22 = none := by kernel_rfl
@[simp] theorem nIfc_23 : nIfc Tryz.prog 23 = true := by kernel_rfl
@[simp] theorem tyL_23 : tyL Tryz.prog 23 = some (1, false) := by kernel_rfl
@[simp] theorem nIfc_24 : nIfc Tryz.prog 24 = true := by kernel_rfl
@[simp] theorem tyL_24 : tyL Tryz.prog 24 = some (1, false) := by kernel_rfl
@[simp] theorem zcells_24 : zcells Tryz.prog 24 = some [.w false false (.int .i64 (0))] := by kernel_rfl
@[simp] theorem slE_24 : slE Tryz.prog 24 = none := by kernel_rfl
@[simp] theorem isStr_24 : isStr Tryz.prog 24 = false := by kernel_rfl
@[simp] theorem kindOf_24 : kindOf Tryz.prog 24 = some .i64 := by kernel_rfl
@[simp] theorem eqTy_24 : eqTy Tryz.prog 24 = none := by kernel_rfl
@[simp] theorem nIfc_26 : nIfc Tryz.prog 26 = true := by kernel_rfl
@[simp] theorem tyL_26 : tyL Tryz.prog 26 = some (1, false) := by kernel_rfl
@[simp] theorem nIfc_27 : nIfc Tryz.prog 27 = true := by kernel_rfl
@[simp] theorem tyL_27 : tyL Tryz.prog 27 = some (1, false) := by kernel_rfl
@[simp] theorem nIfc_29 : nIfc Tryz.prog 29 = true := by kernel_rfl
@[simp] theorem tyL_29 : tyL Tryz.prog 29 = some (1, false) := by kernel_rfl
@[simp] theorem nIfc_30 : nIfc Tryz.prog 30 = true := by kernel_rfl
@[simp] theorem tyL_30 : tyL Tryz.prog 30 = some (1, false) := by kernel_rfl
@[simp] theorem nIfc_31 : nIfc Tryz.prog 31 = true := by kernel_rfl
@[simp] theorem tyL_31 : tyL Tryz.prog 31 = some (2, true) := by kernel_rfl
@[simp] theorem zcells_31 : zcells Tryz.prog 31 = some [.w false false (.int .i64 (0)), .w true true (.sl 0 [])] := by kernel_rfl
@[simp] theorem slE_31 : slE Tryz.prog 31 = none := by kernel_rfl
@[simp] theorem isStr_31 : isStr Tryz.prog 31 = false := by kernel_rfl
@[simp] theorem fOf_31_0 : fOf Tryz.prog 31 0 = some (0, 1, false) := by kernel_rfl
@[simp] theorem fOf_31_1 : fOf Tryz.prog 31 1 = some (1, 1, false) := by kernel_rfl
@[simp] theorem pls_31 : pls Tryz.prog 31 = some [(0, 1), (1, 1)] := by kernel_rfl
@[simp] theorem nIfc_32 : nIfc Tryz.prog 32 = true := by kernel_rfl
@[simp] theorem tyL_32 : tyL Tryz.prog 32 = some (2, true) := by kernel_rfl
@[simp] theorem zcells_32 : zcells Tryz.prog 32 = some [.w false false (.int .i64 (0)), .w true true (.sl 0 [])] := by kernel_rfl
@[simp] theorem slE_32 : slE Tryz.prog 32 = none := by kernel_rfl
@[simp] theorem isStr_32 : isStr Tryz.prog 32 = false := by kernel_rfl
@[simp] theorem fOf_32_0 : fOf Tryz.prog 32 0 = some (0, 1, false) := by kernel_rfl
@[simp] theorem fOf_32_1 : fOf Tryz.prog 32 1 = some (1, 1, false) := by kernel_rfl
@[simp] theorem pls_32 : pls Tryz.prog 32 = some [(0, 1), (1, 1)] := by kernel_rfl
@[simp] theorem nIfc_33 : nIfc Tryz.prog 33 = true := by kernel_rfl
@[simp] theorem tyL_33 : tyL Tryz.prog 33 = some (1, false) := by kernel_rfl
@[simp] theorem nIfc_34 : nIfc Tryz.prog 34 = true := by kernel_rfl
@[simp] theorem tyL_34 : tyL Tryz.prog 34 = some (1, false) := by kernel_rfl
@[simp] theorem nIfc_35 : nIfc Tryz.prog 35 = true := by kernel_rfl
@[simp] theorem tyL_35 : tyL Tryz.prog 35 = some (1, false) := by kernel_rfl
@[simp] theorem nIfc_36 : nIfc Tryz.prog 36 = true := by kernel_rfl
@[simp] theorem tyL_36 : tyL Tryz.prog 36 = some (1, false) := by kernel_rfl
@[simp] theorem nIfc_37 : nIfc Tryz.prog 37 = true := by kernel_rfl
@[simp] theorem tyL_37 : tyL Tryz.prog 37 = some (1, false) := by kernel_rfl
@[simp] theorem zcells_37 : zcells Tryz.prog 37 = some [.w true true (.sl 0 [])] := by kernel_rfl
@[simp] theorem slE_37 : slE Tryz.prog 37 = some (132, 2) := by kernel_rfl
@[simp] theorem byE_132 : byE Tryz.prog 132 = some 24 := by kernel_rfl
@[simp] theorem isStr_37 : isStr Tryz.prog 37 = false := by kernel_rfl
@[simp] theorem eqTy_37 : eqTy Tryz.prog 37 = none := by kernel_rfl
@[simp] theorem nIfc_38 : nIfc Tryz.prog 38 = true := by kernel_rfl
@[simp] theorem tyL_38 : tyL Tryz.prog 38 = some (1, false) := by kernel_rfl
@[simp] theorem zcells_38 : zcells Tryz.prog 38 = some [.w true true (.sl 0 [])] := by kernel_rfl
@[simp] theorem slE_38 : slE Tryz.prog 38 = some (70, 2) := by kernel_rfl
@[simp] theorem byE_70 : byE Tryz.prog 70 = some 24 := by kernel_rfl
@[simp] theorem isStr_38 : isStr Tryz.prog 38 = false := by kernel_rfl
@[simp] theorem eqTy_38 : eqTy Tryz.prog 38 = none := by kernel_rfl
@[simp] theorem nIfc_39 : nIfc Tryz.prog 39 = true := by kernel_rfl
@[simp] theorem tyL_39 : tyL Tryz.prog 39 = some (3, true) := by kernel_rfl
@[simp] theorem zcells_39 : zcells Tryz.prog 39 = some [.w false false (.int .i64 (0)), .w false false (.str ByteArray.empty), .w true true (.sl 0 [])] := by kernel_rfl
@[simp] theorem slE_39 : slE Tryz.prog 39 = none := by kernel_rfl
@[simp] theorem isStr_39 : isStr Tryz.prog 39 = false := by kernel_rfl
@[simp] theorem fOf_39_0 : fOf Tryz.prog 39 0 = some (0, 1, false) := by kernel_rfl
@[simp] theorem fOf_39_1 : fOf Tryz.prog 39 1 = some (1, 1, false) := by kernel_rfl
@[simp] theorem fOf_39_2 : fOf Tryz.prog 39 2 = some (2, 1, false) := by kernel_rfl
@[simp] theorem pls_39 : pls Tryz.prog 39 = some [(0, 1), (1, 1), (2, 1)] := by kernel_rfl
@[simp] theorem nIfc_40 : nIfc Tryz.prog 40 = true := by kernel_rfl
@[simp] theorem tyL_40 : tyL Tryz.prog 40 = some (3, true) := by kernel_rfl
@[simp] theorem zcells_40 : zcells Tryz.prog 40 = some [.w false false (.int .i64 (0)), .w false false (.str ByteArray.empty), .w true true (.sl 0 [])] := by kernel_rfl
@[simp] theorem slE_40 : slE Tryz.prog 40 = none := by kernel_rfl
@[simp] theorem isStr_40 : isStr Tryz.prog 40 = false := by kernel_rfl
@[simp] theorem fOf_40_0 : fOf Tryz.prog 40 0 = some (0, 1, false) := by kernel_rfl
@[simp] theorem fOf_40_1 : fOf Tryz.prog 40 1 = some (1, 1, false) := by kernel_rfl
@[simp] theorem fOf_40_2 : fOf Tryz.prog 40 2 = some (2, 1, false) := by kernel_rfl
@[simp] theorem pls_40 : pls Tryz.prog 40 = some [(0, 1), (1, 1), (2, 1)] := by kernel_rfl
@[simp] theorem nIfc_41 : nIfc Tryz.prog 41 = true := by kernel_rfl
@[simp] theorem tyL_41 : tyL Tryz.prog 41 = some (1, false) := by kernel_rfl
@[simp] theorem nIfc_42 : nIfc Tryz.prog 42 = true := by kernel_rfl
@[simp] theorem tyL_42 : tyL Tryz.prog 42 = some (1, false) := by kernel_rfl
@[simp] theorem nIfc_43 : nIfc Tryz.prog 43 = true := by kernel_rfl
@[simp] theorem tyL_43 : tyL Tryz.prog 43 = some (1, false) := by kernel_rfl
@[simp] theorem nIfc_44 : nIfc Tryz.prog 44 = true := by kernel_rfl
@[simp] theorem tyL_44 : tyL Tryz.prog 44 = some (1, false) := by kernel_rfl
@[simp] theorem nIfc_46 : nIfc Tryz.prog 46 = true := by kernel_rfl
@[simp] theorem tyL_46 : tyL Tryz.prog 46 = some (1, false) := by kernel_rfl
@[simp] theorem nIfc_48 : nIfc Tryz.prog 48 = true := by kernel_rfl
@[simp] theorem tyL_48 : tyL Tryz.prog 48 = some (1, false) := by kernel_rfl
@[simp] theorem nIfc_49 : nIfc Tryz.prog 49 = true := by kernel_rfl
@[simp] theorem tyL_49 : tyL Tryz.prog 49 = some (1, false) := by kernel_rfl
@[simp] theorem nIfc_50 : nIfc Tryz.prog 50 = true := by kernel_rfl
@[simp] theorem tyL_50 : tyL Tryz.prog 50 = some (1, false) := by kernel_rfl
@[simp] theorem nIfc_51 : nIfc Tryz.prog 51 = true := by kernel_rfl
@[simp] theorem tyL_51 : tyL Tryz.prog 51 = some (1, false) := by kernel_rfl
@[simp] theorem nIfc_53 : nIfc Tryz.prog 53 = true := by kernel_rfl
@[simp] theorem tyL_53 : tyL Tryz.prog 53 = some (1, false) := by kernel_rfl
@[simp] theorem nIfc_54 : nIfc Tryz.prog 54 = true := by kernel_rfl
@[simp] theorem tyL_54 : tyL Tryz.prog 54 = some (1, false) := by kernel_rfl
@[simp] theorem nIfc_55 : nIfc Tryz.prog 55 = true := by kernel_rfl
@[simp] theorem tyL_55 : tyL Tryz.prog 55 = some (1, false) := by kernel_rfl
@[simp] theorem nIfc_57 : nIfc Tryz.prog 57 = true := by kernel_rfl
@[simp] theorem tyL_57 : tyL Tryz.prog 57 = some (1, false) := by kernel_rfl
@[simp] theorem nIfc_58 : nIfc Tryz.prog 58 = true := by kernel_rfl
@[simp] theorem tyL_58 : tyL Tryz.prog 58 = some (1, false) := by kernel_rfl
@[simp] theorem nIfc_59 : nIfc Tryz.prog 59 = true := by kernel_rfl
@[simp] theorem tyL_59 : tyL Tryz.prog 59 = some (1, false) := by kernel_rfl
@[simp] theorem nIfc_60 : nIfc Tryz.prog 60 = true := by kernel_rfl
@[simp] theorem tyL_60 : tyL Tryz.prog 60 = some (3, true) := by kernel_rfl
@[simp] theorem zcells_60 : zcells Tryz.prog 60 = some [.w false false (.int .i64 (0)), .w false false (.int .i64 (0)), .w false false (.int .i64 (0))] := by kernel_rfl
@[simp] theorem slE_60 : slE Tryz.prog 60 = none := by kernel_rfl
@[simp] theorem arE_60 : arE Tryz.prog 60 = some (3, 1) := by kernel_rfl
@[simp] theorem isStr_60 : isStr Tryz.prog 60 = false := by kernel_rfl
@[simp] theorem pls_60 : pls Tryz.prog 60 = some [(0, 1), (1, 1), (2, 1)] := by kernel_rfl
@[simp] theorem eqTy_60 : eqTy Tryz.prog 60 = some [1, 1, 1] := by kernel_rfl
@[simp] theorem nIfc_61 : nIfc Tryz.prog 61 = true := by kernel_rfl
@[simp] theorem tyL_61 : tyL Tryz.prog 61 = some (8, true) := by kernel_rfl
@[simp] theorem zcells_61 : zcells Tryz.prog 61 = some [.w false false (.str ByteArray.empty), .w false false (.str ByteArray.empty), .w false false (.str ByteArray.empty), .w false false (.int .i64 (0)), .w false false (.int .i64 (0)), .w false false (.int .i64 (0)), .w false false (.str ByteArray.empty), .w false false (.str ByteArray.empty)] := by kernel_rfl
@[simp] theorem slE_61 : slE Tryz.prog 61 = none := by kernel_rfl
@[simp] theorem isStr_61 : isStr Tryz.prog 61 = false := by kernel_rfl
@[simp] theorem fOf_61_0 : fOf Tryz.prog 61 0 = some (0, 1, false) := by kernel_rfl
@[simp] theorem fOf_61_1 : fOf Tryz.prog 61 1 = some (1, 1, false) := by kernel_rfl
@[simp] theorem fOf_61_2 : fOf Tryz.prog 61 2 = some (2, 1, false) := by kernel_rfl
@[simp] theorem fOf_61_3 : fOf Tryz.prog 61 3 = some (3, 3, true) := by kernel_rfl
@[simp] theorem fOf_61_4 : fOf Tryz.prog 61 4 = some (6, 1, false) := by kernel_rfl
@[simp] theorem fOf_61_5 : fOf Tryz.prog 61 5 = some (7, 1, false) := by kernel_rfl
@[simp] theorem pls_61 : pls Tryz.prog 61 = some [(0, 1), (1, 1), (2, 1), (3, 3), (6, 1), (7, 1)] := by kernel_rfl
@[simp] theorem eqTy_61 : eqTy Tryz.prog 61 = some [2, 2, 2, 1, 1, 1, 2, 2] := by kernel_rfl
@[simp] theorem nIfc_62 : nIfc Tryz.prog 62 = true := by kernel_rfl
@[simp] theorem tyL_62 : tyL Tryz.prog 62 = some (8, true) := by kernel_rfl
@[simp] theorem zcells_62 : zcells Tryz.prog 62 = some [.w false false (.str ByteArray.empty), .w false false (.str ByteArray.empty), .w false false (.str ByteArray.empty), .w false false (.int .i64 (0)), .w false false (.int .i64 (0)), .w false false (.int .i64 (0)), .w false false (.str ByteArray.empty), .w false false (.str ByteArray.empty)] := by kernel_rfl
@[simp] theorem slE_62 : slE Tryz.prog 62 = none := by kernel_rfl
@[simp] theorem isStr_62 : isStr Tryz.prog 62 = false := by kernel_rfl
@[simp] theorem fOf_62_0 : fOf Tryz.prog 62 0 = some (0, 1, false) := by kernel_rfl
@[simp] theorem fOf_62_1 : fOf Tryz.prog 62 1 = some (1, 1, false) := by kernel_rfl
@[simp] theorem fOf_62_2 : fOf Tryz.prog 62 2 = some (2, 1, false) := by kernel_rfl
@[simp] theorem fOf_62_3 : fOf Tryz.prog 62 3 = some (3, 3, true) := by kernel_rfl
@[simp] theorem fOf_62_4 : fOf Tryz.prog 62 4 = some (6, 1, false) := by kernel_rfl
@[simp] theorem fOf_62_5 : fOf Tryz.prog 62 5 = some (7, 1, false) := by kernel_rfl
@[simp] theorem pls_62 : pls Tryz.prog 62 = some [(0, 1), (1, 1), (2, 1), (3, 3), (6, 1), (7, 1)] := by kernel_rfl
@[simp] theorem eqTy_62 : eqTy Tryz.prog 62 = some [2, 2, 2, 1, 1, 1, 2, 2] := by kernel_rfl
@[simp] theorem nIfc_63 : nIfc Tryz.prog 63 = true := by kernel_rfl
@[simp] theorem tyL_63 : tyL Tryz.prog 63 = some (5, true) := by kernel_rfl
@[simp] theorem zcells_63 : zcells Tryz.prog 63 = some [.w false false (.int .i64 (0)), .w false false (.str ByteArray.empty), .w false false (.int .i64 (0)), .w false false (.int .i64 (0)), .w false false (.int .i64 (0))] := by kernel_rfl
@[simp] theorem slE_63 : slE Tryz.prog 63 = none := by kernel_rfl
@[simp] theorem isStr_63 : isStr Tryz.prog 63 = false := by kernel_rfl
@[simp] theorem fOf_63_0 : fOf Tryz.prog 63 0 = some (0, 1, false) := by kernel_rfl
@[simp] theorem fOf_63_1 : fOf Tryz.prog 63 1 = some (1, 1, false) := by kernel_rfl
@[simp] theorem fOf_63_2 : fOf Tryz.prog 63 2 = some (2, 1, false) := by kernel_rfl
@[simp] theorem fOf_63_3 : fOf Tryz.prog 63 3 = some (3, 1, false) := by kernel_rfl
@[simp] theorem fOf_63_4 : fOf Tryz.prog 63 4 = some (4, 1, false) := by kernel_rfl
@[simp] theorem pls_63 : pls Tryz.prog 63 = some [(0, 1), (1, 1), (2, 1), (3, 1), (4, 1)] := by kernel_rfl
@[simp] theorem eqTy_63 : eqTy Tryz.prog 63 = some [1, 2, 1, 1, 1] := by kernel_rfl
@[simp] theorem nIfc_64 : nIfc Tryz.prog 64 = true := by kernel_rfl
@[simp] theorem tyL_64 : tyL Tryz.prog 64 = some (5, true) := by kernel_rfl
@[simp] theorem zcells_64 : zcells Tryz.prog 64 = some [.w false false (.int .i64 (0)), .w false false (.str ByteArray.empty), .w false false (.int .i64 (0)), .w false false (.int .i64 (0)), .w false false (.int .i64 (0))] := by kernel_rfl
@[simp] theorem slE_64 : slE Tryz.prog 64 = none := by kernel_rfl
@[simp] theorem isStr_64 : isStr Tryz.prog 64 = false := by kernel_rfl
@[simp] theorem fOf_64_0 : fOf Tryz.prog 64 0 = some (0, 1, false) := by kernel_rfl
@[simp] theorem fOf_64_1 : fOf Tryz.prog 64 1 = some (1, 1, false) := by kernel_rfl
@[simp] theorem fOf_64_2 : fOf Tryz.prog 64 2 = some (2, 1, false) := by kernel_rfl
@[simp] theorem fOf_64_3 : fOf Tryz.prog 64 3 = some (3, 1, false) := by kernel_rfl
@[simp] theorem fOf_64_4 : fOf Tryz.prog 64 4 = some (4, 1, false) := by kernel_rfl
@[simp] theorem pls_64 : pls Tryz.prog 64 = some [(0, 1), (1, 1), (2, 1), (3, 1), (4, 1)] := by kernel_rfl
@[simp] theorem eqTy_64 : eqTy Tryz.prog 64 = some [1, 2, 1, 1, 1] := by kernel_rfl
@[simp] theorem nIfc_65 : nIfc Tryz.prog 65 = true := by kernel_rfl
@[simp] theorem tyL_65 : tyL Tryz.prog 65 = some (1, false) := by kernel_rfl
@[simp] theorem nIfc_66 : nIfc Tryz.prog 66 = true := by kernel_rfl
@[simp] theorem tyL_66 : tyL Tryz.prog 66 = some (1, false) := by kernel_rfl
@[simp] theorem nIfc_67 : nIfc Tryz.prog 67 = true := by kernel_rfl
@[simp] theorem tyL_67 : tyL Tryz.prog 67 = some (1, false) := by kernel_rfl
@[simp] theorem nIfc_68 : nIfc Tryz.prog 68 = true := by kernel_rfl
@[simp] theorem tyL_68 : tyL Tryz.prog 68 = some (1, false) := by kernel_rfl
@[simp] theorem nIfc_69 : nIfc Tryz.prog 69 = true := by kernel_rfl
@[simp] theorem tyL_69 : tyL Tryz.prog 69 = some (2, true) := by kernel_rfl
@[simp] theorem zcells_69 : zcells Tryz.prog 69 = some [.w false false (.str ByteArray.empty), .w false false (.int .i64 (0))] := by kernel_rfl
@[simp] theorem slE_69 : slE Tryz.prog 69 = none := by kernel_rfl
@[simp] theorem isStr_69 : isStr Tryz.prog 69 = false := by kernel_rfl
@[simp] theorem fOf_69_0 : fOf Tryz.prog 69 0 = some (0, 1, false) := by kernel_rfl
@[simp] theorem fOf_69_1 : fOf Tryz.prog 69 1 = some (1, 1, false) := by kernel_rfl
@[simp] theorem pls_69 : pls Tryz.prog 69 = some [(0, 1), (1, 1)] := by kernel_rfl
@[simp] theorem eqTy_69 : eqTy Tryz.prog 69 = some [2, 1] := by kernel_rfl
@[simp] theorem nIfc_70 : nIfc Tryz.prog 70 = true := by kernel_rfl
@[simp] theorem tyL_70 : tyL Tryz.prog 70 = some (2, true) := by kernel_rfl
@[simp] theorem zcells_70 : zcells Tryz.prog 70 = some [.w false false (.str ByteArray.empty), .w false false (.int .i64 (0))] := by kernel_rfl
@[simp] theorem slE_70 : slE Tryz.prog 70 = none := by kernel_rfl
@[simp] theorem isStr_70 : isStr Tryz.prog 70 = false := by kernel_rfl
@[simp] theorem fOf_70_0 : fOf Tryz.prog 70 0 = some (0, 1, false) := by kernel_rfl
@[simp] theorem fOf_70_1 : fOf Tryz.prog 70 1 = some (1, 1, false) := by kernel_rfl
@[simp] theorem pls_70 : pls Tryz.prog 70 = some [(0, 1), (1, 1)] := by kernel_rfl
@[simp] theorem eqTy_70 : eqTy Tryz.prog 70 = some [2, 1] := by kernel_rfl
@[simp] theorem nIfc_71 : nIfc Tryz.prog 71 = true := by kernel_rfl
@[simp] theorem tyL_71 : tyL Tryz.prog 71 = some (1, false) := by kernel_rfl
@[simp] theorem nIfc_72 : nIfc Tryz.prog 72 = true := by kernel_rfl
@[simp] theorem tyL_72 : tyL Tryz.prog 72 = some (1, false) := by kernel_rfl
@[simp] theorem zcells_72 : zcells Tryz.prog 72 = some [.w true true (.sl 0 [])] := by kernel_rfl
@[simp] theorem slE_72 : slE Tryz.prog 72 = some (40, 3) := by kernel_rfl
@[simp] theorem byE_40 : byE Tryz.prog 40 = some 48 := by kernel_rfl
@[simp] theorem isStr_72 : isStr Tryz.prog 72 = false := by kernel_rfl
@[simp] theorem eqTy_72 : eqTy Tryz.prog 72 = none := by kernel_rfl
@[simp] theorem nIfc_73 : nIfc Tryz.prog 73 = true := by kernel_rfl
@[simp] theorem tyL_73 : tyL Tryz.prog 73 = some (3, true) := by kernel_rfl
@[simp] theorem zcells_73 : zcells Tryz.prog 73 = some [.w true true (.sl 0 []), .w true true (.sl 0 []), .w false false (.int .i64 (0))] := by kernel_rfl
@[simp] theorem slE_73 : slE Tryz.prog 73 = none := by kernel_rfl
@[simp] theorem isStr_73 : isStr Tryz.prog 73 = false := by kernel_rfl
@[simp] theorem fOf_73_0 : fOf Tryz.prog 73 0 = some (0, 1, false) := by kernel_rfl
@[simp] theorem fOf_73_1 : fOf Tryz.prog 73 1 = some (1, 1, false) := by kernel_rfl
@[simp] theorem fOf_73_2 : fOf Tryz.prog 73 2 = some (2, 1, false) := by kernel_rfl
@[simp] theorem pls_73 : pls Tryz.prog 73 = some [(0, 1), (1, 1), (2, 1)] := by kernel_rfl
@[simp] theorem nIfc_74 : nIfc Tryz.prog 74 = true := by kernel_rfl
@[simp] theorem tyL_74 : tyL Tryz.prog 74 = some (3, true) := by kernel_rfl
@[simp] theorem zcells_74 : zcells Tryz.prog 74 = some [.w true true (.sl 0 []), .w true true (.sl 0 []), .w false false (.int .i64 (0))] := by kernel_rfl
@[simp] theorem slE_74 : slE Tryz.prog 74 = none := by kernel_rfl
@[simp] theorem isStr_74 : isStr Tryz.prog 74 = false := by kernel_rfl
@[simp] theorem fOf_74_0 : fOf Tryz.prog 74 0 = some (0, 1, false) := by kernel_rfl
@[simp] theorem fOf_74_1 : fOf Tryz.prog 74 1 = some (1, 1, false) := by kernel_rfl
@[simp] theorem fOf_74_2 : fOf Tryz.prog 74 2 = some (2, 1, false) := by kernel_rfl
@[simp] theorem pls_74 : pls Tryz.prog 74 = some [(0, 1), (1, 1), (2, 1)] := by kernel_rfl
@[simp] theorem nIfc_75 : nIfc Tryz.prog 75 = true := by kernel_rfl
@[simp] theorem tyL_75 : tyL Tryz.prog 75 = some (1, false) := by kernel_rfl
@[simp] theorem nIfc_76 : nIfc Tryz.prog 76 = true := by kernel_rfl
@[simp] theorem tyL_76 : tyL Tryz.prog 76 = some (1, false) := by kernel_rfl
@[simp] theorem nIfc_77 : nIfc Tryz.prog 77 = true := by kernel_rfl
@[simp] theorem tyL_77 : tyL Tryz.prog 77 = some (1, false) := by kernel_rfl
@[simp] theorem nIfc_78 : nIfc Tryz.prog 78 = true := by kernel_rfl
@[simp] theorem tyL_78 : tyL Tryz.prog 78 = some (1, false) := by kernel_rfl
@[simp] theorem nIfc_79 : nIfc Tryz.prog 79 = true := by kernel_rfl
@[simp] theorem tyL_79 : tyL Tryz.prog 79 = some (1, false) := by kernel_rfl
@[simp] theorem nIfc_80 : nIfc Tryz.prog 80 = true := by kernel_rfl
@[simp] theorem tyL_80 : tyL Tryz.prog 80 = some (1, false) := by kernel_rfl
@[simp] theorem nIfc_81 : nIfc Tryz.prog 81 = true := by kernel_rfl
@[simp] theorem tyL_81 : tyL Tryz.prog 81 = some (1, false) := by kernel_rfl
@[simp] theorem nIfc_82 : nIfc Tryz.prog 82 = true := by kernel_rfl
@[simp] theorem tyL_82 : tyL Tryz.prog 82 = some (1, false) := by kernel_rfl
@[simp] theorem nIfc_83 : nIfc Tryz.prog 83 = true := by kernel_rfl
@[simp] theorem tyL_83 : tyL Tryz.prog 83 = some (1, false) := by kernel_rfl
@[simp] theorem nIfc_84 : nIfc Tryz.prog 84 = true := by kernel_rfl
@[simp] theorem tyL_84 : tyL Tryz.prog 84 = some (1, false) := by kernel_rfl
@[simp] theorem nIfc_85 : nIfc Tryz.prog 85 = true := by kernel_rfl
@[simp] theorem tyL_85 : tyL Tryz.prog 85 = some (2, true) := by kernel_rfl
@[simp] theorem zcells_85 : zcells Tryz.prog 85 = some [.w false false (.int .i64 (0)), .w false false (.int .i64 (0))] := by kernel_rfl
@[simp] theorem slE_85 : slE Tryz.prog 85 = none := by kernel_rfl
@[simp] theorem arE_85 : arE Tryz.prog 85 = some (2, 1) := by kernel_rfl
@[simp] theorem isStr_85 : isStr Tryz.prog 85 = false := by kernel_rfl
@[simp] theorem pls_85 : pls Tryz.prog 85 = some [(0, 1), (1, 1)] := by kernel_rfl
@[simp] theorem eqTy_85 : eqTy Tryz.prog 85 = some [1, 1] := by kernel_rfl
@[simp] theorem nIfc_86 : nIfc Tryz.prog 86 = true := by kernel_rfl
@[simp] theorem tyL_86 : tyL Tryz.prog 86 = some (1, false) := by kernel_rfl
@[simp] theorem zcells_86 : zcells Tryz.prog 86 = some [.w true true (.sl 0 [])] := by kernel_rfl
@[simp] theorem slE_86 : slE Tryz.prog 86 = some (92, 3) := by kernel_rfl
@[simp] theorem byE_92 : byE Tryz.prog 92 = some 24 := by kernel_rfl
@[simp] theorem isStr_86 : isStr Tryz.prog 86 = false := by kernel_rfl
@[simp] theorem eqTy_86 : eqTy Tryz.prog 86 = none := by kernel_rfl
@[simp] theorem nIfc_88 : nIfc Tryz.prog 88 = true := by kernel_rfl
@[simp] theorem tyL_88 : tyL Tryz.prog 88 = some (1, false) := by kernel_rfl
@[simp] theorem nIfc_89 : nIfc Tryz.prog 89 = true := by kernel_rfl
@[simp] theorem tyL_89 : tyL Tryz.prog 89 = some (1, false) := by kernel_rfl
@[simp] theorem nIfc_90 : nIfc Tryz.prog 90 = true := by kernel_rfl
@[simp] theorem tyL_90 : tyL Tryz.prog 90 = some (1, false) := by kernel_rfl
@[simp] theorem nIfc_91 : nIfc Tryz.prog 91 = true := by kernel_rfl
@[simp] theorem tyL_91 : tyL Tryz.prog 91 = some (3, true) := by kernel_rfl
@[simp] theorem zcells_91 : zcells Tryz.prog 91 = some [.w false false (.int .i64 (0)), .w false false (.int .i64 (0)), .w false false (.int .i64 (0))] := by kernel_rfl
@[simp] theorem slE_91 : slE Tryz.prog 91 = none := by kernel_rfl
@[simp] theorem isStr_91 : isStr Tryz.prog 91 = false := by kernel_rfl
@[simp] theorem fOf_91_0 : fOf Tryz.prog 91 0 = some (0, 1, false) := by kernel_rfl
@[simp] theorem fOf_91_1 : fOf Tryz.prog 91 1 = some (1, 1, false) := by kernel_rfl
@[simp] theorem fOf_91_2 : fOf Tryz.prog 91 2 = some (2, 1, false) := by kernel_rfl
@[simp] theorem pls_91 : pls Tryz.prog 91 = some [(0, 1), (1, 1), (2, 1)] := by kernel_rfl
@[simp] theorem eqTy_91 : eqTy Tryz.prog 91 = some [1, 1, 1] := by kernel_rfl
@[simp] theorem nIfc_92 : nIfc Tryz.prog 92 = true := by kernel_rfl
@[simp] theorem tyL_92 : tyL Tryz.prog 92 = some (3, true) := by kernel_rfl
@[simp] theorem zcells_92 : zcells Tryz.prog 92 = some [.w false false (.int .i64 (0)), .w false false (.int .i64 (0)), .w false false (.int .i64 (0))] := by kernel_rfl
@[simp] theorem slE_92 : slE Tryz.prog 92 = none := by kernel_rfl
@[simp] theorem isStr_92 : isStr Tryz.prog 92 = false := by kernel_rfl
@[simp] theorem fOf_92_0 : fOf Tryz.prog 92 0 = some (0, 1, false) := by kernel_rfl
@[simp] theorem fOf_92_1 : fOf Tryz.prog 92 1 = some (1, 1, false) := by kernel_rfl
@[simp] theorem fOf_92_2 : fOf Tryz.prog 92 2 = some (2, 1, false) := by kernel_rfl
@[simp] theorem pls_92 : pls Tryz.prog 92 = some [(0, 1), (1, 1), (2, 1)] := by kernel_rfl
@[simp] theorem eqTy_92 : eqTy Tryz.prog 92 = some [1, 1, 1] := by kernel_rfl
@[simp] theorem nIfc_93 : nIfc Tryz.prog 93 = true := by kernel_rfl
@[simp] theorem tyL_93 : tyL Tryz.prog 93 = some (1, false) := by kernel_rfl
@[simp] theorem nIfc_94 : nIfc Tryz.prog 94 = true := by kernel_rfl
@[simp] theorem tyL_94 : tyL Tryz.prog 94 = some (2, true) := by kernel_rfl
@[simp] theorem zcells_94 : zcells Tryz.prog 94 = some [.w false false (.int .i64 (0)), .w false false (.int .i64 (0))] := by kernel_rfl
@[simp] theorem slE_94 : slE Tryz.prog 94 = none := by kernel_rfl
@[simp] theorem isStr_94 : isStr Tryz.prog 94 = false := by kernel_rfl
@[simp] theorem fOf_94_0 : fOf Tryz.prog 94 0 = some (0, 1, false) := by kernel_rfl
@[simp] theorem fOf_94_1 : fOf Tryz.prog 94 1 = some (1, 1, false) := by kernel_rfl
@[simp] theorem pls_94 : pls Tryz.prog 94 = some [(0, 1), (1, 1)] := by kernel_rfl
@[simp] theorem eqTy_94 : eqTy Tryz.prog 94 = some [1, 1] := by kernel_rfl
@[simp] theorem nIfc_95 : nIfc Tryz.prog 95 = true := by kernel_rfl
@[simp] theorem tyL_95 : tyL Tryz.prog 95 = some (2, true) := by kernel_rfl
@[simp] theorem zcells_95 : zcells Tryz.prog 95 = some [.w false false (.int .i64 (0)), .w false false (.int .i64 (0))] := by kernel_rfl
@[simp] theorem slE_95 : slE Tryz.prog 95 = none := by kernel_rfl
@[simp] theorem isStr_95 : isStr Tryz.prog 95 = false := by kernel_rfl
@[simp] theorem fOf_95_0 : fOf Tryz.prog 95 0 = some (0, 1, false) := by kernel_rfl
@[simp] theorem fOf_95_1 : fOf Tryz.prog 95 1 = some (1, 1, false) := by kernel_rfl
@[simp] theorem pls_95 : pls Tryz.prog 95 = some [(0, 1), (1, 1)] := by kernel_rfl
@[simp] theorem eqTy_95 : eqTy Tryz.prog 95 = some [1, 1] := by kernel_rfl
@[simp] theorem nIfc_96 : nIfc Tryz.prog 96 = true := by kernel_rfl
@[simp] theorem tyL_96 : tyL Tryz.prog 96 = some (6, true) := by kernel_rfl
@[simp] theorem zcells_96 : zcells Tryz.prog 96 = some [.w false false (.int .i64 (0)), .w false false (.str ByteArray.empty), .w false false (.int .i64 (0)), .w false false (.int .i64 (0)), .w false false (.int .i64 (0)), .w false false (.int .i64 (0))] := by kernel_rfl
@[simp] theorem slE_96 : slE Tryz.prog 96 = none := by kernel_rfl
@[simp] theorem isStr_96 : isStr Tryz.prog 96 = false := by kernel_rfl
@[simp] theorem fOf_96_0 : fOf Tryz.prog 96 0 = some (0, 1, false) := by kernel_rfl
@[simp] theorem fOf_96_1 : fOf Tryz.prog 96 1 = some (1, 1, false) := by kernel_rfl
@[simp] theorem fOf_96_2 : fOf Tryz.prog 96 2 = some (2, 1, false) := by kernel_rfl
@[simp] theorem fOf_96_3 : fOf Tryz.prog 96 3 = some (3, 2, true) := by kernel_rfl
@[simp] theorem fOf_96_4 : fOf Tryz.prog 96 4 = some (5, 1, false) := by kernel_rfl
@[simp] theorem pls_96 : pls Tryz.prog 96 = some [(0, 1), (1, 1), (2, 1), (3, 2), (5, 1)] := by kernel_rfl
@[simp] theorem eqTy_96 : eqTy Tryz.prog 96 = some [1, 2, 1, 1, 1, 1] := by kernel_rfl
@[simp] theorem nIfc_97 : nIfc Tryz.prog 97 = true := by kernel_rfl
@[simp] theorem tyL_97 : tyL Tryz.prog 97 = some (6, true) := by kernel_rfl
@[simp] theorem zcells_97 : zcells Tryz.prog 97 = some [.w false false (.int .i64 (0)), .w false false (.str ByteArray.empty), .w false false (.int .i64 (0)), .w false false (.int .i64 (0)), .w false false (.int .i64 (0)), .w false false (.int .i64 (0))] := by kernel_rfl
@[simp] theorem slE_97 : slE Tryz.prog 97 = none := by kernel_rfl
@[simp] theorem isStr_97 : isStr Tryz.prog 97 = false := by kernel_rfl
@[simp] theorem fOf_97_0 : fOf Tryz.prog 97 0 = some (0, 1, false) := by kernel_rfl
@[simp] theorem fOf_97_1 : fOf Tryz.prog 97 1 = some (1, 1, false) := by kernel_rfl
@[simp] theorem fOf_97_2 : fOf Tryz.prog 97 2 = some (2, 1, false) := by kernel_rfl
@[simp] theorem fOf_97_3 : fOf Tryz.prog 97 3 = some (3, 2, true) := by kernel_rfl
@[simp] theorem fOf_97_4 : fOf Tryz.prog 97 4 = some (5, 1, false) := by kernel_rfl
@[simp] theorem pls_97 : pls Tryz.prog 97 = some [(0, 1), (1, 1), (2, 1), (3, 2), (5, 1)] := by kernel_rfl
@[simp] theorem eqTy_97 : eqTy Tryz.prog 97 = some [1, 2, 1, 1, 1, 1] := by kernel_rfl
@[simp] theorem nIfc_99 : nIfc Tryz.prog 99 = true := by kernel_rfl
@[simp] theorem tyL_99 : tyL Tryz.prog 99 = some (1, false) := by kernel_rfl
@[simp] theorem nIfc_100 : nIfc Tryz.prog 100 = true := by kernel_rfl
@[simp] theorem tyL_100 : tyL Tryz.prog 100 = some (1, false) := by kernel_rfl
@[simp] theorem nIfc_101 : nIfc Tryz.prog 101 = true := by kernel_rfl
@[simp] theorem tyL_101 : tyL Tryz.prog 101 = some (1, false) := by kernel_rfl
@[simp] theorem nIfc_102 : nIfc Tryz.prog 102 = true := by kernel_rfl
@[simp] theorem tyL_102 : tyL Tryz.prog 102 = some (1, false) := by kernel_rfl
@[simp] theorem nIfc_103 : nIfc Tryz.prog 103 = true := by kernel_rfl
@[simp] theorem tyL_103 : tyL Tryz.prog 103 = some (1, false) := by kernel_rfl
@[simp] theorem nIfc_104 : nIfc Tryz.prog 104 = true := by kernel_rfl
@[simp] theorem tyL_104 : tyL Tryz.prog 104 = some (1, false) := by kernel_rfl
@[simp] theorem nIfc_105 : nIfc Tryz.prog 105 = true := by kernel_rfl
@[simp] theorem tyL_105 : tyL Tryz.prog 105 = some (1, false) := by kernel_rfl
@[simp] theorem zcells_105 : zcells Tryz.prog 105 = some [.w true true (.sl 0 [])] := by kernel_rfl
@[simp] theorem slE_105 : slE Tryz.prog 105 = some (112, 2) := by kernel_rfl
@[simp] theorem byE_112 : byE Tryz.prog 112 = some 16 := by kernel_rfl
@[simp] theorem isStr_105 : isStr Tryz.prog 105 = false := by kernel_rfl
@[simp] theorem eqTy_105 : eqTy Tryz.prog 105 = none := by kernel_rfl
@[simp] theorem nIfc_107 : nIfc Tryz.prog 107 = true := by kernel_rfl
@[simp] theorem tyL_107 : tyL Tryz.prog 107 = some (1, false) := by kernel_rfl
@[simp] theorem nIfc_109 : nIfc Tryz.prog 109 = true := by kernel_rfl
@[simp] theorem tyL_109 : tyL Tryz.prog 109 = some (1, false) := by kernel_rfl
@[simp] theorem nIfc_110 : nIfc Tryz.prog 110 = true := by kernel_rfl
@[simp] theorem tyL_110 : tyL Tryz.prog 110 = some (1, false) := by kernel_rfl
@[simp] theorem nIfc_111 : nIfc Tryz.prog 111 = true := by kernel_rfl
@[simp] theorem tyL_111 : tyL Tryz.prog 111 = some (2, true) := by kernel_rfl
@[simp] theorem zcells_111 : zcells Tryz.prog 111 = some [.w false false (.int .i64 (0)), .w false false (.int .i64 (0))] := by kernel_rfl
@[simp] theorem slE_111 : slE Tryz.prog 111 = none := by kernel_rfl
@[simp] theorem isStr_111 : isStr Tryz.prog 111 = false := by kernel_rfl
@[simp] theorem fOf_111_0 : fOf Tryz.prog 111 0 = some (0, 1, false) := by kernel_rfl
@[simp] theorem fOf_111_1 : fOf Tryz.prog 111 1 = some (1, 1, false) := by kernel_rfl
@[simp] theorem pls_111 : pls Tryz.prog 111 = some [(0, 1), (1, 1)] := by kernel_rfl
@[simp] theorem eqTy_111 : eqTy Tryz.prog 111 = some [1, 1] := by kernel_rfl
@[simp] theorem nIfc_112 : nIfc Tryz.prog 112 = true := by kernel_rfl
@[simp] theorem tyL_112 : tyL Tryz.prog 112 = some (2, true) := by kernel_rfl
@[simp] theorem zcells_112 : zcells Tryz.prog 112 = some [.w false false (.int .i64 (0)), .w false false (.int .i64 (0))] := by kernel_rfl
@[simp] theorem slE_112 : slE Tryz.prog 112 = none := by kernel_rfl
@[simp] theorem isStr_112 : isStr Tryz.prog 112 = false := by kernel_rfl
@[simp] theorem fOf_112_0 : fOf Tryz.prog 112 0 = some (0, 1, false) := by kernel_rfl
@[simp] theorem fOf_112_1 : fOf Tryz.prog 112 1 = some (1, 1, false) := by kernel_rfl
@[simp] theorem pls_112 : pls Tryz.prog 112 = some [(0, 1), (1, 1)] := by kernel_rfl
@[simp] theorem eqTy_112 : eqTy Tryz.prog 112 = some [1, 1] := by kernel_rfl
@[simp] theorem nIfc_113 : nIfc Tryz.prog 113 = true := by kernel_rfl
@[simp] theorem tyL_113 : tyL Tryz.prog 113 = some (1, false) := by kernel_rfl
@[simp] theorem nIfc_114 : nIfc Tryz.prog 114 = true := by kernel_rfl
@[simp] theorem tyL_114 : tyL Tryz.prog 114 = some (1, false) := by kernel_rfl
@[simp] theorem nIfc_115 : nIfc Tryz.prog 115 = true := by kernel_rfl
@[simp] theorem tyL_115 : tyL Tryz.prog 115 = some (1, false) := by kernel_rfl
@[simp] theorem nIfc_116 : nIfc Tryz.prog 116 = true := by kernel_rfl
@[simp] theorem tyL_116 : tyL Tryz.prog 116 = some (1, false) := by kernel_rfl
@[simp] theorem nIfc_117 : nIfc Tryz.prog 117 = true := by kernel_rfl
@[simp] theorem tyL_117 : tyL Tryz.prog 117 = some (1, false) := by kernel_rfl
@[simp] theorem nIfc_118 : nIfc Tryz.prog 118 = true := by kernel_rfl
@[simp] theorem tyL_118 : tyL Tryz.prog 118 = some (1, false) := by kernel_rfl
@[simp] theorem nIfc_119 : nIfc Tryz.prog 119 = true := by kernel_rfl
@[simp] theorem tyL_119 : tyL Tryz.prog 119 = some (1, false) := by kernel_rfl
@[simp] theorem nIfc_120 : nIfc Tryz.prog 120 = true := by kernel_rfl
@[simp] theorem tyL_120 : tyL Tryz.prog 120 = some (1, false) := by kernel_rfl
@[simp] theorem nIfc_121 : nIfc Tryz.prog 121 = true := by kernel_rfl
@[simp] theorem tyL_121 : tyL Tryz.prog 121 = some (1, false) := by kernel_rfl
@[simp] theorem nIfc_123 : nIfc Tryz.prog 123 = true := by kernel_rfl
@[simp] theorem tyL_123 : tyL Tryz.prog 123 = some (1, false) := by kernel_rfl
@[simp] theorem nIfc_124 : nIfc Tryz.prog 124 = true := by kernel_rfl
@[simp] theorem tyL_124 : tyL Tryz.prog 124 = some (1, false) := by kernel_rfl
@[simp] theorem nIfc_126 : nIfc Tryz.prog 126 = true := by kernel_rfl
@[simp] theorem tyL_126 : tyL Tryz.prog 126 = some (1, false) := by kernel_rfl
@[simp] theorem nIfc_127 : nIfc Tryz.prog 127 = true := by kernel_rfl
@[simp] theorem tyL_127 : tyL Tryz.prog 127 = some (1, false) := by kernel_rfl
@[simp] theorem nIfc_128 : nIfc Tryz.prog 128 = true := by kernel_rfl
@[simp] theorem tyL_128 : tyL Tryz.prog 128 = some (1, false) := by kernel_rfl
@[simp] theorem nIfc_129 : nIfc Tryz.prog 129 = true := by kernel_rfl
@[simp] theorem tyL_129 : tyL Tryz.prog 129 = some (1, false) := by kernel_rfl
@[simp] theorem nIfc_130 : nIfc Tryz.prog 130 = true := by kernel_rfl
@[simp] theorem tyL_130 : tyL Tryz.prog 130 = some (1, false) := by kernel_rfl
@[simp] theorem nIfc_131 : nIfc Tryz.prog 131 = true := by kernel_rfl
@[simp] theorem tyL_131 : tyL Tryz.prog 131 = some (2, true) := by kernel_rfl
@[simp] theorem zcells_131 : zcells Tryz.prog 131 = some [.w false false (.str ByteArray.empty), .w false false (.int .i64 (0))] := by kernel_rfl
@[simp] theorem slE_131 : slE Tryz.prog 131 = none := by kernel_rfl
@[simp] theorem isStr_131 : isStr Tryz.prog 131 = false := by kernel_rfl
@[simp] theorem fOf_131_0 : fOf Tryz.prog 131 0 = some (0, 1, false) := by kernel_rfl
@[simp] theorem fOf_131_1 : fOf Tryz.prog 131 1 = some (1, 1, false) := by kernel_rfl
@[simp] theorem pls_131 : pls Tryz.prog 131 = some [(0, 1), (1, 1)] := by kernel_rfl
@[simp] theorem eqTy_131 : eqTy Tryz.prog 131 = some [2, 1] := by kernel_rfl
@[simp] theorem nIfc_132 : nIfc Tryz.prog 132 = true := by kernel_rfl
@[simp] theorem tyL_132 : tyL Tryz.prog 132 = some (2, true) := by kernel_rfl
@[simp] theorem zcells_132 : zcells Tryz.prog 132 = some [.w false false (.str ByteArray.empty), .w false false (.int .i64 (0))] := by kernel_rfl
@[simp] theorem slE_132 : slE Tryz.prog 132 = none := by kernel_rfl
@[simp] theorem isStr_132 : isStr Tryz.prog 132 = false := by kernel_rfl
@[simp] theorem fOf_132_0 : fOf Tryz.prog 132 0 = some (0, 1, false) := by kernel_rfl
@[simp] theorem fOf_132_1 : fOf Tryz.prog 132 1 = some (1, 1, false) := by kernel_rfl
@[simp] theorem pls_132 : pls Tryz.prog 132 = some [(0, 1), (1, 1)] := by kernel_rfl
@[simp] theorem eqTy_132 : eqTy Tryz.prog 132 = some [2, 1] := by kernel_rfl
@[simp] theorem nIfc_133 : nIfc Tryz.prog 133 = true := by kernel_rfl
@[simp] theorem tyL_133 : tyL Tryz.prog 133 = some (1, false) := by kernel_rfl
@[simp] theorem nIfc_134 : nIfc Tryz.prog 134 = true := by kernel_rfl
@[simp] theorem tyL_134 : tyL Tryz.prog 134 = some (1, false) := by kernel_rfl
@[simp] theorem nIfc_135 : nIfc Tryz.prog 135 = true := by kernel_rfl
@[simp] theorem tyL_135 : tyL Tryz.prog 135 = some (1, false) := by kernel_rfl
@[simp] theorem nIfc_136 : nIfc Tryz.prog 136 = true := by kernel_rfl
@[simp] theorem tyL_136 : tyL Tryz.prog 136 = some (1, false) := by kernel_rfl
@[simp] theorem nIfc_137 : nIfc Tryz.prog 137 = true := by kernel_rfl
@[simp] theorem tyL_137 : tyL Tryz.prog 137 = some (1, false) := by kernel_rfl
@[simp] theorem nIfc_138 : nIfc Tryz.prog 138 = true := by kernel_rfl
@[simp] theorem tyL_138 : tyL Tryz.prog 138 = some (1, false) := by kernel_rfl
@[simp] theorem nIfc_139 : nIfc Tryz.prog 139 = true := by kernel_rfl
@[simp] theorem tyL_139 : tyL Tryz.prog 139 = some (1, false) := by kernel_rfl
@[simp] theorem nIfc_140 : nIfc Tryz.prog 140 = true := by kernel_rfl
@[simp] theorem tyL_140 : tyL Tryz.prog 140 = some (1, false) := by kernel_rfl
@[simp] theorem nIfc_141 : nIfc Tryz.prog 141 = true := by kernel_rfl
@[simp] theorem tyL_141 : tyL Tryz.prog 141 = some (1, false) := by kernel_rfl
@[simp] theorem nIfc_142 : nIfc Tryz.prog 142 = true := by kernel_rfl
@[simp] theorem tyL_142 : tyL Tryz.prog 142 = some (1, false) := by kernel_rfl
@[simp] theorem nIfc_143 : nIfc Tryz.prog 143 = true := by kernel_rfl
@[simp] theorem tyL_143 : tyL Tryz.prog 143 = some (1, false) := by kernel_rfl
@[simp] theorem nIfc_144 : nIfc Tryz.prog 144 = true := by kernel_rfl
@[simp] theorem tyL_144 : tyL Tryz.prog 144 = some (1, false) := by kernel_rfl
@[simp] theorem nIfc_145 : nIfc Tryz.prog 145 = true := by kernel_rfl
@[simp] theorem tyL_145 : tyL Tryz.prog 145 = some (1, false) := by kernel_rfl
@[simp] theorem nIfc_146 : nIfc Tryz.prog 146 = true := by kernel_rfl
@[simp] theorem tyL_146 : tyL Tryz.prog 146 = some (1, false) := by kernel_rfl
@[simp] theorem nIfc_147 : nIfc Tryz.prog 147 = true := by kernel_rfl
@[simp] theorem tyL_147 : tyL Tryz.prog 147 = some (1, false) := by kernel_rfl
@[simp] theorem nIfc_148 : nIfc Tryz.prog 148 = true := by kernel_rfl
@[simp] theorem tyL_148 : tyL Tryz.prog 148 = some (1, false) := by kernel_rfl
@[simp] theorem nIfc_149 : nIfc Tryz.prog 149 = true := by kernel_rfl
@[simp] theorem tyL_149 : tyL Tryz.prog 149 = some (1, false) := by kernel_rfl
@[simp] theorem nIfc_150 : nIfc Tryz.prog 150 = true := by kernel_rfl
@[simp] theorem tyL_150 : tyL Tryz.prog 150 = some (1, false) := by kernel_rfl
@[simp] theorem nIfc_151 : nIfc Tryz.prog 151 = true := by kernel_rfl
@[simp] theorem tyL_151 : tyL Tryz.prog 151 = some (1, false) := by kernel_rfl
@[simp] theorem zcells_151 : zcells Tryz.prog 151 = some [.w true true (.sl 0 [])] := by kernel_rfl
@[simp] theorem slE_151 : slE Tryz.prog 151 = some (9, 1) := by kernel_rfl
@[simp] theorem byE_9 : byE Tryz.prog 9 = some 16 := by kernel_rfl
@[simp] theorem isStr_151 : isStr Tryz.prog 151 = false := by kernel_rfl
@[simp] theorem eqTy_151 : eqTy Tryz.prog 151 = none := by kernel_rfl
@[simp] theorem nIfc_152 : nIfc Tryz.prog 152 = true := by kernel_rfl
@[simp] theorem tyL_152 : tyL Tryz.prog 152 = some (1, false) := by kernel_rfl
@[simp] theorem tyL_153 : tyL Tryz.prog 153 = some (1, false) := by kernel_rfl
@[simp] theorem zcells_153 : zcells Tryz.prog 153 = some [.w true false .nili] := by kernel_rfl
@[simp] theorem eqTy_153 : eqTy Tryz.prog 153 = none := by kernel_rfl
@[simp] theorem tyL_154 : tyL Tryz.prog 154 = some (1, false) := by kernel_rfl
@[simp] theorem zcells_154 : zcells Tryz.prog 154 = some [.w true false .nili] := by kernel_rfl
@[simp] theorem eqTy_154 : eqTy Tryz.prog 154 = none := by kernel_rfl
@[simp] theorem nIfc_156 : nIfc Tryz.prog 156 = true := by kernel_rfl
@[simp] theorem tyL_156 : tyL Tryz.prog 156 = some (1, false) := by kernel_rfl
@[simp] theorem nIfc_157 : nIfc Tryz.prog 157 = true := by kernel_rfl
@[simp] theorem tyL_157 : tyL Tryz.prog 157 = some (1, false) := by kernel_rfl
@[simp] theorem zcells_157 : zcells Tryz.prog 157 = some [.w false false (.str ByteArray.empty)] := by kernel_rfl
@[simp] theorem slE_157 : slE Tryz.prog 157 = none := by kernel_rfl
@[simp] theorem isStr_157 : isStr Tryz.prog 157 = true := by kernel_rfl
@[simp] theorem eqTy_157 : eqTy Tryz.prog 157 = none := by kernel_rfl
@[simp] theorem nIfc_158 : nIfc Tryz.prog 158 = true := by kernel_rfl
@[simp] theorem tyL_158 : tyL Tryz.prog 158 = some (1, false) := by kernel_rfl
@[simp] theorem nIfc_159 : nIfc Tryz.prog 159 = true := by kernel_rfl
@[simp] theorem tyL_159 : tyL Tryz.prog 159 = some (1, false) := by kernel_rfl
@[simp] theorem zcells_159 : zcells Tryz.prog 159 = some [.w true false .nilp] := by kernel_rfl
@[simp] theorem slE_159 : slE Tryz.prog 159 = none := by kernel_rfl
@[simp] theorem isStr_159 : isStr Tryz.prog 159 = false := by kernel_rfl
@[simp] theorem eqTy_159 : eqTy Tryz.prog 159 = none := by kernel_rfl
@[simp] theorem nIfc_160 : nIfc Tryz.prog 160 = true := by kernel_rfl
@[simp] theorem tyL_160 : tyL Tryz.prog 160 = some (1, false) := by kernel_rfl
@[simp] theorem nIfc_161 : nIfc Tryz.prog 161 = true := by kernel_rfl
@[simp] theorem tyL_161 : tyL Tryz.prog 161 = some (1, false) := by kernel_rfl
@[simp] theorem nIfc_163 : nIfc Tryz.prog 163 = true := by kernel_rfl
@[simp] theorem tyL_163 : tyL Tryz.prog 163 = some (1, false) := by kernel_rfl
@[simp] theorem nIfc_164 : nIfc Tryz.prog 164 = true := by kernel_rfl
@[simp] theorem tyL_164 : tyL Tryz.prog 164 = some (1, false) := by kernel_rfl
@[simp] theorem nIfc_165 : nIfc Tryz.prog 165 = true := by kernel_rfl
@[simp] theorem tyL_165 : tyL Tryz.prog 165 = some (1, false) := by kernel_rfl
@[simp] theorem zcells_165 : zcells Tryz.prog 165 = some [.w true true (.sl 0 [])] := by kernel_rfl
@[simp] theorem slE_165 : slE Tryz.prog 165 = some (132, 2) := by kernel_rfl
@[simp] theorem isStr_165 : isStr Tryz.prog 165 = false := by kernel_rfl
@[simp] theorem eqTy_165 : eqTy Tryz.prog 165 = none := by kernel_rfl
@[simp] theorem nIfc_166 : nIfc Tryz.prog 166 = true := by kernel_rfl
@[simp] theorem tyL_166 : tyL Tryz.prog 166 = some (1, false) := by kernel_rfl
@[simp] theorem nIfc_167 : nIfc Tryz.prog 167 = true := by kernel_rfl
@[simp] theorem tyL_167 : tyL Tryz.prog 167 = some (1, false) := by kernel_rfl
@[simp] theorem nIfc_168 : nIfc Tryz.prog 168 = true := by kernel_rfl
@[simp] theorem tyL_168 : tyL Tryz.prog 168 = some (1, false) := by kernel_rfl
@[simp] theorem nIfc_169 : nIfc Tryz.prog 169 = true := by kernel_rfl
@[simp] theorem tyL_169 : tyL Tryz.prog 169 = some (1, false) := by kernel_rfl
@[simp] theorem nIfc_170 : nIfc Tryz.prog 170 = true := by kernel_rfl
@[simp] theorem tyL_170 : tyL Tryz.prog 170 = some (1, false) := by kernel_rfl
@[simp] theorem nIfc_171 : nIfc Tryz.prog 171 = true := by kernel_rfl
@[simp] theorem tyL_171 : tyL Tryz.prog 171 = some (1, false) := by kernel_rfl
@[simp] theorem nIfc_172 : nIfc Tryz.prog 172 = true := by kernel_rfl
@[simp] theorem tyL_172 : tyL Tryz.prog 172 = some (3, true) := by kernel_rfl
@[simp] theorem zcells_172 : zcells Tryz.prog 172 = some [.w false false (.int .i64 (0)), .w false false (.str ByteArray.empty), .w true true (.sl 0 [])] := by kernel_rfl
@[simp] theorem slE_172 : slE Tryz.prog 172 = none := by kernel_rfl
@[simp] theorem isStr_172 : isStr Tryz.prog 172 = false := by kernel_rfl
@[simp] theorem fOf_172_0 : fOf Tryz.prog 172 0 = some (0, 3, true) := by kernel_rfl
@[simp] theorem pls_172 : pls Tryz.prog 172 = some [(0, 3)] := by kernel_rfl
@[simp] theorem nIfc_173 : nIfc Tryz.prog 173 = true := by kernel_rfl
@[simp] theorem tyL_173 : tyL Tryz.prog 173 = some (3, true) := by kernel_rfl
@[simp] theorem zcells_173 : zcells Tryz.prog 173 = some [.w false false (.int .i64 (0)), .w false false (.str ByteArray.empty), .w true true (.sl 0 [])] := by kernel_rfl
@[simp] theorem slE_173 : slE Tryz.prog 173 = none := by kernel_rfl
@[simp] theorem isStr_173 : isStr Tryz.prog 173 = false := by kernel_rfl
@[simp] theorem fOf_173_0 : fOf Tryz.prog 173 0 = some (0, 3, true) := by kernel_rfl
@[simp] theorem pls_173 : pls Tryz.prog 173 = some [(0, 3)] := by kernel_rfl
@[simp] theorem nIfc_174 : nIfc Tryz.prog 174 = true := by kernel_rfl
@[simp] theorem tyL_174 : tyL Tryz.prog 174 = some (1, false) := by kernel_rfl
@[simp] theorem nIfc_175 : nIfc Tryz.prog 175 = true := by kernel_rfl
@[simp] theorem tyL_175 : tyL Tryz.prog 175 = some (1, false) := by kernel_rfl
@[simp] theorem nIfc_176 : nIfc Tryz.prog 176 = true := by kernel_rfl
@[simp] theorem tyL_176 : tyL Tryz.prog 176 = some (1, false) := by kernel_rfl
@[simp] theorem nIfc_177 : nIfc Tryz.prog 177 = true := by kernel_rfl
@[simp] theorem tyL_177 : tyL Tryz.prog 177 = some (5, true) := by kernel_rfl
@[simp] theorem zcells_177 : zcells Tryz.prog 177 = some [.w false false (.str ByteArray.empty), .w false false (.str ByteArray.empty), .w false false (.str ByteArray.empty), .w false false (.str ByteArray.empty), .w false false (.str ByteArray.empty)] := by kernel_rfl
@[simp] theorem slE_177 : slE Tryz.prog 177 = none := by kernel_rfl
@[simp] theorem arE_177 : arE Tryz.prog 177 = some (5, 1) := by kernel_rfl
@[simp] theorem isStr_177 : isStr Tryz.prog 177 = false := by kernel_rfl
@[simp] theorem pls_177 : pls Tryz.prog 177 = some [(0, 1), (1, 1), (2, 1), (3, 1), (4, 1)] := by kernel_rfl
@[simp] theorem eqTy_177 : eqTy Tryz.prog 177 = some [2, 2, 2, 2, 2] := by kernel_rfl
@[simp] theorem nIfc_178 : nIfc Tryz.prog 178 = true := by kernel_rfl
@[simp] theorem tyL_178 : tyL Tryz.prog 178 = some (1, false) := by kernel_rfl
@[simp] theorem nIfc_179 : nIfc Tryz.prog 179 = true := by kernel_rfl
@[simp] theorem tyL_179 : tyL Tryz.prog 179 = some (3, true) := by kernel_rfl
@[simp] theorem zcells_179 : zcells Tryz.prog 179 = some [.w true true (.sl 0 []), .w true true (.sl 0 []), .w false false (.int .i64 (0))] := by kernel_rfl
@[simp] theorem slE_179 : slE Tryz.prog 179 = none := by kernel_rfl
@[simp] theorem isStr_179 : isStr Tryz.prog 179 = false := by kernel_rfl
@[simp] theorem fOf_179_0 : fOf Tryz.prog 179 0 = some (0, 3, true) := by kernel_rfl
@[simp] theorem pls_179 : pls Tryz.prog 179 = some [(0, 3)] := by kernel_rfl
@[simp] theorem nIfc_180 : nIfc Tryz.prog 180 = true := by kernel_rfl
@[simp] theorem tyL_180 : tyL Tryz.prog 180 = some (3, true) := by kernel_rfl
@[simp] theorem zcells_180 : zcells Tryz.prog 180 = some [.w true true (.sl 0 []), .w true true (.sl 0 []), .w false false (.int .i64 (0))] := by kernel_rfl
@[simp] theorem slE_180 : slE Tryz.prog 180 = none := by kernel_rfl
@[simp] theorem isStr_180 : isStr Tryz.prog 180 = false := by kernel_rfl
@[simp] theorem fOf_180_0 : fOf Tryz.prog 180 0 = some (0, 3, true) := by kernel_rfl
@[simp] theorem pls_180 : pls Tryz.prog 180 = some [(0, 3)] := by kernel_rfl
@[simp] theorem nIfc_182 : nIfc Tryz.prog 182 = true := by kernel_rfl
@[simp] theorem tyL_182 : tyL Tryz.prog 182 = some (1, false) := by kernel_rfl
@[simp] theorem nIfc_183 : nIfc Tryz.prog 183 = true := by kernel_rfl
@[simp] theorem tyL_183 : tyL Tryz.prog 183 = some (1, false) := by kernel_rfl
@[simp] theorem nIfc_184 : nIfc Tryz.prog 184 = true := by kernel_rfl
@[simp] theorem tyL_184 : tyL Tryz.prog 184 = some (1, false) := by kernel_rfl
@[simp] theorem nIfc_185 : nIfc Tryz.prog 185 = true := by kernel_rfl
@[simp] theorem tyL_185 : tyL Tryz.prog 185 = some (1, false) := by kernel_rfl
@[simp] theorem nIfc_186 : nIfc Tryz.prog 186 = true := by kernel_rfl
@[simp] theorem tyL_186 : tyL Tryz.prog 186 = some (1, false) := by kernel_rfl
@[simp] theorem nIfc_187 : nIfc Tryz.prog 187 = true := by kernel_rfl
@[simp] theorem tyL_187 : tyL Tryz.prog 187 = some (2, true) := by kernel_rfl
@[simp] theorem zcells_187 : zcells Tryz.prog 187 = some [.w true true (.sl 0 []), .w false false (.int .i64 (0))] := by kernel_rfl
@[simp] theorem slE_187 : slE Tryz.prog 187 = none := by kernel_rfl
@[simp] theorem isStr_187 : isStr Tryz.prog 187 = false := by kernel_rfl
@[simp] theorem fOf_187_0 : fOf Tryz.prog 187 0 = some (0, 1, false) := by kernel_rfl
@[simp] theorem fOf_187_1 : fOf Tryz.prog 187 1 = some (1, 1, false) := by kernel_rfl
@[simp] theorem pls_187 : pls Tryz.prog 187 = some [(0, 1), (1, 1)] := by kernel_rfl
@[simp] theorem nIfc_188 : nIfc Tryz.prog 188 = true := by kernel_rfl
@[simp] theorem tyL_188 : tyL Tryz.prog 188 = some (2, true) := by kernel_rfl
@[simp] theorem zcells_188 : zcells Tryz.prog 188 = some [.w true true (.sl 0 []), .w false false (.int .i64 (0))] := by kernel_rfl
@[simp] theorem slE_188 : slE Tryz.prog 188 = none := by kernel_rfl
@[simp] theorem isStr_188 : isStr Tryz.prog 188 = false := by kernel_rfl
@[simp] theorem fOf_188_0 : fOf Tryz.prog 188 0 = some (0, 1, false) := by kernel_rfl
@[simp] theorem fOf_188_1 : fOf Tryz.prog 188 1 = some (1, 1, false) := by kernel_rfl
@[simp] theorem pls_188 : pls Tryz.prog 188 = some [(0, 1), (1, 1)] := by kernel_rfl
@[simp] theorem nIfc_189 : nIfc Tryz.prog 189 = true := by kernel_rfl
@[simp] theorem tyL_189 : tyL Tryz.prog 189 = some (1, false) := by kernel_rfl
@[simp] theorem nIfc_190 : nIfc Tryz.prog 190 = true := by kernel_rfl
@[simp] theorem tyL_190 : tyL Tryz.prog 190 = some (1, false) := by kernel_rfl
@[simp] theorem zcells_190 : zcells Tryz.prog 190 = some [.w false false .undef] := by kernel_rfl
@[simp] theorem slE_190 : slE Tryz.prog 190 = none := by kernel_rfl
@[simp] theorem isStr_190 : isStr Tryz.prog 190 = false := by kernel_rfl
@[simp] theorem eqTy_190 : eqTy Tryz.prog 190 = none := by kernel_rfl
@[simp] theorem nIfc_191 : nIfc Tryz.prog 191 = true := by kernel_rfl
@[simp] theorem tyL_191 : tyL Tryz.prog 191 = some (1, false) := by kernel_rfl
@[simp] theorem nIfc_192 : nIfc Tryz.prog 192 = true := by kernel_rfl
@[simp] theorem tyL_192 : tyL Tryz.prog 192 = some (1, false) := by kernel_rfl
@[simp] theorem nIfc_193 : nIfc Tryz.prog 193 = true := by kernel_rfl
@[simp] theorem tyL_193 : tyL Tryz.prog 193 = some (1, false) := by kernel_rfl
@[simp] theorem nIfc_194 : nIfc Tryz.prog 194 = true := by kernel_rfl
@[simp] theorem tyL_194 : tyL Tryz.prog 194 = some (1, false) := by kernel_rfl
@[simp] theorem nIfc_195 : nIfc Tryz.prog 195 = true := by kernel_rfl
@[simp] theorem tyL_195 : tyL Tryz.prog 195 = some (1, false) := by kernel_rfl
@[simp] theorem nIfc_196 : nIfc Tryz.prog 196 = true := by kernel_rfl
@[simp] theorem tyL_196 : tyL Tryz.prog 196 = some (1, false) := by kernel_rfl
@[simp] theorem nIfc_197 : nIfc Tryz.prog 197 = true := by kernel_rfl
@[simp] theorem tyL_197 : tyL Tryz.prog 197 = some (1, false) := by kernel_rfl
@[simp] theorem nIfc_198 : nIfc Tryz.prog 198 = true := by kernel_rfl
@[simp] theorem tyL_198 : tyL Tryz.prog 198 = some (1, false) := by kernel_rfl
@[simp] theorem zcells_198 : zcells Tryz.prog 198 = some [.w true true (.sl 0 [])] := by kernel_rfl
@[simp] theorem slE_198 : slE Tryz.prog 198 = some (24, 1) := by kernel_rfl
@[simp] theorem byE_24 : byE Tryz.prog 24 = some 8 := by kernel_rfl
@[simp] theorem isStr_198 : isStr Tryz.prog 198 = false := by kernel_rfl
@[simp] theorem eqTy_198 : eqTy Tryz.prog 198 = none := by kernel_rfl
@[simp] theorem nIfc_199 : nIfc Tryz.prog 199 = true := by kernel_rfl
@[simp] theorem tyL_199 : tyL Tryz.prog 199 = some (1, false) := by kernel_rfl
@[simp] theorem nIfc_200 : nIfc Tryz.prog 200 = true := by kernel_rfl
@[simp] theorem tyL_200 : tyL Tryz.prog 200 = some (1, false) := by kernel_rfl
@[simp] theorem zcells_200 : zcells Tryz.prog 200 = some [.w true true (.sl 0 [])] := by kernel_rfl
@[simp] theorem slE_200 : slE Tryz.prog 200 = some (201, 1) := by kernel_rfl
@[simp] theorem byE_201 : byE Tryz.prog 201 = some 8 := by kernel_rfl
@[simp] theorem isStr_200 : isStr Tryz.prog 200 = false := by kernel_rfl
@[simp] theorem eqTy_200 : eqTy Tryz.prog 200 = none := by kernel_rfl
@[simp] theorem nIfc_201 : nIfc Tryz.prog 201 = true := by kernel_rfl
@[simp] theorem tyL_201 : tyL Tryz.prog 201 = some (1, false) := by kernel_rfl
@[simp] theorem zcells_201 : zcells Tryz.prog 201 = some [.w false false (.int .u64 (0))] := by kernel_rfl
@[simp] theorem slE_201 : slE Tryz.prog 201 = none := by kernel_rfl
@[simp] theorem isStr_201 : isStr Tryz.prog 201 = false := by kernel_rfl
@[simp] theorem kindOf_201 : kindOf Tryz.prog 201 = some .u64 := by kernel_rfl
@[simp] theorem eqTy_201 : eqTy Tryz.prog 201 = none := by kernel_rfl
@[simp] theorem nIfc_203 : nIfc Tryz.prog 203 = true := by kernel_rfl
@[simp] theorem tyL_203 : tyL Tryz.prog 203 = some (1, false) := by kernel_rfl
@[simp] theorem nIfc_204 : nIfc Tryz.prog 204 = true := by kernel_rfl
@[simp] theorem tyL_204 : tyL Tryz.prog 204 = some (1, false) := by kernel_rfl
@[simp] theorem nIfc_205 : nIfc Tryz.prog 205 = true := by kernel_rfl
@[simp] theorem tyL_205 : tyL Tryz.prog 205 = some (1, false) := by kernel_rfl
@[simp] theorem nIfc_206 : nIfc Tryz.prog 206 = true := by kernel_rfl
@[simp] theorem tyL_206 : tyL Tryz.prog 206 = some (1, false) := by kernel_rfl
@[simp] theorem nIfc_207 : nIfc Tryz.prog 207 = true := by kernel_rfl
@[simp] theorem tyL_207 : tyL Tryz.prog 207 = some (1, false) := by kernel_rfl
@[simp] theorem nIfc_208 : nIfc Tryz.prog 208 = true := by kernel_rfl
@[simp] theorem tyL_208 : tyL Tryz.prog 208 = some (1, false) := by kernel_rfl
@[simp] theorem zcells_208 : zcells Tryz.prog 208 = some [.w true false .nilp] := by kernel_rfl
@[simp] theorem slE_208 : slE Tryz.prog 208 = none := by kernel_rfl
@[simp] theorem isStr_208 : isStr Tryz.prog 208 = false := by kernel_rfl
@[simp] theorem eqTy_208 : eqTy Tryz.prog 208 = none := by kernel_rfl
@[simp] theorem nIfc_209 : nIfc Tryz.prog 209 = true := by kernel_rfl
@[simp] theorem tyL_209 : tyL Tryz.prog 209 = some (1, false) := by kernel_rfl
@[simp] theorem zcells_209 : zcells Tryz.prog 209 = some [.w true true (.sl 0 [])] := by kernel_rfl
@[simp] theorem slE_209 : slE Tryz.prog 209 = some (5, 1) := by kernel_rfl
@[simp] theorem byE_5 : byE Tryz.prog 5 = some 1 := by kernel_rfl
@[simp] theorem isStr_209 : isStr Tryz.prog 209 = false := by kernel_rfl
@[simp] theorem eqTy_209 : eqTy Tryz.prog 209 = none := by kernel_rfl
@[simp] theorem nIfc_210 : nIfc Tryz.prog 210 = true := by kernel_rfl
@[simp] theorem tyL_210 : tyL Tryz.prog 210 = some (2, true) := by kernel_rfl
@[simp] theorem zcells_210 : zcells Tryz.prog 210 = some [.w true false .nilp, .w true true (.sl 0 [])] := by kernel_rfl
@[simp] theorem slE_210 : slE Tryz.prog 210 = none := by kernel_rfl
@[simp] theorem isStr_210 : isStr Tryz.prog 210 = false := by kernel_rfl
@[simp] theorem fOf_210_0 : fOf Tryz.prog 210 0 = some (0, 1, false) := by kernel_rfl
@[simp] theorem fOf_210_1 : fOf Tryz.prog 210 1 = some (1, 1, false) := by kernel_rfl
@[simp] theorem pls_210 : pls Tryz.prog 210 = some [(0, 1), (1, 1)] := by kernel_rfl
@[simp] theorem nIfc_211 : nIfc Tryz.prog 211 = true := by kernel_rfl
@[simp] theorem tyL_211 : tyL Tryz.prog 211 = some (2, true) := by kernel_rfl
@[simp] theorem zcells_211 : zcells Tryz.prog 211 = some [.w true false .nilp, .w true true (.sl 0 [])] := by kernel_rfl
@[simp] theorem slE_211 : slE Tryz.prog 211 = none := by kernel_rfl
@[simp] theorem isStr_211 : isStr Tryz.prog 211 = false := by kernel_rfl
@[simp] theorem fOf_211_0 : fOf Tryz.prog 211 0 = some (0, 1, false) := by kernel_rfl
@[simp] theorem fOf_211_1 : fOf Tryz.prog 211 1 = some (1, 1, false) := by kernel_rfl
@[simp] theorem pls_211 : pls Tryz.prog 211 = some [(0, 1), (1, 1)] := by kernel_rfl
@[simp] theorem nIfc_212 : nIfc Tryz.prog 212 = true := by kernel_rfl
@[simp] theorem tyL_212 : tyL Tryz.prog 212 = some (1, false) := by kernel_rfl
@[simp] theorem nIfc_214 : nIfc Tryz.prog 214 = true := by kernel_rfl
@[simp] theorem tyL_214 : tyL Tryz.prog 214 = some (1, false) := by kernel_rfl
@[simp] theorem nIfc_215 : nIfc Tryz.prog 215 = true := by kernel_rfl
@[simp] theorem tyL_215 : tyL Tryz.prog 215 = some (1, false) := by kernel_rfl
@[simp] theorem nIfc_216 : nIfc Tryz.prog 216 = true := by kernel_rfl
@[simp] theorem tyL_216 : tyL Tryz.prog 216 = some (1, false) := by kernel_rfl
@[simp] theorem nIfc_218 : nIfc Tryz.prog 218 = true := by kernel_rfl
@[simp] theorem tyL_218 : tyL Tryz.prog 218 = some (1, false) := by kernel_rfl
@[simp] theorem nIfc_220 : nIfc Tryz.prog 220 = true := by kernel_rfl
@[simp] theorem tyL_220 : tyL Tryz.prog 220 = some (1, false) := by kernel_rfl
@[simp] theorem zcells_220 : zcells Tryz.prog 220 = some [.w false false (.int .u64 (0))] := by kernel_rfl
@[simp] theorem slE_220 : slE Tryz.prog 220 = none := by kernel_rfl
@[simp] theorem isStr_220 : isStr Tryz.prog 220 = false := by kernel_rfl
@[simp] theorem kindOf_220 : kindOf Tryz.prog 220 = some .u64 := by kernel_rfl
@[simp] theorem eqTy_220 : eqTy Tryz.prog 220 = none := by kernel_rfl
@[simp] theorem nIfc_222 : nIfc Tryz.prog 222 = true := by kernel_rfl
@[simp] theorem tyL_222 : tyL Tryz.prog 222 = some (3, true) := by kernel_rfl
@[simp] theorem zcells_222 : zcells Tryz.prog 222 = some [.w true false .nilp, .w true false .nilp, .w false false (.int .u64 (0))] := by kernel_rfl
@[simp] theorem slE_222 : slE Tryz.prog 222 = none := by kernel_rfl
@[simp] theorem isStr_222 : isStr Tryz.prog 222 = false := by kernel_rfl
@[simp] theorem fOf_222_0 : fOf Tryz.prog 222 0 = some (0, 1, false) := by kernel_rfl
@[simp] theorem fOf_222_1 : fOf Tryz.prog 222 1 = some (1, 1, false) := by kernel_rfl
@[simp] theorem fOf_222_2 : fOf Tryz.prog 222 2 = some (2, 1, false) := by kernel_rfl
@[simp] theorem pls_222 : pls Tryz.prog 222 = some [(0, 1), (1, 1), (2, 1)] := by kernel_rfl
@[simp] theorem nIfc_223 : nIfc Tryz.prog 223 = true := by kernel_rfl
@[simp] theorem tyL_223 : tyL Tryz.prog 223 = some (1, false) := by kernel_rfl
@[simp] theorem tyL_225 : tyL Tryz.prog 225 = some (1, false) := by kernel_rfl
@[simp] theorem zcells_225 : zcells Tryz.prog 225 = some [.w true false .nili] := by kernel_rfl
@[simp] theorem eqTy_225 : eqTy Tryz.prog 225 = none := by kernel_rfl
@[simp] theorem nIfc_226 : nIfc Tryz.prog 226 = true := by kernel_rfl
@[simp] theorem tyL_226 : tyL Tryz.prog 226 = some (1, false) := by kernel_rfl
@[simp] theorem nIfc_229 : nIfc Tryz.prog 229 = true := by kernel_rfl
@[simp] theorem tyL_229 : tyL Tryz.prog 229 = some (1, false) := by kernel_rfl
@[simp] theorem nIfc_230 : nIfc Tryz.prog 230 = true := by kernel_rfl
@[simp] theorem tyL_230 : tyL Tryz.prog 230 = some (1, false) := by kernel_rfl
@[simp] theorem nIfc_231 : nIfc Tryz.prog 231 = true := by kernel_rfl
@[simp] theorem tyL_231 : tyL Tryz.prog 231 = some (1, false) := by kernel_rfl
@[simp] theorem zcells_231 : zcells Tryz.prog 231 = some [.w true false .nilp] := by kernel_rfl
@[simp] theorem slE_231 : slE Tryz.prog 231 = none := by kernel_rfl
@[simp] theorem isStr_231 : isStr Tryz.prog 231 = false := by kernel_rfl
@[simp] theorem eqTy_231 : eqTy Tryz.prog 231 = none := by kernel_rfl
@[simp] theorem nIfc_232 : nIfc Tryz.prog 232 = true := by kernel_rfl
@[simp] theorem tyL_232 : tyL Tryz.prog 232 = some (3, true) := by kernel_rfl
@[simp] theorem zcells_232 : zcells Tryz.prog 232 = some [.w false false (.str ByteArray.empty), .w false false (.str ByteArray.empty), .w false false (.str ByteArray.empty)] := by kernel_rfl
@[simp] theorem slE_232 : slE Tryz.prog 232 = none := by kernel_rfl
@[simp] theorem arE_232 : arE Tryz.prog 232 = some (3, 1) := by kernel_rfl
@[simp] theorem isStr_232 : isStr Tryz.prog 232 = false := by kernel_rfl
@[simp] theorem pls_232 : pls Tryz.prog 232 = some [(0, 1), (1, 1), (2, 1)] := by kernel_rfl
@[simp] theorem eqTy_232 : eqTy Tryz.prog 232 = some [2, 2, 2] := by kernel_rfl
@[simp] theorem nIfc_233 : nIfc Tryz.prog 233 = true := by kernel_rfl
@[simp] theorem tyL_233 : tyL Tryz.prog 233 = some (1, false) := by kernel_rfl
@[simp] theorem nIfc_234 : nIfc Tryz.prog 234 = true := by kernel_rfl
@[simp] theorem tyL_234 : tyL Tryz.prog 234 = some (1, false) := by kernel_rfl
@[simp] theorem nIfc_235 : nIfc Tryz.prog 235 = true := by kernel_rfl
@[simp] theorem tyL_235 : tyL Tryz.prog 235 = some (1, false) := by kernel_rfl
@[simp] theorem nIfc_236 : nIfc Tryz.prog 236 = true := by kernel_rfl
@[simp] theorem tyL_236 : tyL Tryz.prog 236 = some (1, false) := by kernel_rfl
@[simp] theorem zcells_236 : zcells Tryz.prog 236 = some [.w true false .nilp] := by kernel_rfl
@[simp] theorem slE_236 : slE Tryz.prog 236 = none := by kernel_rfl
@[simp] theorem isStr_236 : isStr Tryz.prog 236 = false := by kernel_rfl
@[simp] theorem eqTy_236 : eqTy Tryz.prog 236 = none := by kernel_rfl
@[simp] theorem nIfc_237 : nIfc Tryz.prog 237 = true := by kernel_rfl
@[simp] theorem tyL_237 : tyL Tryz.prog 237 = some (1, false) := by kernel_rfl
@[simp] theorem zcells_237 : zcells Tryz.prog 237 = some [.w false false (.int .u64 (0))] := by kernel_rfl
@[simp] theorem slE_237 : slE Tryz.prog 237 = none := by kernel_rfl
@[simp] theorem isStr_237 : isStr Tryz.prog 237 = false := by kernel_rfl
@[simp] theorem kindOf_237 : kindOf Tryz.prog 237 = some .u64 := by kernel_rfl
@[simp] theorem eqTy_237 : eqTy Tryz.prog 237 = none := by kernel_rfl
@[simp] theorem nIfc_238 : nIfc Tryz.prog 238 = true := by kernel_rfl
@[simp] theorem tyL_238 : tyL Tryz.prog 238 = some (1, false) := by kernel_rfl
@[simp] theorem nIfc_239 : nIfc Tryz.prog 239 = true := by kernel_rfl
@[simp] theorem tyL_239 : tyL Tryz.prog 239 = some (1, false) := by kernel_rfl
@[simp] theorem nIfc_240 : nIfc Tryz.prog 240 = true := by kernel_rfl
@[simp] theorem tyL_240 : tyL Tryz.prog 240 = some (1, false) := by kernel_rfl
@[simp] theorem nIfc_241 : nIfc Tryz.prog 241 = true := by kernel_rfl
@[simp] theorem tyL_241 : tyL Tryz.prog 241 = some (1, false) := by kernel_rfl
@[simp] theorem nIfc_242 : nIfc Tryz.prog 242 = true := by kernel_rfl
@[simp] theorem tyL_242 : tyL Tryz.prog 242 = some (1, false) := by kernel_rfl
@[simp] theorem nIfc_243 : nIfc Tryz.prog 243 = true := by kernel_rfl
@[simp] theorem tyL_243 : tyL Tryz.prog 243 = some (1, false) := by kernel_rfl
@[simp] theorem nIfc_244 : nIfc Tryz.prog 244 = true := by kernel_rfl
@[simp] theorem tyL_244 : tyL Tryz.prog 244 = some (1, false) := by kernel_rfl
@[simp] theorem nIfc_245 : nIfc Tryz.prog 245 = true := by kernel_rfl
@[simp] theorem tyL_245 : tyL Tryz.prog 245 = some (1, false) := by kernel_rfl
@[simp] theorem nIfc_246 : nIfc Tryz.prog 246 = true := by kernel_rfl
@[simp] theorem tyL_246 : tyL Tryz.prog 246 = some (2, true) := by kernel_rfl
@[simp] theorem zcells_246 : zcells Tryz.prog 246 = some [.w false false .undef, .w false false .undef] := by kernel_rfl
@[simp] theorem slE_246 : slE Tryz.prog 246 = none := by kernel_rfl
@[simp] theorem isStr_246 : isStr Tryz.prog 246 = false := by kernel_rfl
@[simp] theorem fOf_246_0 : fOf Tryz.prog 246 0 = some (0, 1, false) := by kernel_rfl
@[simp] theorem fOf_246_1 : fOf Tryz.prog 246 1 = some (1, 1, false) := by kernel_rfl
@[simp] theorem pls_246 : pls Tryz.prog 246 = some [(0, 1), (1, 1)] := by kernel_rfl
@[simp] theorem nIfc_247 : nIfc Tryz.prog 247 = true := by kernel_rfl
@[simp] theorem tyL_247 : tyL Tryz.prog 247 = some (2, true) := by kernel_rfl
@[simp] theorem zcells_247 : zcells Tryz.prog 247 = some [.w false false .undef, .w false false .undef] := by kernel_rfl
@[simp] theorem slE_247 : slE Tryz.prog 247 = none := by kernel_rfl
@[simp] theorem isStr_247 : isStr Tryz.prog 247 = false := by kernel_rfl
@[simp] theorem fOf_247_0 : fOf Tryz.prog 247 0 = some (0, 1, false) := by kernel_rfl
@[simp] theorem fOf_247_1 : fOf Tryz.prog 247 1 = some (1, 1, false) := by kernel_rfl
@[simp] theorem pls_247 : pls Tryz.prog 247 = some [(0, 1), (1, 1)] := by kernel_rfl
@[simp] theorem nIfc_248 : nIfc Tryz.prog 248 = true := by kernel_rfl
@[simp] theorem tyL_248 : tyL Tryz.prog 248 = some (1, false) := by kernel_rfl
@[simp] theorem nIfc_249 : nIfc Tryz.prog 249 = true := by kernel_rfl
@[simp] theorem tyL_249 : tyL Tryz.prog 249 = some (1, false) := by kernel_rfl
@[simp] theorem nIfc_250 : nIfc Tryz.prog 250 = true := by kernel_rfl
@[simp] theorem tyL_250 : tyL Tryz.prog 250 = some (1, false) := by kernel_rfl
@[simp] theorem nIfc_251 : nIfc Tryz.prog 251 = true := by kernel_rfl
@[simp] theorem tyL_251 : tyL Tryz.prog 251 = some (1, false) := by kernel_rfl
@[simp] theorem zcells_251 : zcells Tryz.prog 251 = some [.w true false .nilp] := by kernel_rfl
@[simp] theorem slE_251 : slE Tryz.prog 251 = none := by kernel_rfl
@[simp] theorem isStr_251 : isStr Tryz.prog 251 = false := by kernel_rfl
@[simp] theorem eqTy_251 : eqTy Tryz.prog 251 = none := by kernel_rfl
@[simp] theorem nIfc_252 : nIfc Tryz.prog 252 = true := by kernel_rfl
@[simp] theorem tyL_252 : tyL Tryz.prog 252 = some (1, false) := by kernel_rfl
@[simp] theorem nIfc_253 : nIfc Tryz.prog 253 = true := by kernel_rfl
@[simp] theorem tyL_253 : tyL Tryz.prog 253 = some (1, false) := by kernel_rfl
@[simp] theorem nIfc_255 : nIfc Tryz.prog 255 = true := by kernel_rfl
@[simp] theorem tyL_255 : tyL Tryz.prog 255 = some (1, false) := by kernel_rfl
@[simp] theorem nIfc_256 : nIfc Tryz.prog 256 = true := by kernel_rfl
@[simp] theorem tyL_256 : tyL Tryz.prog 256 = some (1, false) := by kernel_rfl
@[simp] theorem nIfc_258 : nIfc Tryz.prog 258 = true := by kernel_rfl
@[simp] theorem tyL_258 : tyL Tryz.prog 258 = some (1, true) := by kernel_rfl
@[simp] theorem zcells_258 : zcells Tryz.prog 258 = some [.w true false .nilp] := by kernel_rfl
@[simp] theorem slE_258 : slE Tryz.prog 258 = none := by kernel_rfl
@[simp] theorem isStr_258 : isStr Tryz.prog 258 = false := by kernel_rfl
@[simp] theorem fOf_258_0 : fOf Tryz.prog 258 0 = some (0, 1, false) := by kernel_rfl
@[simp] theorem pls_258 : pls Tryz.prog 258 = some [(0, 1)] := by kernel_rfl
@[simp] theorem tyL_259 : tyL Tryz.prog 259 = some (1, false) := by kernel_rfl
@[simp] theorem zcells_259 : zcells Tryz.prog 259 = some [.w true false .nilp] := by kernel_rfl
@[simp] theorem slE_259 : slE Tryz.prog 259 = none := by kernel_rfl
@[simp] theorem isStr_259 : isStr Tryz.prog 259 = false := by kernel_rfl
@[simp] theorem eqTy_259 : eqTy Tryz.prog 259 = none := by kernel_rfl
@[simp] theorem nIfc_260 : nIfc Tryz.prog 260 = true := by kernel_rfl
@[simp] theorem tyL_260 : tyL Tryz.prog 260 = some (1, false) := by kernel_rfl
@[simp] theorem nIfc_261 : nIfc Tryz.prog 261 = true := by kernel_rfl
@[simp] theorem tyL_261 : tyL Tryz.prog 261 = some (1, false) := by kernel_rfl
@[simp] theorem nIfc_262 : nIfc Tryz.prog 262 = true := by kernel_rfl
@[simp] theorem tyL_262 : tyL Tryz.prog 262 = some (1, false) := by kernel_rfl
@[simp] theorem tyL_263 : tyL Tryz.prog 263 = some (1, false) := by kernel_rfl
@[simp] theorem zcells_263 : zcells Tryz.prog 263 = some [.w true false .nili] := by kernel_rfl
@[simp] theorem eqTy_263 : eqTy Tryz.prog 263 = none := by kernel_rfl
@[simp] theorem nIfc_265 : nIfc Tryz.prog 265 = true := by kernel_rfl
@[simp] theorem tyL_265 : tyL Tryz.prog 265 = some (1, false) := by kernel_rfl
@[simp] theorem tyL_266 : tyL Tryz.prog 266 = some (1, false) := by kernel_rfl
@[simp] theorem zcells_266 : zcells Tryz.prog 266 = some [.w true false .nili] := by kernel_rfl
@[simp] theorem eqTy_266 : eqTy Tryz.prog 266 = none := by kernel_rfl
@[simp] theorem nIfc_267 : nIfc Tryz.prog 267 = true := by kernel_rfl
@[simp] theorem tyL_267 : tyL Tryz.prog 267 = some (1, false) := by kernel_rfl
@[simp] theorem tyL_268 : tyL Tryz.prog 268 = some (1, false) := by kernel_rfl
@[simp] theorem zcells_268 : zcells Tryz.prog 268 = some [.w true false .nili] := by kernel_rfl
@[simp] theorem eqTy_268 : eqTy Tryz.prog 268 = none := by kernel_rfl
@[simp] theorem nIfc_269 : nIfc Tryz.prog 269 = true := by kernel_rfl
@[simp] theorem tyL_269 : tyL Tryz.prog 269 = some (1, false) := by kernel_rfl
@[simp] theorem zcells_269 : zcells Tryz.prog 269 = some [.w true true (.sl 0 [])] := by kernel_rfl
@[simp] theorem slE_269 : slE Tryz.prog 269 = some (154, 1) := by kernel_rfl
@[simp] theorem byE_154 : byE Tryz.prog 154 = some 16 := by kernel_rfl
@[simp] theorem isStr_269 : isStr Tryz.prog 269 = false := by kernel_rfl
@[simp] theorem eqTy_269 : eqTy Tryz.prog 269 = none := by kernel_rfl
@[simp] theorem nIfc_270 : nIfc Tryz.prog 270 = true := by kernel_rfl
@[simp] theorem tyL_270 : tyL Tryz.prog 270 = some (1, false) := by kernel_rfl
@[simp] theorem nIfc_271 : nIfc Tryz.prog 271 = true := by kernel_rfl
@[simp] theorem tyL_271 : tyL Tryz.prog 271 = some (1, false) := by kernel_rfl
@[simp] theorem nIfc_272 : nIfc Tryz.prog 272 = true := by kernel_rfl
@[simp] theorem tyL_272 : tyL Tryz.prog 272 = some (1, false) := by kernel_rfl
@[simp] theorem nIfc_273 : nIfc Tryz.prog 273 = true := by kernel_rfl
@[simp] theorem tyL_273 : tyL Tryz.prog 273 = some (1, false) := by kernel_rfl
@[simp] theorem nIfc_274 : nIfc Tryz.prog 274 = true := by kernel_rfl
@[simp] theorem tyL_274 : tyL Tryz.prog 274 = some (24, true) := by kernel_rfl
@[simp] theorem zcells_274 : zcells Tryz.prog 274 = some [.w false false (.int .u8 (0)), .w false false (.int .u8 (0)), .w false false (.int .u8 (0)), .w false false (.int .u8 (0)), .w false false (.int .u8 (0)), .w false false (.int .u8 (0)), .w false false (.int .u8 (0)), .w false false (.int .u8 (0)), .w false false (.int .u8 (0)), .w false false (.int .u8 (0)), .w false false (.int .u8 (0)), .w false false (.int .u8 (0)), .w false false (.int .u8 (0)), .w false false (.int .u8 (0)), .w false false (.int .u8 (0)), .w false false (.int .u8 (0)), .w false false (.int .u8 (0)), .w false false (.int .u8 (0)), .w false false (.int .u8 (0)), .w false false (.int .u8 (0)), .w false false (.int .u8 (0)), .w false false (.int .u8 (0)), .w false false (.int .u8 (0)), .w false false (.int .u8 (0))] := by kernel_rfl
@[simp] theorem slE_274 : slE Tryz.prog 274 = none := by kernel_rfl
@[simp] theorem arE_274 : arE Tryz.prog 274 = some (24, 1) := by kernel_rfl
@[simp] theorem isStr_274 : isStr Tryz.prog 274 = false := by kernel_rfl
@[simp] theorem eqTy_274 : eqTy Tryz.prog 274 = some [1, 1, 1, 1, 1, 1, 1, 1, 1, 1, 1, 1, 1, 1, 1, 1, 1, 1, 1, 1, 1, 1, 1, 1] := by kernel_rfl
@[simp] theorem nIfc_275 : nIfc Tryz.prog 275 = true := by kernel_rfl
@[simp] theorem tyL_275 : tyL Tryz.prog 275 = some (1, false) := by kernel_rfl
@[simp] theorem nIfc_277 : nIfc Tryz.prog 277 = true := by kernel_rfl
@[simp] theorem tyL_277 : tyL Tryz.prog 277 = some (1, false) := by kernel_rfl
@[simp] theorem nIfc_279 : nIfc Tryz.prog 279 = true := by kernel_rfl
@[simp] theorem tyL_279 : tyL Tryz.prog 279 = some (1, false) := by kernel_rfl
@[simp] theorem nIfc_280 : nIfc Tryz.prog 280 = true := by kernel_rfl
@[simp] theorem tyL_280 : tyL Tryz.prog 280 = some (1, false) := by kernel_rfl
@[simp] theorem nIfc_281 : nIfc Tryz.prog 281 = true := by kernel_rfl
@[simp] theorem tyL_281 : tyL Tryz.prog 281 = some (1, false) := by kernel_rfl
@[simp] theorem nIfc_282 : nIfc Tryz.prog 282 = true := by kernel_rfl
@[simp] theorem tyL_282 : tyL Tryz.prog 282 = some (1, false) := by kernel_rfl
@[simp] theorem nIfc_283 : nIfc Tryz.prog 283 = true := by kernel_rfl
@[simp] theorem tyL_283 : tyL Tryz.prog 283 = some (1, false) := by kernel_rfl
@[simp] theorem nIfc_284 : nIfc Tryz.prog 284 = true := by kernel_rfl
@[simp] theorem tyL_284 : tyL Tryz.prog 284 = some (1, false) := by kernel_rfl
@[simp] theorem nIfc_285 : nIfc Tryz.prog 285 = true := by kernel_rfl
@[simp] theorem tyL_285 : tyL Tryz.prog 285 = some (20, true) := by kernel_rfl
@[simp] theorem zcells_285 : zcells Tryz.prog 285 = some [.w false false (.int .u64 (0)), .w false false (.int .u64 (0)), .w false false (.int .u64 (0)), .w false false (.int .u64 (0)), .w false false (.int .u64 (0)), .w false false (.int .u64 (0)), .w false false (.int .u64 (0)), .w false false (.int .u64 (0)), .w false false (.int .u64 (0)), .w false false (.int .u64 (0)), .w false false (.int .u64 (0)), .w false false (.int .u64 (0)), .w false false (.int .u64 (0)), .w false false (.int .u64 (0)), .w false false (.int .u64 (0)), .w false false (.int .u64 (0)), .w false false (.int .u64 (0)), .w false false (.int .u64 (0)), .w false false (.int .u64 (0)), .w false false (.int .u64 (0))] := by kernel_rfl
@[simp] theorem slE_285 : slE Tryz.prog 285 = none := by kernel_rfl
@[simp] theorem arE_285 : arE Tryz.prog 285 = some (20, 1) := by kernel_rfl
@[simp] theorem isStr_285 : isStr Tryz.prog 285 = false := by kernel_rfl
@[simp] theorem eqTy_285 : eqTy Tryz.prog 285 = some [1, 1, 1, 1, 1, 1, 1, 1, 1, 1, 1, 1, 1, 1, 1, 1, 1, 1, 1, 1] := by kernel_rfl
@[simp] theorem nIfc_286 : nIfc Tryz.prog 286 = true := by kernel_rfl
@[simp] theorem tyL_286 : tyL Tryz.prog 286 = some (1, false) := by kernel_rfl
@[simp] theorem zcells_286 : zcells Tryz.prog 286 = some [.w false false (.int .u32 (0))] := by kernel_rfl
@[simp] theorem slE_286 : slE Tryz.prog 286 = none := by kernel_rfl
@[simp] theorem isStr_286 : isStr Tryz.prog 286 = false := by kernel_rfl
@[simp] theorem kindOf_286 : kindOf Tryz.prog 286 = some .u32 := by kernel_rfl
@[simp] theorem eqTy_286 : eqTy Tryz.prog 286 = none := by kernel_rfl
@[simp] theorem nIfc_287 : nIfc Tryz.prog 287 = true := by kernel_rfl
@[simp] theorem tyL_287 : tyL Tryz.prog 287 = some (65, true) := by kernel_rfl
@[simp] theorem slE_287 : slE Tryz.prog 287 = none := by kernel_rfl
@[simp] theorem arE_287 : arE Tryz.prog 287 = some (65, 1) := by kernel_rfl
@[simp] theorem isStr_287 : isStr Tryz.prog 287 = false := by kernel_rfl
@[simp] theorem eqTy_287 : eqTy Tryz.prog 287 = some [1, 1, 1, 1, 1, 1, 1, 1, 1, 1, 1, 1, 1, 1, 1, 1, 1, 1, 1, 1, 1, 1, 1, 1, 1, 1, 1, 1, 1, 1, 1, 1, 1, 1, 1, 1, 1, 1, 1, 1, 1, 1, 1, 1, 1, 1, 1, 1, 1, 1, 1, 1, 1, 1, 1, 1, 1, 1, 1, 1, 1, 1, 1, 1, 1] := by kernel_rfl
@[simp] theorem nIfc_288 : nIfc Tryz.prog 288 = true := by kernel_rfl
@[simp] theorem tyL_288 : tyL Tryz.prog 288 = some (1, false) := by kernel_rfl
@[simp] theorem nIfc_290 : nIfc Tryz.prog 290 = true := by kernel_rfl
@[simp] theorem tyL_290 : tyL Tryz.prog 290 = some (1, false) := by kernel_rfl
@[simp] theorem tyL_291 : tyL Tryz.prog 291 = some (1, false) := by kernel_rfl
@[simp] theorem zcells_291 : zcells Tryz.prog 291 = some [.w false false (.int .i64 (0))] := by kernel_rfl
@[simp] theorem slE_291 : slE Tryz.prog 291 = none := by kernel_rfl
@[simp] theorem isStr_291 : isStr Tryz.prog 291 = false := by kernel_rfl
@[simp] theorem kindOf_291 : kindOf Tryz.prog 291 = some .i64 := by kernel_rfl
@[simp] theorem eqTy_291 : eqTy Tryz.prog 291 = none := by kernel_rfl
@[simp] theorem nIfc_293 : nIfc Tryz.prog 293 = true := by kernel_rfl
@[simp] theorem tyL_293 : tyL Tryz.prog 293 = some (1, false) := by kernel_rfl
@[simp] theorem tyL_294 : tyL Tryz.prog 294 = some (1, false) := by kernel_rfl
@[simp] theorem zcells_294 : zcells Tryz.prog 294 = some [.w true false .nilp] := by kernel_rfl
@[simp] theorem slE_294 : slE Tryz.prog 294 = none := by kernel_rfl
@[simp] theorem isStr_294 : isStr Tryz.prog 294 = false := by kernel_rfl
@[simp] theorem eqTy_294 : eqTy Tryz.prog 294 = none := by kernel_rfl
@[simp] theorem tyL_295 : tyL Tryz.prog 295 = some (1, false) := by kernel_rfl
@[simp] theorem tyL_296 : tyL Tryz.prog 296 = some (1, false) := by kernel_rfl
@[simp] theorem nIfc_297 : nIfc Tryz.prog 297 = true := by kernel_rfl
@[simp] theorem tyL_297 : tyL Tryz.prog 297 = some (1, false) := by kernel_rfl
@[simp] theorem nIfc_298 : nIfc Tryz.prog 298 = true := by kernel_rfl
@[simp] theorem tyL_298 : tyL Tryz.prog 298 = some (1, false) := by kernel_rfl
@[simp] theorem nIfc_300 : nIfc Tryz.prog 300 = true := by kernel_rfl
@[simp] theorem tyL_300 : tyL Tryz.prog 300 = some (1, false) := by kernel_rfl
@[simp] theorem nIfc_301 : nIfc Tryz.prog 301 = true := by kernel_rfl
@[simp] theorem tyL_301 : tyL Tryz.prog 301 = some (1, false) := by kernel_rfl
@[simp] theorem nIfc_302 : nIfc Tryz.prog 302 = true := by kernel_rfl
@[simp] theorem tyL_302 : tyL Tryz.prog 302 = some (3, true) := by kernel_rfl
@[simp] theorem zcells_302 : zcells Tryz.prog 302 = some [.w false false (.str ByteArray.empty), .w false false (.str ByteArray.empty), .w true false .nili] := by kernel_rfl
@[simp] theorem slE_302 : slE Tryz.prog 302 = none := by kernel_rfl
@[simp] theorem isStr_302 : isStr Tryz.prog 302 = false := by kernel_rfl
@[simp] theorem fOf_302_0 : fOf Tryz.prog 302 0 = some (0, 1, false) := by kernel_rfl
@[simp] theorem fOf_302_1 : fOf Tryz.prog 302 1 = some (1, 1, false) := by kernel_rfl
@[simp] theorem fOf_302_2 : fOf Tryz.prog 302 2 = some (2, 1, false) := by kernel_rfl
@[simp] theorem pls_302 : pls Tryz.prog 302 = some [(0, 1), (1, 1), (2, 1)] := by kernel_rfl
@[simp] theorem tyL_303 : tyL Tryz.prog 303 = some (3, true) := by kernel_rfl
@[simp] theorem zcells_303 : zcells Tryz.prog 303 = some [.w false false (.str ByteArray.empty), .w false false (.str ByteArray.empty), .w true false .nili] := by kernel_rfl
@[simp] theorem slE_303 : slE Tryz.prog 303 = none := by kernel_rfl
@[simp] theorem isStr_303 : isStr Tryz.prog 303 = false := by kernel_rfl
@[simp] theorem fOf_303_0 : fOf Tryz.prog 303 0 = some (0, 1, false) := by kernel_rfl
@[simp] theorem fOf_303_1 : fOf Tryz.prog 303 1 = some (1, 1, false) := by kernel_rfl
@[simp] theorem fOf_303_2 : fOf Tryz.prog 303 2 = some (2, 1, false) := by kernel_rfl
@[simp] theorem pls_303 : pls Tryz.prog 303 = some [(0, 1), (1, 1), (2, 1)] := by kernel_rfl
@[simp] theorem nIfc_304 : nIfc Tryz.prog 304 = true := by kernel_rfl
@[simp] theorem tyL_304 : tyL Tryz.prog 304 = some (1, false) := by kernel_rfl
@[simp] theorem nIfc_305 : nIfc Tryz.prog 305 = true := by kernel_rfl
@[simp] theorem tyL_305 : tyL Tryz.prog 305 = some (32, true) := by kernel_rfl
@[simp] theorem slE_305 : slE Tryz.prog 305 = none := by kernel_rfl
@[simp] theorem arE_305 : arE Tryz.prog 305 = some (32, 1) := by kernel_rfl
@[simp] theorem isStr_305 : isStr Tryz.prog 305 = false := by kernel_rfl
@[simp] theorem eqTy_305 : eqTy Tryz.prog 305 = some [1, 1, 1, 1, 1, 1, 1, 1, 1, 1, 1, 1, 1, 1, 1, 1, 1, 1, 1, 1, 1, 1, 1, 1, 1, 1, 1, 1, 1, 1, 1, 1] := by kernel_rfl
@[simp] theorem nIfc_306 : nIfc Tryz.prog 306 = true := by kernel_rfl
@[simp] theorem tyL_306 : tyL Tryz.prog 306 = some (64, true) := by kernel_rfl
@[simp] theorem slE_306 : slE Tryz.prog 306 = none := by kernel_rfl
@[simp] theorem arE_306 : arE Tryz.prog 306 = some (64, 1) := by kernel_rfl
@[simp] theorem isStr_306 : isStr Tryz.prog 306 = false := by kernel_rfl
@[simp] theorem eqTy_306 : eqTy Tryz.prog 306 = some [1, 1, 1, 1, 1, 1, 1, 1, 1, 1, 1, 1, 1, 1, 1, 1, 1, 1, 1, 1, 1, 1, 1, 1, 1, 1, 1, 1, 1, 1, 1, 1, 1, 1, 1, 1, 1, 1, 1, 1, 1, 1, 1, 1, 1, 1, 1, 1, 1, 1, 1, 1, 1, 1, 1, 1, 1, 1, 1, 1, 1, 1, 1, 1] := by kernel_rfl
@[simp] theorem nIfc_307 : nIfc Tryz.prog 307 = true := by kernel_rfl
@[simp] theorem tyL_307 : tyL Tryz.prog 307 = some (256, true) := by kernel_rfl
@[simp] theorem slE_307 : slE Tryz.prog 307 = none := by kernel_rfl
@[simp] theorem arE_307 : arE Tryz.prog 307 = some (256, 1) := by kernel_rfl
@[simp] theorem isStr_307 : isStr Tryz.prog 307 = false := by kernel_rfl
@[simp] theorem eqTy_307 : eqTy Tryz.prog 307 = some [1, 1, 1, 1, 1, 1, 1, 1, 1, 1, 1, 1, 1, 1, 1, 1, 1, 1, 1, 1, 1, 1, 1, 1, 1, 1, 1, 1, 1, 1, 1, 1, 1, 1, 1, 1, 1, 1, 1, 1, 1, 1, 1, 1, 1, 1, 1, 1, 1, 1, 1, 1, 1, 1, 1, 1, 1, 1, 1, 1, 1, 1, 1, 1, 1, 1, 1, 1, 1, 1, 1, 1, 1, 1, 1, 1, 1, 1, 1, 1, 1, 1, 1, 1, 1, 1, 1, 1, 1, 1, 1, 1, 1, 1, 1, 1, 1, 1, 1, 1, 1, 1, 1, 1, 1, 1, 1, 1, 1, 1, 1, 1, 1, 1, 1, 1, 1, 1, 1, 1, 1, 1, 1, 1, 1, 1, 1, 1, 1, 1, 1, 1, 1, 1, 1, 1, 1, 1, 1, 1, 1, 1, 1, 1, 1, 1, 1, 1, 1, 1, 1, 1, 1, 1, 1, 1, 1, 1, 1, 1, 1, 1, 1, 1, 1, 1, 1, 1, 1, 1, 1, 1, 1, 1, 1, 1, 1, 1, 1, 1, 1, 1, 1, 1, 1, 1, 1, 1, 1, 1, 1, 1, 1, 1, 1, 1, 1, 1, 1, 1, 1, 1, 1, 1, 1, 1, 1, 1, 1, 1, 1, 1, 1, 1, 1, 1, 1, 1, 1, 1, 1, 1, 1, 1, 1, 1, 1, 1, 1, 1, 1, 1, 1, 1, 1, 1, 1, 1, 1, 1, 1, 1, 1, 1, 1, 1, 1, 1, 1, 1, 1, 1, 1, 1, 1, 1] := by kernel_rfl
@[simp] theorem nIfc_308 : nIfc Tryz.prog 308 = true := by kernel_rfl
@[simp] theorem tyL_308 : tyL Tryz.prog 308 = some (2, true) := by kernel_rfl
@[simp] theorem zcells_308 : zcells Tryz.prog 308 = some [.w false false (.int .u8 (0)), .w false false (.int .u8 (0))] := by kernel_rfl
@[simp] theorem slE_308 : slE Tryz.prog 308 = none := by kernel_rfl
@[simp] theorem isStr_308 : isStr Tryz.prog 308 = false := by kernel_rfl
@[simp] theorem fOf_308_0 : fOf Tryz.prog 308 0 = some (0, 1, false) := by kernel_rfl
@[simp] theorem fOf_308_1 : fOf Tryz.prog 308 1 = some (1, 1, false) := by kernel_rfl
@[simp] theorem pls_308 : pls Tryz.prog 308 = some [(0, 1), (1, 1)] := by kernel_rfl
@[simp] theorem eqTy_308 : eqTy Tryz.prog 308 = some [1, 1] := by kernel_rfl
@[simp] theorem nIfc_309 : nIfc Tryz.prog 309 = true := by kernel_rfl
@[simp] theorem tyL_309 : tyL Tryz.prog 309 = some (2, true) := by kernel_rfl
@[simp] theorem zcells_309 : zcells Tryz.prog 309 = some [.w false false (.int .u8 (0)), .w false false (.int .u8 (0))] := by kernel_rfl
@[simp] theorem slE_309 : slE Tryz.prog 309 = none := by kernel_rfl
@[simp] theorem isStr_309 : isStr Tryz.prog 309 = false := by kernel_rfl
@[simp] theorem fOf_309_0 : fOf Tryz.prog 309 0 = some (0, 1, false) := by kernel_rfl
@[simp] theorem fOf_309_1 : fOf Tryz.prog 309 1 = some (1, 1, false) := by kernel_rfl
@[simp] theorem pls_309 : pls Tryz.prog 309 = some [(0, 1), (1, 1)] := by kernel_rfl
@[simp] theorem eqTy_309 : eqTy Tryz.prog 309 = some [1, 1] := by kernel_rfl
@[simp] theorem nIfc_310 : nIfc Tryz.prog 310 = true := by kernel_rfl
@[simp] theorem tyL_310 : tyL Tryz.prog 310 = some (32, true) := by kernel_rfl
@[simp] theorem slE_310 : slE Tryz.prog 310 = none := by kernel_rfl
@[simp] theorem arE_310 : arE Tryz.prog 310 = some (16, 2) := by kernel_rfl
@[simp] theorem isStr_310 : isStr Tryz.prog 310 = false := by kernel_rfl
@[simp] theorem eqTy_310 : eqTy Tryz.prog 310 = some [1, 1, 1, 1, 1, 1, 1, 1, 1, 1, 1, 1, 1, 1, 1, 1, 1, 1, 1, 1, 1, 1, 1, 1, 1, 1, 1, 1, 1, 1, 1, 1] := by kernel_rfl
@[simp] theorem nIfc_312 : nIfc Tryz.prog 312 = true := by kernel_rfl
@[simp] theorem tyL_312 : tyL Tryz.prog 312 = some (1, false) := by kernel_rfl
@[simp] theorem nIfc_313 : nIfc Tryz.prog 313 = true := by kernel_rfl
@[simp] theorem tyL_313 : tyL Tryz.prog 313 = some (1, false) := by kernel_rfl
@[simp] theorem nIfc_314 : nIfc Tryz.prog 314 = true := by kernel_rfl
@[simp] theorem tyL_314 : tyL Tryz.prog 314 = some (1, false) := by kernel_rfl
@[simp] theorem zcells_314 : zcells Tryz.prog 314 = some [.w true false .nilp] := by kernel_rfl
@[simp] theorem slE_314 : slE Tryz.prog 314 = none := by kernel_rfl
@[simp] theorem isStr_314 : isStr Tryz.prog 314 = false := by kernel_rfl
@[simp] theorem eqTy_314 : eqTy Tryz.prog 314 = none := by kernel_rfl
@[simp] theorem nIfc_315 : nIfc Tryz.prog 315 = true := by kernel_rfl
@[simp] theorem tyL_315 : tyL Tryz.prog 315 = some (1, true) := by kernel_rfl
@[simp] theorem zcells_315 : zcells Tryz.prog 315 = some [.w false false (.str ByteArray.empty)] := by kernel_rfl
@[simp] theorem slE_315 : slE Tryz.prog 315 = none := by kernel_rfl
@[simp] theorem isStr_315 : isStr Tryz.prog 315 = false := by kernel_rfl
@[simp] theorem fOf_315_0 : fOf Tryz.prog 315 0 = some (0, 1, false) := by kernel_rfl
@[simp] theorem pls_315 : pls Tryz.prog 315 = some [(0, 1)] := by kernel_rfl
@[simp] theorem eqTy_315 : eqTy Tryz.prog 315 = some [2] := by kernel_rfl
@[simp] theorem nIfc_316 : nIfc Tryz.prog 316 = true := by kernel_rfl
@[simp] theorem tyL_316 : tyL Tryz.prog 316 = some (1, true) := by kernel_rfl
@[simp] theorem zcells_316 : zcells Tryz.prog 316 = some [.w false false (.str ByteArray.empty)] := by kernel_rfl
@[simp] theorem slE_316 : slE Tryz.prog 316 = none := by kernel_rfl
@[simp] theorem isStr_316 : isStr Tryz.prog 316 = false := by kernel_rfl
@[simp] theorem fOf_316_0 : fOf Tryz.prog 316 0 = some (0, 1, false) := by kernel_rfl
@[simp] theorem pls_316 : pls Tryz.prog 316 = some [(0, 1)] := by kernel_rfl
@[simp] theorem eqTy_316 : eqTy Tryz.prog 316 = some [2] := by kernel_rfl
@[simp] theorem tyL_332 : tyL Tryz.prog 332 = some (2, true) := by kernel_rfl
@[simp] theorem zcells_332 : zcells Tryz.prog 332 = some [.w false false (.str ByteArray.empty), .w false false (.int .u8 (0))] := by kernel_rfl
@[simp] theorem slE_332 : slE Tryz.prog 332 = none := by kernel_rfl
@[simp] theorem isStr_332 : isStr Tryz.prog 332 = false := by kernel_rfl
@[simp] theorem fOf_332_0 : fOf Tryz.prog 332 0 = some (0, 1, false) := by kernel_rfl
@[simp] theorem fOf_332_1 : fOf Tryz.prog 332 1 = some (1, 1, false) := by kernel_rfl
@[simp] theorem pls_332 : pls Tryz.prog 332 = some [(0, 1), (1, 1)] := by kernel_rfl
@[simp] theorem nIfc_335 : nIfc Tryz.prog 335 = true := by kernel_rfl
@[simp] theorem tyL_335 : tyL Tryz.prog 335 = some (1, false) := by kernel_rfl
@[simp] theorem zcells_335 : zcells Tryz.prog 335 = some [.w false false (.int .u16 (0))] := by kernel_rfl
@[simp] theorem slE_335 : slE Tryz.prog 335 = none := by kernel_rfl
@[simp] theorem isStr_335 : isStr Tryz.prog 335 = false := by kernel_rfl
@[simp] theorem kindOf_335 : kindOf Tryz.prog 335 = some .u16 := by kernel_rfl
@[simp] theorem eqTy_335 : eqTy Tryz.prog 335 = none := by kernel_rfl
@[simp] theorem nIfc_342 : nIfc Tryz.prog 342 = true := by kernel_rfl
@[simp] theorem tyL_342 : tyL Tryz.prog 342 = some (1, false) := by kernel_rfl
@[simp] theorem zcells_342 : zcells Tryz.prog 342 = some [.w true false .nilp] := by kernel_rfl
@[simp] theorem slE_342 : slE Tryz.prog 342 = none := by kernel_rfl
@[simp] theorem isStr_342 : isStr Tryz.prog 342 = false := by kernel_rfl
@[simp] theorem eqTy_342 : eqTy Tryz.prog 342 = none := by kernel_rfl
@[simp] theorem byteSl_9_209 : byteSl Tryz.prog 9 209 = true := by kernel_rfl
@[simp] theorem byteSl_10_209 : byteSl Tryz.prog 10 209 = true := by kernel_rfl
@[simp] theorem byteSl_11_209 : byteSl Tryz.prog 11 209 = true := by kernel_rfl
@[simp] theorem byteSl_157_209 : byteSl Tryz.prog 157 209 = true := by kernel_rfl
end Go.Proofs.YtdgbfbgnbgfmjaaGreatDoor
