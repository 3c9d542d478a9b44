/- Contracts of functions for this claim: lemmas alone. -/
import Derived.Test.YtdgbfbgnbgfmjaaGreatDoorProg
import Derived.Test.YtdgbfbgnbgfmjaaGreatDoorLd
import Derived.KernelRfl
set_option linter.unusedSimpArgs false
set_option linter.unusedVariables false
namespace Go.Proofs.YtdgbfbgnbgfmjaaGreatDoor
open Go Go.Fi
set_option maxRecDepth 100000
@[simp] theorem nIfc_1 : nIfc Tryz.prog 1 = true := by kernel_rfl
@[simp] theorem tyL_1 : tyL Tryz.prog 1 = some (1, false) := by kernel_rfl
@[simp] theorem nIfc_2 : nIfc Tryz.prog 2 = true := by kernel_rfl
@[simp] theorem tyL_2 : tyL Tryz.prog 2 = some (1, false) := by kernel_rfl
@[simp] theorem zcells_2 : zcells Tryz.prog 2 = some [.w false false (.int .i64 (0))] := by kernel_rfl
@[simp] theorem slE_2 : slE Tryz.prog 2 = none := by kernel_rfl
@[simp] theorem isStr_2 : isStr Tryz.prog 2 = false := by kernel_rfl
@[simp] theorem kindOf_2 : kindOf Tryz.prog 2 = some .i64 := by kernel_rfl
@[simp] theorem eqTy_2 : eqTy Tryz.prog 2 = none := by kernel_rfl
@[simp] theorem nIfc_3 : nIfc Tryz.prog 3 = true := by kernel_rfl
@[simp] theorem tyL_3 : tyL Tryz.prog 3 = some (1, false) := by kernel_rfl
@[simp] theorem zcells_3 : zcells Tryz.prog 3 = some [.w false false (.int .i64 (0))] := by kernel_rfl
@[simp] theorem slE_3 : slE Tryz.prog 3 = none := by kernel_rfl
@[simp] theorem isStr_3 : isStr Tryz.prog 3 = false := by kernel_rfl
@[simp] theorem kindOf_3 : kindOf Tryz.prog 3 = some .i64 := by kernel_rfl
@[simp] theorem eqTy_3 : eqTy Tryz.prog 3 = none := by kernel_rfl
@[simp] theorem nIfc_4 : nIfc Tryz.prog 4 = true := by kernel_rfl
@[simp] theorem tyL_4 : tyL Tryz.prog 4 = some (1, false) := by kernel_rfl
@[simp] theorem zcells_4 : zcells Tryz.prog 4 = some [.w false false (.bool false)] := by kernel_rfl
@[simp] theorem slE_4 : slE Tryz.prog 4 = none := by kernel_rfl
@[simp] theorem isStr_4 : isStr Tryz.prog 4 = false := by kernel_rfl
@[simp] theorem isBool_4 : isBool Tryz.prog 4 = true := by kernel_rfl
@[simp] theorem eqTy_4 : eqTy Tryz.prog 4 = none := by kernel_rfl
@[simp] theorem nIfc_5 : nIfc Tryz.prog 5 = true := by kernel_rfl
@[simp] theorem tyL_5 : tyL Tryz.prog 5 = some (1, false) := by kernel_rfl
@[simp] theorem zcells_5 : zcells Tryz.prog 5 = some [.w false false (.int .u8 (0))] := by kernel_rfl
@[simp] theorem slE_5 : slE Tryz.prog 5 = none := by kernel_rfl
@[simp] theorem isStr_5 : isStr Tryz.prog 5 = false := by kernel_rfl
@[simp] theorem kindOf_5 : kindOf Tryz.prog 5 = some .u8 := by kernel_rfl
@[simp] theorem eqTy_5 : eqTy Tryz.prog 5 = none := by kernel_rfl
@[simp] theorem nIfc_9 : nIfc Tryz.prog 9 = true := by kernel_rfl
@[simp] theorem tyL_9 : tyL Tryz.prog 9 = some (1, false) := by kernel_rfl
@[simp] theorem zcells_9 : zcells Tryz.prog 9 = some [.w false false (.str ByteArray.empty)] := by kernel_rfl
@[simp] theorem slE_9 : slE Tryz.prog 9 = none := by kernel_rfl
@[simp] theorem isStr_9 : isStr Tryz.prog 9 = true := by kernel_rfl
@[simp] theorem eqTy_9 : eqTy Tryz.prog 9 = none := by kernel_rfl
@[simp] theorem tyL_20 : tyL Tryz.prog 20 = some (1, false) := by kernel_rfl
@[simp] theorem zcells_20 : zcells Tryz.prog 20 = some [.w true false .nili] := by kernel_rfl
@[simp] theorem eqTy_20 : eqTy Tryz.prog 20 = none := by kernel_rfl
@[simp] theorem nIfc_21 : nIfc Tryz.prog 21 = true := by kernel_rfl
@[simp] theorem tyL_21 : tyL Tryz.prog 21 = some (1, false) := by kernel_rfl
@[simp] theorem zcells_21 : zcells Tryz.prog 21 = some [.w false false (.int .i32 (0))] := by kernel_rfl
@[simp] theorem slE_21 : slE Tryz.prog 21 = none := by kernel_rfl
@[simp] theorem isStr_21 : isStr Tryz.prog 21 = false := by kernel_rfl
@[simp] theorem kindOf_21 : kindOf Tryz.prog 21 = some .i32 := by kernel_rfl
@[simp] theorem eqTy_21 : eqTy Tryz.prog 21 = none := by kernel_rfl
@[simp] theorem nIfc_22 : nIfc Tryz.prog 22 = true := by kernel_rfl
@[simp] theorem tyL_22 : tyL Tryz.prog 22 = some (1, false) := by kernel_rfl
@[simp] theorem zcells_22 : zcells Tryz.prog 22 = some [.w true true (.sl 0 [])] := by kernel_rfl
@[simp] theorem slE_22 : slE Tryz.prog 22 = some (3, 1) := by kernel_rfl
@[simp] theorem byE_3 : byE Tryz.prog 3 = some 8 := by kernel_rfl
@[simp] theorem isStr_22 : isStr Tryz.prog 22 = false := by kernel_rfl
@[simp] theorem eqTy_22 : eqTy Tryz.prog 22 = none := by kernel_rfl
@[simp] theorem nIfc_24 : nIfc Tryz.prog 24 = true := by kernel_rfl
@[simp] theorem tyL_24 : tyL Tryz.prog 24 = some (1, false) := by kernel_rfl
@[simp] theorem zcells_24 : zcells Tryz.prog 24 = some [.w false false (.int .i64 (0))] := by kernel_rfl
@[simp] theorem slE_24 : slE Tryz.prog 24 = none := by kernel_rfl
@[simp] theorem isStr_24 : isStr Tryz.prog 24 = false := by kernel_rfl
@[simp] theorem kindOf_24 : kindOf Tryz.prog 24 = some .i64 := by kernel_rfl
@[simp] theorem eqTy_24 : eqTy Tryz.prog 24 = none := by kernel_rfl
@[simp] theorem nIfc_26 : nIfc Tryz.prog 26 = true := by kernel_rfl
@[simp] theorem tyL_26 : tyL Tryz.prog 26 = some (1, false) := by kernel_rfl
@[simp] theorem nIfc_27 : nIfc Tryz.prog 27 = true := by kernel_rfl
@[simp] theorem tyL_27 : tyL Tryz.prog 27 = some (1, false) := by kernel_rfl
@[simp] theorem nIfc_30 : nIfc Tryz.prog 30 = true := by kernel_rfl
@[simp] theorem tyL_30 : tyL Tryz.prog 30 = some (1, false) := by kernel_rfl
@[simp] theorem nIfc_32 : nIfc Tryz.prog 32 = true := by kernel_rfl
@[simp] theorem tyL_32 : tyL Tryz.prog 32 = some (2, true) := by kernel_rfl
@[simp] theorem zcells_32 : zcells Tryz.prog 32 = some [.w false false (.int .i64 (0)), .w true true (.sl 0 [])] := by kernel_rfl
@[simp] theorem slE_32 : slE Tryz.prog 32 = none := by kernel_rfl
@[simp] theorem isStr_32 : isStr Tryz.prog 32 = false := by kernel_rfl
@[simp] theorem fOf_32_0 : fOf Tryz.prog 32 0 = some (0, 1, false) := by kernel_rfl
@[simp] theorem fOf_32_1 : fOf Tryz.prog 32 1 = some (1, 1, false) := by kernel_rfl
@[simp] theorem pls_32 : pls Tryz.prog 32 = some [(0, 1), (1, 1)] := by kernel_rfl
@[simp] theorem nIfc_37 : nIfc Tryz.prog 37 = true := by kernel_rfl
@[simp] theorem tyL_37 : tyL Tryz.prog 37 = some (1, false) := by kernel_rfl
@[simp] theorem zcells_37 : zcells Tryz.prog 37 = some [.w true true (.sl 0 [])] := by kernel_rfl
@[simp] theorem slE_37 : slE Tryz.prog 37 = some (132, 2) := by kernel_rfl
@[simp] theorem byE_132 : byE Tryz.prog 132 = some 24 := by kernel_rfl
@[simp] theorem isStr_37 : isStr Tryz.prog 37 = false := by kernel_rfl
@[simp] theorem eqTy_37 : eqTy Tryz.prog 37 = none := by kernel_rfl
@[simp] theorem nIfc_38 : nIfc Tryz.prog 38 = true := by kernel_rfl
@[simp] theorem tyL_38 : tyL Tryz.prog 38 = some (1, false) := by kernel_rfl
@[simp] theorem zcells_38 : zcells Tryz.prog 38 = some [.w true true (.sl 0 [])] := by kernel_rfl
@[simp] theorem slE_38 : slE Tryz.prog 38 = some (70, 2) := by kernel_rfl
@[simp] theorem byE_70 : byE Tryz.prog 70 = some 24 := by kernel_rfl
@[simp] theorem isStr_38 : isStr Tryz.prog 38 = false := by kernel_rfl
@[simp] theorem eqTy_38 : eqTy Tryz.prog 38 = none := by kernel_rfl
@[simp] theorem nIfc_40 : nIfc Tryz.prog 40 = true := by kernel_rfl
@[simp] theorem tyL_40 : tyL Tryz.prog 40 = some (3, true) := by kernel_rfl
@[simp] theorem zcells_40 : zcells Tryz.prog 40 = some [.w false false (.int .i64 (0)), .w false false (.str ByteArray.empty), .w true true (.sl 0 [])] := by kernel_rfl
@[simp] theorem slE_40 : slE Tryz.prog 40 = none := by kernel_rfl
@[simp] theorem isStr_40 : isStr Tryz.prog 40 = false := by kernel_rfl
@[simp] theorem fOf_40_0 : fOf Tryz.prog 40 0 = some (0, 1, false) := by kernel_rfl
@[simp] theorem fOf_40_1 : fOf Tryz.prog 40 1 = some (1, 1, false) := by kernel_rfl
@[simp] theorem fOf_40_2 : fOf Tryz.prog 40 2 = some (2, 1, false) := by kernel_rfl
@[simp] theorem pls_40 : pls Tryz.prog 40 = some [(0, 1), (1, 1), (2, 1)] := by kernel_rfl
@[simp] theorem nIfc_42 : nIfc Tryz.prog 42 = true := by kernel_rfl
@[simp] theorem tyL_42 : tyL Tryz.prog 42 = some (1, false) := by kernel_rfl
@[simp] theorem nIfc_46 : nIfc Tryz.prog 46 = true := by kernel_rfl
@[simp] theorem tyL_46 : tyL Tryz.prog 46 = some (1, false) := by kernel_rfl
@[simp] theorem nIfc_48 : nIfc Tryz.prog 48 = true := by kernel_rfl
@[simp] theorem tyL_48 : tyL Tryz.prog 48 = some (1, false) := by kernel_rfl
@[simp] theorem nIfc_49 : nIfc Tryz.prog 49 = true := by kernel_rfl
@[simp] theorem tyL_49 : tyL Tryz.prog 49 = some (1, false) := by kernel_rfl
@[simp] theorem nIfc_50 : nIfc Tryz.prog 50 = true := by kernel_rfl
@[simp] theorem tyL_50 : tyL Tryz.prog 50 = some (1, false) := by kernel_rfl
@[simp] theorem nIfc_53 : nIfc Tryz.prog 53 = true := by kernel_rfl
@[simp] theorem tyL_53 : tyL Tryz.prog 53 = some (1, false) := by kernel_rfl
@[simp] theorem nIfc_54 : nIfc Tryz.prog 54 = true := by kernel_rfl
@[simp] theorem tyL_54 : tyL Tryz.prog 54 = some (1, false) := by kernel_rfl
@[simp] theorem nIfc_57 : nIfc Tryz.prog 57 = true := by kernel_rfl
@[simp] theorem tyL_57 : tyL Tryz.prog 57 = some (1, false) := by kernel_rfl
@[simp] theorem nIfc_58 : nIfc Tryz.prog 58 = true := by kernel_rfl
@[simp] theorem tyL_58 : tyL Tryz.prog 58 = some (1, false) := by kernel_rfl
@[simp] theorem nIfc_60 : nIfc Tryz.prog 60 = true := by kernel_rfl
@[simp] theorem tyL_60 : tyL Tryz.prog 60 = some (3, true) := by kernel_rfl
@[simp] theorem zcells_60 : zcells Tryz.prog 60 = some [.w false false (.int .i64 (0)), .w false false (.int .i64 (0)), .w false false (.int .i64 (0))] := by kernel_rfl
@[simp] theorem slE_60 : slE Tryz.prog 60 = none := by kernel_rfl
@[simp] theorem arE_60 : arE Tryz.prog 60 = some (3, 1) := by kernel_rfl
@[simp] theorem isStr_60 : isStr Tryz.prog 60 = false := by kernel_rfl
@[simp] theorem pls_60 : pls Tryz.prog 60 = some [(0, 1), (1, 1), (2, 1)] := by kernel_rfl
@[simp] theorem eqTy_60 : eqTy Tryz.prog 60 = some [1, 1, 1] := by kernel_rfl
@[simp] theorem nIfc_61 : nIfc Tryz.prog 61 = true := by kernel_rfl
@[simp] theorem tyL_61 : tyL Tryz.prog 61 = some (8, true) := by kernel_rfl
@[simp] theorem zcells_61 : zcells Tryz.prog 61 = some [.w false false (.str ByteArray.empty), .w false false (.str ByteArray.empty), .w false false (.str ByteArray.empty), .w false false (.int .i64 (0)), .w false false (.int .i64 (0)), .w false false (.int .i64 (0)), .w false false (.str ByteArray.empty), .w false false (.str ByteArray.empty)] := by kernel_rfl
@[simp] theorem slE_61 : slE Tryz.prog 61 = none := by kernel_rfl
@[simp] theorem isStr_61 : isStr Tryz.prog 61 = false := by kernel_rfl
@[simp] theorem fOf_61_0 : fOf Tryz.prog 61 0 = some (0, 1, false) := by kernel_rfl
@[simp] theorem fOf_61_1 : fOf Tryz.prog 61 1 = some (1, 1, false) := by kernel_rfl
@[simp] theorem fOf_61_2 : fOf Tryz.prog 61 2 = some (2, 1, false) := by kernel_rfl
@[simp] theorem fOf_61_3 : fOf Tryz.prog 61 3 = some (3, 3, true) := by kernel_rfl
@[simp] theorem fOf_61_4 : fOf Tryz.prog 61 4 = some (6, 1, false) := by kernel_rfl
@[simp] theorem fOf_61_5 : fOf Tryz.prog 61 5 = some (7, 1, false) := by kernel_rfl
@[simp] theorem pls_61 : pls Tryz.prog 61 = some [(0, 1), (1, 1), (2, 1), (3, 3), (6, 1), (7, 1)] := by kernel_rfl
@[simp] theorem eqTy_61 : eqTy Tryz.prog 61 = some [2, 2, 2, 1, 1, 1, 2, 2] := by kernel_rfl
@[simp] theorem nIfc_62 : nIfc Tryz.prog 62 = true := by kernel_rfl
@[simp] theorem tyL_62 : tyL Tryz.prog 62 = some (8, true) := by kernel_rfl
@[simp] theorem zcells_62 : zcells Tryz.prog 62 = some [.w false false (.str ByteArray.empty), .w false false (.str ByteArray.empty), .w false false (.str ByteArray.empty), .w false false (.int .i64 (0)), .w false false (.int .i64 (0)), .w false false (.int .i64 (0)), .w false false (.str ByteArray.empty), .w false false (.str ByteArray.empty)] := by kernel_rfl
@[simp] theorem slE_62 : slE Tryz.prog 62 = none := by kernel_rfl
@[simp] theorem isStr_62 : isStr Tryz.prog 62 = false := by kernel_rfl
@[simp] theorem fOf_62_0 : fOf Tryz.prog 62 0 = some (0, 1, false) := by kernel_rfl
@[simp] theorem fOf_62_1 : fOf Tryz.prog 62 1 = some (1, 1, false) := by kernel_rfl
@[simp] theorem fOf_62_2 : fOf Tryz.prog 62 2 = some (2, 1, false) := by kernel_rfl
@[simp] theorem fOf_62_3 : fOf Tryz.prog 62 3 = some (3, 3, true) := by kernel_rfl
@[simp] theorem fOf_62_4 : fOf Tryz.prog 62 4 = some (6, 1, false) := by kernel_rfl
@[simp] theorem fOf_62_5 : fOf Tryz.prog 62 5 = some (7, 1, false) := by kernel_rfl
@[simp] theorem pls_62 : pls Tryz.prog 62 = some [(0, 1), (1, 1), (2, 1), (3, 3), (6, 1), (7, 1)] := by kernel_rfl
@[simp] theorem eqTy_62 : eqTy Tryz.prog 62 = some [2, 2, 2, 1, 1, 1, 2, 2] := by kernel_rfl
@[simp] theorem nIfc_64 : nIfc Tryz.prog 64 = true := by kernel_rfl
@[simp] theorem tyL_64 : tyL Tryz.prog 64 = some (5, true) := by kernel_rfl
@[simp] theorem zcells_64 : zcells Tryz.prog 64 = some [.w false false (.int .i64 (0)), .w false false (.str ByteArray.empty), .w false false (.int .i64 (0)), .w false false (.int .i64 (0)), .w false false (.int .i64 (0))] := by kernel_rfl
@[simp] theorem slE_64 : slE Tryz.prog 64 = none := by kernel_rfl
@[simp] theorem isStr_64 : isStr Tryz.prog 64 = false := by kernel_rfl
@[simp] theorem fOf_64_0 : fOf Tryz.prog 64 0 = some (0, 1, false) := by kernel_rfl
@[simp] theorem fOf_64_1 : fOf Tryz.prog 64 1 = some (1, 1, false) := by kernel_rfl
@[simp] theorem fOf_64_2 : fOf Tryz.prog 64 2 = some (2, 1, false) := by kernel_rfl
@[simp] theorem fOf_64_3 : fOf Tryz.prog 64 3 = some (3, 1, false) := by kernel_rfl
@[simp] theorem fOf_64_4 : fOf Tryz.prog 64 4 = some (4, 1, false) := by kernel_rfl
@[simp] theorem pls_64 : pls Tryz.prog 64 = some [(0, 1), (1, 1), (2, 1), (3, 1), (4, 1)] := by kernel_rfl
@[simp] theorem eqTy_64 : eqTy Tryz.prog 64 = some [1, 2, 1, 1, 1] := by kernel_rfl
@[simp] theorem nIfc_65 : nIfc Tryz.prog 65 = true := by kernel_rfl
@[simp] theorem tyL_65 : tyL Tryz.prog 65 = some (1, false) := by kernel_rfl
@[simp] theorem nIfc_66 : nIfc Tryz.prog 66 = true := by kernel_rfl
@[simp] theorem tyL_66 : tyL Tryz.prog 66 = some (1, false) := by kernel_rfl
@[simp] theorem nIfc_70 : nIfc Tryz.prog 70 = true := by kernel_rfl
@[simp] theorem tyL_70 : tyL Tryz.prog 70 = some (2, true) := by kernel_rfl
@[simp] theorem zcells_70 : zcells Tryz.prog 70 = some [.w false false (.str ByteArray.empty), .w false false (.int .i64 (0))] := by kernel_rfl
@[simp] theorem slE_70 : slE Tryz.prog 70 = none := by kernel_rfl
@[simp] theorem isStr_70 : isStr Tryz.prog 70 = false := by kernel_rfl
@[simp] theorem fOf_70_0 : fOf Tryz.prog 70 0 = some (0, 1, false) := by kernel_rfl
@[simp] theorem fOf_70_1 : fOf Tryz.prog 70 1 = some (1, 1, false) := by kernel_rfl
@[simp] theorem pls_70 : pls Tryz.prog 70 = some [(0, 1), (1, 1)] := by kernel_rfl
@[simp] theorem eqTy_70 : eqTy Tryz.prog 70 = some [2, 1] := by kernel_rfl
@[simp] theorem nIfc_71 : nIfc Tryz.prog 71 = true := by kernel_rfl
@[simp] theorem tyL_71 : tyL Tryz.prog 71 = some (1, false) := by kernel_rfl
@[simp] theorem nIfc_72 : nIfc Tryz.prog 72 = true := by kernel_rfl
@[simp] theorem tyL_72 : tyL Tryz.prog 72 = some (1, false) := by kernel_rfl
@[simp] theorem zcells_72 : zcells Tryz.prog 72 = some [.w true true (.sl 0 [])] := by kernel_rfl
@[simp] theorem slE_72 : slE Tryz.prog 72 = some (40, 3) := by kernel_rfl
@[simp] theorem byE_40 : byE Tryz.prog 40 = some 48 := by kernel_rfl
@[simp] theorem isStr_72 : isStr Tryz.prog 72 = false := by kernel_rfl
@[simp] theorem eqTy_72 : eqTy Tryz.prog 72 = none := by kernel_rfl
@[simp] theorem nIfc_74 : nIfc Tryz.prog 74 = true := by kernel_rfl
@[simp] theorem tyL_74 : tyL Tryz.prog 74 = some (3, true) := by kernel_rfl
@[simp] theorem zcells_74 : zcells Tryz.prog 74 = some [.w true true (.sl 0 []), .w true true (.sl 0 []), .w false false (.int .i64 (0))] := by kernel_rfl
@[simp] theorem slE_74 : slE Tryz.prog 74 = none := by kernel_rfl
@[simp] theorem isStr_74 : isStr Tryz.prog 74 = false := by kernel_rfl
@[simp] theorem fOf_74_0 : fOf Tryz.prog 74 0 = some (0, 1, false) := by kernel_rfl
@[simp] theorem fOf_74_1 : fOf Tryz.prog 74 1 = some (1, 1, false) := by kernel_rfl
@[simp] theorem fOf_74_2 : fOf Tryz.prog 74 2 = some (2, 1, false) := by kernel_rfl
@[simp] theorem pls_74 : pls Tryz.prog 74 = some [(0, 1), (1, 1), (2, 1)] := by kernel_rfl
@[simp] theorem nIfc_85 : nIfc Tryz.prog 85 = true := by kernel_rfl
@[simp] theorem tyL_85 : tyL Tryz.prog 85 = some (2, true) := by kernel_rfl
@[simp] theorem zcells_85 : zcells Tryz.prog 85 = some [.w false false (.int .i64 (0)), .w false false (.int .i64 (0))] := by kernel_rfl
@[simp] theorem slE_85 : slE Tryz.prog 85 = none := by kernel_rfl
@[simp] theorem arE_85 : arE Tryz.prog 85 = some (2, 1) := by kernel_rfl
@[simp] theorem isStr_85 : isStr Tryz.prog 85 = false := by kernel_rfl
@[simp] theorem pls_85 : pls Tryz.prog 85 = some [(0, 1), (1, 1)] := by kernel_rfl
@[simp] theorem eqTy_85 : eqTy Tryz.prog 85 = some [1, 1] := by kernel_rfl
@[simp] theorem nIfc_86 : nIfc Tryz.prog 86 = true := by kernel_rfl
@[simp] theorem tyL_86 : tyL Tryz.prog 86 = some (1, false) := by kernel_rfl
@[simp] theorem zcells_86 : zcells Tryz.prog 86 = some [.w true true (.sl 0 [])] := by kernel_rfl
@[simp] theorem slE_86 : slE Tryz.prog 86 = some (92, 3) := by kernel_rfl
@[simp] theorem byE_92 : byE Tryz.prog 92 = some 24 := by kernel_rfl
@[simp] theorem isStr_86 : isStr Tryz.prog 86 = false := by kernel_rfl
@[simp] theorem eqTy_86 : eqTy Tryz.prog 86 = none := by kernel_rfl
@[simp] theorem nIfc_90 : nIfc Tryz.prog 90 = true := by kernel_rfl
@[simp] theorem tyL_90 : tyL Tryz.prog 90 = some (1, false) := by kernel_rfl
@[simp] theorem nIfc_92 : nIfc Tryz.prog 92 = true := by kernel_rfl
@[simp] theorem tyL_92 : tyL Tryz.prog 92 = some (3, true) := by kernel_rfl
@[simp] theorem zcells_92 : zcells Tryz.prog 92 = some [.w false false (.int .i64 (0)), .w false false (.int .i64 (0)), .w false false (.int .i64 (0))] := by kernel_rfl
@[simp] theorem slE_92 : slE Tryz.prog 92 = none := by kernel_rfl
@[simp] theorem isStr_92 : isStr Tryz.prog 92 = false := by kernel_rfl
@[simp] theorem fOf_92_0 : fOf Tryz.prog 92 0 = some (0, 1, false) := by kernel_rfl
@[simp] theorem fOf_92_1 : fOf Tryz.prog 92 1 = some (1, 1, false) := by kernel_rfl
@[simp] theorem fOf_92_2 : fOf Tryz.prog 92 2 = some (2, 1, false) := by kernel_rfl
@[simp] theorem pls_92 : pls Tryz.prog 92 = some [(0, 1), (1, 1), (2, 1)] := by kernel_rfl
@[simp] theorem eqTy_92 : eqTy Tryz.prog 92 = some [1, 1, 1] := by kernel_rfl
@[simp] theorem nIfc_95 : nIfc Tryz.prog 95 = true := by kernel_rfl
@[simp] theorem tyL_95 : tyL Tryz.prog 95 = some (2, true) := by kernel_rfl
@[simp] theorem zcells_95 : zcells Tryz.prog 95 = some [.w false false (.int .i64 (0)), .w false false (.int .i64 (0))] := by kernel_rfl
@[simp] theorem slE_95 : slE Tryz.prog 95 = none := by kernel_rfl
@[simp] theorem isStr_95 : isStr Tryz.prog 95 = false := by kernel_rfl
@[simp] theorem fOf_95_0 : fOf Tryz.prog 95 0 = some (0, 1, false) := by kernel_rfl
@[simp] theorem fOf_95_1 : fOf Tryz.prog 95 1 = some (1, 1, false) := by kernel_rfl
@[simp] theorem pls_95 : pls Tryz.prog 95 = some [(0, 1), (1, 1)] := by kernel_rfl
@[simp] theorem eqTy_95 : eqTy Tryz.prog 95 = some [1, 1] := by kernel_rfl
@[simp] theorem nIfc_97 : nIfc Tryz.prog 97 = true := by kernel_rfl
@[simp] theorem tyL_97 : tyL Tryz.prog 97 = some (6, true) := by kernel_rfl
@[simp] theorem zcells_97 : zcells Tryz.prog 97 = some [.w false false (.int .i64 (0)), .w false false (.str ByteArray.empty), .w false false (.int .i64 (0)), .w false false (.int .i64 (0)), .w false false (.int .i64 (0)), .w false false (.int .i64 (0))] := by kernel_rfl
@[simp] theorem slE_97 : slE Tryz.prog 97 = none := by kernel_rfl
@[simp] theorem isStr_97 : isStr Tryz.prog 97 = false := by kernel_rfl
@[simp] theorem fOf_97_0 : fOf Tryz.prog 97 0 = some (0, 1, false) := by kernel_rfl
@[simp] theorem fOf_97_1 : fOf Tryz.prog 97 1 = some (1, 1, false) := by kernel_rfl
@[simp] theorem fOf_97_2 : fOf Tryz.prog 97 2 = some (2, 1, false) := by kernel_rfl
@[simp] theorem fOf_97_3 : fOf Tryz.prog 97 3 = some (3, 2, true) := by kernel_rfl
@[simp] theorem fOf_97_4 : fOf Tryz.prog 97 4 = some (5, 1, false) := by kernel_rfl
@[simp] theorem pls_97 : pls Tryz.prog 97 = some [(0, 1), (1, 1), (2, 1), (3, 2), (5, 1)] := by kernel_rfl
@[simp] theorem eqTy_97 : eqTy Tryz.prog 97 = some [1, 2, 1, 1, 1, 1] := by kernel_rfl
@[simp] theorem nIfc_99 : nIfc Tryz.prog 99 = true := by kernel_rfl
@[simp] theorem tyL_99 : tyL Tryz.prog 99 = some (1, false) := by kernel_rfl
@[simp] theorem nIfc_100 : nIfc Tryz.prog 100 = true := by kernel_rfl
@[simp] theorem tyL_100 : tyL Tryz.prog 100 = some (1, false) := by kernel_rfl
@[simp] theorem nIfc_101 : nIfc Tryz.prog 101 = true := by kernel_rfl
@[simp] theorem tyL_101 : tyL Tryz.prog 101 = some (1, false) := by kernel_rfl
@[simp] theorem nIfc_102 : nIfc Tryz.prog 102 = true := by kernel_rfl
@[simp] theorem tyL_102 : tyL Tryz.prog 102 = some (1, false) := by kernel_rfl
@[simp] theorem nIfc_103 : nIfc Tryz.prog 103 = true := by kernel_rfl
@[simp] theorem tyL_103 : tyL Tryz.prog 103 = some (1, false) := by kernel_rfl
@[simp] theorem nIfc_104 : nIfc Tryz.prog 104 = true := by kernel_rfl
@[simp] theorem tyL_104 : tyL Tryz.prog 104 = some (1, false) := by kernel_rfl
@[simp] theorem nIfc_105 : nIfc Tryz.prog 105 = true := by kernel_rfl
@[simp] theorem tyL_105 : tyL Tryz.prog 105 = some (1, false) := by kernel_rfl
@[simp] theorem zcells_105 : zcells Tryz.prog 105 = some [.w true true (.sl 0 [])] := by kernel_rfl
@[simp] theorem slE_105 : slE Tryz.prog 105 = some (112, 2) := by kernel_rfl
@[simp] theorem byE_112 : byE Tryz.prog 112 = some 16 := by kernel_rfl
@[simp] theorem isStr_105 : isStr Tryz.prog 105 = false := by kernel_rfl
@[simp] theorem eqTy_105 : eqTy Tryz.prog 105 = none := by kernel_rfl
@[simp] theorem nIfc_109 : nIfc Tryz.prog 109 = true := by kernel_rfl
@[simp] theorem tyL_109 : tyL Tryz.prog 109 = some (1, false) := by kernel_rfl
@[simp] theorem nIfc_110 : nIfc Tryz.prog 110 = true := by kernel_rfl
@[simp] theorem tyL_110 : tyL Tryz.prog 110 = some (1, false) := by kernel_rfl
@[simp] theorem nIfc_111 : nIfc Tryz.prog 111 = true := by kernel_rfl
@[simp] theorem tyL_111 : tyL Tryz.prog 111 = some (2, true) := by kernel_rfl
@[simp] theorem zcells_111 : zcells Tryz.prog 111 = some [.w false false (.int .i64 (0)), .w false false (.int .i64 (0))] := by kernel_rfl
@[simp] theorem slE_111 : slE Tryz.prog 111 = none := by kernel_rfl
@[simp] theorem isStr_111 : isStr Tryz.prog 111 = false := by kernel_rfl
@[simp] theorem fOf_111_0 : fOf Tryz.prog 111 0 = some (0, 1, false) := by kernel_rfl
@[simp] theorem fOf_111_1 : fOf Tryz.prog 111 1 = some (1, 1, false) := by kernel_rfl
@[simp] theorem pls_111 : pls Tryz.prog 111 = some [(0, 1), (1, 1)] := by kernel_rfl
@[simp] theorem eqTy_111 : eqTy Tryz.prog 111 = some [1, 1] := by kernel_rfl
@[simp] theorem nIfc_112 : nIfc Tryz.prog 112 = true := by kernel_rfl
@[simp] theorem tyL_112 : tyL Tryz.prog 112 = some (2, true) := by kernel_rfl
@[simp] theorem zcells_112 : zcells Tryz.prog 112 = some [.w false false (.int .i64 (0)), .w false false (.int .i64 (0))] := by kernel_rfl
@[simp] theorem slE_112 : slE Tryz.prog 112 = none := by kernel_rfl
@[simp] theorem isStr_112 : isStr Tryz.prog 112 = false := by kernel_rfl
@[simp] theorem fOf_112_0 : fOf Tryz.prog 112 0 = some (0, 1, false) := by kernel_rfl
@[simp] theorem fOf_112_1 : fOf Tryz.prog 112 1 = some (1, 1, false) := by kernel_rfl
@[simp] theorem pls_112 : pls Tryz.prog 112 = some [(0, 1), (1, 1)] := by kernel_rfl
@[simp] theorem eqTy_112 : eqTy Tryz.prog 112 = some [1, 1] := by kernel_rfl
@[simp] theorem nIfc_114 : nIfc Tryz.prog 114 = true := by kernel_rfl
@[simp] theorem tyL_114 : tyL Tryz.prog 114 = some (1, false) := by kernel_rfl
@[simp] theorem nIfc_115 : nIfc Tryz.prog 115 = true := by kernel_rfl
@[simp] theorem tyL_115 : tyL Tryz.prog 115 = some (1, false) := by kernel_rfl
@[simp] theorem nIfc_116 : nIfc Tryz.prog 116 = true := by kernel_rfl
@[simp] theorem tyL_116 : tyL Tryz.prog 116 = some (1, false) := by kernel_rfl
@[simp] theorem nIfc_117 : nIfc Tryz.prog 117 = true := by kernel_rfl
@[simp] theorem tyL_117 : tyL Tryz.prog 117 = some (1, false) := by kernel_rfl
@[simp] theorem nIfc_118 : nIfc Tryz.prog 118 = true := by kernel_rfl
@[simp] theorem tyL_118 : tyL Tryz.prog 118 = some (1, false) := by kernel_rfl
@[simp] theorem nIfc_119 : nIfc Tryz.prog 119 = true := by kernel_rfl
@[simp] theorem tyL_119 : tyL Tryz.prog 119 = some (1, false) := by kernel_rfl
@[simp] theorem nIfc_129 : nIfc Tryz.prog 129 = true := by kernel_rfl
@[simp] theorem tyL_129 : tyL Tryz.prog 129 = some (1, false) := by kernel_rfl
@[simp] theorem nIfc_132 : nIfc Tryz.prog 132 = true := by kernel_rfl
@[simp] theorem tyL_132 : tyL Tryz.prog 132 = some (2, true) := by kernel_rfl
@[simp] theorem zcells_132 : zcells Tryz.prog 132 = some [.w false false (.str ByteArray.empty), .w false false (.int .i64 (0))] := by kernel_rfl
@[simp] theorem slE_132 : slE Tryz.prog 132 = none := by kernel_rfl
@[simp] theorem isStr_132 : isStr Tryz.prog 132 = false := by kernel_rfl
@[simp] theorem fOf_132_0 : fOf Tryz.prog 132 0 = some (0, 1, false) := by kernel_rfl
@[simp] theorem fOf_132_1 : fOf Tryz.prog 132 1 = some (1, 1, false) := by kernel_rfl
@[simp] theorem pls_132 : pls Tryz.prog 132 = some [(0, 1), (1, 1)] := by kernel_rfl
@[simp] theorem eqTy_132 : eqTy Tryz.prog 132 = some [2, 1] := by kernel_rfl
@[simp] theorem nIfc_141 : nIfc Tryz.prog 141 = true := by kernel_rfl
@[simp] theorem tyL_141 : tyL Tryz.prog 141 = some (1, false) := by kernel_rfl
@[simp] theorem nIfc_144 : nIfc Tryz.prog 144 = true := by kernel_rfl
@[simp] theorem tyL_144 : tyL Tryz.prog 144 = some (1, false) := by kernel_rfl
@[simp] theorem nIfc_151 : nIfc Tryz.prog 151 = true := by kernel_rfl
@[simp] theorem tyL_151 : tyL Tryz.prog 151 = some (1, false) := by kernel_rfl
@[simp] theorem zcells_151 : zcells Tryz.prog 151 = some [.w true true (.sl 0 [])] := by kernel_rfl
@[simp] theorem slE_151 : slE Tryz.prog 151 = some (9, 1) := by kernel_rfl
@[simp] theorem byE_9 : byE Tryz.prog 9 = some 16 := by kernel_rfl
@[simp] theorem isStr_151 : isStr Tryz.prog 151 = false := by kernel_rfl
@[simp] theorem eqTy_151 : eqTy Tryz.prog 151 = none := by kernel_rfl
@[simp] theorem tyL_154 : tyL Tryz.prog 154 = some (1, false) := by kernel_rfl
@[simp] theorem zcells_154 : zcells Tryz.prog 154 = some [.w true false .nili] := by kernel_rfl
@[simp] theorem eqTy_154 : eqTy Tryz.prog 154 = none := by kernel_rfl
@[simp] theorem nIfc_157 : nIfc Tryz.prog 157 = true := by kernel_rfl
@[simp] theorem tyL_157 : tyL Tryz.prog 157 = some (1, false) := by kernel_rfl
@[simp] theorem zcells_157 : zcells Tryz.prog 157 = some [.w false false (.str ByteArray.empty)] := by kernel_rfl
@[simp] theorem slE_157 : slE Tryz.prog 157 = none := by kernel_rfl
@[simp] theorem isStr_157 : isStr Tryz.prog 157 = true := by kernel_rfl
@[simp] theorem eqTy_157 : eqTy Tryz.prog 157 = none := by kernel_rfl
@[simp] theorem nIfc_159 : nIfc Tryz.prog 159 = true := by kernel_rfl
@[simp] theorem tyL_159 : tyL Tryz.prog 159 = some (1, false) := by kernel_rfl
@[simp] theorem zcells_159 : zcells Tryz.prog 159 = some [.w true false .nilp] := by kernel_rfl
@[simp] theorem slE_159 : slE Tryz.prog 159 = none := by kernel_rfl
@[simp] theorem isStr_159 : isStr Tryz.prog 159 = false := by kernel_rfl
@[simp] theorem eqTy_159 : eqTy Tryz.prog 159 = none := by kernel_rfl
@[simp] theorem nIfc_165 : nIfc Tryz.prog 165 = true := by kernel_rfl
@[simp] theorem tyL_165 : tyL Tryz.prog 165 = some (1, false) := by kernel_rfl
@[simp] theorem zcells_165 : zcells Tryz.prog 165 = some [.w true true (.sl 0 [])] := by kernel_rfl
@[simp] theorem slE_165 : slE Tryz.prog 165 = some (132, 2) := by kernel_rfl
@[simp] theorem isStr_165 : isStr Tryz.prog 165 = false := by kernel_rfl
@[simp] theorem eqTy_165 : eqTy Tryz.prog 165 = none := by kernel_rfl
@[simp] theorem nIfc_168 : nIfc Tryz.prog 168 = true := by kernel_rfl
@[simp] theorem tyL_168 : tyL Tryz.prog 168 = some (1, false) := by kernel_rfl
@[simp] theorem nIfc_173 : nIfc Tryz.prog 173 = true := by kernel_rfl
@[simp] theorem tyL_173 : tyL Tryz.prog 173 = some (3, true) := by kernel_rfl
@[simp] theorem zcells_173 : zcells Tryz.prog 173 = some [.w false false (.int .i64 (0)), .w false false (.str ByteArray.empty), .w true true (.sl 0 [])] := by kernel_rfl
@[simp] theorem slE_173 : slE Tryz.prog 173 = none := by kernel_rfl
@[simp] theorem isStr_173 : isStr Tryz.prog 173 = false := by kernel_rfl
@[simp] theorem fOf_173_0 : fOf Tryz.prog 173 0 = some (0, 3, true) := by kernel_rfl
@[simp] theorem pls_173 : pls Tryz.prog 173 = some [(0, 3)] := by kernel_rfl
@[simp] theorem nIfc_177 : nIfc Tryz.prog 177 = true := by kernel_rfl
@[simp] theorem tyL_177 : tyL Tryz.prog 177 = some (5, true) := by kernel_rfl
@[simp] theorem zcells_177 : zcells Tryz.prog 177 = some [.w false false (.str ByteArray.empty), .w false false (.str ByteArray.empty), .w false false (.str ByteArray.empty), .w false false (.str ByteArray.empty), .w false false (.str ByteArray.empty)] := by kernel_rfl
@[simp] theorem slE_177 : slE Tryz.prog 177 = none := by kernel_rfl
@[simp] theorem arE_177 : arE Tryz.prog 177 = some (5, 1) := by kernel_rfl
@[simp] theorem isStr_177 : isStr Tryz.prog 177 = false := by kernel_rfl
@[simp] theorem pls_177 : pls Tryz.prog 177 = some [(0, 1), (1, 1), (2, 1), (3, 1), (4, 1)] := by kernel_rfl
@[simp] theorem eqTy_177 : eqTy Tryz.prog 177 = some [2, 2, 2, 2, 2] := by kernel_rfl
@[simp] theorem nIfc_178 : nIfc Tryz.prog 178 = true := by kernel_rfl
@[simp] theorem tyL_178 : tyL Tryz.prog 178 = some (1, false) := by kernel_rfl
@[simp] theorem nIfc_180 : nIfc Tryz.prog 180 = true := by kernel_rfl
@[simp] theorem tyL_180 : tyL Tryz.prog 180 = some (3, true) := by kernel_rfl
@[simp] theorem zcells_180 : zcells Tryz.prog 180 = some [.w true true (.sl 0 []), .w true true (.sl 0 []), .w false false (.int .i64 (0))] := by kernel_rfl
@[simp] theorem slE_180 : slE Tryz.prog 180 = none := by kernel_rfl
@[simp] theorem isStr_180 : isStr Tryz.prog 180 = false := by kernel_rfl
@[simp] theorem fOf_180_0 : fOf Tryz.prog 180 0 = some (0, 3, true) := by kernel_rfl
@[simp] theorem pls_180 : pls Tryz.prog 180 = some [(0, 3)] := by kernel_rfl
@[simp] theorem nIfc_188 : nIfc Tryz.prog 188 = true := by kernel_rfl
@[simp] theorem tyL_188 : tyL Tryz.prog 188 = some (2, true) := by kernel_rfl
@[simp] theorem zcells_188 : zcells Tryz.prog 188 = some [.w true true (.sl 0 []), .w false false (.int .i64 (0))] := by kernel_rfl
@[simp] theorem slE_188 : slE Tryz.prog 188 = none := by kernel_rfl
@[simp] theorem isStr_188 : isStr Tryz.prog 188 = false := by kernel_rfl
@[simp] theorem fOf_188_0 : fOf Tryz.prog 188 0 = some (0, 1, false) := by kernel_rfl
@[simp] theorem fOf_188_1 : fOf Tryz.prog 188 1 = some (1, 1, false) := by kernel_rfl
@[simp] theorem pls_188 : pls Tryz.prog 188 = some [(0, 1), (1, 1)] := by kernel_rfl
@[simp] theorem nIfc_189 : nIfc Tryz.prog 189 = true := by kernel_rfl
@[simp] theorem tyL_189 : tyL Tryz.prog 189 = some (1, false) := by kernel_rfl
@[simp] theorem nIfc_198 : nIfc Tryz.prog 198 = true := by kernel_rfl
@[simp] theorem tyL_198 : tyL Tryz.prog 198 = some (1, false) := by kernel_rfl
@[simp] theorem zcells_198 : zcells Tryz.prog 198 = some [.w true true (.sl 0 [])] := by kernel_rfl
@[simp] theorem slE_198 : slE Tryz.prog 198 = some (24, 1) := by kernel_rfl
@[simp] theorem byE_24 : byE Tryz.prog 24 = some 8 := by kernel_rfl
@[simp] theorem isStr_198 : isStr Tryz.prog 198 = false := by kernel_rfl
@[simp] theorem eqTy_198 : eqTy Tryz.prog 198 = none := by kernel_rfl
@[simp] theorem nIfc_200 : nIfc Tryz.prog 200 = true := by kernel_rfl
@[simp] theorem tyL_200 : tyL Tryz.prog 200 = some (1, false) := by kernel_rfl
@[simp] theorem zcells_200 : zcells Tryz.prog 200 = some [.w true true (.sl 0 [])] := by kernel_rfl
@[simp] theorem slE_200 : slE Tryz.prog 200 = some (201, 1) := by kernel_rfl
@[simp] theorem byE_201 : byE Tryz.prog 201 = some 8 := by kernel_rfl
@[simp] theorem isStr_200 : isStr Tryz.prog 200 = false := by kernel_rfl
@[simp] theorem eqTy_200 : eqTy Tryz.prog 200 = none := by kernel_rfl
@[simp] theorem nIfc_201 : nIfc Tryz.prog 201 = true := by kernel_rfl
@[simp] theorem tyL_201 : tyL Tryz.prog 201 = some (1, false) := by kernel_rfl
@[simp] theorem zcells_201 : zcells Tryz.prog 201 = some [.w false false (.int .u64 (0))] := by kernel_rfl
@[simp] theorem slE_201 : slE Tryz.prog 201 = none := by kernel_rfl
@[simp] theorem isStr_201 : isStr Tryz.prog 201 = false := by kernel_rfl
@[simp] theorem kindOf_201 : kindOf Tryz.prog 201 = some .u64 := by kernel_rfl
@[simp] theorem eqTy_201 : eqTy Tryz.prog 201 = none := by kernel_rfl
@[simp] theorem nIfc_208 : nIfc Tryz.prog 208 = true := by kernel_rfl
@[simp] theorem tyL_208 : tyL Tryz.prog 208 = some (1, false) := by kernel_rfl
@[simp] theorem zcells_208 : zcells Tryz.prog 208 = some [.w true false .nilp] := by kernel_rfl
@[simp] theorem slE_208 : slE Tryz.prog 208 = none := by kernel_rfl
@[simp] theorem isStr_208 : isStr Tryz.prog 208 = false := by kernel_rfl
@[simp] theorem eqTy_208 : eqTy Tryz.prog 208 = none := by kernel_rfl
@[simp] theorem nIfc_209 : nIfc Tryz.prog 209 = true := by kernel_rfl
@[simp] theorem tyL_209 : tyL Tryz.prog 209 = some (1, false) := by kernel_rfl
@[simp] theorem zcells_209 : zcells Tryz.prog 209 = some [.w true true (.sl 0 [])] := by kernel_rfl
@[simp] theorem slE_209 : slE Tryz.prog 209 = some (5, 1) := by kernel_rfl
@[simp] theorem byE_5 : byE Tryz.prog 5 = some 1 := by kernel_rfl
@[simp] theorem isStr_209 : isStr Tryz.prog 209 = false := by kernel_rfl
@[simp] theorem eqTy_209 : eqTy Tryz.prog 209 = none := by kernel_rfl
@[simp] theorem nIfc_211 : nIfc Tryz.prog 211 = true := by kernel_rfl
@[simp] theorem tyL_211 : tyL Tryz.prog 211 = some (2, true) := by kernel_rfl
@[simp] theorem zcells_211 : zcells Tryz.prog 211 = some [.w true false .nilp, .w true true (.sl 0 [])] := by kernel_rfl
@[simp] theorem slE_211 : slE Tryz.prog 211 = none := by kernel_rfl
@[simp] theorem isStr_211 : isStr Tryz.prog 211 = false := by kernel_rfl
@[simp] theorem fOf_211_0 : fOf Tryz.prog 211 0 = some (0, 1, false) := by kernel_rfl
@[simp] theorem fOf_211_1 : fOf Tryz.prog 211 1 = some (1, 1, false) := by kernel_rfl
@[simp] theorem pls_211 : pls Tryz.prog 211 = some [(0, 1), (1, 1)] := by kernel_rfl
@[simp] theorem nIfc_215 : nIfc Tryz.prog 215 = true := by kernel_rfl
@[simp] theorem tyL_215 : tyL Tryz.prog 215 = some (1, false) := by kernel_rfl
@[simp] theorem nIfc_220 : nIfc Tryz.prog 220 = true := by kernel_rfl
@[simp] theorem tyL_220 : tyL Tryz.prog 220 = some (1, false) := by kernel_rfl
@[simp] theorem zcells_220 : zcells Tryz.prog 220 = some [.w false false (.int .u64 (0))] := by kernel_rfl
@[simp] theorem slE_220 : slE Tryz.prog 220 = none := by kernel_rfl
@[simp] theorem isStr_220 : isStr Tryz.prog 220 = false := by kernel_rfl
@[simp] theorem kindOf_220 : kindOf Tryz.prog 220 = some .u64 := by kernel_rfl
@[simp] theorem eqTy_220 : eqTy Tryz.prog 220 = none := by kernel_rfl
@[simp] theorem nIfc_222 : nIfc Tryz.prog 222 = true := by kernel_rfl
@[simp] theorem tyL_222 : tyL Tryz.prog 222 = some (3, true) := by kernel_rfl
@[simp] theorem zcells_222 : zcells Tryz.prog 222 = some [.w true false .nilp, .w true false .nilp, .w false false (.int .u64 (0))] := by kernel_rfl
@[simp] theorem slE_222 : slE Tryz.prog 222 = none := by kernel_rfl
@[simp] theorem isStr_222 : isStr Tryz.prog 222 = false := by kernel_rfl
@[simp] theorem fOf_222_0 : fOf Tryz.prog 222 0 = some (0, 1, false) := by kernel_rfl
@[simp] theorem fOf_222_1 : fOf Tryz.prog 222 1 = some (1, 1, false) := by kernel_rfl
@[simp] theorem fOf_222_2 : fOf Tryz.prog 222 2 = some (2, 1, false) := by kernel_rfl
@[simp] theorem pls_222 : pls Tryz.prog 222 = some [(0, 1), (1, 1), (2, 1)] := by kernel_rfl
@[simp] theorem tyL_225 : tyL Tryz.prog 225 = some (1, false) := by kernel_rfl
@[simp] theorem zcells_225 : zcells Tryz.prog 225 = some [.w true false .nili] := by kernel_rfl
@[simp] theorem eqTy_225 : eqTy Tryz.prog 225 = none := by kernel_rfl
@[simp] theorem nIfc_231 : nIfc Tryz.prog 231 = true := by kernel_rfl
@[simp] theorem tyL_231 : tyL Tryz.prog 231 = some (1, false) := by kernel_rfl
@[simp] theorem zcells_231 : zcells Tryz.prog 231 = some [.w true false .nilp] := by kernel_rfl
@[simp] theorem slE_231 : slE Tryz.prog 231 = none := by kernel_rfl
@[simp] theorem isStr_231 : isStr Tryz.prog 231 = false := by kernel_rfl
@[simp] theorem eqTy_231 : eqTy Tryz.prog 231 = none := by kernel_rfl
@[simp] theorem nIfc_232 : nIfc Tryz.prog 232 = true := by kernel_rfl
@[simp] theorem tyL_232 : tyL Tryz.prog 232 = some (3, true) := by kernel_rfl
@[simp] theorem zcells_232 : zcells Tryz.prog 232 = some [.w false false (.str ByteArray.empty), .w false false (.str ByteArray.empty), .w false false (.str ByteArray.empty)] := by kernel_rfl
@[simp] theorem slE_232 : slE Tryz.prog 232 = none := by kernel_rfl
@[simp] theorem arE_232 : arE Tryz.prog 232 = some (3, 1) := by kernel_rfl
@[simp] theorem isStr_232 : isStr Tryz.prog 232 = false := by kernel_rfl
@[simp] theorem pls_232 : pls Tryz.prog 232 = some [(0, 1), (1, 1), (2, 1)] := by kernel_rfl
@[simp] theorem eqTy_232 : eqTy Tryz.prog 232 = some [2, 2, 2] := by kernel_rfl
@[simp] theorem nIfc_236 : nIfc Tryz.prog 236 = true := by kernel_rfl
@[simp] theorem tyL_236 : tyL Tryz.prog 236 = some (1, false) := by kernel_rfl
@[simp] theorem zcells_236 : zcells Tryz.prog 236 = some [.w true false .nilp] := by kernel_rfl
@[simp] theorem slE_236 : slE Tryz.prog 236 = none := by kernel_rfl
@[simp] theorem isStr_236 : isStr Tryz.prog 236 = false := by kernel_rfl
@[simp] theorem eqTy_236 : eqTy Tryz.prog 236 = none := by kernel_rfl
@[simp] theorem nIfc_237 : nIfc Tryz.prog 237 = true := by kernel_rfl
@[simp] theorem tyL_237 : tyL Tryz.prog 237 = some (1, false) := by kernel_rfl
@[simp] theorem zcells_237 : zcells Tryz.prog 237 = some [.w false false (.int .u64 (0))] := by kernel_rfl
@[simp] theorem slE_237 : slE Tryz.prog 237 = none := by kernel_rfl
@[simp] theorem isStr_237 : isStr Tryz.prog 237 = false := by kernel_rfl
@[simp] theorem kindOf_237 : kindOf Tryz.prog 237 = some .u64 := by kernel_rfl
@[simp] theorem eqTy_237 : eqTy Tryz.prog 237 = none := by kernel_rfl
@[simp] theorem nIfc_247 : nIfc Tryz.prog 247 = true := by kernel_rfl
@[simp] theorem tyL_247 : tyL Tryz.prog 247 = some (2, true) := by kernel_rfl
@[simp] theorem zcells_247 : zcells Tryz.prog 247 = some [.w false false .undef, .w false false .undef] := by kernel_rfl
@[simp] theorem slE_247 : slE Tryz.prog 247 = none := by kernel_rfl
@[simp] theorem isStr_247 : isStr Tryz.prog 247 = false := by kernel_rfl
@[simp] theorem fOf_247_0 : fOf Tryz.prog 247 0 = some (0, 1, false) := by kernel_rfl
@[simp] theorem fOf_247_1 : fOf Tryz.prog 247 1 = some (1, 1, false) := by kernel_rfl
@[simp] theorem pls_247 : pls Tryz.prog 247 = some [(0, 1), (1, 1)] := by kernel_rfl
@[simp] theorem nIfc_251 : nIfc Tryz.prog 251 = true := by kernel_rfl
@[simp] theorem tyL_251 : tyL Tryz.prog 251 = some (1, false) := by kernel_rfl
@[simp] theorem zcells_251 : zcells Tryz.prog 251 = some [.w true false .nilp] := by kernel_rfl
@[simp] theorem slE_251 : slE Tryz.prog 251 = none := by kernel_rfl
@[simp] theorem isStr_251 : isStr Tryz.prog 251 = false := by kernel_rfl
@[simp] theorem eqTy_251 : eqTy Tryz.prog 251 = none := by kernel_rfl
@[simp] theorem byE_154 : byE Tryz.prog 154 = some 16 := by kernel_rfl
@[simp] theorem nIfc_274 : nIfc Tryz.prog 274 = true := by kernel_rfl
@[simp] theorem tyL_274 : tyL Tryz.prog 274 = some (24, true) := by kernel_rfl
@[simp] theorem zcells_274 : zcells Tryz.prog 274 = some [.w false false (.int .u8 (0)), .w false false (.int .u8 (0)), .w false false (.int .u8 (0)), .w false false (.int .u8 (0)), .w false false (.int .u8 (0)), .w false false (.int .u8 (0)), .w false false (.int .u8 (0)), .w false false (.int .u8 (0)), .w false false (.int .u8 (0)), .w false false (.int .u8 (0)), .w false false (.int .u8 (0)), .w false false (.int .u8 (0)), .w false false (.int .u8 (0)), .w false false (.int .u8 (0)), .w false false (.int .u8 (0)), .w false false (.int .u8 (0)), .w false false (.int .u8 (0)), .w false false (.int .u8 (0)), .w false false (.int .u8 (0)), .w false false (.int .u8 (0)), .w false false (.int .u8 (0)), .w false false (.int .u8 (0)), .w false false (.int .u8 (0)), .w false false (.int .u8 (0))] := by kernel_rfl
@[simp] theorem slE_274 : slE Tryz.prog 274 = none := by kernel_rfl
@[simp] theorem arE_274 : arE Tryz.prog 274 = some (24, 1) := by kernel_rfl
@[simp] theorem isStr_274 : isStr Tryz.prog 274 = false := by kernel_rfl
@[simp] theorem eqTy_274 : eqTy Tryz.prog 274 = some [1, 1, 1, 1, 1, 1, 1, 1, 1, 1, 1, 1, 1, 1, 1, 1, 1, 1, 1, 1, 1, 1, 1, 1] := by kernel_rfl
@[simp] theorem nIfc_285 : nIfc Tryz.prog 285 = true := by kernel_rfl
@[simp] theorem tyL_285 : tyL Tryz.prog 285 = some (20, true) := by kernel_rfl
@[simp] theorem zcells_285 : zcells Tryz.prog 285 = some [.w false false (.int .u64 (0)), .w false false (.int .u64 (0)), .w false false (.int .u64 (0)), .w false false (.int .u64 (0)), .w false false (.int .u64 (0)), .w false false (.int .u64 (0)), .w false false (.int .u64 (0)), .w false false (.int .u64 (0)), .w false false (.int .u64 (0)), .w false false (.int .u64 (0)), .w false false (.int .u64 (0)), .w false false (.int .u64 (0)), .w false false (.int .u64 (0)), .w false false (.int .u64 (0)), .w false false (.int .u64 (0)), .w false false (.int .u64 (0)), .w false false (.int .u64 (0)), .w false false (.int .u64 (0)), .w false false (.int .u64 (0)), .w false false (.int .u64 (0))] := by kernel_rfl
@[simp] theorem slE_285 : slE Tryz.prog 285 = none := by kernel_rfl
@[simp] theorem arE_285 : arE Tryz.prog 285 = some (20, 1) := by kernel_rfl
@[simp] theorem isStr_285 : isStr Tryz.prog 285 = false := by kernel_rfl
@[simp] theorem eqTy_285 : eqTy Tryz.prog 285 = some [1, 1, 1, 1, 1, 1, 1, 1, 1, 1, 1, 1, 1, 1, 1, 1, 1, 1, 1, 1] := by kernel_rfl
@[simp] theorem nIfc_286 : nIfc Tryz.prog 286 = true := by kernel_rfl
@[simp] theorem tyL_286 : tyL Tryz.prog 286 = some (1, false) := by kernel_rfl
@[simp] theorem zcells_286 : zcells Tryz.prog 286 = some [.w false false (.int .u32 (0))] := by kernel_rfl
@[simp] theorem slE_286 : slE Tryz.prog 286 = none := by kernel_rfl
@[simp] theorem isStr_286 : isStr Tryz.prog 286 = false := by kernel_rfl
@[simp] theorem kindOf_286 : kindOf Tryz.prog 286 = some .u32 := by kernel_rfl
@[simp] theorem eqTy_286 : eqTy Tryz.prog 286 = none := by kernel_rfl
@[simp] theorem nIfc_287 : nIfc Tryz.prog 287 = true := by kernel_rfl
@[simp] theorem tyL_287 : tyL Tryz.prog 287 = some (65, true) := by kernel_rfl
@[simp] theorem slE_287 : slE Tryz.prog 287 = none := by kernel_rfl
@[simp] theorem arE_287 : arE Tryz.prog 287 = some (65, 1) := by kernel_rfl
@[simp] theorem isStr_287 : isStr Tryz.prog 287 = false := by kernel_rfl
@[simp] theorem eqTy_287 : eqTy Tryz.prog 287 = some [1, 1, 1, 1, 1, 1, 1, 1, 1, 1, 1, 1, 1, 1, 1, 1, 1, 1, 1, 1, 1, 1, 1, 1, 1, 1, 1, 1, 1, 1, 1, 1, 1, 1, 1, 1, 1, 1, 1, 1, 1, 1, 1, 1, 1, 1, 1, 1, 1, 1, 1, 1, 1, 1, 1, 1, 1, 1, 1, 1, 1, 1, 1, 1, 1] := by kernel_rfl
@[simp] theorem tyL_291 : tyL Tryz.prog 291 = some (1, false) := by kernel_rfl
@[simp] theorem zcells_291 : zcells Tryz.prog 291 = some [.w false false (.int .i64 (0))] := by kernel_rfl
@[simp] theorem slE_291 : slE Tryz.prog 291 = none := by kernel_rfl
@[simp] theorem isStr_291 : isStr Tryz.prog 291 = false := by kernel_rfl
@[simp] theorem kindOf_291 : kindOf Tryz.prog 291 = some .i64 := by kernel_rfl
@[simp] theorem eqTy_291 : eqTy Tryz.prog 291 = none := by kernel_rfl
@[simp] theorem tyL_294 : tyL Tryz.prog 294 = some (1, false) := by kernel_rfl
@[simp] theorem zcells_294 : zcells Tryz.prog 294 = some [.w true false .nilp] := by kernel_rfl
@[simp] theorem slE_294 : slE Tryz.prog 294 = none := by kernel_rfl
@[simp] theorem isStr_294 : isStr Tryz.prog 294 = false := by kernel_rfl
@[simp] theorem eqTy_294 : eqTy Tryz.prog 294 = none := by kernel_rfl
@[simp] theorem tyL_303 : tyL Tryz.prog 303 = some (3, true) := by kernel_rfl
@[simp] theorem zcells_303 : zcells Tryz.prog 303 = some [.w false false (.str ByteArray.empty), .w false false (.str ByteArray.empty), .w true false .nili] := by kernel_rfl
@[simp] theorem slE_303 : slE Tryz.prog 303 = none := by kernel_rfl
@[simp] theorem isStr_303 : isStr Tryz.prog 303 = false := by kernel_rfl
@[simp] theorem fOf_303_0 : fOf Tryz.prog 303 0 = some (0, 1, false) := by kernel_rfl
@[simp] theorem fOf_303_1 : fOf Tryz.prog 303 1 = some (1, 1, false) := by kernel_rfl
@[simp] theorem fOf_303_2 : fOf Tryz.prog 303 2 = some (2, 1, false) := by kernel_rfl
@[simp] theorem pls_303 : pls Tryz.prog 303 = some [(0, 1), (1, 1), (2, 1)] := by kernel_rfl
@[simp] theorem nIfc_305 : nIfc Tryz.prog 305 = true := by kernel_rfl
@[simp] theorem tyL_305 : tyL Tryz.prog 305 = some (32, true) := by kernel_rfl
@[simp] theorem slE_305 : slE Tryz.prog 305 = none := by kernel_rfl
@[simp] theorem arE_305 : arE Tryz.prog 305 = some (32, 1) := by kernel_rfl
@[simp] theorem isStr_305 : isStr Tryz.prog 305 = false := by kernel_rfl
@[simp] theorem eqTy_305 : eqTy Tryz.prog 305 = some [1, 1, 1, 1, 1, 1, 1, 1, 1, 1, 1, 1, 1, 1, 1, 1, 1, 1, 1, 1, 1, 1, 1, 1, 1, 1, 1, 1, 1, 1, 1, 1] := by kernel_rfl
@[simp] theorem nIfc_306 : nIfc Tryz.prog 306 = true := by kernel_rfl
@[simp] theorem tyL_306 : tyL Tryz.prog 306 = some (64, true) := by kernel_rfl
@[simp] theorem slE_306 : slE Tryz.prog 306 = none := by kernel_rfl
@[simp] theorem arE_306 : arE Tryz.prog 306 = some (64, 1) := by kernel_rfl
@[simp] theorem isStr_306 : isStr Tryz.prog 306 = false := by kernel_rfl
@[simp] theorem eqTy_306 : eqTy Tryz.prog 306 = some [1, 1, 1, 1, 1, 1, 1, 1, 1, 1, 1, 1, 1, 1, 1, 1, 1, 1, 1, 1, 1, 1, 1, 1, 1, 1, 1, 1, 1, 1, 1, 1, 1, 1, 1, 1, 1, 1, 1, 1, 1, 1, 1, 1, 1, 1, 1, 1, 1, 1, 1, 1, 1, 1, 1, 1, 1, 1, 1, 1, 1, 1, 1, 1] := by kernel_rfl
@[simp] theorem nIfc_307 : nIfc Tryz.prog 307 = true := by kernel_rfl
@[simp] theorem tyL_307 : tyL Tryz.prog 307 = some (256, true) := by kernel_rfl
@[simp] theorem slE_307 : slE Tryz.prog 307 = none := by kernel_rfl
@[simp] theorem arE_307 : arE Tryz.prog 307 = some (256, 1) := by kernel_rfl
@[simp] theorem isStr_307 : isStr Tryz.prog 307 = false := by kernel_rfl
@[simp] theorem eqTy_307 : eqTy Tryz.prog 307 = some [1, 1, 1, 1, 1, 1, 1, 1, 1, 1, 1, 1, 1, 1, 1, 1, 1, 1, 1, 1, 1, 1, 1, 1, 1, 1, 1, 1, 1, 1, 1, 1, 1, 1, 1, 1, 1, 1, 1, 1, 1, 1, 1, 1, 1, 1, 1, 1, 1, 1, 1, 1, 1, 1, 1, 1, 1, 1, 1, 1, 1, 1, 1, 1, 1, 1, 1, 1, 1, 1, 1, 1, 1, 1, 1, 1, 1, 1, 1, 1, 1, 1, 1, 1, 1, 1, 1, 1, 1, 1, 1, 1, 1, 1, 1, 1, 1, 1, 1, 1, 1, 1, 1, 1, 1, 1, 1, 1, 1, 1, 1, 1, 1, 1, 1, 1, 1, 1, 1, 1, 1, 1, 1, 1, 1, 1, 1, 1, 1, 1, 1, 1, 1, 1, 1, 1, 1, 1, 1, 1, 1, 1, 1, 1, 1, 1, 1, 1, 1, 1, 1, 1, 1, 1, 1, 1, 1, 1, 1, 1, 1, 1, 1, 1, 1, 1, 1, 1, 1, 1, 1, 1, 1, 1, 1, 1, 1, 1, 1, 1, 1, 1, 1, 1, 1, 1, 1, 1, 1, 1, 1, 1, 1, 1, 1, 1, 1, 1, 1, 1, 1, 1, 1, 1, 1, 1, 1, 1, 1, 1, 1, 1, 1, 1, 1, 1, 1, 1, 1, 1, 1, 1, 1, 1, 1, 1, 1, 1, 1, 1, 1, 1, 1, 1, 1, 1, 1, 1, 1, 1, 1, 1, 1, 1, 1, 1, 1, 1, 1, 1, 1, 1, 1, 1, 1, 1] := by kernel_rfl
@[simp] theorem nIfc_309 : nIfc Tryz.prog 309 = true := by kernel_rfl
@[simp] theorem tyL_309 : tyL Tryz.prog 309 = some (2, true) := by kernel_rfl
@[simp] theorem zcells_309 : zcells Tryz.prog 309 = some [.w false false (.int .u8 (0)), .w false false (.int .u8 (0))] := by kernel_rfl
@[simp] theorem slE_309 : slE Tryz.prog 309 = none := by kernel_rfl
@[simp] theorem isStr_309 : isStr Tryz.prog 309 = false := by kernel_rfl
@[simp] theorem fOf_309_0 : fOf Tryz.prog 309 0 = some (0, 1, false) := by kernel_rfl
@[simp] theorem fOf_309_1 : fOf Tryz.prog 309 1 = some (1, 1, false) := by kernel_rfl
@[simp] theorem pls_309 : pls Tryz.prog 309 = some [(0, 1), (1, 1)] := by kernel_rfl
@[simp] theorem eqTy_309 : eqTy Tryz.prog 309 = some [1, 1] := by kernel_rfl
@[simp] theorem nIfc_310 : nIfc Tryz.prog 310 = true := by kernel_rfl
@[simp] theorem tyL_310 : tyL Tryz.prog 310 = some (32, true) := by kernel_rfl
@[simp] theorem slE_310 : slE Tryz.prog 310 = none := by kernel_rfl
@[simp] theorem arE_310 : arE Tryz.prog 310 = some (16, 2) := by kernel_rfl
@[simp] theorem isStr_310 : isStr Tryz.prog 310 = false := by kernel_rfl
@[simp] theorem eqTy_310 : eqTy Tryz.prog 310 = some [1, 1, 1, 1, 1, 1, 1, 1, 1, 1, 1, 1, 1, 1, 1, 1, 1, 1, 1, 1, 1, 1, 1, 1, 1, 1, 1, 1, 1, 1, 1, 1] := by kernel_rfl
@[simp] theorem nIfc_314 : nIfc Tryz.prog 314 = true := by kernel_rfl
@[simp] theorem tyL_314 : tyL Tryz.prog 314 = some (1, false) := by kernel_rfl
@[simp] theorem zcells_314 : zcells Tryz.prog 314 = some [.w true false .nilp] := by kernel_rfl
@[simp] theorem slE_314 : slE Tryz.prog 314 = none := by kernel_rfl
@[simp] theorem isStr_314 : isStr Tryz.prog 314 = false := by kernel_rfl
@[simp] theorem eqTy_314 : eqTy Tryz.prog 314 = none := by kernel_rfl
@[simp] theorem nIfc_316 : nIfc Tryz.prog 316 = true := by kernel_rfl
@[simp] theorem tyL_316 : tyL Tryz.prog 316 = some (1, true) := by kernel_rfl
@[simp] theorem zcells_316 : zcells Tryz.prog 316 = some [.w false false (.str ByteArray.empty)] := by kernel_rfl
@[simp] theorem slE_316 : slE Tryz.prog 316 = none := by kernel_rfl
@[simp] theorem isStr_316 : isStr Tryz.prog 316 = false := by kernel_rfl
@[simp] theorem fOf_316_0 : fOf Tryz.prog 316 0 = some (0, 1, false) := by kernel_rfl
@[simp] theorem pls_316 : pls Tryz.prog 316 = some [(0, 1)] := by kernel_rfl
@[simp] theorem eqTy_316 : eqTy Tryz.prog 316 = some [2] := by kernel_rfl
@[simp] theorem byteSl_9_209 : byteSl Tryz.prog 9 209 = true := by kernel_rfl
@[simp] theorem byteSl_10_209 : byteSl Tryz.prog 10 209 = true := by kernel_rfl
@[simp] theorem byteSl_11_209 : byteSl Tryz.prog 11 209 = true := by kernel_rfl
@[simp] theorem byteSl_157_209 : byteSl Tryz.prog 157 209 = true := by kernel_rfl
end Go.Proofs.YtdgbfbgnbgfmjaaGreatDoor

