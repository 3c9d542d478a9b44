/- Contracts of functions for this claim: lemmas alone. -/
import Derived.Test.YtfjpgnacofkipaaDoorProg
import Derived.Test.YtfjpgnacofkipaaDoorLd
import Derived.KernelRfl
set_option linter.unusedSimpArgs false
set_option linter.unusedVariables false
namespace Go.Proofs.YtfjpgnacofkipaaDoor
open Go Go.Fi
set_option maxRecDepth 100000
@[simp] theorem nIfc_1 : nIfc Tryd.prog 1 = true := by kernel_rfl
@[simp] theorem tyL_1 : tyL Tryd.prog 1 = some (1, false) := by kernel_rfl
@[simp] theorem nIfc_2 : nIfc Tryd.prog 2 = true := by kernel_rfl
@[simp] theorem tyL_2 : tyL Tryd.prog 2 = some (1, false) := by kernel_rfl
@[simp] theorem zcells_2 : zcells Tryd.prog 2 = some [.w false false (.int .i64 (0))] := by kernel_rfl
@[simp] theorem slE_2 : slE Tryd.prog 2 = none := by kernel_rfl
@[simp] theorem isStr_2 : isStr Tryd.prog 2 = false := by kernel_rfl
@[simp] theorem kindOf_2 : kindOf Tryd.prog 2 = some .i64 := by kernel_rfl
@[simp] theorem eqTy_2 : eqTy Tryd.prog 2 = none := by kernel_rfl
@[simp] theorem nIfc_3 : nIfc Tryd.prog 3 = true := by kernel_rfl
@[simp] theorem tyL_3 : tyL Tryd.prog 3 = some (1, false) := by kernel_rfl
@[simp] theorem zcells_3 : zcells Tryd.prog 3 = some [.w false false (.int .i64 (0))] := by kernel_rfl
@[simp] theorem slE_3 : slE Tryd.prog 3 = none := by kernel_rfl
@[simp] theorem isStr_3 : isStr Tryd.prog 3 = false := by kernel_rfl
@[simp] theorem kindOf_3 : kindOf Tryd.prog 3 = some .i64 := by kernel_rfl
@[simp] theorem eqTy_3 : eqTy Tryd.prog 3 = none := by kernel_rfl
@[simp] theorem nIfc_4 : nIfc Tryd.prog 4 = true := by kernel_rfl
@[simp] theorem tyL_4 : tyL Tryd.prog 4 = some (1, false) := by kernel_rfl
@[simp] theorem zcells_4 : zcells Tryd.prog 4 = some [.w false false (.bool false)] := by kernel_rfl
@[simp] theorem slE_4 : slE Tryd.prog 4 = none := by kernel_rfl
@[simp] theorem isStr_4 : isStr Tryd.prog 4 = false := by kernel_rfl
@[simp] theorem isBool_4 : isBool Tryd.prog 4 = true := by kernel_rfl
@[simp] theorem eqTy_4 : eqTy Tryd.prog 4 = none := by kernel_rfl
@[simp] theorem nIfc_5 : nIfc Tryd.prog 5 = true := by kernel_rfl
@[simp] theorem tyL_5 : tyL Tryd.prog 5 = some (1, false) := by kernel_rfl
@[simp] theorem zcells_5 : zcells Tryd.prog 5 = some [.w false false (.int .u8 (0))] := by kernel_rfl
@[simp] theorem slE_5 : slE Tryd.prog 5 = none := by kernel_rfl
@[simp] theorem isStr_5 : isStr Tryd.prog 5 = false := by kernel_rfl
@[simp] theorem kindOf_5 : kindOf Tryd.prog 5 = some .u8 := by kernel_rfl
@[simp] theorem eqTy_5 : eqTy Tryd.prog 5 = none := by kernel_rfl
@[simp] theorem nIfc_9 : nIfc Tryd.prog 9 = true := by kernel_rfl
@[simp] theorem tyL_9 : tyL Tryd.prog 9 = some (1, false) := by kernel_rfl
@[simp] theorem zcells_9 : zcells Tryd.prog 9 = some [.w false false (.str ByteArray.empty)] := by kernel_rfl
@[simp] theorem slE_9 : slE Tryd.prog 9 = none := by kernel_rfl
@[simp] theorem isStr_9 : isStr Tryd.prog 9 = true := by kernel_rfl
@[simp] theorem eqTy_9 : eqTy Tryd.prog 9 = none := by kernel_rfl
@[simp] theorem tyL_20 : tyL Tryd.prog 20 = some (1, false) := by kernel_rfl
@[simp] theorem zcells_20 : zcells Tryd.prog 20 = some [.w true false .nili] := by kernel_rfl
@[simp] theorem eqTy_20 : eqTy Tryd.prog 20 = none := by kernel_rfl
@[simp] theorem nIfc_21 : nIfc Tryd.prog 21 = true := by kernel_rfl
@[simp] theorem tyL_21 : tyL Tryd.prog 21 = some (1, false) := by kernel_rfl
@[simp] theorem zcells_21 : zcells Tryd.prog 21 = some [.w false false (.int .i32 (0))] := by kernel_rfl
@[simp] theorem slE_21 : slE Tryd.prog 21 = none := by kernel_rfl
@[simp] theorem isStr_21 : isStr Tryd.prog 21 = false := by kernel_rfl
@[simp] theorem kindOf_21 : kindOf Tryd.prog 21 = some .i32 := by kernel_rfl
@[simp] theorem eqTy_21 : eqTy Tryd.prog 21 = none := by kernel_rfl
@[simp] theorem nIfc_22 : nIfc Tryd.prog 22 = true := by kernel_rfl
@[simp] theorem tyL_22 : tyL Tryd.prog 22 = some (1, false) := by kernel_rfl
@[simp] theorem zcells_22 : zcells Tryd.prog 22 = some [.w true true (.sl 0 [])] := by kernel_rfl
@[simp] theorem slE_22 : slE Tryd.prog 22 = some (9, 1) := by kernel_rfl
@[simp] theorem byE_9 : byE Tryd.prog 9 = some 16 := by kernel_rfl
@[simp] theorem isStr_22 : isStr Tryd.prog 22 = false := by kernel_rfl
@[simp] theorem eqTy_22 : eqTy Tryd.prog 22 = none := by kernel_rfl
@[simp] theorem nIfc_23 : nIfc Tryd.prog 23 = true := by kernel_rfl
@[simp] theorem tyL_23 : tyL Tryd.prog 23 = some (1, false) := by kernel_rfl
@[simp] theorem zcells_23 : zcells Tryd.prog 23 = some [.w true true (.sl 0 [])] := by kernel_rfl
@[simp] theorem slE_23 : slE Tryd.prog 23 = some (59, 5) := by kernel_rfl
@[simp] theorem byE_59 : byE Tryd.prog 59 = some 64 := by kernel_rfl
@[simp] theorem isStr_23 : isStr Tryd.prog 23 = false := by kernel_rfl
@[simp] theorem eqTy_23 : eqTy Tryd.prog 23 = none := by kernel_rfl
@[simp] theorem nIfc_24 : nIfc Tryd.prog 24 = true := by kernel_rfl
@[simp] theorem tyL_24 : tyL Tryd.prog 24 = some (2, true) := by kernel_rfl
@[simp] theorem zcells_24 : zcells Tryd.prog 24 = some [.w true true (.sl 0 []), .w true true (.sl 0 [])] := by kernel_rfl
@[simp] theorem slE_24 : slE Tryd.prog 24 = none := by kernel_rfl
@[simp] theorem isStr_24 : isStr Tryd.prog 24 = false := by kernel_rfl
@[simp] theorem fOf_24_0 : fOf Tryd.prog 24 0 = some (0, 1, false) := by kernel_rfl
@[simp] theorem fOf_24_1 : fOf Tryd.prog 24 1 = some (1, 1, false) := by kernel_rfl
@[simp] theorem pls_24 : pls Tryd.prog 24 = some [(0, 1), (1, 1)] := by kernel_rfl
@[simp] theorem nIfc_25 : nIfc Tryd.prog 25 = true := by kernel_rfl
@[simp] theorem tyL_25 : tyL Tryd.prog 25 = some (2, true) := by kernel_rfl
@[simp] theorem zcells_25 : zcells Tryd.prog 25 = some [.w true true (.sl 0 []), .w true true (.sl 0 [])] := by kernel_rfl
@[simp] theorem slE_25 : slE Tryd.prog 25 = none := by kernel_rfl
@[simp] theorem isStr_25 : isStr Tryd.prog 25 = false := by kernel_rfl
@[simp] theorem fOf_25_0 : fOf Tryd.prog 25 0 = some (0, 1, false) := by kernel_rfl
@[simp] theorem fOf_25_1 : fOf Tryd.prog 25 1 = some (1, 1, false) := by kernel_rfl
@[simp] theorem pls_25 : pls Tryd.prog 25 = some [(0, 1), (1, 1)] := by kernel_rfl
@[simp] theorem nIfc_26 : nIfc Tryd.prog 26 = true := by kernel_rfl
@[simp] theorem tyL_26 : tyL Tryd.prog 26 = some (1, false) := by kernel_rfl
@[simp] theorem zcells_26 : zcells Tryd.prog 26 = some [.w true true (.sl 0 [])] := by kernel_rfl
@[simp] theorem slE_26 : slE Tryd.prog 26 = some (3, 1) := by kernel_rfl
@[simp] theorem byE_3 : byE Tryd.prog 3 = some 8 := by kernel_rfl
@[simp] theorem isStr_26 : isStr Tryd.prog 26 = false := by kernel_rfl
@[simp] theorem eqTy_26 : eqTy Tryd.prog 26 = none := by kernel_rfl
@[simp] theorem nIfc_27 : nIfc Tryd.prog 27 = true := by kernel_rfl
@[simp] theorem tyL_27 : tyL Tryd.prog 27 = some (1, false) := by kernel_rfl
@[simp] theorem nIfc_28 : nIfc Tryd.prog 28 = true := by kernel_rfl
@[simp] theorem tyL_28 : tyL Tryd.prog 28 = some (1, false) := by kernel_rfl
@[simp] theorem nIfc_29 : nIfc Tryd.prog 29 = true := by kernel_rfl
@[simp] theorem tyL_29 : tyL Tryd.prog 29 = some (1, false) := by kernel_rfl
@[simp] theorem nIfc_30 : nIfc Tryd.prog 30 = true := by kernel_rfl
@[simp] theorem tyL_30 : tyL Tryd.prog 30 = some (1, false) := by kernel_rfl
@[simp] theorem zcells_30 : zcells Tryd.prog 30 = some [.w false false (.int .i64 (0))] := by kernel_rfl
@[simp] theorem slE_30 : slE Tryd.prog 30 = none := by kernel_rfl
@[simp] theorem isStr_30 : isStr Tryd.prog 30 = false := by kernel_rfl
@[simp] theorem kindOf_30 : kindOf Tryd.prog 30 = some .i64 := by kernel_rfl
@[simp] theorem eqTy_30 : eqTy Tryd.prog 30 = none := by kernel_rfl
@[simp] theorem nIfc_32 : nIfc Tryd.prog 32 = true := by kernel_rfl
@[simp] theorem tyL_32 : tyL Tryd.prog 32 = some (1, false) := by kernel_rfl
@[simp] theorem nIfc_33 : nIfc Tryd.prog 33 = true := by kernel_rfl
@[simp] theorem tyL_33 : tyL Tryd.prog 33 = some (1, false) := by kernel_rfl
@[simp] theorem nIfc_34 : nIfc Tryd.prog 34 = true := by kernel_rfl
@[simp] theorem tyL_34 : tyL Tryd.prog 34 = some (1, false) := by kernel_rfl
@[simp] theorem nIfc_36 : nIfc Tryd.prog 36 = true := by kernel_rfl
@[simp] theorem tyL_36 : tyL Tryd.prog 36 = some (1, false) := by kernel_rfl
@[simp] theorem nIfc_37 : nIfc Tryd.prog 37 = true := by kernel_rfl
@[simp] theorem tyL_37 : tyL Tryd.prog 37 = some (1, false) := by kernel_rfl
@[simp] theorem nIfc_39 : nIfc Tryd.prog 39 = true := by kernel_rfl
@[simp] theorem tyL_39 : tyL Tryd.prog 39 = some (1, false) := by kernel_rfl
@[simp] theorem nIfc_40 : nIfc Tryd.prog 40 = true := by kernel_rfl
@[simp] theorem tyL_40 : tyL Tryd.prog 40 = some (1, false) := by kernel_rfl
@[simp] theorem nIfc_42 : nIfc Tryd.prog 42 = true := by kernel_rfl
@[simp] theorem tyL_42 : tyL Tryd.prog 42 = some (1, false) := by kernel_rfl
@[simp] theorem nIfc_43 : nIfc Tryd.prog 43 = true := by kernel_rfl
@[simp] theorem tyL_43 : tyL Tryd.prog 43 = some (1, false) := by kernel_rfl
@[simp] theorem nIfc_44 : nIfc Tryd.prog 44 = true := by kernel_rfl
@[simp] theorem tyL_44 : tyL Tryd.prog 44 = some (1, false) := by kernel_rfl
@[simp] theorem nIfc_45 : nIfc Tryd.prog 45 = true := by kernel_rfl
@[simp] theorem tyL_45 : tyL Tryd.prog 45 = some (2, true) := by kernel_rfl
@[simp] theorem zcells_45 : zcells Tryd.prog 45 = some [.w false false (.int .i64 (0)), .w false false (.int .i64 (0))] := by kernel_rfl
@[simp] theorem slE_45 : slE Tryd.prog 45 = none := by kernel_rfl
@[simp] theorem isStr_45 : isStr Tryd.prog 45 = false := by kernel_rfl
@[simp] theorem fOf_45_0 : fOf Tryd.prog 45 0 = some (0, 1, false) := by kernel_rfl
@[simp] theorem fOf_45_1 : fOf Tryd.prog 45 1 = some (1, 1, false) := by kernel_rfl
@[simp] theorem pls_45 : pls Tryd.prog 45 = some [(0, 1), (1, 1)] := by kernel_rfl
@[simp] theorem eqTy_45 : eqTy Tryd.prog 45 = some [1, 1] := by kernel_rfl
@[simp] theorem nIfc_46 : nIfc Tryd.prog 46 = true := by kernel_rfl
@[simp] theorem tyL_46 : tyL Tryd.prog 46 = some (2, true) := by kernel_rfl
@[simp] theorem zcells_46 : zcells Tryd.prog 46 = some [.w false false (.int .i64 (0)), .w false false (.int .i64 (0))] := by kernel_rfl
@[simp] theorem slE_46 : slE Tryd.prog 46 = none := by kernel_rfl
@[simp] theorem isStr_46 : isStr Tryd.prog 46 = false := by kernel_rfl
@[simp] theorem fOf_46_0 : fOf Tryd.prog 46 0 = some (0, 1, false) := by kernel_rfl
@[simp] theorem fOf_46_1 : fOf Tryd.prog 46 1 = some (1, 1, false) := by kernel_rfl
@[simp] theorem pls_46 : pls Tryd.prog 46 = some [(0, 1), (1, 1)] := by kernel_rfl
@[simp] theorem eqTy_46 : eqTy Tryd.prog 46 = some [1, 1] := by kernel_rfl
@[simp] theorem nIfc_48 : nIfc Tryd.prog 48 = true := by kernel_rfl
@[simp] theorem tyL_48 : tyL Tryd.prog 48 = some (1, false) := by kernel_rfl
@[simp] theorem nIfc_49 : nIfc Tryd.prog 49 = true := by kernel_rfl
@[simp] theorem tyL_49 : tyL Tryd.prog 49 = some (1, false) := by kernel_rfl
@[simp] theorem nIfc_50 : nIfc Tryd.prog 50 = true := by kernel_rfl
@[simp] theorem tyL_50 : tyL Tryd.prog 50 = some (1, false) := by kernel_rfl
@[simp] theorem nIfc_51 : nIfc Tryd.prog 51 = true := by kernel_rfl
@[simp] theorem tyL_51 : tyL Tryd.prog 51 = some (3, true) := by kernel_rfl
@[simp] theorem zcells_51 : zcells Tryd.prog 51 = some [.w false false (.int .i64 (0)), .w false false (.int .i64 (0)), .w false false (.int .i64 (0))] := by kernel_rfl
@[simp] theorem slE_51 : slE Tryd.prog 51 = none := by kernel_rfl
@[simp] theorem isStr_51 : isStr Tryd.prog 51 = false := by kernel_rfl
@[simp] theorem fOf_51_0 : fOf Tryd.prog 51 0 = some (0, 1, false) := by kernel_rfl
@[simp] theorem fOf_51_1 : fOf Tryd.prog 51 1 = some (1, 1, false) := by kernel_rfl
@[simp] theorem fOf_51_2 : fOf Tryd.prog 51 2 = some (2, 1, false) := by kernel_rfl
@[simp] theorem pls_51 : pls Tryd.prog 51 = some [(0, 1), (1, 1), (2, 1)] := by kernel_rfl
@[simp] theorem eqTy_51 : eqTy Tryd.prog 51 = some [1, 1, 1] := by kernel_rfl
@[simp] theorem nIfc_52 : nIfc Tryd.prog 52 = true := by kernel_rfl
@[simp] theorem tyL_52 : tyL Tryd.prog 52 = some (3, true) := by kernel_rfl
@[simp] theorem zcells_52 : zcells Tryd.prog 52 = some [.w false false (.int .i64 (0)), .w false false (.int .i64 (0)), .w false false (.int .i64 (0))] := by kernel_rfl
@[simp] theorem slE_52 : slE Tryd.prog 52 = none := by kernel_rfl
@[simp] theorem isStr_52 : isStr Tryd.prog 52 = false := by kernel_rfl
@[simp] theorem fOf_52_0 : fOf Tryd.prog 52 0 = some (0, 1, false) := by kernel_rfl
@[simp] theorem fOf_52_1 : fOf Tryd.prog 52 1 = some (1, 1, false) := by kernel_rfl
@[simp] theorem fOf_52_2 : fOf Tryd.prog 52 2 = some (2, 1, false) := by kernel_rfl
@[simp] theorem pls_52 : pls Tryd.prog 52 = some [(0, 1), (1, 1), (2, 1)] := by kernel_rfl
@[simp] theorem eqTy_52 : eqTy Tryd.prog 52 = some [1, 1, 1] := by kernel_rfl
@[simp] theorem nIfc_54 : nIfc Tryd.prog 54 = true := by kernel_rfl
@[simp] theorem tyL_54 : tyL Tryd.prog 54 = some (1, false) := by kernel_rfl
@[simp] theorem nIfc_56 : nIfc Tryd.prog 56 = true := by kernel_rfl
@[simp] theorem tyL_56 : tyL Tryd.prog 56 = some (1, false) := by kernel_rfl
@[simp] theorem nIfc_57 : nIfc Tryd.prog 57 = true := by kernel_rfl
@[simp] theorem tyL_57 : tyL Tryd.prog 57 = some (1, false) := by kernel_rfl
@[simp] theorem zcells_57 : zcells Tryd.prog 57 = some [.w true true (.sl 0 [])] := by kernel_rfl
@[simp] theorem slE_57 : slE Tryd.prog 57 = some (83, 3) := by kernel_rfl
@[simp] theorem byE_83 : byE Tryd.prog 83 = some 24 := by kernel_rfl
@[simp] theorem isStr_57 : isStr Tryd.prog 57 = false := by kernel_rfl
@[simp] theorem eqTy_57 : eqTy Tryd.prog 57 = none := by kernel_rfl
@[simp] theorem nIfc_58 : nIfc Tryd.prog 58 = true := by kernel_rfl
@[simp] theorem tyL_58 : tyL Tryd.prog 58 = some (5, true) := by kernel_rfl
@[simp] theorem zcells_58 : zcells Tryd.prog 58 = some [.w false false (.str ByteArray.empty), .w false false (.int .i64 (0)), .w false false (.int .i64 (0)), .w false false (.int .i64 (0)), .w true true (.sl 0 [])] := by kernel_rfl
@[simp] theorem slE_58 : slE Tryd.prog 58 = none := by kernel_rfl
@[simp] theorem isStr_58 : isStr Tryd.prog 58 = false := by kernel_rfl
@[simp] theorem fOf_58_0 : fOf Tryd.prog 58 0 = some (0, 1, false) := by kernel_rfl
@[simp] theorem fOf_58_1 : fOf Tryd.prog 58 1 = some (1, 1, false) := by kernel_rfl
@[simp] theorem fOf_58_2 : fOf Tryd.prog 58 2 = some (2, 1, false) := by kernel_rfl
@[simp] theorem fOf_58_3 : fOf Tryd.prog 58 3 = some (3, 1, false) := by kernel_rfl
@[simp] theorem fOf_58_4 : fOf Tryd.prog 58 4 = some (4, 1, false) := by kernel_rfl
@[simp] theorem pls_58 : pls Tryd.prog 58 = some [(0, 1), (1, 1), (2, 1), (3, 1), (4, 1)] := by kernel_rfl
@[simp] theorem nIfc_59 : nIfc Tryd.prog 59 = true := by kernel_rfl
@[simp] theorem tyL_59 : tyL Tryd.prog 59 = some (5, true) := by kernel_rfl
@[simp] theorem zcells_59 : zcells Tryd.prog 59 = some [.w false false (.str ByteArray.empty), .w false false (.int .i64 (0)), .w false false (.int .i64 (0)), .w false false (.int .i64 (0)), .w true true (.sl 0 [])] := by kernel_rfl
@[simp] theorem slE_59 : slE Tryd.prog 59 = none := by kernel_rfl
@[simp] theorem isStr_59 : isStr Tryd.prog 59 = false := by kernel_rfl
@[simp] theorem fOf_59_0 : fOf Tryd.prog 59 0 = some (0, 1, false) := by kernel_rfl
@[simp] theorem fOf_59_1 : fOf Tryd.prog 59 1 = some (1, 1, false) := by kernel_rfl
@[simp] theorem fOf_59_2 : fOf Tryd.prog 59 2 = some (2, 1, false) := by kernel_rfl
@[simp] theorem fOf_59_3 : fOf Tryd.prog 59 3 = some (3, 1, false) := by kernel_rfl
@[simp] theorem fOf_59_4 : fOf Tryd.prog 59 4 = some (4, 1, false) := by kernel_rfl
@[simp] theorem pls_59 : pls Tryd.prog 59 = some [(0, 1), (1, 1), (2, 1), (3, 1), (4, 1)] := by kernel_rfl
@[simp] theorem nIfc_60 : nIfc Tryd.prog 60 = true := by kernel_rfl
@[simp] theorem tyL_60 : tyL Tryd.prog 60 = some (2, true) := by kernel_rfl
@[simp] theorem zcells_60 : zcells Tryd.prog 60 = some [.w true true (.sl 0 []), .w true true (.sl 0 [])] := by kernel_rfl
@[simp] theorem slE_60 : slE Tryd.prog 60 = none := by kernel_rfl
@[simp] theorem isStr_60 : isStr Tryd.prog 60 = false := by kernel_rfl
@[simp] theorem fOf_60_0 : fOf Tryd.prog 60 0 = some (0, 2, true) := by kernel_rfl
@[simp] theorem pls_60 : pls Tryd.prog 60 = some [(0, 2)] := by kernel_rfl
@[simp] theorem nIfc_61 : nIfc Tryd.prog 61 = true := by kernel_rfl
@[simp] theorem tyL_61 : tyL Tryd.prog 61 = some (2, true) := by kernel_rfl
@[simp] theorem zcells_61 : zcells Tryd.prog 61 = some [.w true true (.sl 0 []), .w true true (.sl 0 [])] := by kernel_rfl
@[simp] theorem slE_61 : slE Tryd.prog 61 = none := by kernel_rfl
@[simp] theorem isStr_61 : isStr Tryd.prog 61 = false := by kernel_rfl
@[simp] theorem fOf_61_0 : fOf Tryd.prog 61 0 = some (0, 2, true) := by kernel_rfl
@[simp] theorem pls_61 : pls Tryd.prog 61 = some [(0, 2)] := by kernel_rfl
@[simp] theorem nIfc_63 : nIfc Tryd.prog 63 = true := by kernel_rfl
@[simp] theorem tyL_63 : tyL Tryd.prog 63 = some (1, false) := by kernel_rfl
@[simp] theorem nIfc_64 : nIfc Tryd.prog 64 = true := by kernel_rfl
@[simp] theorem tyL_64 : tyL Tryd.prog 64 = some (1, false) := by kernel_rfl
@[simp] theorem nIfc_65 : nIfc Tryd.prog 65 = true := by kernel_rfl
@[simp] theorem tyL_65 : tyL Tryd.prog 65 = some (1, false) := by kernel_rfl
@[simp] theorem nIfc_66 : nIfc Tryd.prog 66 = true := by kernel_rfl
@[simp] theorem tyL_66 : tyL Tryd.prog 66 = some (1, false) := by kernel_rfl
@[simp] theorem nIfc_67 : nIfc Tryd.prog 67 = true := by kernel_rfl
@[simp] theorem tyL_67 : tyL Tryd.prog 67 = some (1, false) := by kernel_rfl
@[simp] theorem nIfc_68 : nIfc Tryd.prog 68 = true := by kernel_rfl
@[simp] theorem tyL_68 : tyL Tryd.prog 68 = some (1, false) := by kernel_rfl
@[simp] theorem nIfc_69 : nIfc Tryd.prog 69 = true := by kernel_rfl
@[simp] theorem tyL_69 : tyL Tryd.prog 69 = some (1, false) := by kernel_rfl
@[simp] theorem nIfc_70 : nIfc Tryd.prog 70 = true := by kernel_rfl
@[simp] theorem tyL_70 : tyL Tryd.prog 70 = some (1, false) := by kernel_rfl
@[simp] theorem nIfc_71 : nIfc Tryd.prog 71 = true := by kernel_rfl
@[simp] theorem tyL_71 : tyL Tryd.prog 71 = some (1, false) := by kernel_rfl
@[simp] theorem nIfc_72 : nIfc Tryd.prog 72 = true := by kernel_rfl
@[simp] theorem tyL_72 : tyL Tryd.prog 72 = some (2, true) := by kernel_rfl
@[simp] theorem zcells_72 : zcells Tryd.prog 72 = some [.w false false (.int .i64 (0)), .w false false (.int .i64 (0))] := by kernel_rfl
@[simp] theorem slE_72 : slE Tryd.prog 72 = none := by kernel_rfl
@[simp] theorem isStr_72 : isStr Tryd.prog 72 = false := by kernel_rfl
@[simp] theorem fOf_72_0 : fOf Tryd.prog 72 0 = some (0, 1, false) := by kernel_rfl
@[simp] theorem fOf_72_1 : fOf Tryd.prog 72 1 = some (1, 1, false) := by kernel_rfl
@[simp] theorem pls_72 : pls Tryd.prog 72 = some [(0, 1), (1, 1)] := by kernel_rfl
@[simp] theorem eqTy_72 : eqTy Tryd.prog 72 = some [1, 1] := by kernel_rfl
@[simp] theorem nIfc_73 : nIfc Tryd.prog 73 = true := by kernel_rfl
@[simp] theorem tyL_73 : tyL Tryd.prog 73 = some (2, true) := by kernel_rfl
@[simp] theorem zcells_73 : zcells Tryd.prog 73 = some [.w false false (.int .i64 (0)), .w false false (.int .i64 (0))] := by kernel_rfl
@[simp] theorem slE_73 : slE Tryd.prog 73 = none := by kernel_rfl
@[simp] theorem isStr_73 : isStr Tryd.prog 73 = false := by kernel_rfl
@[simp] theorem fOf_73_0 : fOf Tryd.prog 73 0 = some (0, 1, false) := by kernel_rfl
@[simp] theorem fOf_73_1 : fOf Tryd.prog 73 1 = some (1, 1, false) := by kernel_rfl
@[simp] theorem pls_73 : pls Tryd.prog 73 = some [(0, 1), (1, 1)] := by kernel_rfl
@[simp] theorem eqTy_73 : eqTy Tryd.prog 73 = some [1, 1] := by kernel_rfl
@[simp] theorem nIfc_75 : nIfc Tryd.prog 75 = true := by kernel_rfl
@[simp] theorem tyL_75 : tyL Tryd.prog 75 = some (1, false) := by kernel_rfl
@[simp] theorem nIfc_76 : nIfc Tryd.prog 76 = true := by kernel_rfl
@[simp] theorem tyL_76 : tyL Tryd.prog 76 = some (1, false) := by kernel_rfl
@[simp] theorem nIfc_77 : nIfc Tryd.prog 77 = true := by kernel_rfl
@[simp] theorem tyL_77 : tyL Tryd.prog 77 = some (1, false) := by kernel_rfl
@[simp] theorem nIfc_78 : nIfc Tryd.prog 78 = true := by kernel_rfl
@[simp] theorem tyL_78 : tyL Tryd.prog 78 = some (1, false) := by kernel_rfl
@[simp] theorem nIfc_79 : nIfc Tryd.prog 79 = true := by kernel_rfl
@[simp] theorem tyL_79 : tyL Tryd.prog 79 = some (1, false) := by kernel_rfl
@[simp] theorem nIfc_80 : nIfc Tryd.prog 80 = true := by kernel_rfl
@[simp] theorem tyL_80 : tyL Tryd.prog 80 = some (1, false) := by kernel_rfl
@[simp] theorem nIfc_81 : nIfc Tryd.prog 81 = true := by kernel_rfl
@[simp] theorem tyL_81 : tyL Tryd.prog 81 = some (1, false) := by kernel_rfl
@[simp] theorem nIfc_82 : nIfc Tryd.prog 82 = true := by kernel_rfl
@[simp] theorem tyL_82 : tyL Tryd.prog 82 = some (3, true) := by kernel_rfl
@[simp] theorem zcells_82 : zcells Tryd.prog 82 = some [.w false false (.int .i64 (0)), .w false false (.int .i64 (0)), .w false false (.int .i64 (0))] := by kernel_rfl
@[simp] theorem slE_82 : slE Tryd.prog 82 = none := by kernel_rfl
@[simp] theorem isStr_82 : isStr Tryd.prog 82 = false := by kernel_rfl
@[simp] theorem fOf_82_0 : fOf Tryd.prog 82 0 = some (0, 1, false) := by kernel_rfl
@[simp] theorem fOf_82_1 : fOf Tryd.prog 82 1 = some (1, 2, true) := by kernel_rfl
@[simp] theorem pls_82 : pls Tryd.prog 82 = some [(0, 1), (1, 2)] := by kernel_rfl
@[simp] theorem eqTy_82 : eqTy Tryd.prog 82 = some [1, 1, 1] := by kernel_rfl
@[simp] theorem nIfc_83 : nIfc Tryd.prog 83 = true := by kernel_rfl
@[simp] theorem tyL_83 : tyL Tryd.prog 83 = some (3, true) := by kernel_rfl
@[simp] theorem zcells_83 : zcells Tryd.prog 83 = some [.w false false (.int .i64 (0)), .w false false (.int .i64 (0)), .w false false (.int .i64 (0))] := by kernel_rfl
@[simp] theorem slE_83 : slE Tryd.prog 83 = none := by kernel_rfl
@[simp] theorem isStr_83 : isStr Tryd.prog 83 = false := by kernel_rfl
@[simp] theorem fOf_83_0 : fOf Tryd.prog 83 0 = some (0, 1, false) := by kernel_rfl
@[simp] theorem fOf_83_1 : fOf Tryd.prog 83 1 = some (1, 2, true) := by kernel_rfl
@[simp] theorem pls_83 : pls Tryd.prog 83 = some [(0, 1), (1, 2)] := by kernel_rfl
@[simp] theorem eqTy_83 : eqTy Tryd.prog 83 = some [1, 1, 1] := by kernel_rfl
@[simp] theorem nIfc_84 : nIfc Tryd.prog 84 = true := by kernel_rfl
@[simp] theorem tyL_84 : tyL Tryd.prog 84 = some (1, false) := by kernel_rfl
@[simp] theorem nIfc_85 : nIfc Tryd.prog 85 = true := by kernel_rfl
@[simp] theorem tyL_85 : tyL Tryd.prog 85 = some (2, true) := by kernel_rfl
@[simp] theorem zcells_85 : zcells Tryd.prog 85 = some [.w true true (.sl 0 []), .w true true (.sl 0 [])] := by kernel_rfl
@[simp] theorem slE_85 : slE Tryd.prog 85 = none := by kernel_rfl
@[simp] theorem isStr_85 : isStr Tryd.prog 85 = false := by kernel_rfl
@[simp] theorem fOf_85_0 : fOf Tryd.prog 85 0 = some (0, 1, false) := by kernel_rfl
@[simp] theorem fOf_85_1 : fOf Tryd.prog 85 1 = some (1, 1, false) := by kernel_rfl
@[simp] theorem pls_85 : pls Tryd.prog 85 = some [(0, 1), (1, 1)] := by kernel_rfl
@[simp] theorem nIfc_86 : nIfc Tryd.prog 86 = true := by kernel_rfl
@[simp] theorem tyL_86 : tyL Tryd.prog 86 = some (2, true) := by kernel_rfl
@[simp] theorem zcells_86 : zcells Tryd.prog 86 = some [.w true true (.sl 0 []), .w true true (.sl 0 [])] := by kernel_rfl
@[simp] theorem slE_86 : slE Tryd.prog 86 = none := by kernel_rfl
@[simp] theorem isStr_86 : isStr Tryd.prog 86 = false := by kernel_rfl
@[simp] theorem fOf_86_0 : fOf Tryd.prog 86 0 = some (0, 1, false) := by kernel_rfl
@[simp] theorem fOf_86_1 : fOf Tryd.prog 86 1 = some (1, 1, false) := by kernel_rfl
@[simp] theorem pls_86 : pls Tryd.prog 86 = some [(0, 1), (1, 1)] := by kernel_rfl
@[simp] theorem nIfc_87 : nIfc Tryd.prog 87 = true := by kernel_rfl
@[simp] theorem tyL_87 : tyL Tryd.prog 87 = some (1, false) := by kernel_rfl
@[simp] theorem nIfc_88 : nIfc Tryd.prog 88 = true := by kernel_rfl
@[simp] theorem tyL_88 : tyL Tryd.prog 88 = some (1, false) := by kernel_rfl
@[simp] theorem nIfc_89 : nIfc Tryd.prog 89 = true := by kernel_rfl
@[simp] theorem tyL_89 : tyL Tryd.prog 89 = some (1, false) := by kernel_rfl
@[simp] theorem nIfc_90 : nIfc Tryd.prog 90 = true := by kernel_rfl
@[simp] theorem tyL_90 : tyL Tryd.prog 90 = some (1, false) := by kernel_rfl
@[simp] theorem nIfc_91 : nIfc Tryd.prog 91 = true := by kernel_rfl
@[simp] theorem tyL_91 : tyL Tryd.prog 91 = some (1, false) := by kernel_rfl
@[simp] theorem nIfc_92 : nIfc Tryd.prog 92 = true := by kernel_rfl
@[simp] theorem tyL_92 : tyL Tryd.prog 92 = some (1, false) := by kernel_rfl
@[simp] theorem zcells_92 : zcells Tryd.prog 92 = some [.w true false .nilp] := by kernel_rfl
@[simp] theorem slE_92 : slE Tryd.prog 92 = none := by kernel_rfl
@[simp] theorem isStr_92 : isStr Tryd.prog 92 = false := by kernel_rfl
@[simp] theorem eqTy_92 : eqTy Tryd.prog 92 = none := by kernel_rfl
@[simp] theorem nIfc_93 : nIfc Tryd.prog 93 = true := by kernel_rfl
@[simp] theorem tyL_93 : tyL Tryd.prog 93 = some (1, false) := by kernel_rfl
@[simp] theorem zcells_93 : zcells Tryd.prog 93 = some [.w true true (.sl 0 [])] := by kernel_rfl
@[simp] theorem slE_93 : slE Tryd.prog 93 = some (5, 1) := by kernel_rfl
@[simp] theorem byE_5 : byE Tryd.prog 5 = some 1 := by kernel_rfl
@[simp] theorem isStr_93 : isStr Tryd.prog 93 = false := by kernel_rfl
@[simp] theorem eqTy_93 : eqTy Tryd.prog 93 = none := by kernel_rfl
@[simp] theorem nIfc_94 : nIfc Tryd.prog 94 = true := by kernel_rfl
@[simp] theorem tyL_94 : tyL Tryd.prog 94 = some (2, true) := by kernel_rfl
@[simp] theorem zcells_94 : zcells Tryd.prog 94 = some [.w true false .nilp, .w true true (.sl 0 [])] := by kernel_rfl
@[simp] theorem slE_94 : slE Tryd.prog 94 = none := by kernel_rfl
@[simp] theorem isStr_94 : isStr Tryd.prog 94 = false := by kernel_rfl
@[simp] theorem fOf_94_0 : fOf Tryd.prog 94 0 = some (0, 1, false) := by kernel_rfl
@[simp] theorem fOf_94_1 : fOf Tryd.prog 94 1 = some (1, 1, false) := by kernel_rfl
@[simp] theorem pls_94 : pls Tryd.prog 94 = some [(0, 1), (1, 1)] := by kernel_rfl
@[simp] theorem nIfc_95 : nIfc Tryd.prog 95 = true := by kernel_rfl
@[simp] theorem tyL_95 : tyL Tryd.prog 95 = some (2, true) := by kernel_rfl
@[simp] theorem zcells_95 : zcells Tryd.prog 95 = some [.w true false .nilp, .w true true (.sl 0 [])] := by kernel_rfl
@[simp] theorem slE_95 : slE Tryd.prog 95 = none := by kernel_rfl
@[simp] theorem isStr_95 : isStr Tryd.prog 95 = false := by kernel_rfl
@[simp] theorem fOf_95_0 : fOf Tryd.prog 95 0 = some (0, 1, false) := by kernel_rfl
@[simp] theorem fOf_95_1 : fOf Tryd.prog 95 1 = some (1, 1, false) := by kernel_rfl
@[simp] theorem pls_95 : pls Tryd.prog 95 = some [(0, 1), (1, 1)] := by kernel_rfl
@[simp] theorem nIfc_96 : nIfc Tryd.prog 96 = true := by kernel_rfl
@[simp] theorem tyL_96 : tyL Tryd.prog 96 = some (1, false) := by kernel_rfl
@[simp] theorem tyL_97 : tyL Tryd.prog 97 = some (1, false) := by kernel_rfl
@[simp] theorem zcells_97 : zcells Tryd.prog 97 = some [.w true false .nili] := by kernel_rfl
@[simp] theorem eqTy_97 : eqTy Tryd.prog 97 = none := by kernel_rfl
@[simp] theorem tyL_98 : tyL Tryd.prog 98 = some (1, false) := by kernel_rfl
@[simp] theorem zcells_98 : zcells Tryd.prog 98 = some [.w true false .nili] := by kernel_rfl
@[simp] theorem eqTy_98 : eqTy Tryd.prog 98 = none := by kernel_rfl
@[simp] theorem nIfc_100 : nIfc Tryd.prog 100 = true := by kernel_rfl
@[simp] theorem tyL_100 : tyL Tryd.prog 100 = some (1, false) := by kernel_rfl
@[simp] theorem nIfc_101 : nIfc Tryd.prog 101 = true := by kernel_rfl
@[simp] theorem tyL_101 : tyL Tryd.prog 101 = some (1, false) := by kernel_rfl
@[simp] theorem nIfc_103 : nIfc Tryd.prog 103 = true := by kernel_rfl
@[simp] theorem tyL_103 : tyL Tryd.prog 103 = some (1, false) := by kernel_rfl
@[simp] theorem nIfc_104 : nIfc Tryd.prog 104 = true := by kernel_rfl
@[simp] theorem tyL_104 : tyL Tryd.prog 104 = some (1, false) := by kernel_rfl
@[simp] theorem nIfc_105 : nIfc Tryd.prog 105 = true := by kernel_rfl
@[simp] theorem tyL_105 : tyL Tryd.prog 105 = some (1, false) := by kernel_rfl
@[simp] theorem nIfc_106 : nIfc Tryd.prog 106 = true := by kernel_rfl
@[simp] theorem tyL_106 : tyL Tryd.prog 106 = some (1, false) := by kernel_rfl
@[simp] theorem nIfc_107 : nIfc Tryd.prog 107 = true := by kernel_rfl
@[simp] theorem tyL_107 : tyL Tryd.prog 107 = some (1, false) := by kernel_rfl
@[simp] theorem nIfc_108 : nIfc Tryd.prog 108 = true := by kernel_rfl
@[simp] theorem tyL_108 : tyL Tryd.prog 108 = some (1, false) := by kernel_rfl
@[simp] theorem nIfc_109 : nIfc Tryd.prog 109 = true := by kernel_rfl
@[simp] theorem tyL_109 : tyL Tryd.prog 109 = some (1, false) := by kernel_rfl
@[simp] theorem zcells_109 : zcells Tryd.prog 109 = some [.w true true (.sl 0 [])] := by kernel_rfl
@[simp] theorem slE_109 : slE Tryd.prog 109 = some (30, 1) := by kernel_rfl
@[simp] theorem byE_30 : byE Tryd.prog 30 = some 8 := by kernel_rfl
@[simp] theorem isStr_109 : isStr Tryd.prog 109 = false := by kernel_rfl
@[simp] theorem eqTy_109 : eqTy Tryd.prog 109 = none := by kernel_rfl
@[simp] theorem nIfc_110 : nIfc Tryd.prog 110 = true := by kernel_rfl
@[simp] theorem tyL_110 : tyL Tryd.prog 110 = some (1, false) := by kernel_rfl
@[simp] theorem nIfc_111 : nIfc Tryd.prog 111 = true := by kernel_rfl
@[simp] theorem tyL_111 : tyL Tryd.prog 111 = some (1, false) := by kernel_rfl
@[simp] theorem nIfc_113 : nIfc Tryd.prog 113 = true := by kernel_rfl
@[simp] theorem tyL_113 : tyL Tryd.prog 113 = some (1, false) := by kernel_rfl
@[simp] theorem nIfc_114 : nIfc Tryd.prog 114 = true := by kernel_rfl
@[simp] theorem tyL_114 : tyL Tryd.prog 114 = some (1, false) := by kernel_rfl
@[simp] theorem nIfc_115 : nIfc Tryd.prog 115 = true := by kernel_rfl
@[simp] theorem tyL_115 : tyL Tryd.prog 115 = some (1, false) := by kernel_rfl
@[simp] theorem nIfc_116 : nIfc Tryd.prog 116 = true := by kernel_rfl
@[simp] theorem tyL_116 : tyL Tryd.prog 116 = some (1, false) := by kernel_rfl
@[simp] theorem nIfc_117 : nIfc Tryd.prog 117 = true := by kernel_rfl
@[simp] theorem tyL_117 : tyL Tryd.prog 117 = some (1, false) := by kernel_rfl
@[simp] theorem nIfc_118 : nIfc Tryd.prog 118 = true := by kernel_rfl
@[simp] theorem tyL_118 : tyL Tryd.prog 118 = some (1, false) := by kernel_rfl
@[simp] theorem nIfc_119 : nIfc Tryd.prog 119 = true := by kernel_rfl
@[simp] theorem tyL_119 : tyL Tryd.prog 119 = some (1, false) := by kernel_rfl
@[simp] theorem zcells_119 : zcells Tryd.prog 119 = some [.w false false (.int .u64 (0))] := by kernel_rfl
@[simp] theorem slE_119 : slE Tryd.prog 119 = none := by kernel_rfl
@[simp] theorem isStr_119 : isStr Tryd.prog 119 = false := by kernel_rfl
@[simp] theorem kindOf_119 : kindOf Tryd.prog 119 = some .u64 := by kernel_rfl
@[simp] theorem eqTy_119 : eqTy Tryd.prog 119 = none := by kernel_rfl
@[simp] theorem nIfc_120 : nIfc Tryd.prog 120 = true := by kernel_rfl
@[simp] theorem tyL_120 : tyL Tryd.prog 120 = some (1, false) := by kernel_rfl
@[simp] theorem zcells_120 : zcells Tryd.prog 120 = some [.w true false .nilp] := by kernel_rfl
@[simp] theorem slE_120 : slE Tryd.prog 120 = none := by kernel_rfl
@[simp] theorem isStr_120 : isStr Tryd.prog 120 = false := by kernel_rfl
@[simp] theorem eqTy_120 : eqTy Tryd.prog 120 = none := by kernel_rfl
@[simp] theorem nIfc_121 : nIfc Tryd.prog 121 = true := by kernel_rfl
@[simp] theorem tyL_121 : tyL Tryd.prog 121 = some (1, false) := by kernel_rfl
@[simp] theorem nIfc_122 : nIfc Tryd.prog 122 = true := by kernel_rfl
@[simp] theorem tyL_122 : tyL Tryd.prog 122 = some (1, false) := by kernel_rfl
@[simp] theorem nIfc_123 : nIfc Tryd.prog 123 = true := by kernel_rfl
@[simp] theorem tyL_123 : tyL Tryd.prog 123 = some (1, false) := by kernel_rfl
@[simp] theorem nIfc_124 : nIfc Tryd.prog 124 = true := by kernel_rfl
@[simp] theorem tyL_124 : tyL Tryd.prog 124 = some (1, false) := by kernel_rfl
@[simp] theorem nIfc_125 : nIfc Tryd.prog 125 = true := by kernel_rfl
@[simp] theorem tyL_125 : tyL Tryd.prog 125 = some (1, false) := by kernel_rfl
@[simp] theorem nIfc_128 : nIfc Tryd.prog 128 = true := by kernel_rfl
@[simp] theorem tyL_128 : tyL Tryd.prog 128 = some (1, false) := by kernel_rfl
@[simp] theorem nIfc_129 : nIfc Tryd.prog 129 = true := by kernel_rfl
@[simp] theorem tyL_129 : tyL Tryd.prog 129 = some (1, false) := by kernel_rfl
@[simp] theorem nIfc_131 : nIfc Tryd.prog 131 = true := by kernel_rfl
@[simp] theorem tyL_131 : tyL Tryd.prog 131 = some (1, false) := by kernel_rfl
@[simp] theorem nIfc_132 : nIfc Tryd.prog 132 = true := by kernel_rfl
@[simp] theorem tyL_132 : tyL Tryd.prog 132 = some (1, false) := by kernel_rfl
@[simp] theorem nIfc_133 : nIfc Tryd.prog 133 = true := by kernel_rfl
@[simp] theorem tyL_133 : tyL Tryd.prog 133 = some (1, false) := by kernel_rfl
@[simp] theorem nIfc_134 : nIfc Tryd.prog 134 = true := by kernel_rfl
@[simp] theorem tyL_134 : tyL Tryd.prog 134 = some (256, true) := by kernel_rfl
@[simp] theorem slE_134 : slE Tryd.prog 134 = none := by kernel_rfl
@[simp] theorem arE_134 : arE Tryd.prog 134 = some (256, 1) := by kernel_rfl
@[simp] theorem isStr_134 : isStr Tryd.prog 134 = false := by kernel_rfl
@[simp] theorem eqTy_134 : eqTy Tryd.prog 134 = some [1, 1, 1, 1, 1, 1, 1, 1, 1, 1, 1, 1, 1, 1, 1, 1, 1, 1, 1, 1, 1, 1, 1, 1, 1, 1, 1, 1, 1, 1, 1, 1, 1, 1, 1, 1, 1, 1, 1, 1, 1, 1, 1, 1, 1, 1, 1, 1, 1, 1, 1, 1, 1, 1, 1, 1, 1, 1, 1, 1, 1, 1, 1, 1, 1, 1, 1, 1, 1, 1, 1, 1, 1, 1, 1, 1, 1, 1, 1, 1, 1, 1, 1, 1, 1, 1, 1, 1, 1, 1, 1, 1, 1, 1, 1, 1, 1, 1, 1, 1, 1, 1, 1, 1, 1, 1, 1, 1, 1, 1, 1, 1, 1, 1, 1, 1, 1, 1, 1, 1, 1, 1, 1, 1, 1, 1, 1, 1, 1, 1, 1, 1, 1, 1, 1, 1, 1, 1, 1, 1, 1, 1, 1, 1, 1, 1, 1, 1, 1, 1, 1, 1, 1, 1, 1, 1, 1, 1, 1, 1, 1, 1, 1, 1, 1, 1, 1, 1, 1, 1, 1, 1, 1, 1, 1, 1, 1, 1, 1, 1, 1, 1, 1, 1, 1, 1, 1, 1, 1, 1, 1, 1, 1, 1, 1, 1, 1, 1, 1, 1, 1, 1, 1, 1, 1, 1, 1, 1, 1, 1, 1, 1, 1, 1, 1, 1, 1, 1, 1, 1, 1, 1, 1, 1, 1, 1, 1, 1, 1, 1, 1, 1, 1, 1, 1, 1, 1, 1, 1, 1, 1, 1, 1, 1, 1, 1, 1, 1, 1, 1, 1, 1, 1, 1, 1, 1] := by kernel_rfl
@[simp] theorem nIfc_135 : nIfc Tryd.prog 135 = true := by kernel_rfl
@[simp] theorem tyL_135 : tyL Tryd.prog 135 = some (2, true) := by kernel_rfl
@[simp] theorem zcells_135 : zcells Tryd.prog 135 = some [.w false false (.int .u8 (0)), .w false false (.int .u8 (0))] := by kernel_rfl
@[simp] theorem slE_135 : slE Tryd.prog 135 = none := by kernel_rfl
@[simp] theorem isStr_135 : isStr Tryd.prog 135 = false := by kernel_rfl
@[simp] theorem fOf_135_0 : fOf Tryd.prog 135 0 = some (0, 1, false) := by kernel_rfl
@[simp] theorem fOf_135_1 : fOf Tryd.prog 135 1 = some (1, 1, false) := by kernel_rfl
@[simp] theorem pls_135 : pls Tryd.prog 135 = some [(0, 1), (1, 1)] := by kernel_rfl
@[simp] theorem eqTy_135 : eqTy Tryd.prog 135 = some [1, 1] := by kernel_rfl
@[simp] theorem nIfc_136 : nIfc Tryd.prog 136 = true := by kernel_rfl
@[simp] theorem tyL_136 : tyL Tryd.prog 136 = some (2, true) := by kernel_rfl
@[simp] theorem zcells_136 : zcells Tryd.prog 136 = some [.w false false (.int .u8 (0)), .w false false (.int .u8 (0))] := by kernel_rfl
@[simp] theorem slE_136 : slE Tryd.prog 136 = none := by kernel_rfl
@[simp] theorem isStr_136 : isStr Tryd.prog 136 = false := by kernel_rfl
@[simp] theorem fOf_136_0 : fOf Tryd.prog 136 0 = some (0, 1, false) := by kernel_rfl
@[simp] theorem fOf_136_1 : fOf Tryd.prog 136 1 = some (1, 1, false) := by kernel_rfl
@[simp] theorem pls_136 : pls Tryd.prog 136 = some [(0, 1), (1, 1)] := by kernel_rfl
@[simp] theorem eqTy_136 : eqTy Tryd.prog 136 = some [1, 1] := by kernel_rfl
@[simp] theorem nIfc_137 : nIfc Tryd.prog 137 = true := by kernel_rfl
@[simp] theorem tyL_137 : tyL Tryd.prog 137 = some (32, true) := by kernel_rfl
@[simp] theorem slE_137 : slE Tryd.prog 137 = none := by kernel_rfl
@[simp] theorem arE_137 : arE Tryd.prog 137 = some (16, 2) := by kernel_rfl
@[simp] theorem isStr_137 : isStr Tryd.prog 137 = false := by kernel_rfl
@[simp] theorem eqTy_137 : eqTy Tryd.prog 137 = some [1, 1, 1, 1, 1, 1, 1, 1, 1, 1, 1, 1, 1, 1, 1, 1, 1, 1, 1, 1, 1, 1, 1, 1, 1, 1, 1, 1, 1, 1, 1, 1] := by kernel_rfl
@[simp] theorem nIfc_138 : nIfc Tryd.prog 138 = true := by kernel_rfl
@[simp] theorem tyL_138 : tyL Tryd.prog 138 = some (1, false) := by kernel_rfl
@[simp] theorem zcells_138 : zcells Tryd.prog 138 = some [.w false false (.int .u32 (0))] := by kernel_rfl
@[simp] theorem slE_138 : slE Tryd.prog 138 = none := by kernel_rfl
@[simp] theorem isStr_138 : isStr Tryd.prog 138 = false := by kernel_rfl
@[simp] theorem kindOf_138 : kindOf Tryd.prog 138 = some .u32 := by kernel_rfl
@[simp] theorem eqTy_138 : eqTy Tryd.prog 138 = none := by kernel_rfl
@[simp] theorem nIfc_140 : nIfc Tryd.prog 140 = true := by kernel_rfl
@[simp] theorem tyL_140 : tyL Tryd.prog 140 = some (1, false) := by kernel_rfl
@[simp] theorem nIfc_146 : nIfc Tryd.prog 146 = true := by kernel_rfl
@[simp] theorem tyL_146 : tyL Tryd.prog 146 = some (1, false) := by kernel_rfl
@[simp] theorem byteSl_9_93 : byteSl Tryd.prog 9 93 = true := by kernel_rfl
@[simp] theorem byteSl_10_93 : byteSl Tryd.prog 10 93 = true := by kernel_rfl
@[simp] theorem byteSl_11_93 : byteSl Tryd.prog 11 93 = true := by kernel_rfl
end Go.Proofs.YtfjpgnacofkipaaDoor

