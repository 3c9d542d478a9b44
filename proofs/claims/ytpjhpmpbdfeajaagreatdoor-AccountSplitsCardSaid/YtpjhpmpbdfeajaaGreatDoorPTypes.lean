/- Contracts of functions for this claim: lemmas alone. -/
import Derived.Test.YtpjhpmpbdfeajaaGreatDoorProg
import Derived.Test.YtpjhpmpbdfeajaaGreatDoorLd
import Derived.KernelRfl
set_option linter.unusedSimpArgs false
set_option linter.unusedVariables false
namespace Go.Proofs.YtpjhpmpbdfeajaaGreatDoor
open Go Go.Fi
set_option maxRecDepth 100000
@[simp] theorem nIfc_1 : nIfc Tryz.prog 1 = true := by kernel_rfl
@[simp] theorem tyL_1 : tyL Tryz.prog 1 = some (1, false) := by kernel_rfl
@[simp] theorem nIfc_2 : nIfc Tryz.prog 2 = true := by kernel_rfl
@[simp] theorem tyL_2 : tyL Tryz.prog 2 = some (1, false) := by kernel_rfl
@[simp] theorem zcells_2 : zcells Tryz.prog 2 = some [.w false false (.int .i64 (0))] := by kernel_rfl
@[simp] theorem slE_2 : slE Tryz.prog 2 = none := by kernel_rfl
@[simp] theorem isStr_2 : isStr Tryz.prog 2 = false := by kernel_rfl
@[simp] theorem kindOf_2 : kindOf Tryz.prog 2 = some .i64 := by kernel_rfl
@[simp] theorem eqTy_2 : eqTy Tryz.prog 2 = none := by kernel_rfl
@[simp] theorem nIfc_3 : nIfc Tryz.prog 3 = true := by kernel_rfl
@[simp] theorem tyL_3 : tyL Tryz.prog 3 = some (1, false) := by kernel_rfl
@[simp] theorem zcells_3 : zcells Tryz.prog 3 = some [.w false false (.int .i64 (0))] := by kernel_rfl
@[simp] theorem slE_3 : slE Tryz.prog 3 = none := by kernel_rfl
@[simp] theorem isStr_3 : isStr Tryz.prog 3 = false := by kernel_rfl
@[simp] theorem kindOf_3 : kindOf Tryz.prog 3 = some .i64 := by kernel_rfl
@[simp] theorem eqTy_3 : eqTy Tryz.prog 3 = none := by kernel_rfl
@[simp] theorem nIfc_4 : nIfc Tryz.prog 4 = true := by kernel_rfl
@[simp] theorem tyL_4 : tyL Tryz.prog 4 = some (1, false) := by kernel_rfl
@[simp] theorem zcells_4 : zcells Tryz.prog 4 = some [.w false false (.bool false)] := by kernel_rfl
@[simp] theorem slE_4 : slE Tryz.prog 4 = none := by kernel_rfl
@[simp] theorem isStr_4 : isStr Tryz.prog 4 = false := by kernel_rfl
@[simp] theorem isBool_4 : isBool Tryz.prog 4 = true := by kernel_rfl
@[simp] theorem eqTy_4 : eqTy Tryz.prog 4 = none := by kernel_rfl
@[simp] theorem nIfc_5 : nIfc Tryz.prog 5 = true := by kernel_rfl
@[simp] theorem tyL_5 : tyL Tryz.prog 5 = some (1, false) := by kernel_rfl
@[simp] theorem zcells_5 : zcells Tryz.prog 5 = some [.w false false (.int .u8 (0))] := by kernel_rfl
@[simp] theorem slE_5 : slE Tryz.prog 5 = none := by kernel_rfl
@[simp] theorem isStr_5 : isStr Tryz.prog 5 = false := by kernel_rfl
@[simp] theorem kindOf_5 : kindOf Tryz.prog 5 = some .u8 := by kernel_rfl
@[simp] theorem eqTy_5 : eqTy Tryz.prog 5 = none := by kernel_rfl
@[simp] theorem nIfc_9 : nIfc Tryz.prog 9 = true := by kernel_rfl
@[simp] theorem tyL_9 : tyL Tryz.prog 9 = some (1, false) := by kernel_rfl
@[simp] theorem zcells_9 : zcells Tryz.prog 9 = some [.w false false (.str ByteArray.empty)] := by kernel_rfl
@[simp] theorem slE_9 : slE Tryz.prog 9 = none := by kernel_rfl
@[simp] theorem isStr_9 : isStr Tryz.prog 9 = true := by kernel_rfl
@[simp] theorem eqTy_9 : eqTy Tryz.prog 9 = none := by kernel_rfl
@[simp] theorem tyL_20 : tyL Tryz.prog 20 = some (1, false) := by kernel_rfl
@[simp] theorem zcells_20 : zcells Tryz.prog 20 = some [.w true false .nili] := by kernel_rfl
@[simp] theorem eqTy_20 : eqTy Tryz.prog 20 = none := by kernel_rfl
@[simp] theorem nIfc_21 : nIfc Tryz.prog 21 = true := by kernel_rfl
@[simp] theorem tyL_21 : tyL Tryz.prog 21 = some (1, false) := by kernel_rfl
@[simp] theorem zcells_21 : zcells Tryz.prog 21 = some [.w false false (.int .i32 (0))] := by kernel_rfl
@[simp] theorem slE_21 : slE Tryz.prog 21 = none := by kernel_rfl
@[simp] theorem isStr_21 : isStr Tryz.prog 21 = false := by kernel_rfl
@[simp] theorem kindOf_21 : kindOf Tryz.prog 21 = some .i32 := by kernel_rfl
@[simp] theorem eqTy_21 : eqTy Tryz.prog 21 = none := by kernel_rfl
@[simp] theorem nIfc_22 : nIfc Tryz.prog 22 = true := by kernel_rfl
@[simp] theorem tyL_22 : tyL Tryz.prog 22 = some (1, false) := by kernel_rfl
@[simp] theorem zcells_22 : zcells Tryz.prog 22 = some [.w true true (.sl 0 [])] := by kernel_rfl
@[simp] theorem slE_22 : slE Tryz.prog 22 = some (3, 1) := by kernel_rfl
@[simp] theorem byE_3 : byE Tryz.prog 3 = some 8 := by kernel_rfl
@[simp] theorem isStr_22 : isStr Tryz.prog 22 = false := by kernel_rfl
@[simp] theorem eqTy_22 : eqTy Tryz.prog 22 = none := by kernel_rfl
@[simp] theorem nIfc_23 : nIfc Tryz.prog 23 = true := by kernel_rfl
@[simp] theorem tyL_23 : tyL Tryz.prog 23 = some (1, false) := by kernel_rfl
@[simp] theorem nIfc_24 : nIfc Tryz.prog 24 = true := by kernel_rfl
@[simp] theorem tyL_24 : tyL Tryz.prog 24 = some (1, false) := by kernel_rfl
@[simp] theorem zcells_24 : zcells Tryz.prog 24 = some [.w false false (.int .i64 (0))] := by kernel_rfl
@[simp] theorem slE_24 : slE Tryz.prog 24 = none := by kernel_rfl
@[simp] theorem isStr_24 : isStr Tryz.prog 24 = false := by kernel_rfl
@[simp] theorem kindOf_24 : kindOf Tryz.prog 24 = some .i64 := by kernel_rfl
@[simp] theorem eqTy_24 : eqTy Tryz.prog 24 = none := by kernel_rfl
@[simp] theorem nIfc_26 : nIfc Tryz.prog 26 = true := by kernel_rfl
@[simp] theorem tyL_26 : tyL Tryz.prog 26 = some (1, false) := by kernel_rfl
@[simp] theorem nIfc_27 : nIfc Tryz.prog 27 = true := by kernel_rfl
@[simp] theorem tyL_27 : tyL Tryz.prog 27 = some (1, false) := by kernel_rfl
@[simp] theorem nIfc_29 : nIfc Tryz.prog 29 = true := by kernel_rfl
@[simp] theorem tyL_29 : tyL Tryz.prog 29 = some (1, false) := by kernel_rfl
@[simp] theorem nIfc_30 : nIfc Tryz.prog 30 = true := by kernel_rfl
@[simp] theorem tyL_30 : tyL Tryz.prog 30 = some (1, false) := by kernel_rfl
@[simp] theorem nIfc_31 : nIfc Tryz.prog 31 = true := by kernel_rfl
@[simp] theorem tyL_31 : tyL Tryz.prog 31 = some (2, true) := by kernel_rfl
@[simp] theorem zcells_31 : zcells Tryz.prog 31 = some [.w false false (.int .i64 (0)), .w true true (.sl 0 [])] := by kernel_rfl
@[simp] theorem slE_31 : slE Tryz.prog 31 = none := by kernel_rfl
@[simp] theorem isStr_31 : isStr Tryz.prog 31 = false := by kernel_rfl
@[simp] theorem fOf_31_0 : fOf Tryz.prog 31 0 = some (0, 1, false) := by kernel_rfl
@[simp] theorem fOf_31_1 : fOf Tryz.prog 31 1 = some (1, 1, false) := by kernel_rfl
@[simp] theorem pls_31 : pls Tryz.prog 31 = some [(0, 1), (1, 1)] := by kernel_rfl
@[simp] theorem nIfc_32 : nIfc Tryz.prog 32 = true := by kernel_rfl
@[simp] theorem tyL_32 : tyL Tryz.prog 32 = some (2, true) := by kernel_rfl
@[simp] theorem zcells_32 : zcells Tryz.prog 32 = some [.w false false (.int .i64 (0)), .w true true (.sl 0 [])] := by kernel_rfl
@[simp] theorem slE_32 : slE Tryz.prog 32 = none := by kernel_rfl
@[simp] theorem isStr_32 : isStr Tryz.prog 32 = false := by kernel_rfl
@[simp] theorem fOf_32_0 : fOf Tryz.prog 32 0 = some (0, 1, false) := by kernel_rfl
@[simp] theorem fOf_32_1 : fOf Tryz.prog 32 1 = some (1, 1, false) := by kernel_rfl
@[simp] theorem pls_32 : pls Tryz.prog 32 = some [(0, 1), (1, 1)] := by kernel_rfl
@[simp] theorem nIfc_33 : nIfc Tryz.prog 33 = true := by kernel_rfl
@[simp] theorem tyL_33 : tyL Tryz.prog 33 = some (1, false) := by kernel_rfl
@[simp] theorem nIfc_34 : nIfc Tryz.prog 34 = true := by kernel_rfl
@[simp] theorem tyL_34 : tyL Tryz.prog 34 = some (1, false) := by kernel_rfl
@[simp] theorem nIfc_35 : nIfc Tryz.prog 35 = true := by kernel_rfl
@[simp] theorem tyL_35 : tyL Tryz.prog 35 = some (1, false) := by kernel_rfl
@[simp] theorem nIfc_36 : nIfc Tryz.prog 36 = true := by kernel_rfl
@[simp] theorem tyL_36 : tyL Tryz.prog 36 = some (1, false) := by kernel_rfl
@[simp] theorem nIfc_37 : nIfc Tryz.prog 37 = true := by kernel_rfl
@[simp] theorem tyL_37 : tyL Tryz.prog 37 = some (1, false) := by kernel_rfl
@[simp] theorem zcells_37 : zcells Tryz.prog 37 = some [.w true true (.sl 0 [])] := by kernel_rfl
@[simp] theorem slE_37 : slE Tryz.prog 37 = some (87, 2) := by kernel_rfl
@[simp] theorem byE_87 : byE Tryz.prog 87 = some 24 := by kernel_rfl
@[simp] theorem isStr_37 : isStr Tryz.prog 37 = false := by kernel_rfl
@[simp] theorem eqTy_37 : eqTy Tryz.prog 37 = none := by kernel_rfl
@[simp] theorem nIfc_38 : nIfc Tryz.prog 38 = true := by kernel_rfl
@[simp] theorem tyL_38 : tyL Tryz.prog 38 = some (1, false) := by kernel_rfl
@[simp] theorem zcells_38 : zcells Tryz.prog 38 = some [.w true true (.sl 0 [])] := by kernel_rfl
@[simp] theorem slE_38 : slE Tryz.prog 38 = some (89, 2) := by kernel_rfl
@[simp] theorem byE_89 : byE Tryz.prog 89 = some 24 := by kernel_rfl
@[simp] theorem isStr_38 : isStr Tryz.prog 38 = false := by kernel_rfl
@[simp] theorem eqTy_38 : eqTy Tryz.prog 38 = none := by kernel_rfl
@[simp] theorem nIfc_39 : nIfc Tryz.prog 39 = true := by kernel_rfl
@[simp] theorem tyL_39 : tyL Tryz.prog 39 = some (3, true) := by kernel_rfl
@[simp] theorem zcells_39 : zcells Tryz.prog 39 = some [.w false false (.int .i64 (0)), .w false false (.str ByteArray.empty), .w true true (.sl 0 [])] := by kernel_rfl
@[simp] theorem slE_39 : slE Tryz.prog 39 = none := by kernel_rfl
@[simp] theorem isStr_39 : isStr Tryz.prog 39 = false := by kernel_rfl
@[simp] theorem fOf_39_0 : fOf Tryz.prog 39 0 = some (0, 1, false) := by kernel_rfl
@[simp] theorem fOf_39_1 : fOf Tryz.prog 39 1 = some (1, 1, false) := by kernel_rfl
@[simp] theorem fOf_39_2 : fOf Tryz.prog 39 2 = some (2, 1, false) := by kernel_rfl
@[simp] theorem pls_39 : pls Tryz.prog 39 = some [(0, 1), (1, 1), (2, 1)] := by kernel_rfl
@[simp] theorem nIfc_40 : nIfc Tryz.prog 40 = true := by kernel_rfl
@[simp] theorem tyL_40 : tyL Tryz.prog 40 = some (3, true) := by kernel_rfl
@[simp] theorem zcells_40 : zcells Tryz.prog 40 = some [.w false false (.int .i64 (0)), .w false false (.str ByteArray.empty), .w true true (.sl 0 [])] := by kernel_rfl
@[simp] theorem slE_40 : slE Tryz.prog 40 = none := by kernel_rfl
@[simp] theorem isStr_40 : isStr Tryz.prog 40 = false := by kernel_rfl
@[simp] theorem fOf_40_0 : fOf Tryz.prog 40 0 = some (0, 1, false) := by kernel_rfl
@[simp] theorem fOf_40_1 : fOf Tryz.prog 40 1 = some (1, 1, false) := by kernel_rfl
@[simp] theorem fOf_40_2 : fOf Tryz.prog 40 2 = some (2, 1, false) := by kernel_rfl
@[simp] theorem pls_40 : pls Tryz.prog 40 = some [(0, 1), (1, 1), (2, 1)] := by kernel_rfl
@[simp] theorem nIfc_41 : nIfc Tryz.prog 41 = true := by kernel_rfl
@[simp] theorem tyL_41 : tyL Tryz.prog 41 = some (1, false) := by kernel_rfl
@[simp] theorem nIfc_42 : nIfc Tryz.prog 42 = true := by kernel_rfl
@[simp] theorem tyL_42 : tyL Tryz.prog 42 = some (1, false) := by kernel_rfl
@[simp] theorem nIfc_43 : nIfc Tryz.prog 43 = true := by kernel_rfl
@[simp] theorem tyL_43 : tyL Tryz.prog 43 = some (1, false) := by kernel_rfl
@[simp] theorem nIfc_44 : nIfc Tryz.prog 44 = true := by kernel_rfl
@[simp] theorem tyL_44 : tyL Tryz.prog 44 = some (1, false) := by kernel_rfl
@[simp] theorem nIfc_46 : nIfc Tryz.prog 46 = true := by kernel_rfl
@[simp] theorem tyL_46 : tyL Tryz.prog 46 = some (1, false) := by kernel_rfl
@[simp] theorem nIfc_48 : nIfc Tryz.prog 48 = true := by kernel_rfl
@[simp] theorem tyL_48 : tyL Tryz.prog 48 = some (1, false) := by kernel_rfl
@[simp] theorem nIfc_49 : nIfc Tryz.prog 49 = true := by kernel_rfl
@[simp] theorem tyL_49 : tyL Tryz.prog 49 = some (1, false) := by kernel_rfl
@[simp] theorem nIfc_50 : nIfc Tryz.prog 50 = true := by kernel_rfl
@[simp] theorem tyL_50 : tyL Tryz.prog 50 = some (1, false) := by kernel_rfl
@[simp] theorem nIfc_51 : nIfc Tryz.prog 51 = true := by kernel_rfl
@[simp] theorem tyL_51 : tyL Tryz.prog 51 = some (1, false) := by kernel_rfl
@[simp] theorem nIfc_52 : nIfc Tryz.prog 52 = true := by kernel_rfl
@[simp] theorem tyL_52 : tyL Tryz.prog 52 = some (1, false) := by kernel_rfl
@[simp] theorem zcells_52 : zcells Tryz.prog 52 = some [.w true true (.sl 0 [])] := by kernel_rfl
@[simp] theorem slE_52 : slE Tryz.prog 52 = some (40, 3) := by kernel_rfl
@[simp] theorem byE_40 : byE Tryz.prog 40 = some 48 := by kernel_rfl
@[simp] theorem isStr_52 : isStr Tryz.prog 52 = false := by kernel_rfl
@[simp] theorem eqTy_52 : eqTy Tryz.prog 52 = none := by kernel_rfl
@[simp] theorem nIfc_53 : nIfc Tryz.prog 53 = true := by kernel_rfl
@[simp] theorem tyL_53 : tyL Tryz.prog 53 = some (1, false) := by kernel_rfl
@[simp] theorem nIfc_54 : nIfc Tryz.prog 54 = true := by kernel_rfl
@[simp] theorem tyL_54 : tyL Tryz.prog 54 = some (1, false) := by kernel_rfl
@[simp] theorem nIfc_55 : nIfc Tryz.prog 55 = true := by kernel_rfl
@[simp] theorem tyL_55 : tyL Tryz.prog 55 = some (1, false) := by kernel_rfl
@[simp] theorem nIfc_56 : nIfc Tryz.prog 56 = true := by kernel_rfl
@[simp] theorem tyL_56 : tyL Tryz.prog 56 = some (1, false) := by kernel_rfl
@[simp] theorem nIfc_57 : nIfc Tryz.prog 57 = true := by kernel_rfl
@[simp] theorem tyL_57 : tyL Tryz.prog 57 = some (1, false) := by kernel_rfl
@[simp] theorem nIfc_58 : nIfc Tryz.prog 58 = true := by kernel_rfl
@[simp] theorem tyL_58 : tyL Tryz.prog 58 = some (1, false) := by kernel_rfl
@[simp] theorem nIfc_59 : nIfc Tryz.prog 59 = true := by kernel_rfl
@[simp] theorem tyL_59 : tyL Tryz.prog 59 = some (1, false) := by kernel_rfl
@[simp] theorem nIfc_60 : nIfc Tryz.prog 60 = true := by kernel_rfl
@[simp] theorem tyL_60 : tyL Tryz.prog 60 = some (1, false) := by kernel_rfl
@[simp] theorem nIfc_61 : nIfc Tryz.prog 61 = true := by kernel_rfl
@[simp] theorem tyL_61 : tyL Tryz.prog 61 = some (1, false) := by kernel_rfl
@[simp] theorem nIfc_62 : nIfc Tryz.prog 62 = true := by kernel_rfl
@[simp] theorem tyL_62 : tyL Tryz.prog 62 = some (3, true) := by kernel_rfl
@[simp] theorem zcells_62 : zcells Tryz.prog 62 = some [.w false false (.int .i64 (0)), .w false false (.int .i64 (0)), .w false false (.int .i64 (0))] := by kernel_rfl
@[simp] theorem slE_62 : slE Tryz.prog 62 = none := by kernel_rfl
@[simp] theorem arE_62 : arE Tryz.prog 62 = some (3, 1) := by kernel_rfl
@[simp] theorem isStr_62 : isStr Tryz.prog 62 = false := by kernel_rfl
@[simp] theorem pls_62 : pls Tryz.prog 62 = some [(0, 1), (1, 1), (2, 1)] := by kernel_rfl
@[simp] theorem eqTy_62 : eqTy Tryz.prog 62 = some [1, 1, 1] := by kernel_rfl
@[simp] theorem nIfc_63 : nIfc Tryz.prog 63 = true := by kernel_rfl
@[simp] theorem tyL_63 : tyL Tryz.prog 63 = some (8, true) := by kernel_rfl
@[simp] theorem zcells_63 : zcells Tryz.prog 63 = some [.w false false (.str ByteArray.empty), .w false false (.str ByteArray.empty), .w false false (.str ByteArray.empty), .w false false (.int .i64 (0)), .w false false (.int .i64 (0)), .w false false (.int .i64 (0)), .w false false (.str ByteArray.empty), .w false false (.str ByteArray.empty)] := by kernel_rfl
@[simp] theorem slE_63 : slE Tryz.prog 63 = none := by kernel_rfl
@[simp] theorem isStr_63 : isStr Tryz.prog 63 = false := by kernel_rfl
@[simp] theorem fOf_63_0 : fOf Tryz.prog 63 0 = some (0, 1, false) := by kernel_rfl
@[simp] theorem fOf_63_1 : fOf Tryz.prog 63 1 = some (1, 1, false) := by kernel_rfl
@[simp] theorem fOf_63_2 : fOf Tryz.prog 63 2 = some (2, 1, false) := by kernel_rfl
@[simp] theorem fOf_63_3 : fOf Tryz.prog 63 3 = some (3, 3, true) := by kernel_rfl
@[simp] theorem fOf_63_4 : fOf Tryz.prog 63 4 = some (6, 1, false) := by kernel_rfl
@[simp] theorem fOf_63_5 : fOf Tryz.prog 63 5 = some (7, 1, false) := by kernel_rfl
@[simp] theorem pls_63 : pls Tryz.prog 63 = some [(0, 1), (1, 1), (2, 1), (3, 3), (6, 1), (7, 1)] := by kernel_rfl
@[simp] theorem eqTy_63 : eqTy Tryz.prog 63 = some [2, 2, 2, 1, 1, 1, 2, 2] := by kernel_rfl
@[simp] theorem nIfc_64 : nIfc Tryz.prog 64 = true := by kernel_rfl
@[simp] theorem tyL_64 : tyL Tryz.prog 64 = some (8, true) := by kernel_rfl
@[simp] theorem zcells_64 : zcells Tryz.prog 64 = some [.w false false (.str ByteArray.empty), .w false false (.str ByteArray.empty), .w false false (.str ByteArray.empty), .w false false (.int .i64 (0)), .w false false (.int .i64 (0)), .w false false (.int .i64 (0)), .w false false (.str ByteArray.empty), .w false false (.str ByteArray.empty)] := by kernel_rfl
@[simp] theorem slE_64 : slE Tryz.prog 64 = none := by kernel_rfl
@[simp] theorem isStr_64 : isStr Tryz.prog 64 = false := by kernel_rfl
@[simp] theorem fOf_64_0 : fOf Tryz.prog 64 0 = some (0, 1, false) := by kernel_rfl
@[simp] theorem fOf_64_1 : fOf Tryz.prog 64 1 = some (1, 1, false) := by kernel_rfl
@[simp] theorem fOf_64_2 : fOf Tryz.prog 64 2 = some (2, 1, false) := by kernel_rfl
@[simp] theorem fOf_64_3 : fOf Tryz.prog 64 3 = some (3, 3, true) := by kernel_rfl
@[simp] theorem fOf_64_4 : fOf Tryz.prog 64 4 = some (6, 1, false) := by kernel_rfl
@[simp] theorem fOf_64_5 : fOf Tryz.prog 64 5 = some (7, 1, false) := by kernel_rfl
@[simp] theorem pls_64 : pls Tryz.prog 64 = some [(0, 1), (1, 1), (2, 1), (3, 3), (6, 1), (7, 1)] := by kernel_rfl
@[simp] theorem eqTy_64 : eqTy Tryz.prog 64 = some [2, 2, 2, 1, 1, 1, 2, 2] := by kernel_rfl
@[simp] theorem nIfc_65 : nIfc Tryz.prog 65 = true := by kernel_rfl
@[simp] theorem tyL_65 : tyL Tryz.prog 65 = some (1, false) := by kernel_rfl
@[simp] theorem nIfc_66 : nIfc Tryz.prog 66 = true := by kernel_rfl
@[simp] theorem tyL_66 : tyL Tryz.prog 66 = some (5, true) := by kernel_rfl
@[simp] theorem zcells_66 : zcells Tryz.prog 66 = some [.w false false (.int .i64 (0)), .w false false (.str ByteArray.empty), .w false false (.int .i64 (0)), .w false false (.int .i64 (0)), .w false false (.int .i64 (0))] := by kernel_rfl
@[simp] theorem slE_66 : slE Tryz.prog 66 = none := by kernel_rfl
@[simp] theorem isStr_66 : isStr Tryz.prog 66 = false := by kernel_rfl
@[simp] theorem fOf_66_0 : fOf Tryz.prog 66 0 = some (0, 1, false) := by kernel_rfl
@[simp] theorem fOf_66_1 : fOf Tryz.prog 66 1 = some (1, 1, false) := by kernel_rfl
@[simp] theorem fOf_66_2 : fOf Tryz.prog 66 2 = some (2, 1, false) := by kernel_rfl
@[simp] theorem fOf_66_3 : fOf Tryz.prog 66 3 = some (3, 1, false) := by kernel_rfl
@[simp] theorem fOf_66_4 : fOf Tryz.prog 66 4 = some (4, 1, false) := by kernel_rfl
@[simp] theorem pls_66 : pls Tryz.prog 66 = some [(0, 1), (1, 1), (2, 1), (3, 1), (4, 1)] := by kernel_rfl
@[simp] theorem eqTy_66 : eqTy Tryz.prog 66 = some [1, 2, 1, 1, 1] := by kernel_rfl
@[simp] theorem nIfc_67 : nIfc Tryz.prog 67 = true := by kernel_rfl
@[simp] theorem tyL_67 : tyL Tryz.prog 67 = some (5, true) := by kernel_rfl
@[simp] theorem zcells_67 : zcells Tryz.prog 67 = some [.w false false (.int .i64 (0)), .w false false (.str ByteArray.empty), .w false false (.int .i64 (0)), .w false false (.int .i64 (0)), .w false false (.int .i64 (0))] := by kernel_rfl
@[simp] theorem slE_67 : slE Tryz.prog 67 = none := by kernel_rfl
@[simp] theorem isStr_67 : isStr Tryz.prog 67 = false := by kernel_rfl
@[simp] theorem fOf_67_0 : fOf Tryz.prog 67 0 = some (0, 1, false) := by kernel_rfl
@[simp] theorem fOf_67_1 : fOf Tryz.prog 67 1 = some (1, 1, false) := by kernel_rfl
@[simp] theorem fOf_67_2 : fOf Tryz.prog 67 2 = some (2, 1, false) := by kernel_rfl
@[simp] theorem fOf_67_3 : fOf Tryz.prog 67 3 = some (3, 1, false) := by kernel_rfl
@[simp] theorem fOf_67_4 : fOf Tryz.prog 67 4 = some (4, 1, false) := by kernel_rfl
@[simp] theorem pls_67 : pls Tryz.prog 67 = some [(0, 1), (1, 1), (2, 1), (3, 1), (4, 1)] := by kernel_rfl
@[simp] theorem eqTy_67 : eqTy Tryz.prog 67 = some [1, 2, 1, 1, 1] := by kernel_rfl
@[simp] theorem nIfc_68 : nIfc Tryz.prog 68 = true := by kernel_rfl
@[simp] theorem tyL_68 : tyL Tryz.prog 68 = some (1, false) := by kernel_rfl
@[simp] theorem nIfc_70 : nIfc Tryz.prog 70 = true := by kernel_rfl
@[simp] theorem tyL_70 : tyL Tryz.prog 70 = some (1, false) := by kernel_rfl
@[simp] theorem nIfc_71 : nIfc Tryz.prog 71 = true := by kernel_rfl
@[simp] theorem tyL_71 : tyL Tryz.prog 71 = some (2, true) := by kernel_rfl
@[simp] theorem zcells_71 : zcells Tryz.prog 71 = some [.w false false (.int .i64 (0)), .w false false (.int .i64 (0))] := by kernel_rfl
@[simp] theorem slE_71 : slE Tryz.prog 71 = none := by kernel_rfl
@[simp] theorem isStr_71 : isStr Tryz.prog 71 = false := by kernel_rfl
@[simp] theorem fOf_71_0 : fOf Tryz.prog 71 0 = some (0, 1, false) := by kernel_rfl
@[simp] theorem fOf_71_1 : fOf Tryz.prog 71 1 = some (1, 1, false) := by kernel_rfl
@[simp] theorem pls_71 : pls Tryz.prog 71 = some [(0, 1), (1, 1)] := by kernel_rfl
@[simp] theorem eqTy_71 : eqTy Tryz.prog 71 = some [1, 1] := by kernel_rfl
@[simp] theorem nIfc_72 : nIfc Tryz.prog 72 = true := by kernel_rfl
@[simp] theorem tyL_72 : tyL Tryz.prog 72 = some (2, true) := by kernel_rfl
@[simp] theorem zcells_72 : zcells Tryz.prog 72 = some [.w false false (.int .i64 (0)), .w false false (.int .i64 (0))] := by kernel_rfl
@[simp] theorem slE_72 : slE Tryz.prog 72 = none := by kernel_rfl
@[simp] theorem isStr_72 : isStr Tryz.prog 72 = false := by kernel_rfl
@[simp] theorem fOf_72_0 : fOf Tryz.prog 72 0 = some (0, 1, false) := by kernel_rfl
@[simp] theorem fOf_72_1 : fOf Tryz.prog 72 1 = some (1, 1, false) := by kernel_rfl
@[simp] theorem pls_72 : pls Tryz.prog 72 = some [(0, 1), (1, 1)] := by kernel_rfl
@[simp] theorem eqTy_72 : eqTy Tryz.prog 72 = some [1, 1] := by kernel_rfl
@[simp] theorem nIfc_73 : nIfc Tryz.prog 73 = true := by kernel_rfl
@[simp] theorem tyL_73 : tyL Tryz.prog 73 = some (6, true) := by kernel_rfl
@[simp] theorem zcells_73 : zcells Tryz.prog 73 = some [.w false false (.int .i64 (0)), .w false false (.str ByteArray.empty), .w false false (.int .i64 (0)), .w false false (.int .i64 (0)), .w false false (.int .i64 (0)), .w false false (.int .i64 (0))] := by kernel_rfl
@[simp] theorem slE_73 : slE Tryz.prog 73 = none := by kernel_rfl
@[simp] theorem isStr_73 : isStr Tryz.prog 73 = false := by kernel_rfl
@[simp] theorem fOf_73_0 : fOf Tryz.prog 73 0 = some (0, 1, false) := by kernel_rfl
@[simp] theorem fOf_73_1 : fOf Tryz.prog 73 1 = some (1, 1, false) := by kernel_rfl
@[simp] theorem fOf_73_2 : fOf Tryz.prog 73 2 = some (2, 1, false) := by kernel_rfl
@[simp] theorem fOf_73_3 : fOf Tryz.prog 73 3 = some (3, 2, true) := by kernel_rfl
@[simp] theorem fOf_73_4 : fOf Tryz.prog 73 4 = some (5, 1, false) := by kernel_rfl
@[simp] theorem pls_73 : pls Tryz.prog 73 = some [(0, 1), (1, 1), (2, 1), (3, 2), (5, 1)] := by kernel_rfl
@[simp] theorem eqTy_73 : eqTy Tryz.prog 73 = some [1, 2, 1, 1, 1, 1] := by kernel_rfl
@[simp] theorem nIfc_74 : nIfc Tryz.prog 74 = true := by kernel_rfl
@[simp] theorem tyL_74 : tyL Tryz.prog 74 = some (6, true) := by kernel_rfl
@[simp] theorem zcells_74 : zcells Tryz.prog 74 = some [.w false false (.int .i64 (0)), .w false false (.str ByteArray.empty), .w false false (.int .i64 (0)), .w false false (.int .i64 (0)), .w false false (.int .i64 (0)), .w false false (.int .i64 (0))] := by kernel_rfl
@[simp] theorem slE_74 : slE Tryz.prog 74 = none := by kernel_rfl
@[simp] theorem isStr_74 : isStr Tryz.prog 74 = false := by kernel_rfl
@[simp] theorem fOf_74_0 : fOf Tryz.prog 74 0 = some (0, 1, false) := by kernel_rfl
@[simp] theorem fOf_74_1 : fOf Tryz.prog 74 1 = some (1, 1, false) := by kernel_rfl
@[simp] theorem fOf_74_2 : fOf Tryz.prog 74 2 = some (2, 1, false) := by kernel_rfl
@[simp] theorem fOf_74_3 : fOf Tryz.prog 74 3 = some (3, 2, true) := by kernel_rfl
@[simp] theorem fOf_74_4 : fOf Tryz.prog 74 4 = some (5, 1, false) := by kernel_rfl
@[simp] theorem pls_74 : pls Tryz.prog 74 = some [(0, 1), (1, 1), (2, 1), (3, 2), (5, 1)] := by kernel_rfl
@[simp] theorem eqTy_74 : eqTy Tryz.prog 74 = some [1, 2, 1, 1, 1, 1] := by kernel_rfl
@[simp] theorem nIfc_75 : nIfc Tryz.prog 75 = true := by kernel_rfl
@[simp] theorem tyL_75 : tyL Tryz.prog 75 = some (1, false) := by kernel_rfl
@[simp] theorem nIfc_76 : nIfc Tryz.prog 76 = true := by kernel_rfl
@[simp] theorem tyL_76 : tyL Tryz.prog 76 = some (3, true) := by kernel_rfl
@[simp] theorem zcells_76 : zcells Tryz.prog 76 = some [.w true true (.sl 0 []), .w true true (.sl 0 []), .w false false (.int .i64 (0))] := by kernel_rfl
@[simp] theorem slE_76 : slE Tryz.prog 76 = none := by kernel_rfl
@[simp] theorem isStr_76 : isStr Tryz.prog 76 = false := by kernel_rfl
@[simp] theorem fOf_76_0 : fOf Tryz.prog 76 0 = some (0, 1, false) := by kernel_rfl
@[simp] theorem fOf_76_1 : fOf Tryz.prog 76 1 = some (1, 1, false) := by kernel_rfl
@[simp] theorem fOf_76_2 : fOf Tryz.prog 76 2 = some (2, 1, false) := by kernel_rfl
@[simp] theorem pls_76 : pls Tryz.prog 76 = some [(0, 1), (1, 1), (2, 1)] := by kernel_rfl
@[simp] theorem nIfc_77 : nIfc Tryz.prog 77 = true := by kernel_rfl
@[simp] theorem tyL_77 : tyL Tryz.prog 77 = some (3, true) := by kernel_rfl
@[simp] theorem zcells_77 : zcells Tryz.prog 77 = some [.w true true (.sl 0 []), .w true true (.sl 0 []), .w false false (.int .i64 (0))] := by kernel_rfl
@[simp] theorem slE_77 : slE Tryz.prog 77 = none := by kernel_rfl
@[simp] theorem isStr_77 : isStr Tryz.prog 77 = false := by kernel_rfl
@[simp] theorem fOf_77_0 : fOf Tryz.prog 77 0 = some (0, 1, false) := by kernel_rfl
@[simp] theorem fOf_77_1 : fOf Tryz.prog 77 1 = some (1, 1, false) := by kernel_rfl
@[simp] theorem fOf_77_2 : fOf Tryz.prog 77 2 = some (2, 1, false) := by kernel_rfl
@[simp] theorem pls_77 : pls Tryz.prog 77 = some [(0, 1), (1, 1), (2, 1)] := by kernel_rfl
@[simp] theorem nIfc_78 : nIfc Tryz.prog 78 = true := by kernel_rfl
@[simp] theorem tyL_78 : tyL Tryz.prog 78 = some (1, false) := by kernel_rfl
@[simp] theorem nIfc_79 : nIfc Tryz.prog 79 = true := by kernel_rfl
@[simp] theorem tyL_79 : tyL Tryz.prog 79 = some (1, false) := by kernel_rfl
@[simp] theorem nIfc_80 : nIfc Tryz.prog 80 = true := by kernel_rfl
@[simp] theorem tyL_80 : tyL Tryz.prog 80 = some (1, false) := by kernel_rfl
@[simp] theorem nIfc_81 : nIfc Tryz.prog 81 = true := by kernel_rfl
@[simp] theorem tyL_81 : tyL Tryz.prog 81 = some (1, false) := by kernel_rfl
@[simp] theorem nIfc_82 : nIfc Tryz.prog 82 = true := by kernel_rfl
@[simp] theorem tyL_82 : tyL Tryz.prog 82 = some (1, false) := by kernel_rfl
@[simp] theorem nIfc_83 : nIfc Tryz.prog 83 = true := by kernel_rfl
@[simp] theorem tyL_83 : tyL Tryz.prog 83 = some (1, false) := by kernel_rfl
@[simp] theorem nIfc_84 : nIfc Tryz.prog 84 = true := by kernel_rfl
@[simp] theorem tyL_84 : tyL Tryz.prog 84 = some (1, false) := by kernel_rfl
@[simp] theorem nIfc_85 : nIfc Tryz.prog 85 = true := by kernel_rfl
@[simp] theorem tyL_85 : tyL Tryz.prog 85 = some (1, false) := by kernel_rfl
@[simp] theorem nIfc_86 : nIfc Tryz.prog 86 = true := by kernel_rfl
@[simp] theorem tyL_86 : tyL Tryz.prog 86 = some (2, true) := by kernel_rfl
@[simp] theorem zcells_86 : zcells Tryz.prog 86 = some [.w false false (.str ByteArray.empty), .w false false (.int .i64 (0))] := by kernel_rfl
@[simp] theorem slE_86 : slE Tryz.prog 86 = none := by kernel_rfl
@[simp] theorem isStr_86 : isStr Tryz.prog 86 = false := by kernel_rfl
@[simp] theorem fOf_86_0 : fOf Tryz.prog 86 0 = some (0, 1, false) := by kernel_rfl
@[simp] theorem fOf_86_1 : fOf Tryz.prog 86 1 = some (1, 1, false) := by kernel_rfl
@[simp] theorem pls_86 : pls Tryz.prog 86 = some [(0, 1), (1, 1)] := by kernel_rfl
@[simp] theorem eqTy_86 : eqTy Tryz.prog 86 = some [2, 1] := by kernel_rfl
@[simp] theorem nIfc_87 : nIfc Tryz.prog 87 = true := by kernel_rfl
@[simp] theorem tyL_87 : tyL Tryz.prog 87 = some (2, true) := by kernel_rfl
@[simp] theorem zcells_87 : zcells Tryz.prog 87 = some [.w false false (.str ByteArray.empty), .w false false (.int .i64 (0))] := by kernel_rfl
@[simp] theorem slE_87 : slE Tryz.prog 87 = none := by kernel_rfl
@[simp] theorem isStr_87 : isStr Tryz.prog 87 = false := by kernel_rfl
@[simp] theorem fOf_87_0 : fOf Tryz.prog 87 0 = some (0, 1, false) := by kernel_rfl
@[simp] theorem fOf_87_1 : fOf Tryz.prog 87 1 = some (1, 1, false) := by kernel_rfl
@[simp] theorem pls_87 : pls Tryz.prog 87 = some [(0, 1), (1, 1)] := by kernel_rfl
@[simp] theorem eqTy_87 : eqTy Tryz.prog 87 = some [2, 1] := by kernel_rfl
@[simp] theorem nIfc_88 : nIfc Tryz.prog 88 = true := by kernel_rfl
@[simp] theorem tyL_88 : tyL Tryz.prog 88 = some (2, true) := by kernel_rfl
@[simp] theorem zcells_88 : zcells Tryz.prog 88 = some [.w false false (.str ByteArray.empty), .w false false (.int .i64 (0))] := by kernel_rfl
@[simp] theorem slE_88 : slE Tryz.prog 88 = none := by kernel_rfl
@[simp] theorem isStr_88 : isStr Tryz.prog 88 = false := by kernel_rfl
@[simp] theorem fOf_88_0 : fOf Tryz.prog 88 0 = some (0, 1, false) := by kernel_rfl
@[simp] theorem fOf_88_1 : fOf Tryz.prog 88 1 = some (1, 1, false) := by kernel_rfl
@[simp] theorem pls_88 : pls Tryz.prog 88 = some [(0, 1), (1, 1)] := by kernel_rfl
@[simp] theorem eqTy_88 : eqTy Tryz.prog 88 = some [2, 1] := by kernel_rfl
@[simp] theorem nIfc_89 : nIfc Tryz.prog 89 = true := by kernel_rfl
@[simp] theorem tyL_89 : tyL Tryz.prog 89 = some (2, true) := by kernel_rfl
@[simp] theorem zcells_89 : zcells Tryz.prog 89 = some [.w false false (.str ByteArray.empty), .w false false (.int .i64 (0))] := by kernel_rfl
@[simp] theorem slE_89 : slE Tryz.prog 89 = none := by kernel_rfl
@[simp] theorem isStr_89 : isStr Tryz.prog 89 = false := by kernel_rfl
@[simp] theorem fOf_89_0 : fOf Tryz.prog 89 0 = some (0, 1, false) := by kernel_rfl
@[simp] theorem fOf_89_1 : fOf Tryz.prog 89 1 = some (1, 1, false) := by kernel_rfl
@[simp] theorem pls_89 : pls Tryz.prog 89 = some [(0, 1), (1, 1)] := by kernel_rfl
@[simp] theorem eqTy_89 : eqTy Tryz.prog 89 = some [2, 1] := by kernel_rfl
@[simp] theorem nIfc_90 : nIfc Tryz.prog 90 = true := by kernel_rfl
@[simp] theorem tyL_90 : tyL Tryz.prog 90 = some (1, false) := by kernel_rfl
@[simp] theorem nIfc_91 : nIfc Tryz.prog 91 = true := by kernel_rfl
@[simp] theorem tyL_91 : tyL Tryz.prog 91 = some (1, false) := by kernel_rfl
@[simp] theorem zcells_91 : zcells Tryz.prog 91 = some [.w true true (.sl 0 [])] := by kernel_rfl
@[simp] theorem slE_91 : slE Tryz.prog 91 = some (9, 1) := by kernel_rfl
@[simp] theorem byE_9 : byE Tryz.prog 9 = some 16 := by kernel_rfl
@[simp] theorem isStr_91 : isStr Tryz.prog 91 = false := by kernel_rfl
@[simp] theorem eqTy_91 : eqTy Tryz.prog 91 = none := by kernel_rfl
@[simp] theorem nIfc_92 : nIfc Tryz.prog 92 = true := by kernel_rfl
@[simp] theorem tyL_92 : tyL Tryz.prog 92 = some (1, false) := by kernel_rfl
@[simp] theorem tyL_93 : tyL Tryz.prog 93 = some (1, false) := by kernel_rfl
@[simp] theorem zcells_93 : zcells Tryz.prog 93 = some [.w true false .nili] := by kernel_rfl
@[simp] theorem eqTy_93 : eqTy Tryz.prog 93 = none := by kernel_rfl
@[simp] theorem tyL_94 : tyL Tryz.prog 94 = some (1, false) := by kernel_rfl
@[simp] theorem zcells_94 : zcells Tryz.prog 94 = some [.w true false .nili] := by kernel_rfl
@[simp] theorem eqTy_94 : eqTy Tryz.prog 94 = none := by kernel_rfl
@[simp] theorem nIfc_96 : nIfc Tryz.prog 96 = true := by kernel_rfl
@[simp] theorem tyL_96 : tyL Tryz.prog 96 = some (1, false) := by kernel_rfl
@[simp] theorem nIfc_97 : nIfc Tryz.prog 97 = true := by kernel_rfl
@[simp] theorem tyL_97 : tyL Tryz.prog 97 = some (1, false) := by kernel_rfl
@[simp] theorem zcells_97 : zcells Tryz.prog 97 = some [.w false false (.str ByteArray.empty)] := by kernel_rfl
@[simp] theorem slE_97 : slE Tryz.prog 97 = none := by kernel_rfl
@[simp] theorem isStr_97 : isStr Tryz.prog 97 = true := by kernel_rfl
@[simp] theorem eqTy_97 : eqTy Tryz.prog 97 = none := by kernel_rfl
@[simp] theorem nIfc_98 : nIfc Tryz.prog 98 = true := by kernel_rfl
@[simp] theorem tyL_98 : tyL Tryz.prog 98 = some (1, false) := by kernel_rfl
@[simp] theorem nIfc_99 : nIfc Tryz.prog 99 = true := by kernel_rfl
@[simp] theorem tyL_99 : tyL Tryz.prog 99 = some (1, false) := by kernel_rfl
@[simp] theorem zcells_99 : zcells Tryz.prog 99 = some [.w true false .nilp] := by kernel_rfl
@[simp] theorem slE_99 : slE Tryz.prog 99 = none := by kernel_rfl
@[simp] theorem isStr_99 : isStr Tryz.prog 99 = false := by kernel_rfl
@[simp] theorem eqTy_99 : eqTy Tryz.prog 99 = none := by kernel_rfl
@[simp] theorem nIfc_100 : nIfc Tryz.prog 100 = true := by kernel_rfl
@[simp] theorem tyL_100 : tyL Tryz.prog 100 = some (1, false) := by kernel_rfl
@[simp] theorem nIfc_101 : nIfc Tryz.prog 101 = true := by kernel_rfl
@[simp] theorem tyL_101 : tyL Tryz.prog 101 = some (1, false) := by kernel_rfl
@[simp] theorem nIfc_103 : nIfc Tryz.prog 103 = true := by kernel_rfl
@[simp] theorem tyL_103 : tyL Tryz.prog 103 = some (1, false) := by kernel_rfl
@[simp] theorem nIfc_105 : nIfc Tryz.prog 105 = true := by kernel_rfl
@[simp] theorem tyL_105 : tyL Tryz.prog 105 = some (1, false) := by kernel_rfl
@[simp] theorem nIfc_106 : nIfc Tryz.prog 106 = true := by kernel_rfl
@[simp] theorem tyL_106 : tyL Tryz.prog 106 = some (1, false) := by kernel_rfl
@[simp] theorem zcells_106 : zcells Tryz.prog 106 = some [.w false false .undef] := by kernel_rfl
@[simp] theorem slE_106 : slE Tryz.prog 106 = none := by kernel_rfl
@[simp] theorem isStr_106 : isStr Tryz.prog 106 = false := by kernel_rfl
@[simp] theorem eqTy_106 : eqTy Tryz.prog 106 = none := by kernel_rfl
@[simp] theorem nIfc_107 : nIfc Tryz.prog 107 = true := by kernel_rfl
@[simp] theorem tyL_107 : tyL Tryz.prog 107 = some (1, false) := by kernel_rfl
@[simp] theorem nIfc_108 : nIfc Tryz.prog 108 = true := by kernel_rfl
@[simp] theorem tyL_108 : tyL Tryz.prog 108 = some (1, false) := by kernel_rfl
@[simp] theorem nIfc_109 : nIfc Tryz.prog 109 = true := by kernel_rfl
@[simp] theorem tyL_109 : tyL Tryz.prog 109 = some (3, true) := by kernel_rfl
@[simp] theorem zcells_109 : zcells Tryz.prog 109 = some [.w false false (.int .i64 (0)), .w false false (.str ByteArray.empty), .w true true (.sl 0 [])] := by kernel_rfl
@[simp] theorem slE_109 : slE Tryz.prog 109 = none := by kernel_rfl
@[simp] theorem isStr_109 : isStr Tryz.prog 109 = false := by kernel_rfl
@[simp] theorem fOf_109_0 : fOf Tryz.prog 109 0 = some (0, 3, true) := by kernel_rfl
@[simp] theorem pls_109 : pls Tryz.prog 109 = some [(0, 3)] := by kernel_rfl
@[simp] theorem nIfc_110 : nIfc Tryz.prog 110 = true := by kernel_rfl
@[simp] theorem tyL_110 : tyL Tryz.prog 110 = some (3, true) := by kernel_rfl
@[simp] theorem zcells_110 : zcells Tryz.prog 110 = some [.w false false (.int .i64 (0)), .w false false (.str ByteArray.empty), .w true true (.sl 0 [])] := by kernel_rfl
@[simp] theorem slE_110 : slE Tryz.prog 110 = none := by kernel_rfl
@[simp] theorem isStr_110 : isStr Tryz.prog 110 = false := by kernel_rfl
@[simp] theorem fOf_110_0 : fOf Tryz.prog 110 0 = some (0, 3, true) := by kernel_rfl
@[simp] theorem pls_110 : pls Tryz.prog 110 = some [(0, 3)] := by kernel_rfl
@[simp] theorem nIfc_111 : nIfc Tryz.prog 111 = true := by kernel_rfl
@[simp] theorem tyL_111 : tyL Tryz.prog 111 = some (1, false) := by kernel_rfl
@[simp] theorem nIfc_112 : nIfc Tryz.prog 112 = true := by kernel_rfl
@[simp] theorem tyL_112 : tyL Tryz.prog 112 = some (1, false) := by kernel_rfl
@[simp] theorem nIfc_113 : nIfc Tryz.prog 113 = true := by kernel_rfl
@[simp] theorem tyL_113 : tyL Tryz.prog 113 = some (1, false) := by kernel_rfl
@[simp] theorem nIfc_114 : nIfc Tryz.prog 114 = true := by kernel_rfl
@[simp] theorem tyL_114 : tyL Tryz.prog 114 = some (1, false) := by kernel_rfl
@[simp] theorem nIfc_115 : nIfc Tryz.prog 115 = true := by kernel_rfl
@[simp] theorem tyL_115 : tyL Tryz.prog 115 = some (1, false) := by kernel_rfl
@[simp] theorem nIfc_116 : nIfc Tryz.prog 116 = true := by kernel_rfl
@[simp] theorem tyL_116 : tyL Tryz.prog 116 = some (1, false) := by kernel_rfl
@[simp] theorem nIfc_117 : nIfc Tryz.prog 117 = true := by kernel_rfl
@[simp] theorem tyL_117 : tyL Tryz.prog 117 = some (1, false) := by kernel_rfl
@[simp] theorem nIfc_118 : nIfc Tryz.prog 118 = true := by kernel_rfl
@[simp] theorem tyL_118 : tyL Tryz.prog 118 = some (1, false) := by kernel_rfl
@[simp] theorem nIfc_119 : nIfc Tryz.prog 119 = true := by kernel_rfl
@[simp] theorem tyL_119 : tyL Tryz.prog 119 = some (1, false) := by kernel_rfl
@[simp] theorem nIfc_120 : nIfc Tryz.prog 120 = true := by kernel_rfl
@[simp] theorem tyL_120 : tyL Tryz.prog 120 = some (1, false) := by kernel_rfl
@[simp] theorem nIfc_121 : nIfc Tryz.prog 121 = true := by kernel_rfl
@[simp] theorem tyL_121 : tyL Tryz.prog 121 = some (3, true) := by kernel_rfl
@[simp] theorem zcells_121 : zcells Tryz.prog 121 = some [.w true true (.sl 0 []), .w true true (.sl 0 []), .w false false (.int .i64 (0))] := by kernel_rfl
@[simp] theorem slE_121 : slE Tryz.prog 121 = none := by kernel_rfl
@[simp] theorem isStr_121 : isStr Tryz.prog 121 = false := by kernel_rfl
@[simp] theorem fOf_121_0 : fOf Tryz.prog 121 0 = some (0, 3, true) := by kernel_rfl
@[simp] theorem pls_121 : pls Tryz.prog 121 = some [(0, 3)] := by kernel_rfl
@[simp] theorem nIfc_122 : nIfc Tryz.prog 122 = true := by kernel_rfl
@[simp] theorem tyL_122 : tyL Tryz.prog 122 = some (3, true) := by kernel_rfl
@[simp] theorem zcells_122 : zcells Tryz.prog 122 = some [.w true true (.sl 0 []), .w true true (.sl 0 []), .w false false (.int .i64 (0))] := by kernel_rfl
@[simp] theorem slE_122 : slE Tryz.prog 122 = none := by kernel_rfl
@[simp] theorem isStr_122 : isStr Tryz.prog 122 = false := by kernel_rfl
@[simp] theorem fOf_122_0 : fOf Tryz.prog 122 0 = some (0, 3, true) := by kernel_rfl
@[simp] theorem pls_122 : pls Tryz.prog 122 = some [(0, 3)] := by kernel_rfl
@[simp] theorem nIfc_124 : nIfc Tryz.prog 124 = true := by kernel_rfl
@[simp] theorem tyL_124 : tyL Tryz.prog 124 = some (1, false) := by kernel_rfl
@[simp] theorem nIfc_125 : nIfc Tryz.prog 125 = true := by kernel_rfl
@[simp] theorem tyL_125 : tyL Tryz.prog 125 = some (1, false) := by kernel_rfl
@[simp] theorem nIfc_126 : nIfc Tryz.prog 126 = true := by kernel_rfl
@[simp] theorem tyL_126 : tyL Tryz.prog 126 = some (1, false) := by kernel_rfl
@[simp] theorem nIfc_127 : nIfc Tryz.prog 127 = true := by kernel_rfl
@[simp] theorem tyL_127 : tyL Tryz.prog 127 = some (1, false) := by kernel_rfl
@[simp] theorem zcells_127 : zcells Tryz.prog 127 = some [.w true true (.sl 0 [])] := by kernel_rfl
@[simp] theorem slE_127 : slE Tryz.prog 127 = some (87, 2) := by kernel_rfl
@[simp] theorem isStr_127 : isStr Tryz.prog 127 = false := by kernel_rfl
@[simp] theorem eqTy_127 : eqTy Tryz.prog 127 = none := by kernel_rfl
@[simp] theorem nIfc_128 : nIfc Tryz.prog 128 = true := by kernel_rfl
@[simp] theorem tyL_128 : tyL Tryz.prog 128 = some (1, false) := by kernel_rfl
@[simp] theorem nIfc_129 : nIfc Tryz.prog 129 = true := by kernel_rfl
@[simp] theorem tyL_129 : tyL Tryz.prog 129 = some (1, false) := by kernel_rfl
@[simp] theorem zcells_129 : zcells Tryz.prog 129 = some [.w true true (.sl 0 [])] := by kernel_rfl
@[simp] theorem slE_129 : slE Tryz.prog 129 = some (24, 1) := by kernel_rfl
@[simp] theorem byE_24 : byE Tryz.prog 24 = some 8 := by kernel_rfl
@[simp] theorem isStr_129 : isStr Tryz.prog 129 = false := by kernel_rfl
@[simp] theorem eqTy_129 : eqTy Tryz.prog 129 = none := by kernel_rfl
@[simp] theorem nIfc_130 : nIfc Tryz.prog 130 = true := by kernel_rfl
@[simp] theorem tyL_130 : tyL Tryz.prog 130 = some (1, false) := by kernel_rfl
@[simp] theorem nIfc_131 : nIfc Tryz.prog 131 = true := by kernel_rfl
@[simp] theorem tyL_131 : tyL Tryz.prog 131 = some (1, false) := by kernel_rfl
@[simp] theorem nIfc_132 : nIfc Tryz.prog 132 = true := by kernel_rfl
@[simp] theorem tyL_132 : tyL Tryz.prog 132 = some (1, false) := by kernel_rfl
@[simp] theorem zcells_132 : zcells Tryz.prog 132 = some [.w true true (.sl 0 [])] := by kernel_rfl
@[simp] theorem slE_132 : slE Tryz.prog 132 = some (133, 1) := by kernel_rfl
@[simp] theorem byE_133 : byE Tryz.prog 133 = some 8 := by kernel_rfl
@[simp] theorem isStr_132 : isStr Tryz.prog 132 = false := by kernel_rfl
@[simp] theorem eqTy_132 : eqTy Tryz.prog 132 = none := by kernel_rfl
@[simp] theorem nIfc_133 : nIfc Tryz.prog 133 = true := by kernel_rfl
@[simp] theorem tyL_133 : tyL Tryz.prog 133 = some (1, false) := by kernel_rfl
@[simp] theorem zcells_133 : zcells Tryz.prog 133 = some [.w false false (.int .u64 (0))] := by kernel_rfl
@[simp] theorem slE_133 : slE Tryz.prog 133 = none := by kernel_rfl
@[simp] theorem isStr_133 : isStr Tryz.prog 133 = false := by kernel_rfl
@[simp] theorem kindOf_133 : kindOf Tryz.prog 133 = some .u64 := by kernel_rfl
@[simp] theorem eqTy_133 : eqTy Tryz.prog 133 = none := by kernel_rfl
@[simp] theorem nIfc_135 : nIfc Tryz.prog 135 = true := by kernel_rfl
@[simp] theorem tyL_135 : tyL Tryz.prog 135 = some (1, false) := by kernel_rfl
@[simp] theorem nIfc_136 : nIfc Tryz.prog 136 = true := by kernel_rfl
@[simp] theorem tyL_136 : tyL Tryz.prog 136 = some (1, false) := by kernel_rfl
@[simp] theorem nIfc_137 : nIfc Tryz.prog 137 = true := by kernel_rfl
@[simp] theorem tyL_137 : tyL Tryz.prog 137 = some (1, false) := by kernel_rfl
@[simp] theorem nIfc_138 : nIfc Tryz.prog 138 = true := by kernel_rfl
@[simp] theorem tyL_138 : tyL Tryz.prog 138 = some (1, false) := by kernel_rfl
@[simp] theorem nIfc_139 : nIfc Tryz.prog 139 = true := by kernel_rfl
@[simp] theorem tyL_139 : tyL Tryz.prog 139 = some (1, false) := by kernel_rfl
@[simp] theorem nIfc_140 : nIfc Tryz.prog 140 = true := by kernel_rfl
@[simp] theorem tyL_140 : tyL Tryz.prog 140 = some (1, false) := by kernel_rfl
@[simp] theorem zcells_140 : zcells Tryz.prog 140 = some [.w true false .nilp] := by kernel_rfl
@[simp] theorem slE_140 : slE Tryz.prog 140 = none := by kernel_rfl
@[simp] theorem isStr_140 : isStr Tryz.prog 140 = false := by kernel_rfl
@[simp] theorem eqTy_140 : eqTy Tryz.prog 140 = none := by kernel_rfl
@[simp] theorem nIfc_141 : nIfc Tryz.prog 141 = true := by kernel_rfl
@[simp] theorem tyL_141 : tyL Tryz.prog 141 = some (1, false) := by kernel_rfl
@[simp] theorem zcells_141 : zcells Tryz.prog 141 = some [.w true true (.sl 0 [])] := by kernel_rfl
@[simp] theorem slE_141 : slE Tryz.prog 141 = some (5, 1) := by kernel_rfl
@[simp] theorem byE_5 : byE Tryz.prog 5 = some 1 := by kernel_rfl
@[simp] theorem isStr_141 : isStr Tryz.prog 141 = false := by kernel_rfl
@[simp] theorem eqTy_141 : eqTy Tryz.prog 141 = none := by kernel_rfl
@[simp] theorem nIfc_142 : nIfc Tryz.prog 142 = true := by kernel_rfl
@[simp] theorem tyL_142 : tyL Tryz.prog 142 = some (2, true) := by kernel_rfl
@[simp] theorem zcells_142 : zcells Tryz.prog 142 = some [.w true false .nilp, .w true true (.sl 0 [])] := by kernel_rfl
@[simp] theorem slE_142 : slE Tryz.prog 142 = none := by kernel_rfl
@[simp] theorem isStr_142 : isStr Tryz.prog 142 = false := by kernel_rfl
@[simp] theorem fOf_142_0 : fOf Tryz.prog 142 0 = some (0, 1, false) := by kernel_rfl
@[simp] theorem fOf_142_1 : fOf Tryz.prog 142 1 = some (1, 1, false) := by kernel_rfl
@[simp] theorem pls_142 : pls Tryz.prog 142 = some [(0, 1), (1, 1)] := by kernel_rfl
@[simp] theorem nIfc_143 : nIfc Tryz.prog 143 = true := by kernel_rfl
@[simp] theorem tyL_143 : tyL Tryz.prog 143 = some (2, true) := by kernel_rfl
@[simp] theorem zcells_143 : zcells Tryz.prog 143 = some [.w true false .nilp, .w true true (.sl 0 [])] := by kernel_rfl
@[simp] theorem slE_143 : slE Tryz.prog 143 = none := by kernel_rfl
@[simp] theorem isStr_143 : isStr Tryz.prog 143 = false := by kernel_rfl
@[simp] theorem fOf_143_0 : fOf Tryz.prog 143 0 = some (0, 1, false) := by kernel_rfl
@[simp] theorem fOf_143_1 : fOf Tryz.prog 143 1 = some (1, 1, false) := by kernel_rfl
@[simp] theorem pls_143 : pls Tryz.prog 143 = some [(0, 1), (1, 1)] := by kernel_rfl
@[simp] theorem nIfc_144 : nIfc Tryz.prog 144 = true := by kernel_rfl
@[simp] theorem tyL_144 : tyL Tryz.prog 144 = some (1, false) := by kernel_rfl
@[simp] theorem nIfc_146 : nIfc Tryz.prog 146 = true := by kernel_rfl
@[simp] theorem tyL_146 : tyL Tryz.prog 146 = some (1, false) := by kernel_rfl
@[simp] theorem nIfc_147 : nIfc Tryz.prog 147 = true := by kernel_rfl
@[simp] theorem tyL_147 : tyL Tryz.prog 147 = some (1, false) := by kernel_rfl
@[simp] theorem nIfc_148 : nIfc Tryz.prog 148 = true := by kernel_rfl
@[simp] theorem tyL_148 : tyL Tryz.prog 148 = some (1, false) := by kernel_rfl
@[simp] theorem nIfc_150 : nIfc Tryz.prog 150 = true := by kernel_rfl
@[simp] theorem tyL_150 : tyL Tryz.prog 150 = some (1, false) := by kernel_rfl
@[simp] theorem nIfc_152 : nIfc Tryz.prog 152 = true := by kernel_rfl
@[simp] theorem tyL_152 : tyL Tryz.prog 152 = some (1, false) := by kernel_rfl
@[simp] theorem zcells_152 : zcells Tryz.prog 152 = some [.w false false (.int .u64 (0))] := by kernel_rfl
@[simp] theorem slE_152 : slE Tryz.prog 152 = none := by kernel_rfl
@[simp] theorem isStr_152 : isStr Tryz.prog 152 = false := by kernel_rfl
@[simp] theorem kindOf_152 : kindOf Tryz.prog 152 = some .u64 := by kernel_rfl
@[simp] theorem eqTy_152 : eqTy Tryz.prog 152 = none := by kernel_rfl
@[simp] theorem nIfc_154 : nIfc Tryz.prog 154 = true := by kernel_rfl
@[simp] theorem tyL_154 : tyL Tryz.prog 154 = some (3, true) := by kernel_rfl
@[simp] theorem zcells_154 : zcells Tryz.prog 154 = some [.w true false .nilp, .w true false .nilp, .w false false (.int .u64 (0))] := by kernel_rfl
@[simp] theorem slE_154 : slE Tryz.prog 154 = none := by kernel_rfl
@[simp] theorem isStr_154 : isStr Tryz.prog 154 = false := by kernel_rfl
@[simp] theorem fOf_154_0 : fOf Tryz.prog 154 0 = some (0, 1, false) := by kernel_rfl
@[simp] theorem fOf_154_1 : fOf Tryz.prog 154 1 = some (1, 1, false) := by kernel_rfl
@[simp] theorem fOf_154_2 : fOf Tryz.prog 154 2 = some (2, 1, false) := by kernel_rfl
@[simp] theorem pls_154 : pls Tryz.prog 154 = some [(0, 1), (1, 1), (2, 1)] := by kernel_rfl
@[simp] theorem nIfc_155 : nIfc Tryz.prog 155 = true := by kernel_rfl
@[simp] theorem tyL_155 : tyL Tryz.prog 155 = some (1, false) := by kernel_rfl
@[simp] theorem tyL_157 : tyL Tryz.prog 157 = some (1, false) := by kernel_rfl
@[simp] theorem zcells_157 : zcells Tryz.prog 157 = some [.w true false .nili] := by kernel_rfl
@[simp] theorem eqTy_157 : eqTy Tryz.prog 157 = none := by kernel_rfl
@[simp] theorem nIfc_158 : nIfc Tryz.prog 158 = true := by kernel_rfl
@[simp] theorem tyL_158 : tyL Tryz.prog 158 = some (1, false) := by kernel_rfl
@[simp] theorem nIfc_161 : nIfc Tryz.prog 161 = true := by kernel_rfl
@[simp] theorem tyL_161 : tyL Tryz.prog 161 = some (1, false) := by kernel_rfl
@[simp] theorem nIfc_162 : nIfc Tryz.prog 162 = true := by kernel_rfl
@[simp] theorem tyL_162 : tyL Tryz.prog 162 = some (1, false) := by kernel_rfl
@[simp] theorem nIfc_163 : nIfc Tryz.prog 163 = true := by kernel_rfl
@[simp] theorem tyL_163 : tyL Tryz.prog 163 = some (1, false) := by kernel_rfl
@[simp] theorem nIfc_164 : nIfc Tryz.prog 164 = true := by kernel_rfl
@[simp] theorem tyL_164 : tyL Tryz.prog 164 = some (1, false) := by kernel_rfl
@[simp] theorem nIfc_165 : nIfc Tryz.prog 165 = true := by kernel_rfl
@[simp] theorem tyL_165 : tyL Tryz.prog 165 = some (1, false) := by kernel_rfl
@[simp] theorem nIfc_166 : nIfc Tryz.prog 166 = true := by kernel_rfl
@[simp] theorem tyL_166 : tyL Tryz.prog 166 = some (1, false) := by kernel_rfl
@[simp] theorem nIfc_167 : nIfc Tryz.prog 167 = true := by kernel_rfl
@[simp] theorem tyL_167 : tyL Tryz.prog 167 = some (1, false) := by kernel_rfl
@[simp] theorem nIfc_168 : nIfc Tryz.prog 168 = true := by kernel_rfl
@[simp] theorem tyL_168 : tyL Tryz.prog 168 = some (1, false) := by kernel_rfl
@[simp] theorem zcells_168 : zcells Tryz.prog 168 = some [.w true false .nilp] := by kernel_rfl
@[simp] theorem slE_168 : slE Tryz.prog 168 = none := by kernel_rfl
@[simp] theorem isStr_168 : isStr Tryz.prog 168 = false := by kernel_rfl
@[simp] theorem eqTy_168 : eqTy Tryz.prog 168 = none := by kernel_rfl
@[simp] theorem nIfc_169 : nIfc Tryz.prog 169 = true := by kernel_rfl
@[simp] theorem tyL_169 : tyL Tryz.prog 169 = some (1, false) := by kernel_rfl
@[simp] theorem nIfc_170 : nIfc Tryz.prog 170 = true := by kernel_rfl
@[simp] theorem tyL_170 : tyL Tryz.prog 170 = some (5, true) := by kernel_rfl
@[simp] theorem zcells_170 : zcells Tryz.prog 170 = some [.w false false (.str ByteArray.empty), .w false false (.str ByteArray.empty), .w false false (.str ByteArray.empty), .w false false (.str ByteArray.empty), .w false false (.str ByteArray.empty)] := by kernel_rfl
@[simp] theorem slE_170 : slE Tryz.prog 170 = none := by kernel_rfl
@[simp] theorem arE_170 : arE Tryz.prog 170 = some (5, 1) := by kernel_rfl
@[simp] theorem isStr_170 : isStr Tryz.prog 170 = false := by kernel_rfl
@[simp] theorem pls_170 : pls Tryz.prog 170 = some [(0, 1), (1, 1), (2, 1), (3, 1), (4, 1)] := by kernel_rfl
@[simp] theorem eqTy_170 : eqTy Tryz.prog 170 = some [2, 2, 2, 2, 2] := by kernel_rfl
@[simp] theorem nIfc_171 : nIfc Tryz.prog 171 = true := by kernel_rfl
@[simp] theorem tyL_171 : tyL Tryz.prog 171 = some (3, true) := by kernel_rfl
@[simp] theorem zcells_171 : zcells Tryz.prog 171 = some [.w false false (.str ByteArray.empty), .w false false (.str ByteArray.empty), .w false false (.str ByteArray.empty)] := by kernel_rfl
@[simp] theorem slE_171 : slE Tryz.prog 171 = none := by kernel_rfl
@[simp] theorem arE_171 : arE Tryz.prog 171 = some (3, 1) := by kernel_rfl
@[simp] theorem isStr_171 : isStr Tryz.prog 171 = false := by kernel_rfl
@[simp] theorem pls_171 : pls Tryz.prog 171 = some [(0, 1), (1, 1), (2, 1)] := by kernel_rfl
@[simp] theorem eqTy_171 : eqTy Tryz.prog 171 = some [2, 2, 2] := by kernel_rfl
@[simp] theorem nIfc_173 : nIfc Tryz.prog 173 = true := by kernel_rfl
@[simp] theorem tyL_173 : tyL Tryz.prog 173 = some (1, false) := by kernel_rfl
@[simp] theorem nIfc_174 : nIfc Tryz.prog 174 = true := by kernel_rfl
@[simp] theorem tyL_174 : tyL Tryz.prog 174 = some (1, false) := by kernel_rfl
@[simp] theorem nIfc_175 : nIfc Tryz.prog 175 = true := by kernel_rfl
@[simp] theorem tyL_175 : tyL Tryz.prog 175 = some (1, false) := by kernel_rfl
@[simp] theorem nIfc_176 : nIfc Tryz.prog 176 = true := by kernel_rfl
@[simp] theorem tyL_176 : tyL Tryz.prog 176 = some (1, false) := by kernel_rfl
@[simp] theorem nIfc_177 : nIfc Tryz.prog 177 = true := by kernel_rfl
@[simp] theorem tyL_177 : tyL Tryz.prog 177 = some (1, false) := by kernel_rfl
@[simp] theorem zcells_177 : zcells Tryz.prog 177 = some [.w false false (.int .u64 (0))] := by kernel_rfl
@[simp] theorem slE_177 : slE Tryz.prog 177 = none := by kernel_rfl
@[simp] theorem isStr_177 : isStr Tryz.prog 177 = false := by kernel_rfl
@[simp] theorem kindOf_177 : kindOf Tryz.prog 177 = some .u64 := by kernel_rfl
@[simp] theorem eqTy_177 : eqTy Tryz.prog 177 = none := by kernel_rfl
@[simp] theorem nIfc_178 : nIfc Tryz.prog 178 = true := by kernel_rfl
@[simp] theorem tyL_178 : tyL Tryz.prog 178 = some (1, false) := by kernel_rfl
@[simp] theorem nIfc_179 : nIfc Tryz.prog 179 = true := by kernel_rfl
@[simp] theorem tyL_179 : tyL Tryz.prog 179 = some (1, false) := by kernel_rfl
@[simp] theorem nIfc_180 : nIfc Tryz.prog 180 = true := by kernel_rfl
@[simp] theorem tyL_180 : tyL Tryz.prog 180 = some (1, false) := by kernel_rfl
@[simp] theorem nIfc_181 : nIfc Tryz.prog 181 = true := by kernel_rfl
@[simp] theorem tyL_181 : tyL Tryz.prog 181 = some (1, false) := by kernel_rfl
@[simp] theorem nIfc_182 : nIfc Tryz.prog 182 = true := by kernel_rfl
@[simp] theorem tyL_182 : tyL Tryz.prog 182 = some (2, true) := by kernel_rfl
@[simp] theorem zcells_182 : zcells Tryz.prog 182 = some [.w false false .undef, .w false false .undef] := by kernel_rfl
@[simp] theorem slE_182 : slE Tryz.prog 182 = none := by kernel_rfl
@[simp] theorem isStr_182 : isStr Tryz.prog 182 = false := by kernel_rfl
@[simp] theorem fOf_182_0 : fOf Tryz.prog 182 0 = some (0, 1, false) := by kernel_rfl
@[simp] theorem fOf_182_1 : fOf Tryz.prog 182 1 = some (1, 1, false) := by kernel_rfl
@[simp] theorem pls_182 : pls Tryz.prog 182 = some [(0, 1), (1, 1)] := by kernel_rfl
@[simp] theorem nIfc_183 : nIfc Tryz.prog 183 = true := by kernel_rfl
@[simp] theorem tyL_183 : tyL Tryz.prog 183 = some (2, true) := by kernel_rfl
@[simp] theorem zcells_183 : zcells Tryz.prog 183 = some [.w false false .undef, .w false false .undef] := by kernel_rfl
@[simp] theorem slE_183 : slE Tryz.prog 183 = none := by kernel_rfl
@[simp] theorem isStr_183 : isStr Tryz.prog 183 = false := by kernel_rfl
@[simp] theorem fOf_183_0 : fOf Tryz.prog 183 0 = some (0, 1, false) := by kernel_rfl
@[simp] theorem fOf_183_1 : fOf Tryz.prog 183 1 = some (1, 1, false) := by kernel_rfl
@[simp] theorem pls_183 : pls Tryz.prog 183 = some [(0, 1), (1, 1)] := by kernel_rfl
@[simp] theorem nIfc_184 : nIfc Tryz.prog 184 = true := by kernel_rfl
@[simp] theorem tyL_184 : tyL Tryz.prog 184 = some (1, false) := by kernel_rfl
@[simp] theorem nIfc_185 : nIfc Tryz.prog 185 = true := by kernel_rfl
@[simp] theorem tyL_185 : tyL Tryz.prog 185 = some (1, false) := by kernel_rfl
@[simp] theorem nIfc_186 : nIfc Tryz.prog 186 = true := by kernel_rfl
@[simp] theorem tyL_186 : tyL Tryz.prog 186 = some (1, false) := by kernel_rfl
@[simp] theorem nIfc_187 : nIfc Tryz.prog 187 = true := by kernel_rfl
@[simp] theorem tyL_187 : tyL Tryz.prog 187 = some (1, false) := by kernel_rfl
@[simp] theorem zcells_187 : zcells Tryz.prog 187 = some [.w true false .nilp] := by kernel_rfl
@[simp] theorem slE_187 : slE Tryz.prog 187 = none := by kernel_rfl
@[simp] theorem isStr_187 : isStr Tryz.prog 187 = false := by kernel_rfl
@[simp] theorem eqTy_187 : eqTy Tryz.prog 187 = none := by kernel_rfl
@[simp] theorem nIfc_188 : nIfc Tryz.prog 188 = true := by kernel_rfl
@[simp] theorem tyL_188 : tyL Tryz.prog 188 = some (1, false) := by kernel_rfl
@[simp] theorem nIfc_189 : nIfc Tryz.prog 189 = true := by kernel_rfl
@[simp] theorem tyL_189 : tyL Tryz.prog 189 = some (1, false) := by kernel_rfl
@[simp] theorem nIfc_190 : nIfc Tryz.prog 190 = true := by kernel_rfl
@[simp] theorem tyL_190 : tyL Tryz.prog 190 = some (1, false) := by kernel_rfl
@[simp] theorem nIfc_192 : nIfc Tryz.prog 192 = true := by kernel_rfl
@[simp] theorem tyL_192 : tyL Tryz.prog 192 = some (1, false) := by kernel_rfl
@[simp] theorem nIfc_193 : nIfc Tryz.prog 193 = true := by kernel_rfl
@[simp] theorem tyL_193 : tyL Tryz.prog 193 = some (1, false) := by kernel_rfl
@[simp] theorem nIfc_195 : nIfc Tryz.prog 195 = true := by kernel_rfl
@[simp] theorem tyL_195 : tyL Tryz.prog 195 = some (1, true) := by kernel_rfl
@[simp] theorem zcells_195 : zcells Tryz.prog 195 = some [.w true false .nilp] := by kernel_rfl
@[simp] theorem slE_195 : slE Tryz.prog 195 = none := by kernel_rfl
@[simp] theorem isStr_195 : isStr Tryz.prog 195 = false := by kernel_rfl
@[simp] theorem fOf_195_0 : fOf Tryz.prog 195 0 = some (0, 1, false) := by kernel_rfl
@[simp] theorem pls_195 : pls Tryz.prog 195 = some [(0, 1)] := by kernel_rfl
@[simp] theorem tyL_196 : tyL Tryz.prog 196 = some (1, false) := by kernel_rfl
@[simp] theorem zcells_196 : zcells Tryz.prog 196 = some [.w true false .nilp] := by kernel_rfl
@[simp] theorem slE_196 : slE Tryz.prog 196 = none := by kernel_rfl
@[simp] theorem isStr_196 : isStr Tryz.prog 196 = false := by kernel_rfl
@[simp] theorem eqTy_196 : eqTy Tryz.prog 196 = none := by kernel_rfl
@[simp] theorem nIfc_197 : nIfc Tryz.prog 197 = true := by kernel_rfl
@[simp] theorem tyL_197 : tyL Tryz.prog 197 = some (1, false) := by kernel_rfl
@[simp] theorem nIfc_198 : nIfc Tryz.prog 198 = true := by kernel_rfl
@[simp] theorem tyL_198 : tyL Tryz.prog 198 = some (1, false) := by kernel_rfl
@[simp] theorem nIfc_199 : nIfc Tryz.prog 199 = true := by kernel_rfl
@[simp] theorem tyL_199 : tyL Tryz.prog 199 = some (1, false) := by kernel_rfl
@[simp] theorem tyL_200 : tyL Tryz.prog 200 = some (1, false) := by kernel_rfl
@[simp] theorem zcells_200 : zcells Tryz.prog 200 = some [.w true false .nili] := by kernel_rfl
@[simp] theorem eqTy_200 : eqTy Tryz.prog 200 = none := by kernel_rfl
@[simp] theorem nIfc_202 : nIfc Tryz.prog 202 = true := by kernel_rfl
@[simp] theorem tyL_202 : tyL Tryz.prog 202 = some (1, false) := by kernel_rfl
@[simp] theorem tyL_203 : tyL Tryz.prog 203 = some (1, false) := by kernel_rfl
@[simp] theorem zcells_203 : zcells Tryz.prog 203 = some [.w true false .nili] := by kernel_rfl
@[simp] theorem eqTy_203 : eqTy Tryz.prog 203 = none := by kernel_rfl
@[simp] theorem nIfc_204 : nIfc Tryz.prog 204 = true := by kernel_rfl
@[simp] theorem tyL_204 : tyL Tryz.prog 204 = some (1, false) := by kernel_rfl
@[simp] theorem tyL_205 : tyL Tryz.prog 205 = some (1, false) := by kernel_rfl
@[simp] theorem zcells_205 : zcells Tryz.prog 205 = some [.w true false .nili] := by kernel_rfl
@[simp] theorem eqTy_205 : eqTy Tryz.prog 205 = none := by kernel_rfl
@[simp] theorem nIfc_206 : nIfc Tryz.prog 206 = true := by kernel_rfl
@[simp] theorem tyL_206 : tyL Tryz.prog 206 = some (1, false) := by kernel_rfl
@[simp] theorem zcells_206 : zcells Tryz.prog 206 = some [.w true true (.sl 0 [])] := by kernel_rfl
@[simp] theorem slE_206 : slE Tryz.prog 206 = some (94, 1) := by kernel_rfl
@[simp] theorem byE_94 : byE Tryz.prog 94 = some 16 := by kernel_rfl
@[simp] theorem isStr_206 : isStr Tryz.prog 206 = false := by kernel_rfl
@[simp] theorem eqTy_206 : eqTy Tryz.prog 206 = none := by kernel_rfl
@[simp] theorem nIfc_207 : nIfc Tryz.prog 207 = true := by kernel_rfl
@[simp] theorem tyL_207 : tyL Tryz.prog 207 = some (1, false) := by kernel_rfl
@[simp] theorem nIfc_208 : nIfc Tryz.prog 208 = true := by kernel_rfl
@[simp] theorem tyL_208 : tyL Tryz.prog 208 = some (1, false) := by kernel_rfl
@[simp] theorem nIfc_209 : nIfc Tryz.prog 209 = true := by kernel_rfl
@[simp] theorem tyL_209 : tyL Tryz.prog 209 = some (1, false) := by kernel_rfl
@[simp] theorem nIfc_210 : nIfc Tryz.prog 210 = true := by kernel_rfl
@[simp] theorem tyL_210 : tyL Tryz.prog 210 = some (1, false) := by kernel_rfl
@[simp] theorem nIfc_211 : nIfc Tryz.prog 211 = true := by kernel_rfl
@[simp] theorem tyL_211 : tyL Tryz.prog 211 = some (1, false) := by kernel_rfl
@[simp] theorem nIfc_212 : nIfc Tryz.prog 212 = true := by kernel_rfl
@[simp] theorem tyL_212 : tyL Tryz.prog 212 = some (1, false) := by kernel_rfl
@[simp] theorem nIfc_213 : nIfc Tryz.prog 213 = true := by kernel_rfl
@[simp] theorem tyL_213 : tyL Tryz.prog 213 = some (1, false) := by kernel_rfl
@[simp] theorem nIfc_214 : nIfc Tryz.prog 214 = true := by kernel_rfl
@[simp] theorem tyL_214 : tyL Tryz.prog 214 = some (24, true) := by kernel_rfl
@[simp] theorem zcells_214 : zcells Tryz.prog 214 = some [.w false false (.int .u8 (0)), .w false false (.int .u8 (0)), .w false false (.int .u8 (0)), .w false false (.int .u8 (0)), .w false false (.int .u8 (0)), .w false false (.int .u8 (0)), .w false false (.int .u8 (0)), .w false false (.int .u8 (0)), .w false false (.int .u8 (0)), .w false false (.int .u8 (0)), .w false false (.int .u8 (0)), .w false false (.int .u8 (0)), .w false false (.int .u8 (0)), .w false false (.int .u8 (0)), .w false false (.int .u8 (0)), .w false false (.int .u8 (0)), .w false false (.int .u8 (0)), .w false false (.int .u8 (0)), .w false false (.int .u8 (0)), .w false false (.int .u8 (0)), .w false false (.int .u8 (0)), .w false false (.int .u8 (0)), .w false false (.int .u8 (0)), .w false false (.int .u8 (0))] := by kernel_rfl
@[simp] theorem slE_214 : slE Tryz.prog 214 = none := by kernel_rfl
@[simp] theorem arE_214 : arE Tryz.prog 214 = some (24, 1) := by kernel_rfl
@[simp] theorem isStr_214 : isStr Tryz.prog 214 = false := by kernel_rfl
@[simp] theorem eqTy_214 : eqTy Tryz.prog 214 = some [1, 1, 1, 1, 1, 1, 1, 1, 1, 1, 1, 1, 1, 1, 1, 1, 1, 1, 1, 1, 1, 1, 1, 1] := by kernel_rfl
@[simp] theorem nIfc_215 : nIfc Tryz.prog 215 = true := by kernel_rfl
@[simp] theorem tyL_215 : tyL Tryz.prog 215 = some (1, false) := by kernel_rfl
@[simp] theorem nIfc_217 : nIfc Tryz.prog 217 = true := by kernel_rfl
@[simp] theorem tyL_217 : tyL Tryz.prog 217 = some (1, false) := by kernel_rfl
@[simp] theorem nIfc_219 : nIfc Tryz.prog 219 = true := by kernel_rfl
@[simp] theorem tyL_219 : tyL Tryz.prog 219 = some (1, false) := by kernel_rfl
@[simp] theorem nIfc_220 : nIfc Tryz.prog 220 = true := by kernel_rfl
@[simp] theorem tyL_220 : tyL Tryz.prog 220 = some (1, false) := by kernel_rfl
@[simp] theorem nIfc_221 : nIfc Tryz.prog 221 = true := by kernel_rfl
@[simp] theorem tyL_221 : tyL Tryz.prog 221 = some (1, false) := by kernel_rfl
@[simp] theorem nIfc_222 : nIfc Tryz.prog 222 = true := by kernel_rfl
@[simp] theorem tyL_222 : tyL Tryz.prog 222 = some (1, false) := by kernel_rfl
@[simp] theorem nIfc_223 : nIfc Tryz.prog 223 = true := by kernel_rfl
@[simp] theorem tyL_223 : tyL Tryz.prog 223 = some (1, false) := by kernel_rfl
@[simp] theorem nIfc_224 : nIfc Tryz.prog 224 = true := by kernel_rfl
@[simp] theorem tyL_224 : tyL Tryz.prog 224 = some (20, true) := by kernel_rfl
@[simp] theorem zcells_224 : zcells Tryz.prog 224 = some [.w false false (.int .u64 (0)), .w false false (.int .u64 (0)), .w false false (.int .u64 (0)), .w false false (.int .u64 (0)), .w false false (.int .u64 (0)), .w false false (.int .u64 (0)), .w false false (.int .u64 (0)), .w false false (.int .u64 (0)), .w false false (.int .u64 (0)), .w false false (.int .u64 (0)), .w false false (.int .u64 (0)), .w false false (.int .u64 (0)), .w false false (.int .u64 (0)), .w false false (.int .u64 (0)), .w false false (.int .u64 (0)), .w false false (.int .u64 (0)), .w false false (.int .u64 (0)), .w false false (.int .u64 (0)), .w false false (.int .u64 (0)), .w false false (.int .u64 (0))] := by kernel_rfl
@[simp] theorem slE_224 : slE Tryz.prog 224 = none := by kernel_rfl
@[simp] theorem arE_224 : arE Tryz.prog 224 = some (20, 1) := by kernel_rfl
@[simp] theorem isStr_224 : isStr Tryz.prog 224 = false := by kernel_rfl
@[simp] theorem eqTy_224 : eqTy Tryz.prog 224 = some [1, 1, 1, 1, 1, 1, 1, 1, 1, 1, 1, 1, 1, 1, 1, 1, 1, 1, 1, 1] := by kernel_rfl
@[simp] theorem nIfc_225 : nIfc Tryz.prog 225 = true := by kernel_rfl
@[simp] theorem tyL_225 : tyL Tryz.prog 225 = some (1, false) := by kernel_rfl
@[simp] theorem zcells_225 : zcells Tryz.prog 225 = some [.w false false (.int .u32 (0))] := by kernel_rfl
@[simp] theorem slE_225 : slE Tryz.prog 225 = none := by kernel_rfl
@[simp] theorem isStr_225 : isStr Tryz.prog 225 = false := by kernel_rfl
@[simp] theorem kindOf_225 : kindOf Tryz.prog 225 = some .u32 := by kernel_rfl
@[simp] theorem eqTy_225 : eqTy Tryz.prog 225 = none := by kernel_rfl
@[simp] theorem nIfc_226 : nIfc Tryz.prog 226 = true := by kernel_rfl
@[simp] theorem tyL_226 : tyL Tryz.prog 226 = some (65, true) := by kernel_rfl
@[simp] theorem slE_226 : slE Tryz.prog 226 = none := by kernel_rfl
@[simp] theorem arE_226 : arE Tryz.prog 226 = some (65, 1) := by kernel_rfl
@[simp] theorem isStr_226 : isStr Tryz.prog 226 = false := by kernel_rfl
@[simp] theorem eqTy_226 : eqTy Tryz.prog 226 = some [1, 1, 1, 1, 1, 1, 1, 1, 1, 1, 1, 1, 1, 1, 1, 1, 1, 1, 1, 1, 1, 1, 1, 1, 1, 1, 1, 1, 1, 1, 1, 1, 1, 1, 1, 1, 1, 1, 1, 1, 1, 1, 1, 1, 1, 1, 1, 1, 1, 1, 1, 1, 1, 1, 1, 1, 1, 1, 1, 1, 1, 1, 1, 1, 1] := by kernel_rfl
@[simp] theorem nIfc_227 : nIfc Tryz.prog 227 = true := by kernel_rfl
@[simp] theorem tyL_227 : tyL Tryz.prog 227 = some (1, false) := by kernel_rfl
@[simp] theorem nIfc_229 : nIfc Tryz.prog 229 = true := by kernel_rfl
@[simp] theorem tyL_229 : tyL Tryz.prog 229 = some (1, false) := by kernel_rfl
@[simp] theorem tyL_230 : tyL Tryz.prog 230 = some (1, false) := by kernel_rfl
@[simp] theorem zcells_230 : zcells Tryz.prog 230 = some [.w false false (.int .i64 (0))] := by kernel_rfl
@[simp] theorem slE_230 : slE Tryz.prog 230 = none := by kernel_rfl
@[simp] theorem isStr_230 : isStr Tryz.prog 230 = false := by kernel_rfl
@[simp] theorem kindOf_230 : kindOf Tryz.prog 230 = some .i64 := by kernel_rfl
@[simp] theorem eqTy_230 : eqTy Tryz.prog 230 = none := by kernel_rfl
@[simp] theorem nIfc_232 : nIfc Tryz.prog 232 = true := by kernel_rfl
@[simp] theorem tyL_232 : tyL Tryz.prog 232 = some (1, false) := by kernel_rfl
@[simp] theorem tyL_233 : tyL Tryz.prog 233 = some (1, false) := by kernel_rfl
@[simp] theorem zcells_233 : zcells Tryz.prog 233 = some [.w true false .nilp] := by kernel_rfl
@[simp] theorem slE_233 : slE Tryz.prog 233 = none := by kernel_rfl
@[simp] theorem isStr_233 : isStr Tryz.prog 233 = false := by kernel_rfl
@[simp] theorem eqTy_233 : eqTy Tryz.prog 233 = none := by kernel_rfl
@[simp] theorem tyL_234 : tyL Tryz.prog 234 = some (1, false) := by kernel_rfl
@[simp] theorem tyL_235 : tyL Tryz.prog 235 = some (1, false) := by kernel_rfl
@[simp] theorem nIfc_236 : nIfc Tryz.prog 236 = true := by kernel_rfl
@[simp] theorem tyL_236 : tyL Tryz.prog 236 = some (1, false) := by kernel_rfl
@[simp] theorem nIfc_237 : nIfc Tryz.prog 237 = true := by kernel_rfl
@[simp] theorem tyL_237 : tyL Tryz.prog 237 = some (1, false) := by kernel_rfl
@[simp] theorem nIfc_239 : nIfc Tryz.prog 239 = true := by kernel_rfl
@[simp] theorem tyL_239 : tyL Tryz.prog 239 = some (1, false) := by kernel_rfl
@[simp] theorem nIfc_240 : nIfc Tryz.prog 240 = true := by kernel_rfl
@[simp] theorem tyL_240 : tyL Tryz.prog 240 = some (1, false) := by kernel_rfl
@[simp] theorem nIfc_241 : nIfc Tryz.prog 241 = true := by kernel_rfl
@[simp] theorem tyL_241 : tyL Tryz.prog 241 = some (3, true) := by kernel_rfl
@[simp] theorem zcells_241 : zcells Tryz.prog 241 = some [.w false false (.str ByteArray.empty), .w false false (.str ByteArray.empty), .w true false .nili] := by kernel_rfl
@[simp] theorem slE_241 : slE Tryz.prog 241 = none := by kernel_rfl
@[simp] theorem isStr_241 : isStr Tryz.prog 241 = false := by kernel_rfl
@[simp] theorem fOf_241_0 : fOf Tryz.prog 241 0 = some (0, 1, false) := by kernel_rfl
@[simp] theorem fOf_241_1 : fOf Tryz.prog 241 1 = some (1, 1, false) := by kernel_rfl
@[simp] theorem fOf_241_2 : fOf Tryz.prog 241 2 = some (2, 1, false) := by kernel_rfl
@[simp] theorem pls_241 : pls Tryz.prog 241 = some [(0, 1), (1, 1), (2, 1)] := by kernel_rfl
@[simp] theorem tyL_242 : tyL Tryz.prog 242 = some (3, true) := by kernel_rfl
@[simp] theorem zcells_242 : zcells Tryz.prog 242 = some [.w false false (.str ByteArray.empty), .w false false (.str ByteArray.empty), .w true false .nili] := by kernel_rfl
@[simp] theorem slE_242 : slE Tryz.prog 242 = none := by kernel_rfl
@[simp] theorem isStr_242 : isStr Tryz.prog 242 = false := by kernel_rfl
@[simp] theorem fOf_242_0 : fOf Tryz.prog 242 0 = some (0, 1, false) := by kernel_rfl
@[simp] theorem fOf_242_1 : fOf Tryz.prog 242 1 = some (1, 1, false) := by kernel_rfl
@[simp] theorem fOf_242_2 : fOf Tryz.prog 242 2 = some (2, 1, false) := by kernel_rfl
@[simp] theorem pls_242 : pls Tryz.prog 242 = some [(0, 1), (1, 1), (2, 1)] := by kernel_rfl
@[simp] theorem nIfc_243 : nIfc Tryz.prog 243 = true := by kernel_rfl
@[simp] theorem tyL_243 : tyL Tryz.prog 243 = some (1, false) := by kernel_rfl
@[simp] theorem nIfc_244 : nIfc Tryz.prog 244 = true := by kernel_rfl
@[simp] theorem tyL_244 : tyL Tryz.prog 244 = some (32, true) := by kernel_rfl
@[simp] theorem slE_244 : slE Tryz.prog 244 = none := by kernel_rfl
@[simp] theorem arE_244 : arE Tryz.prog 244 = some (32, 1) := by kernel_rfl
@[simp] theorem isStr_244 : isStr Tryz.prog 244 = false := by kernel_rfl
@[simp] theorem eqTy_244 : eqTy Tryz.prog 244 = some [1, 1, 1, 1, 1, 1, 1, 1, 1, 1, 1, 1, 1, 1, 1, 1, 1, 1, 1, 1, 1, 1, 1, 1, 1, 1, 1, 1, 1, 1, 1, 1] := by kernel_rfl
@[simp] theorem nIfc_245 : nIfc Tryz.prog 245 = true := by kernel_rfl
@[simp] theorem tyL_245 : tyL Tryz.prog 245 = some (64, true) := by kernel_rfl
@[simp] theorem slE_245 : slE Tryz.prog 245 = none := by kernel_rfl
@[simp] theorem arE_245 : arE Tryz.prog 245 = some (64, 1) := by kernel_rfl
@[simp] theorem isStr_245 : isStr Tryz.prog 245 = false := by kernel_rfl
@[simp] theorem eqTy_245 : eqTy Tryz.prog 245 = some [1, 1, 1, 1, 1, 1, 1, 1, 1, 1, 1, 1, 1, 1, 1, 1, 1, 1, 1, 1, 1, 1, 1, 1, 1, 1, 1, 1, 1, 1, 1, 1, 1, 1, 1, 1, 1, 1, 1, 1, 1, 1, 1, 1, 1, 1, 1, 1, 1, 1, 1, 1, 1, 1, 1, 1, 1, 1, 1, 1, 1, 1, 1, 1] := by kernel_rfl
@[simp] theorem nIfc_246 : nIfc Tryz.prog 246 = true := by kernel_rfl
@[simp] theorem tyL_246 : tyL Tryz.prog 246 = some (256, true) := by kernel_rfl
@[simp] theorem slE_246 : slE Tryz.prog 246 = none := by kernel_rfl
@[simp] theorem arE_246 : arE Tryz.prog 246 = some (256, 1) := by kernel_rfl
@[simp] theorem isStr_246 : isStr Tryz.prog 246 = false := by kernel_rfl
@[simp] theorem eqTy_246 : eqTy Tryz.prog 246 = some [1, 1, 1, 1, 1, 1, 1, 1, 1, 1, 1, 1, 1, 1, 1, 1, 1, 1, 1, 1, 1, 1, 1, 1, 1, 1, 1, 1, 1, 1, 1, 1, 1, 1, 1, 1, 1, 1, 1, 1, 1, 1, 1, 1, 1, 1, 1, 1, 1, 1, 1, 1, 1, 1, 1, 1, 1, 1, 1, 1, 1, 1, 1, 1, 1, 1, 1, 1, 1, 1, 1, 1, 1, 1, 1, 1, 1, 1, 1, 1, 1, 1, 1, 1, 1, 1, 1, 1, 1, 1, 1, 1, 1, 1, 1, 1, 1, 1, 1, 1, 1, 1, 1, 1, 1, 1, 1, 1, 1, 1, 1, 1, 1, 1, 1, 1, 1, 1, 1, 1, 1, 1, 1, 1, 1, 1, 1, 1, 1, 1, 1, 1, 1, 1, 1, 1, 1, 1, 1, 1, 1, 1, 1, 1, 1, 1, 1, 1, 1, 1, 1, 1, 1, 1, 1, 1, 1, 1, 1, 1, 1, 1, 1, 1, 1, 1, 1, 1, 1, 1, 1, 1, 1, 1, 1, 1, 1, 1, 1, 1, 1, 1, 1, 1, 1, 1, 1, 1, 1, 1, 1, 1, 1, 1, 1, 1, 1, 1, 1, 1, 1, 1, 1, 1, 1, 1, 1, 1, 1, 1, 1, 1, 1, 1, 1, 1, 1, 1, 1, 1, 1, 1, 1, 1, 1, 1, 1, 1, 1, 1, 1, 1, 1, 1, 1, 1, 1, 1, 1, 1, 1, 1, 1, 1, 1, 1, 1, 1, 1, 1, 1, 1, 1, 1, 1, 1] := by kernel_rfl
@[simp] theorem nIfc_247 : nIfc Tryz.prog 247 = true := by kernel_rfl
@[simp] theorem tyL_247 : tyL Tryz.prog 247 = some (2, true) := by kernel_rfl
@[simp] theorem zcells_247 : zcells Tryz.prog 247 = some [.w false false (.int .u8 (0)), .w false false (.int .u8 (0))] := by kernel_rfl
@[simp] theorem slE_247 : slE Tryz.prog 247 = none := by kernel_rfl
@[simp] theorem isStr_247 : isStr Tryz.prog 247 = false := by kernel_rfl
@[simp] theorem fOf_247_0 : fOf Tryz.prog 247 0 = some (0, 1, false) := by kernel_rfl
@[simp] theorem fOf_247_1 : fOf Tryz.prog 247 1 = some (1, 1, false) := by kernel_rfl
@[simp] theorem pls_247 : pls Tryz.prog 247 = some [(0, 1), (1, 1)] := by kernel_rfl
@[simp] theorem eqTy_247 : eqTy Tryz.prog 247 = some [1, 1] := by kernel_rfl
@[simp] theorem nIfc_248 : nIfc Tryz.prog 248 = true := by kernel_rfl
@[simp] theorem tyL_248 : tyL Tryz.prog 248 = some (2, true) := by kernel_rfl
@[simp] theorem zcells_248 : zcells Tryz.prog 248 = some [.w false false (.int .u8 (0)), .w false false (.int .u8 (0))] := by kernel_rfl
@[simp] theorem slE_248 : slE Tryz.prog 248 = none := by kernel_rfl
@[simp] theorem isStr_248 : isStr Tryz.prog 248 = false := by kernel_rfl
@[simp] theorem fOf_248_0 : fOf Tryz.prog 248 0 = some (0, 1, false) := by kernel_rfl
@[simp] theorem fOf_248_1 : fOf Tryz.prog 248 1 = some (1, 1, false) := by kernel_rfl
@[simp] theorem pls_248 : pls Tryz.prog 248 = some [(0, 1), (1, 1)] := by kernel_rfl
@[simp] theorem eqTy_248 : eqTy Tryz.prog 248 = some [1, 1] := by kernel_rfl
@[simp] theorem nIfc_249 : nIfc Tryz.prog 249 = true := by kernel_rfl
@[simp] theorem tyL_249 : tyL Tryz.prog 249 = some (32, true) := by kernel_rfl
@[simp] theorem slE_249 : slE Tryz.prog 249 = none := by kernel_rfl
@[simp] theorem arE_249 : arE Tryz.prog 249 = some (16, 2) := by kernel_rfl
@[simp] theorem isStr_249 : isStr Tryz.prog 249 = false := by kernel_rfl
@[simp] theorem eqTy_249 : eqTy Tryz.prog 249 = some [1, 1, 1, 1, 1, 1, 1, 1, 1, 1, 1, 1, 1, 1, 1, 1, 1, 1, 1, 1, 1, 1, 1, 1, 1, 1, 1, 1, 1, 1, 1, 1] := by kernel_rfl
@[simp] theorem nIfc_251 : nIfc Tryz.prog 251 = true := by kernel_rfl
@[simp] theorem tyL_251 : tyL Tryz.prog 251 = some (1, false) := by kernel_rfl
@[simp] theorem nIfc_252 : nIfc Tryz.prog 252 = true := by kernel_rfl
@[simp] theorem tyL_252 : tyL Tryz.prog 252 = some (1, false) := by kernel_rfl
@[simp] theorem nIfc_253 : nIfc Tryz.prog 253 = true := by kernel_rfl
@[simp] theorem tyL_253 : tyL Tryz.prog 253 = some (1, false) := by kernel_rfl
@[simp] theorem zcells_253 : zcells Tryz.prog 253 = some [.w true false .nilp] := by kernel_rfl
@[simp] theorem slE_253 : slE Tryz.prog 253 = none := by kernel_rfl
@[simp] theorem isStr_253 : isStr Tryz.prog 253 = false := by kernel_rfl
@[simp] theorem eqTy_253 : eqTy Tryz.prog 253 = none := by kernel_rfl
@[simp] theorem nIfc_254 : nIfc Tryz.prog 254 = true := by kernel_rfl
@[simp] theorem tyL_254 : tyL Tryz.prog 254 = some (1, true) := by kernel_rfl
@[simp] theorem zcells_254 : zcells Tryz.prog 254 = some [.w false false (.str ByteArray.empty)] := by kernel_rfl
@[simp] theorem slE_254 : slE Tryz.prog 254 = none := by kernel_rfl
@[simp] theorem isStr_254 : isStr Tryz.prog 254 = false := by kernel_rfl
@[simp] theorem fOf_254_0 : fOf Tryz.prog 254 0 = some (0, 1, false) := by kernel_rfl
@[simp] theorem pls_254 : pls Tryz.prog 254 = some [(0, 1)] := by kernel_rfl
@[simp] theorem eqTy_254 : eqTy Tryz.prog 254 = some [2] := by kernel_rfl
@[simp] theorem nIfc_255 : nIfc Tryz.prog 255 = true := by kernel_rfl
@[simp] theorem tyL_255 : tyL Tryz.prog 255 = some (1, true) := by kernel_rfl
@[simp] theorem zcells_255 : zcells Tryz.prog 255 = some [.w false false (.str ByteArray.empty)] := by kernel_rfl
@[simp] theorem slE_255 : slE Tryz.prog 255 = none := by kernel_rfl
@[simp] theorem isStr_255 : isStr Tryz.prog 255 = false := by kernel_rfl
@[simp] theorem fOf_255_0 : fOf Tryz.prog 255 0 = some (0, 1, false) := by kernel_rfl
@[simp] theorem pls_255 : pls Tryz.prog 255 = some [(0, 1)] := by kernel_rfl
@[simp] theorem eqTy_255 : eqTy Tryz.prog 255 = some [2] := by kernel_rfl
@[simp] theorem tyL_271 : tyL Tryz.prog 271 = some (2, true) := by kernel_rfl
@[simp] theorem zcells_271 : zcells Tryz.prog 271 = some [.w false false (.str ByteArray.empty), .w false false (.int .u8 (0))] := by kernel_rfl
@[simp] theorem slE_271 : slE Tryz.prog 271 = none := by kernel_rfl
@[simp] theorem isStr_271 : isStr Tryz.prog 271 = false := by kernel_rfl
@[simp] theorem fOf_271_0 : fOf Tryz.prog 271 0 = some (0, 1, false) := by kernel_rfl
@[simp] theorem fOf_271_1 : fOf Tryz.prog 271 1 = some (1, 1, false) := by kernel_rfl
@[simp] theorem pls_271 : pls Tryz.prog 271 = some [(0, 1), (1, 1)] := by kernel_rfl
@[simp] theorem nIfc_274 : nIfc Tryz.prog 274 = true := by kernel_rfl
@[simp] theorem tyL_274 : tyL Tryz.prog 274 = some (1, false) := by kernel_rfl
@[simp] theorem zcells_274 : zcells Tryz.prog 274 = some [.w false false (.int .u16 (0))] := by kernel_rfl
@[simp] theorem slE_274 : slE Tryz.prog 274 = none := by kernel_rfl
@[simp] theorem isStr_274 : isStr Tryz.prog 274 = false := by kernel_rfl
@[simp] theorem kindOf_274 : kindOf Tryz.prog 274 = some .u16 := by kernel_rfl
@[simp] theorem eqTy_274 : eqTy Tryz.prog 274 = none := by kernel_rfl
@[simp] theorem nIfc_281 : nIfc Tryz.prog 281 = true := by kernel_rfl
@[simp] theorem tyL_281 : tyL Tryz.prog 281 = some (1, false) := by kernel_rfl
@[simp] theorem zcells_281 : zcells Tryz.prog 281 = some [.w true false .nilp] := by kernel_rfl
@[simp] theorem slE_281 : slE Tryz.prog 281 = none := by kernel_rfl
@[simp] theorem isStr_281 : isStr Tryz.prog 281 = false := by kernel_rfl
@[simp] theorem eqTy_281 : eqTy Tryz.prog 281 = none := by kernel_rfl
@[simp] theorem byteSl_9_141 : byteSl Tryz.prog 9 141 = true := by kernel_rfl
@[simp] theorem byteSl_10_141 : byteSl Tryz.prog 10 141 = true := by kernel_rfl
@[simp] theorem byteSl_11_141 : byteSl Tryz.prog 11 141 = true := by kernel_rfl
@[simp] theorem byteSl_97_141 : byteSl Tryz.prog 97 141 = true := by kernel_rfl
end Go.Proofs.YtpjhpmpbdfeajaaGreatDoor

