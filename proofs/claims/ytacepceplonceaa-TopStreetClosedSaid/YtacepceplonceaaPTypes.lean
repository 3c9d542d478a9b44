/- Contracts of functions for this claim: lemmas alone. -/
import Derived.Test.YtacepceplonceaaProg
import Derived.Test.YtacepceplonceaaLd
import Derived.KernelRfl
set_option linter.unusedSimpArgs false
set_option linter.unusedVariables false
namespace Go.Proofs.Ytacepceplonceaa
open Go Go.Fi
set_option maxRecDepth 100000
@[simp] theorem tyL_1 : tyL Try.prog 1 = some (1, false) := by kernel_rfl
@[simp] theorem tyL_2 : tyL Try.prog 2 = some (1, false) := by kernel_rfl
@[simp] theorem zcells_2 : zcells Try.prog 2 = some [.w false false (.int .i64 (0))] := by kernel_rfl
@[simp] theorem slE_2 : slE Try.prog 2 = none := by kernel_rfl
@[simp] theorem isStr_2 : isStr Try.prog 2 = false := by kernel_rfl
@[simp] theorem kindOf_2 : kindOf Try.prog 2 = some .i64 := by kernel_rfl
@[simp] theorem eqTy_2 : eqTy Try.prog 2 = none := by kernel_rfl
@[simp] theorem tyL_3 : tyL Try.prog 3 = some (1, false) := by kernel_rfl
@[simp] theorem zcells_3 : zcells Try.prog 3 = some [.w false false (.int .i64 (0))] := by kernel_rfl
@[simp] theorem slE_3 : slE Try.prog 3 = none := by kernel_rfl
@[simp] theorem isStr_3 : isStr Try.prog 3 = false := by kernel_rfl
@[simp] theorem kindOf_3 : kindOf Try.prog 3 = some .i64 := by kernel_rfl
@[simp] theorem eqTy_3 : eqTy Try.prog 3 = none := by kernel_rfl
@[simp] theorem tyL_4 : tyL Try.prog 4 = some (1, false) := by kernel_rfl
@[simp] theorem zcells_4 : zcells Try.prog 4 = some [.w false false (.bool false)] := by kernel_rfl
@[simp] theorem slE_4 : slE Try.prog 4 = none := by kernel_rfl
@[simp] theorem isStr_4 : isStr Try.prog 4 = false := by kernel_rfl
@[simp] theorem isBool_4 : isBool Try.prog 4 = true := by kernel_rfl
@[simp] theorem eqTy_4 : eqTy Try.prog 4 = none := by kernel_rfl
@[simp] theorem tyL_5 : tyL Try.prog 5 = some (1, false) := by kernel_rfl
@[simp] theorem zcells_5 : zcells Try.prog 5 = some [.w false false (.int .u8 (0))] := by kernel_rfl
@[simp] theorem slE_5 : slE Try.prog 5 = none := by kernel_rfl
@[simp] theorem isStr_5 : isStr Try.prog 5 = false := by kernel_rfl
@[simp] theorem kindOf_5 : kindOf Try.prog 5 = some .u8 := by kernel_rfl
@[simp] theorem eqTy_5 : eqTy Try.prog 5 = none := by kernel_rfl
@[simp] theorem tyL_9 : tyL Try.prog 9 = some (1, false) := by kernel_rfl
@[simp] theorem zcells_9 : zcells Try.prog 9 = some [.w false false (.str ByteArray.empty)] := by kernel_rfl
@[simp] theorem slE_9 : slE Try.prog 9 = none := by kernel_rfl
@[simp] theorem isStr_9 : isStr Try.prog 9 = true := by kernel_rfl
@[simp] theorem eqTy_9 : eqTy Try.prog 9 = none := by kernel_rfl
@[simp] theorem tyL_21 : tyL Try.prog 21 = some (1, false) := by kernel_rfl
@[simp] theorem zcells_21 : zcells Try.prog 21 = some [.w false false (.int .i32 (0))] := by kernel_rfl
@[simp] theorem slE_21 : slE Try.prog 21 = none := by kernel_rfl
@[simp] theorem isStr_21 : isStr Try.prog 21 = false := by kernel_rfl
@[simp] theorem kindOf_21 : kindOf Try.prog 21 = some .i32 := by kernel_rfl
@[simp] theorem eqTy_21 : eqTy Try.prog 21 = none := by kernel_rfl
@[simp] theorem tyL_22 : tyL Try.prog 22 = some (1, false) := by kernel_rfl
@[simp] theorem zcells_22 : zcells Try.prog 22 = some [.w true true (.sl 0 [])] := by kernel_rfl
@[simp] theorem slE_22 : slE Try.prog 22 = some (9, 1) := by kernel_rfl
@[simp] theorem byE_9 : byE Try.prog 9 = some 16 := by kernel_rfl
@[simp] theorem isStr_22 : isStr Try.prog 22 = false := by kernel_rfl
@[simp] theorem eqTy_22 : eqTy Try.prog 22 = none := by kernel_rfl
@[simp] theorem tyL_23 : tyL Try.prog 23 = some (1, false) := by kernel_rfl
@[simp] theorem zcells_23 : zcells Try.prog 23 = some [.w true true (.sl 0 [])] := by kernel_rfl
@[simp] theorem slE_23 : slE Try.prog 23 = some (52, 5) := by kernel_rfl
@[simp] theorem byE_52 : byE Try.prog 52 = some 64 := by kernel_rfl
@[simp] theorem isStr_23 : isStr Try.prog 23 = false := by kernel_rfl
@[simp] theorem eqTy_23 : eqTy Try.prog 23 = none := by kernel_rfl
@[simp] theorem tyL_24 : tyL Try.prog 24 = some (2, true) := by kernel_rfl
@[simp] theorem zcells_24 : zcells Try.prog 24 = some [.w true true (.sl 0 []), .w true true (.sl 0 [])] := by kernel_rfl
@[simp] theorem slE_24 : slE Try.prog 24 = none := by kernel_rfl
@[simp] theorem isStr_24 : isStr Try.prog 24 = false := by kernel_rfl
@[simp] theorem fOf_24_0 : fOf Try.prog 24 0 = some (0, 1, false) := by kernel_rfl
@[simp] theorem fOf_24_1 : fOf Try.prog 24 1 = some (1, 1, false) := by kernel_rfl
@[simp] theorem pls_24 : pls Try.prog 24 = some [(0, 1), (1, 1)] := by kernel_rfl
@[simp] theorem tyL_25 : tyL Try.prog 25 = some (2, true) := by kernel_rfl
@[simp] theorem zcells_25 : zcells Try.prog 25 = some [.w true true (.sl 0 []), .w true true (.sl 0 [])] := by kernel_rfl
@[simp] theorem slE_25 : slE Try.prog 25 = none := by kernel_rfl
@[simp] theorem isStr_25 : isStr Try.prog 25 = false := by kernel_rfl
@[simp] theorem fOf_25_0 : fOf Try.prog 25 0 = some (0, 1, false) := by kernel_rfl
@[simp] theorem fOf_25_1 : fOf Try.prog 25 1 = some (1, 1, false) := by kernel_rfl
@[simp] theorem pls_25 : pls Try.prog 25 = some [(0, 1), (1, 1)] := by kernel_rfl
@[simp] theorem tyL_26 : tyL Try.prog 26 = some (3, true) := by kernel_rfl
@[simp] theorem zcells_26 : zcells Try.prog 26 = some [.w false false (.int .i64 (0)), .w false false (.int .i64 (0)), .w false false (.int .i64 (0))] := by kernel_rfl
@[simp] theorem slE_26 : slE Try.prog 26 = none := by kernel_rfl
@[simp] theorem isStr_26 : isStr Try.prog 26 = false := by kernel_rfl
@[simp] theorem fOf_26_0 : fOf Try.prog 26 0 = some (0, 1, false) := by kernel_rfl
@[simp] theorem fOf_26_1 : fOf Try.prog 26 1 = some (1, 1, false) := by kernel_rfl
@[simp] theorem fOf_26_2 : fOf Try.prog 26 2 = some (2, 1, false) := by kernel_rfl
@[simp] theorem pls_26 : pls Try.prog 26 = some [(0, 1), (1, 1), (2, 1)] := by kernel_rfl
@[simp] theorem eqTy_26 : eqTy Try.prog 26 = some [1, 1, 1] := by kernel_rfl
@[simp] theorem tyL_27 : tyL Try.prog 27 = some (3, true) := by kernel_rfl
@[simp] theorem zcells_27 : zcells Try.prog 27 = some [.w false false (.int .i64 (0)), .w false false (.int .i64 (0)), .w false false (.int .i64 (0))] := by kernel_rfl
@[simp] theorem slE_27 : slE Try.prog 27 = none := by kernel_rfl
@[simp] theorem isStr_27 : isStr Try.prog 27 = false := by kernel_rfl
@[simp] theorem fOf_27_0 : fOf Try.prog 27 0 = some (0, 1, false) := by kernel_rfl
@[simp] theorem fOf_27_1 : fOf Try.prog 27 1 = some (1, 1, false) := by kernel_rfl
@[simp] theorem fOf_27_2 : fOf Try.prog 27 2 = some (2, 1, false) := by kernel_rfl
@[simp] theorem pls_27 : pls Try.prog 27 = some [(0, 1), (1, 1), (2, 1)] := by kernel_rfl
@[simp] theorem eqTy_27 : eqTy Try.prog 27 = some [1, 1, 1] := by kernel_rfl
@[simp] theorem tyL_28 : tyL Try.prog 28 = some (1, false) := by kernel_rfl
@[simp] theorem tyL_29 : tyL Try.prog 29 = some (1, false) := by kernel_rfl
@[simp] theorem tyL_30 : tyL Try.prog 30 = some (1, false) := by kernel_rfl
@[simp] theorem tyL_31 : tyL Try.prog 31 = some (1, false) := by kernel_rfl
@[simp] theorem tyL_32 : tyL Try.prog 32 = some (1, false) := by kernel_rfl
@[simp] theorem tyL_33 : tyL Try.prog 33 = some (1, false) := by kernel_rfl
@[simp] theorem zcells_33 : zcells Try.prog 33 = some [.w true true (.sl 0 [])] := by kernel_rfl
@[simp] theorem slE_33 : slE Try.prog 33 = some (3, 1) := by kernel_rfl
@[simp] theorem byE_3 : byE Try.prog 3 = some 8 := by kernel_rfl
@[simp] theorem isStr_33 : isStr Try.prog 33 = false := by kernel_rfl
@[simp] theorem eqTy_33 : eqTy Try.prog 33 = none := by kernel_rfl
@[simp] theorem tyL_34 : tyL Try.prog 34 = some (1, false) := by kernel_rfl
@[simp] theorem zcells_34 : zcells Try.prog 34 = some [.w false false (.int .i64 (0))] := by kernel_rfl
@[simp] theorem slE_34 : slE Try.prog 34 = none := by kernel_rfl
@[simp] theorem isStr_34 : isStr Try.prog 34 = false := by kernel_rfl
@[simp] theorem kindOf_34 : kindOf Try.prog 34 = some .i64 := by kernel_rfl
@[simp] theorem eqTy_34 : eqTy Try.prog 34 = none := by kernel_rfl
@[simp] theorem tyL_36 : tyL Try.prog 36 = some (1, false) := by kernel_rfl
@[simp] theorem tyL_37 : tyL Try.prog 37 = some (1, false) := by kernel_rfl
@[simp] theorem tyL_38 : tyL Try.prog 38 = some (2, true) := by kernel_rfl
@[simp] theorem zcells_38 : zcells Try.prog 38 = some [.w false false (.int .i64 (0)), .w false false (.int .i64 (0))] := by kernel_rfl
@[simp] theorem slE_38 : slE Try.prog 38 = none := by kernel_rfl
@[simp] theorem arE_38 : arE Try.prog 38 = some (2, 1) := by kernel_rfl
@[simp] theorem isStr_38 : isStr Try.prog 38 = false := by kernel_rfl
@[simp] theorem pls_38 : pls Try.prog 38 = some [(0, 1), (1, 1)] := by kernel_rfl
@[simp] theorem eqTy_38 : eqTy Try.prog 38 = some [1, 1] := by kernel_rfl
@[simp] theorem tyL_39 : tyL Try.prog 39 = some (2, true) := by kernel_rfl
@[simp] theorem zcells_39 : zcells Try.prog 39 = some [.w false false (.int .i64 (0)), .w false false (.int .i64 (0))] := by kernel_rfl
@[simp] theorem slE_39 : slE Try.prog 39 = none := by kernel_rfl
@[simp] theorem isStr_39 : isStr Try.prog 39 = false := by kernel_rfl
@[simp] theorem fOf_39_0 : fOf Try.prog 39 0 = some (0, 1, false) := by kernel_rfl
@[simp] theorem fOf_39_1 : fOf Try.prog 39 1 = some (1, 1, false) := by kernel_rfl
@[simp] theorem pls_39 : pls Try.prog 39 = some [(0, 1), (1, 1)] := by kernel_rfl
@[simp] theorem eqTy_39 : eqTy Try.prog 39 = some [1, 1] := by kernel_rfl
@[simp] theorem tyL_40 : tyL Try.prog 40 = some (2, true) := by kernel_rfl
@[simp] theorem zcells_40 : zcells Try.prog 40 = some [.w false false (.int .i64 (0)), .w false false (.int .i64 (0))] := by kernel_rfl
@[simp] theorem slE_40 : slE Try.prog 40 = none := by kernel_rfl
@[simp] theorem isStr_40 : isStr Try.prog 40 = false := by kernel_rfl
@[simp] theorem fOf_40_0 : fOf Try.prog 40 0 = some (0, 1, false) := by kernel_rfl
@[simp] theorem fOf_40_1 : fOf Try.prog 40 1 = some (1, 1, false) := by kernel_rfl
@[simp] theorem pls_40 : pls Try.prog 40 = some [(0, 1), (1, 1)] := by kernel_rfl
@[simp] theorem eqTy_40 : eqTy Try.prog 40 = some [1, 1] := by kernel_rfl
@[simp] theorem tyL_42 : tyL Try.prog 42 = some (1, false) := by kernel_rfl
@[simp] theorem tyL_44 : tyL Try.prog 44 = some (1, false) := by kernel_rfl
@[simp] theorem tyL_46 : tyL Try.prog 46 = some (1, false) := by kernel_rfl
@[simp] theorem tyL_47 : tyL Try.prog 47 = some (1, false) := by kernel_rfl
@[simp] theorem tyL_48 : tyL Try.prog 48 = some (1, false) := by kernel_rfl
@[simp] theorem tyL_49 : tyL Try.prog 49 = some (1, false) := by kernel_rfl
@[simp] theorem tyL_50 : tyL Try.prog 50 = some (1, false) := by kernel_rfl
@[simp] theorem zcells_50 : zcells Try.prog 50 = some [.w true true (.sl 0 [])] := by kernel_rfl
@[simp] theorem slE_50 : slE Try.prog 50 = some (77, 3) := by kernel_rfl
@[simp] theorem byE_77 : byE Try.prog 77 = some 24 := by kernel_rfl
@[simp] theorem isStr_50 : isStr Try.prog 50 = false := by kernel_rfl
@[simp] theorem eqTy_50 : eqTy Try.prog 50 = none := by kernel_rfl
@[simp] theorem tyL_51 : tyL Try.prog 51 = some (5, true) := by kernel_rfl
@[simp] theorem zcells_51 : zcells Try.prog 51 = some [.w false false (.str ByteArray.empty), .w false false (.int .i64 (0)), .w false false (.int .i64 (0)), .w false false (.int .i64 (0)), .w true true (.sl 0 [])] := by kernel_rfl
@[simp] theorem slE_51 : slE Try.prog 51 = none := by kernel_rfl
@[simp] theorem isStr_51 : isStr Try.prog 51 = false := by kernel_rfl
@[simp] theorem fOf_51_0 : fOf Try.prog 51 0 = some (0, 1, false) := by kernel_rfl
@[simp] theorem fOf_51_1 : fOf Try.prog 51 1 = some (1, 1, false) := by kernel_rfl
@[simp] theorem fOf_51_2 : fOf Try.prog 51 2 = some (2, 1, false) := by kernel_rfl
@[simp] theorem fOf_51_3 : fOf Try.prog 51 3 = some (3, 1, false) := by kernel_rfl
@[simp] theorem fOf_51_4 : fOf Try.prog 51 4 = some (4, 1, false) := by kernel_rfl
@[simp] theorem pls_51 : pls Try.prog 51 = some [(0, 1), (1, 1), (2, 1), (3, 1), (4, 1)] := by kernel_rfl
@[simp] theorem tyL_52 : tyL Try.prog 52 = some (5, true) := by kernel_rfl
@[simp] theorem zcells_52 : zcells Try.prog 52 = some [.w false false (.str ByteArray.empty), .w false false (.int .i64 (0)), .w false false (.int .i64 (0)), .w false false (.int .i64 (0)), .w true true (.sl 0 [])] := by kernel_rfl
@[simp] theorem slE_52 : slE Try.prog 52 = none := by kernel_rfl
@[simp] theorem isStr_52 : isStr Try.prog 52 = false := by kernel_rfl
@[simp] theorem fOf_52_0 : fOf Try.prog 52 0 = some (0, 1, false) := by kernel_rfl
@[simp] theorem fOf_52_1 : fOf Try.prog 52 1 = some (1, 1, false) := by kernel_rfl
@[simp] theorem fOf_52_2 : fOf Try.prog 52 2 = some (2, 1, false) := by kernel_rfl
@[simp] theorem fOf_52_3 : fOf Try.prog 52 3 = some (3, 1, false) := by kernel_rfl
@[simp] theorem fOf_52_4 : fOf Try.prog 52 4 = some (4, 1, false) := by kernel_rfl
@[simp] theorem pls_52 : pls Try.prog 52 = some [(0, 1), (1, 1), (2, 1), (3, 1), (4, 1)] := by kernel_rfl
@[simp] theorem tyL_53 : tyL Try.prog 53 = some (2, true) := by kernel_rfl
@[simp] theorem zcells_53 : zcells Try.prog 53 = some [.w false false (.int .i64 (0)), .w false false (.int .i64 (0))] := by kernel_rfl
@[simp] theorem slE_53 : slE Try.prog 53 = none := by kernel_rfl
@[simp] theorem isStr_53 : isStr Try.prog 53 = false := by kernel_rfl
@[simp] theorem fOf_53_0 : fOf Try.prog 53 0 = some (0, 1, false) := by kernel_rfl
@[simp] theorem fOf_53_1 : fOf Try.prog 53 1 = some (1, 1, false) := by kernel_rfl
@[simp] theorem pls_53 : pls Try.prog 53 = some [(0, 1), (1, 1)] := by kernel_rfl
@[simp] theorem eqTy_53 : eqTy Try.prog 53 = some [1, 1] := by kernel_rfl
@[simp] theorem tyL_54 : tyL Try.prog 54 = some (2, true) := by kernel_rfl
@[simp] theorem zcells_54 : zcells Try.prog 54 = some [.w false false (.int .i64 (0)), .w false false (.int .i64 (0))] := by kernel_rfl
@[simp] theorem slE_54 : slE Try.prog 54 = none := by kernel_rfl
@[simp] theorem isStr_54 : isStr Try.prog 54 = false := by kernel_rfl
@[simp] theorem fOf_54_0 : fOf Try.prog 54 0 = some (0, 1, false) := by kernel_rfl
@[simp] theorem fOf_54_1 : fOf Try.prog 54 1 = some (1, 1, false) := by kernel_rfl
@[simp] theorem pls_54 : pls Try.prog 54 = some [(0, 1), (1, 1)] := by kernel_rfl
@[simp] theorem eqTy_54 : eqTy Try.prog 54 = some [1, 1] := by kernel_rfl
@[simp] theorem tyL_56 : tyL Try.prog 56 = some (1, false) := by kernel_rfl
@[simp] theorem tyL_57 : tyL Try.prog 57 = some (1, false) := by kernel_rfl
@[simp] theorem tyL_58 : tyL Try.prog 58 = some (1, false) := by kernel_rfl
@[simp] theorem tyL_59 : tyL Try.prog 59 = some (2, true) := by kernel_rfl
@[simp] theorem zcells_59 : zcells Try.prog 59 = some [.w true true (.sl 0 []), .w true true (.sl 0 [])] := by kernel_rfl
@[simp] theorem slE_59 : slE Try.prog 59 = none := by kernel_rfl
@[simp] theorem isStr_59 : isStr Try.prog 59 = false := by kernel_rfl
@[simp] theorem fOf_59_0 : fOf Try.prog 59 0 = some (0, 2, true) := by kernel_rfl
@[simp] theorem pls_59 : pls Try.prog 59 = some [(0, 2)] := by kernel_rfl
@[simp] theorem tyL_60 : tyL Try.prog 60 = some (2, true) := by kernel_rfl
@[simp] theorem zcells_60 : zcells Try.prog 60 = some [.w true true (.sl 0 []), .w true true (.sl 0 [])] := by kernel_rfl
@[simp] theorem slE_60 : slE Try.prog 60 = none := by kernel_rfl
@[simp] theorem isStr_60 : isStr Try.prog 60 = false := by kernel_rfl
@[simp] theorem fOf_60_0 : fOf Try.prog 60 0 = some (0, 2, true) := by kernel_rfl
@[simp] theorem pls_60 : pls Try.prog 60 = some [(0, 2)] := by kernel_rfl
@[simp] theorem tyL_62 : tyL Try.prog 62 = some (1, false) := by kernel_rfl
@[simp] theorem tyL_63 : tyL Try.prog 63 = some (1, false) := by kernel_rfl
@[simp] theorem tyL_64 : tyL Try.prog 64 = some (1, false) := by kernel_rfl
@[simp] theorem tyL_65 : tyL Try.prog 65 = some (1, false) := by kernel_rfl
@[simp] theorem zcells_65 : zcells Try.prog 65 = some [.w true true (.sl 0 [])] := by kernel_rfl
@[simp] theorem slE_65 : slE Try.prog 65 = some (4, 1) := by kernel_rfl
@[simp] theorem byE_4 : byE Try.prog 4 = some 1 := by kernel_rfl
@[simp] theorem isStr_65 : isStr Try.prog 65 = false := by kernel_rfl
@[simp] theorem eqTy_65 : eqTy Try.prog 65 = none := by kernel_rfl
@[simp] theorem tyL_66 : tyL Try.prog 66 = some (1, false) := by kernel_rfl
@[simp] theorem tyL_67 : tyL Try.prog 67 = some (1, false) := by kernel_rfl
@[simp] theorem tyL_68 : tyL Try.prog 68 = some (1, false) := by kernel_rfl
@[simp] theorem tyL_69 : tyL Try.prog 69 = some (2, true) := by kernel_rfl
@[simp] theorem zcells_69 : zcells Try.prog 69 = some [.w true true (.sl 0 []), .w true true (.sl 0 [])] := by kernel_rfl
@[simp] theorem slE_69 : slE Try.prog 69 = none := by kernel_rfl
@[simp] theorem isStr_69 : isStr Try.prog 69 = false := by kernel_rfl
@[simp] theorem fOf_69_0 : fOf Try.prog 69 0 = some (0, 1, false) := by kernel_rfl
@[simp] theorem fOf_69_1 : fOf Try.prog 69 1 = some (1, 1, false) := by kernel_rfl
@[simp] theorem pls_69 : pls Try.prog 69 = some [(0, 1), (1, 1)] := by kernel_rfl
@[simp] theorem tyL_70 : tyL Try.prog 70 = some (2, true) := by kernel_rfl
@[simp] theorem zcells_70 : zcells Try.prog 70 = some [.w true true (.sl 0 []), .w true true (.sl 0 [])] := by kernel_rfl
@[simp] theorem slE_70 : slE Try.prog 70 = none := by kernel_rfl
@[simp] theorem isStr_70 : isStr Try.prog 70 = false := by kernel_rfl
@[simp] theorem fOf_70_0 : fOf Try.prog 70 0 = some (0, 1, false) := by kernel_rfl
@[simp] theorem fOf_70_1 : fOf Try.prog 70 1 = some (1, 1, false) := by kernel_rfl
@[simp] theorem pls_70 : pls Try.prog 70 = some [(0, 1), (1, 1)] := by kernel_rfl
@[simp] theorem tyL_71 : tyL Try.prog 71 = some (1, false) := by kernel_rfl
@[simp] theorem tyL_72 : tyL Try.prog 72 = some (1, false) := by kernel_rfl
@[simp] theorem tyL_73 : tyL Try.prog 73 = some (1, false) := by kernel_rfl
@[simp] theorem tyL_74 : tyL Try.prog 74 = some (1, false) := by kernel_rfl
@[simp] theorem tyL_75 : tyL Try.prog 75 = some (1, false) := by kernel_rfl
@[simp] theorem tyL_76 : tyL Try.prog 76 = some (3, true) := by kernel_rfl
@[simp] theorem zcells_76 : zcells Try.prog 76 = some [.w false false (.int .i64 (0)), .w false false (.int .i64 (0)), .w false false (.int .i64 (0))] := by kernel_rfl
@[simp] theorem slE_76 : slE Try.prog 76 = none := by kernel_rfl
@[simp] theorem isStr_76 : isStr Try.prog 76 = false := by kernel_rfl
@[simp] theorem fOf_76_0 : fOf Try.prog 76 0 = some (0, 1, false) := by kernel_rfl
@[simp] theorem fOf_76_1 : fOf Try.prog 76 1 = some (1, 2, true) := by kernel_rfl
@[simp] theorem pls_76 : pls Try.prog 76 = some [(0, 1), (1, 2)] := by kernel_rfl
@[simp] theorem eqTy_76 : eqTy Try.prog 76 = some [1, 1, 1] := by kernel_rfl
@[simp] theorem tyL_77 : tyL Try.prog 77 = some (3, true) := by kernel_rfl
@[simp] theorem zcells_77 : zcells Try.prog 77 = some [.w false false (.int .i64 (0)), .w false false (.int .i64 (0)), .w false false (.int .i64 (0))] := by kernel_rfl
@[simp] theorem slE_77 : slE Try.prog 77 = none := by kernel_rfl
@[simp] theorem isStr_77 : isStr Try.prog 77 = false := by kernel_rfl
@[simp] theorem fOf_77_0 : fOf Try.prog 77 0 = some (0, 1, false) := by kernel_rfl
@[simp] theorem fOf_77_1 : fOf Try.prog 77 1 = some (1, 2, true) := by kernel_rfl
@[simp] theorem pls_77 : pls Try.prog 77 = some [(0, 1), (1, 2)] := by kernel_rfl
@[simp] theorem eqTy_77 : eqTy Try.prog 77 = some [1, 1, 1] := by kernel_rfl
@[simp] theorem tyL_78 : tyL Try.prog 78 = some (1, false) := by kernel_rfl
@[simp] theorem tyL_79 : tyL Try.prog 79 = some (1, false) := by kernel_rfl
@[simp] theorem tyL_81 : tyL Try.prog 81 = some (1, false) := by kernel_rfl
@[simp] theorem tyL_82 : tyL Try.prog 82 = some (1, false) := by kernel_rfl
@[simp] theorem tyL_84 : tyL Try.prog 84 = some (1, false) := by kernel_rfl
@[simp] theorem tyL_85 : tyL Try.prog 85 = some (1, false) := by kernel_rfl
@[simp] theorem zcells_85 : zcells Try.prog 85 = some [.w true true (.sl 0 [])] := by kernel_rfl
@[simp] theorem slE_85 : slE Try.prog 85 = some (34, 1) := by kernel_rfl
@[simp] theorem byE_34 : byE Try.prog 34 = some 8 := by kernel_rfl
@[simp] theorem isStr_85 : isStr Try.prog 85 = false := by kernel_rfl
@[simp] theorem eqTy_85 : eqTy Try.prog 85 = none := by kernel_rfl
@[simp] theorem tyL_86 : tyL Try.prog 86 = some (1, false) := by kernel_rfl
@[simp] theorem tyL_87 : tyL Try.prog 87 = some (1, false) := by kernel_rfl
@[simp] theorem tyL_88 : tyL Try.prog 88 = some (1, false) := by kernel_rfl
@[simp] theorem tyL_89 : tyL Try.prog 89 = some (1, false) := by kernel_rfl
@[simp] theorem tyL_90 : tyL Try.prog 90 = some (1, false) := by kernel_rfl
@[simp] theorem tyL_91 : tyL Try.prog 91 = some (1, false) := by kernel_rfl
@[simp] theorem tyL_92 : tyL Try.prog 92 = some (1, false) := by kernel_rfl
@[simp] theorem tyL_93 : tyL Try.prog 93 = some (1, false) := by kernel_rfl
@[simp] theorem tyL_94 : tyL Try.prog 94 = some (1, false) := by kernel_rfl
@[simp] theorem tyL_95 : tyL Try.prog 95 = some (1, false) := by kernel_rfl
@[simp] theorem tyL_96 : tyL Try.prog 96 = some (1, false) := by kernel_rfl
@[simp] theorem tyL_97 : tyL Try.prog 97 = some (1, false) := by kernel_rfl
@[simp] theorem tyL_98 : tyL Try.prog 98 = some (1, false) := by kernel_rfl
@[simp] theorem tyL_100 : tyL Try.prog 100 = some (1, false) := by kernel_rfl
@[simp] theorem tyL_101 : tyL Try.prog 101 = some (1, false) := by kernel_rfl
@[simp] theorem zcells_101 : zcells Try.prog 101 = some [.w true true (.sl 0 [])] := by kernel_rfl
@[simp] theorem slE_101 : slE Try.prog 101 = some (5, 1) := by kernel_rfl
@[simp] theorem byE_5 : byE Try.prog 5 = some 1 := by kernel_rfl
@[simp] theorem isStr_101 : isStr Try.prog 101 = false := by kernel_rfl
@[simp] theorem eqTy_101 : eqTy Try.prog 101 = none := by kernel_rfl
@[simp] theorem tyL_102 : tyL Try.prog 102 = some (1, false) := by kernel_rfl
@[simp] theorem tyL_103 : tyL Try.prog 103 = some (1, false) := by kernel_rfl
@[simp] theorem tyL_104 : tyL Try.prog 104 = some (1, false) := by kernel_rfl
@[simp] theorem tyL_110 : tyL Try.prog 110 = some (1, false) := by kernel_rfl
@[simp] theorem tyL_111 : tyL Try.prog 111 = some (1, false) := by kernel_rfl
@[simp] theorem zcells_111 : zcells Try.prog 111 = some [.w false false (.int .u32 (0))] := by kernel_rfl
@[simp] theorem slE_111 : slE Try.prog 111 = none := by kernel_rfl
@[simp] theorem isStr_111 : isStr Try.prog 111 = false := by kernel_rfl
@[simp] theorem kindOf_111 : kindOf Try.prog 111 = some .u32 := by kernel_rfl
@[simp] theorem eqTy_111 : eqTy Try.prog 111 = none := by kernel_rfl
@[simp] theorem tyL_115 : tyL Try.prog 115 = some (1, false) := by kernel_rfl
@[simp] theorem zcells_115 : zcells Try.prog 115 = some [.w true false .nilp] := by kernel_rfl
@[simp] theorem slE_115 : slE Try.prog 115 = none := by kernel_rfl
@[simp] theorem isStr_115 : isStr Try.prog 115 = false := by kernel_rfl
@[simp] theorem eqTy_115 : eqTy Try.prog 115 = none := by kernel_rfl
@[simp] theorem byteSl_9_101 : byteSl Try.prog 9 101 = true := by kernel_rfl
@[simp] theorem byteSl_10_101 : byteSl Try.prog 10 101 = true := by kernel_rfl
@[simp] theorem byteSl_11_101 : byteSl Try.prog 11 101 = true := by kernel_rfl
end Go.Proofs.Ytacepceplonceaa
