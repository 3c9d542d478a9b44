/- Contracts of functions for this claim: lemmas alone. -/
import Derived.Test.YtceimmohnniebaaProg
import Derived.Test.YtceimmohnniebaaLd
import Derived.KernelRfl
set_option linter.unusedSimpArgs false
set_option linter.unusedVariables false
namespace Go.Proofs.Ytceimmohnniebaa
open Go Go.Fi
set_option maxRecDepth 100000
@[simp] theorem tyL_1 : tyL Try.prog 1 = some (1, false) := by kernel_rfl
@[simp] theorem tyL_2 : tyL Try.prog 2 = some (1, false) := by kernel_rfl
@[simp] theorem zcells_2 : zcells Try.prog 2 = some [.w false false (.int .i64 (0))] := by kernel_rfl
@[simp] theorem slE_2 : slE Try.prog 2 = none := by kernel_rfl
@[simp] theorem isStr_2 : isStr Try.prog 2 = false := by kernel_rfl
@[simp] theorem kindOf_2 : kindOf Try.prog 2 = some .i64 := by kernel_rfl
@[simp] theorem eqTy_2 : eqTy Try.prog 2 = none := by kernel_rfl
@[simp] theorem tyL_3 : tyL Try.prog 3 = some (1, false) := by kernel_rfl
@[simp] theorem zcells_3 : zcells Try.prog 3 = some [.w false false (.int .i64 (0))] := by kernel_rfl
@[simp] theorem slE_3 : slE Try.prog 3 = none := by kernel_rfl
@[simp] theorem isStr_3 : isStr Try.prog 3 = false := by kernel_rfl
@[simp] theorem kindOf_3 : kindOf Try.prog 3 = some .i64 := by kernel_rfl
@[simp] theorem eqTy_3 : eqTy Try.prog 3 = none := by kernel_rfl
@[simp] theorem tyL_4 : tyL Try.prog 4 = some (1, false) := by kernel_rfl
@[simp] theorem zcells_4 : zcells Try.prog 4 = some [.w false false (.bool false)] := by kernel_rfl
@[simp] theorem slE_4 : slE Try.prog 4 = none := by kernel_rfl
@[simp] theorem isStr_4 : isStr Try.prog 4 = false := by kernel_rfl
@[simp] theorem isBool_4 : isBool Try.prog 4 = true := by kernel_rfl
@[simp] theorem eqTy_4 : eqTy Try.prog 4 = none := by kernel_rfl
@[simp] theorem tyL_5 : tyL Try.prog 5 = some (1, false) := by kernel_rfl
@[simp] theorem zcells_5 : zcells Try.prog 5 = some [.w false false (.int .u8 (0))] := by kernel_rfl
@[simp] theorem slE_5 : slE Try.prog 5 = none := by kernel_rfl
@[simp] theorem isStr_5 : isStr Try.prog 5 = false := by kernel_rfl
@[simp] theorem kindOf_5 : kindOf Try.prog 5 = some .u8 := by kernel_rfl
@[simp] theorem eqTy_5 : eqTy Try.prog 5 = none := by kernel_rfl
@[simp] theorem tyL_9 : tyL Try.prog 9 = some (1, false) := by kernel_rfl
@[simp] theorem zcells_9 : zcells Try.prog 9 = some [.w false false (.str ByteArray.empty)] := by kernel_rfl
@[simp] theorem slE_9 : slE Try.prog 9 = none := by kernel_rfl
@[simp] theorem isStr_9 : isStr Try.prog 9 = true := by kernel_rfl
@[simp] theorem eqTy_9 : eqTy Try.prog 9 = none := by kernel_rfl
@[simp] theorem tyL_21 : tyL Try.prog 21 = some (1, false) := by kernel_rfl
@[simp] theorem zcells_21 : zcells Try.prog 21 = some [.w false false (.int .i32 (0))] := by kernel_rfl
@[simp] theorem slE_21 : slE Try.prog 21 = none := by kernel_rfl
@[simp] theorem isStr_21 : isStr Try.prog 21 = false := by kernel_rfl
@[simp] theorem kindOf_21 : kindOf Try.prog 21 = some .i32 := by kernel_rfl
@[simp] theorem eqTy_21 : eqTy Try.prog 21 = none := by kernel_rfl
@[simp] theorem tyL_22 : tyL Try.prog 22 = some (1, false) := by kernel_rfl
@[simp] theorem zcells_22 : zcells Try.prog 22 = some [.w true true (.sl 0 [])] := by kernel_rfl
@[simp] theorem slE_22 : slE Try.prog 22 = some (38, 1) := by kernel_rfl
@[simp] theorem byE_38 : byE Try.prog 38 = some 24 := by kernel_rfl
@[simp] theorem isStr_22 : isStr Try.prog 22 = false := by kernel_rfl
@[simp] theorem eqTy_22 : eqTy Try.prog 22 = none := by kernel_rfl
@[simp] theorem tyL_23 : tyL Try.prog 23 = some (1, true) := by kernel_rfl
@[simp] theorem zcells_23 : zcells Try.prog 23 = some [.w true true (.sl 0 [])] := by kernel_rfl
@[simp] theorem slE_23 : slE Try.prog 23 = none := by kernel_rfl
@[simp] theorem isStr_23 : isStr Try.prog 23 = false := by kernel_rfl
@[simp] theorem fOf_23_0 : fOf Try.prog 23 0 = some (0, 1, false) := by kernel_rfl
@[simp] theorem pls_23 : pls Try.prog 23 = some [(0, 1)] := by kernel_rfl
@[simp] theorem tyL_24 : tyL Try.prog 24 = some (1, true) := by kernel_rfl
@[simp] theorem zcells_24 : zcells Try.prog 24 = some [.w true true (.sl 0 [])] := by kernel_rfl
@[simp] theorem slE_24 : slE Try.prog 24 = none := by kernel_rfl
@[simp] theorem isStr_24 : isStr Try.prog 24 = false := by kernel_rfl
@[simp] theorem fOf_24_0 : fOf Try.prog 24 0 = some (0, 1, false) := by kernel_rfl
@[simp] theorem pls_24 : pls Try.prog 24 = some [(0, 1)] := by kernel_rfl
@[simp] theorem tyL_25 : tyL Try.prog 25 = some (3, true) := by kernel_rfl
@[simp] theorem zcells_25 : zcells Try.prog 25 = some [.w false false (.int .i64 (0)), .w false false (.int .i64 (0)), .w false false (.int .i64 (0))] := by kernel_rfl
@[simp] theorem slE_25 : slE Try.prog 25 = none := by kernel_rfl
@[simp] theorem isStr_25 : isStr Try.prog 25 = false := by kernel_rfl
@[simp] theorem fOf_25_0 : fOf Try.prog 25 0 = some (0, 1, false) := by kernel_rfl
@[simp] theorem fOf_25_1 : fOf Try.prog 25 1 = some (1, 1, false) := by kernel_rfl
@[simp] theorem fOf_25_2 : fOf Try.prog 25 2 = some (2, 1, false) := by kernel_rfl
@[simp] theorem pls_25 : pls Try.prog 25 = some [(0, 1), (1, 1), (2, 1)] := by kernel_rfl
@[simp] theorem eqTy_25 : eqTy Try.prog 25 = some [1, 1, 1] := by kernel_rfl
@[simp] theorem tyL_26 : tyL Try.prog 26 = some (3, true) := by kernel_rfl
@[simp] theorem zcells_26 : zcells Try.prog 26 = some [.w false false (.int .i64 (0)), .w false false (.int .i64 (0)), .w false false (.int .i64 (0))] := by kernel_rfl
@[simp] theorem slE_26 : slE Try.prog 26 = none := by kernel_rfl
@[simp] theorem isStr_26 : isStr Try.prog 26 = false := by kernel_rfl
@[simp] theorem fOf_26_0 : fOf Try.prog 26 0 = some (0, 1, false) := by kernel_rfl
@[simp] theorem fOf_26_1 : fOf Try.prog 26 1 = some (1, 1, false) := by kernel_rfl
@[simp] theorem fOf_26_2 : fOf Try.prog 26 2 = some (2, 1, false) := by kernel_rfl
@[simp] theorem pls_26 : pls Try.prog 26 = some [(0, 1), (1, 1), (2, 1)] := by kernel_rfl
@[simp] theorem eqTy_26 : eqTy Try.prog 26 = some [1, 1, 1] := by kernel_rfl
@[simp] theorem tyL_27 : tyL Try.prog 27 = some (1, false) := by kernel_rfl
@[simp] theorem zcells_27 : zcells Try.prog 27 = some [.w true true (.sl 0 [])] := by kernel_rfl
@[simp] theorem slE_27 : slE Try.prog 27 = some (69, 8) := by kernel_rfl
@[simp] theorem byE_69 : byE Try.prog 69 = some 72 := by kernel_rfl
@[simp] theorem isStr_27 : isStr Try.prog 27 = false := by kernel_rfl
@[simp] theorem eqTy_27 : eqTy Try.prog 27 = none := by kernel_rfl
@[simp] theorem tyL_28 : tyL Try.prog 28 = some (1, false) := by kernel_rfl
@[simp] theorem zcells_28 : zcells Try.prog 28 = some [.w true true (.sl 0 [])] := by kernel_rfl
@[simp] theorem slE_28 : slE Try.prog 28 = some (135, 2) := by kernel_rfl
@[simp] theorem byE_135 : byE Try.prog 135 = some 16 := by kernel_rfl
@[simp] theorem isStr_28 : isStr Try.prog 28 = false := by kernel_rfl
@[simp] theorem eqTy_28 : eqTy Try.prog 28 = none := by kernel_rfl
@[simp] theorem tyL_29 : tyL Try.prog 29 = some (5, true) := by kernel_rfl
@[simp] theorem zcells_29 : zcells Try.prog 29 = some [.w false false (.int .i64 (0)), .w false false (.int .i64 (0)), .w false false (.int .i64 (0)), .w true true (.sl 0 []), .w true true (.sl 0 [])] := by kernel_rfl
@[simp] theorem slE_29 : slE Try.prog 29 = none := by kernel_rfl
@[simp] theorem isStr_29 : isStr Try.prog 29 = false := by kernel_rfl
@[simp] theorem fOf_29_0 : fOf Try.prog 29 0 = some (0, 3, true) := by kernel_rfl
@[simp] theorem fOf_29_1 : fOf Try.prog 29 1 = some (3, 1, false) := by kernel_rfl
@[simp] theorem fOf_29_2 : fOf Try.prog 29 2 = some (4, 1, false) := by kernel_rfl
@[simp] theorem pls_29 : pls Try.prog 29 = some [(0, 3), (3, 1), (4, 1)] := by kernel_rfl
@[simp] theorem tyL_30 : tyL Try.prog 30 = some (5, true) := by kernel_rfl
@[simp] theorem zcells_30 : zcells Try.prog 30 = some [.w false false (.int .i64 (0)), .w false false (.int .i64 (0)), .w false false (.int .i64 (0)), .w true true (.sl 0 []), .w true true (.sl 0 [])] := by kernel_rfl
@[simp] theorem slE_30 : slE Try.prog 30 = none := by kernel_rfl
@[simp] theorem isStr_30 : isStr Try.prog 30 = false := by kernel_rfl
@[simp] theorem fOf_30_0 : fOf Try.prog 30 0 = some (0, 3, true) := by kernel_rfl
@[simp] theorem fOf_30_1 : fOf Try.prog 30 1 = some (3, 1, false) := by kernel_rfl
@[simp] theorem fOf_30_2 : fOf Try.prog 30 2 = some (4, 1, false) := by kernel_rfl
@[simp] theorem pls_30 : pls Try.prog 30 = some [(0, 3), (3, 1), (4, 1)] := by kernel_rfl
@[simp] theorem tyL_31 : tyL Try.prog 31 = some (1, false) := by kernel_rfl
@[simp] theorem tyL_32 : tyL Try.prog 32 = some (1, false) := by kernel_rfl
@[simp] theorem tyL_33 : tyL Try.prog 33 = some (1, false) := by kernel_rfl
@[simp] theorem zcells_33 : zcells Try.prog 33 = some [.w false false (.int .i64 (0))] := by kernel_rfl
@[simp] theorem slE_33 : slE Try.prog 33 = none := by kernel_rfl
@[simp] theorem isStr_33 : isStr Try.prog 33 = false := by kernel_rfl
@[simp] theorem kindOf_33 : kindOf Try.prog 33 = some .i64 := by kernel_rfl
@[simp] theorem eqTy_33 : eqTy Try.prog 33 = none := by kernel_rfl
@[simp] theorem tyL_35 : tyL Try.prog 35 = some (1, false) := by kernel_rfl
@[simp] theorem tyL_36 : tyL Try.prog 36 = some (1, false) := by kernel_rfl
@[simp] theorem tyL_37 : tyL Try.prog 37 = some (1, false) := by kernel_rfl
@[simp] theorem tyL_38 : tyL Try.prog 38 = some (1, false) := by kernel_rfl
@[simp] theorem zcells_38 : zcells Try.prog 38 = some [.w true true (.sl 0 [])] := by kernel_rfl
@[simp] theorem slE_38 : slE Try.prog 38 = some (3, 1) := by kernel_rfl
@[simp] theorem byE_3 : byE Try.prog 3 = some 8 := by kernel_rfl
@[simp] theorem isStr_38 : isStr Try.prog 38 = false := by kernel_rfl
@[simp] theorem eqTy_38 : eqTy Try.prog 38 = none := by kernel_rfl
@[simp] theorem tyL_40 : tyL Try.prog 40 = some (1, false) := by kernel_rfl
@[simp] theorem tyL_42 : tyL Try.prog 42 = some (1, false) := by kernel_rfl
@[simp] theorem tyL_43 : tyL Try.prog 43 = some (1, false) := by kernel_rfl
@[simp] theorem tyL_44 : tyL Try.prog 44 = some (1, false) := by kernel_rfl
@[simp] theorem tyL_45 : tyL Try.prog 45 = some (1, false) := by kernel_rfl
@[simp] theorem tyL_46 : tyL Try.prog 46 = some (1, false) := by kernel_rfl
@[simp] theorem tyL_47 : tyL Try.prog 47 = some (2, true) := by kernel_rfl
@[simp] theorem zcells_47 : zcells Try.prog 47 = some [.w false false (.int .i64 (0)), .w false false (.int .i64 (0))] := by kernel_rfl
@[simp] theorem slE_47 : slE Try.prog 47 = none := by kernel_rfl
@[simp] theorem isStr_47 : isStr Try.prog 47 = false := by kernel_rfl
@[simp] theorem fOf_47_0 : fOf Try.prog 47 0 = some (0, 1, false) := by kernel_rfl
@[simp] theorem fOf_47_1 : fOf Try.prog 47 1 = some (1, 1, false) := by kernel_rfl
@[simp] theorem pls_47 : pls Try.prog 47 = some [(0, 1), (1, 1)] := by kernel_rfl
@[simp] theorem eqTy_47 : eqTy Try.prog 47 = some [1, 1] := by kernel_rfl
@[simp] theorem tyL_48 : tyL Try.prog 48 = some (2, true) := by kernel_rfl
@[simp] theorem zcells_48 : zcells Try.prog 48 = some [.w false false (.int .i64 (0)), .w false false (.int .i64 (0))] := by kernel_rfl
@[simp] theorem slE_48 : slE Try.prog 48 = none := by kernel_rfl
@[simp] theorem isStr_48 : isStr Try.prog 48 = false := by kernel_rfl
@[simp] theorem fOf_48_0 : fOf Try.prog 48 0 = some (0, 1, false) := by kernel_rfl
@[simp] theorem fOf_48_1 : fOf Try.prog 48 1 = some (1, 1, false) := by kernel_rfl
@[simp] theorem pls_48 : pls Try.prog 48 = some [(0, 1), (1, 1)] := by kernel_rfl
@[simp] theorem eqTy_48 : eqTy Try.prog 48 = some [1, 1] := by kernel_rfl
@[simp] theorem tyL_49 : tyL Try.prog 49 = some (1, false) := by kernel_rfl
@[simp] theorem tyL_50 : tyL Try.prog 50 = some (1, false) := by kernel_rfl
@[simp] theorem tyL_51 : tyL Try.prog 51 = some (1, false) := by kernel_rfl
@[simp] theorem tyL_52 : tyL Try.prog 52 = some (1, false) := by kernel_rfl
@[simp] theorem tyL_53 : tyL Try.prog 53 = some (1, false) := by kernel_rfl
@[simp] theorem tyL_54 : tyL Try.prog 54 = some (1, false) := by kernel_rfl
@[simp] theorem tyL_55 : tyL Try.prog 55 = some (1, false) := by kernel_rfl
@[simp] theorem tyL_56 : tyL Try.prog 56 = some (2, true) := by kernel_rfl
@[simp] theorem zcells_56 : zcells Try.prog 56 = some [.w false false (.int .i64 (0)), .w false false (.int .i64 (0))] := by kernel_rfl
@[simp] theorem slE_56 : slE Try.prog 56 = none := by kernel_rfl
@[simp] theorem isStr_56 : isStr Try.prog 56 = false := by kernel_rfl
@[simp] theorem fOf_56_0 : fOf Try.prog 56 0 = some (0, 1, false) := by kernel_rfl
@[simp] theorem fOf_56_1 : fOf Try.prog 56 1 = some (1, 1, false) := by kernel_rfl
@[simp] theorem pls_56 : pls Try.prog 56 = some [(0, 1), (1, 1)] := by kernel_rfl
@[simp] theorem eqTy_56 : eqTy Try.prog 56 = some [1, 1] := by kernel_rfl
@[simp] theorem tyL_57 : tyL Try.prog 57 = some (2, true) := by kernel_rfl
@[simp] theorem zcells_57 : zcells Try.prog 57 = some [.w false false (.int .i64 (0)), .w false false (.int .i64 (0))] := by kernel_rfl
@[simp] theorem slE_57 : slE Try.prog 57 = none := by kernel_rfl
@[simp] theorem isStr_57 : isStr Try.prog 57 = false := by kernel_rfl
@[simp] theorem fOf_57_0 : fOf Try.prog 57 0 = some (0, 1, false) := by kernel_rfl
@[simp] theorem fOf_57_1 : fOf Try.prog 57 1 = some (1, 1, false) := by kernel_rfl
@[simp] theorem pls_57 : pls Try.prog 57 = some [(0, 1), (1, 1)] := by kernel_rfl
@[simp] theorem eqTy_57 : eqTy Try.prog 57 = some [1, 1] := by kernel_rfl
@[simp] theorem tyL_59 : tyL Try.prog 59 = some (1, false) := by kernel_rfl
@[simp] theorem tyL_60 : tyL Try.prog 60 = some (2, true) := by kernel_rfl
@[simp] theorem zcells_60 : zcells Try.prog 60 = some [.w false false (.int .i64 (0)), .w false false (.int .i64 (0))] := by kernel_rfl
@[simp] theorem slE_60 : slE Try.prog 60 = none := by kernel_rfl
@[simp] theorem isStr_60 : isStr Try.prog 60 = false := by kernel_rfl
@[simp] theorem fOf_60_0 : fOf Try.prog 60 0 = some (0, 1, false) := by kernel_rfl
@[simp] theorem fOf_60_1 : fOf Try.prog 60 1 = some (1, 1, false) := by kernel_rfl
@[simp] theorem pls_60 : pls Try.prog 60 = some [(0, 1), (1, 1)] := by kernel_rfl
@[simp] theorem eqTy_60 : eqTy Try.prog 60 = some [1, 1] := by kernel_rfl
@[simp] theorem tyL_61 : tyL Try.prog 61 = some (2, true) := by kernel_rfl
@[simp] theorem zcells_61 : zcells Try.prog 61 = some [.w false false (.int .i64 (0)), .w false false (.int .i64 (0))] := by kernel_rfl
@[simp] theorem slE_61 : slE Try.prog 61 = none := by kernel_rfl
@[simp] theorem isStr_61 : isStr Try.prog 61 = false := by kernel_rfl
@[simp] theorem fOf_61_0 : fOf Try.prog 61 0 = some (0, 1, false) := by kernel_rfl
@[simp] theorem fOf_61_1 : fOf Try.prog 61 1 = some (1, 1, false) := by kernel_rfl
@[simp] theorem pls_61 : pls Try.prog 61 = some [(0, 1), (1, 1)] := by kernel_rfl
@[simp] theorem eqTy_61 : eqTy Try.prog 61 = some [1, 1] := by kernel_rfl
@[simp] theorem tyL_63 : tyL Try.prog 63 = some (1, false) := by kernel_rfl
@[simp] theorem tyL_64 : tyL Try.prog 64 = some (1, false) := by kernel_rfl
@[simp] theorem tyL_66 : tyL Try.prog 66 = some (1, false) := by kernel_rfl
@[simp] theorem tyL_67 : tyL Try.prog 67 = some (1, false) := by kernel_rfl
@[simp] theorem tyL_68 : tyL Try.prog 68 = some (8, true) := by kernel_rfl
@[simp] theorem zcells_68 : zcells Try.prog 68 = some [.w false false (.str ByteArray.empty), .w false false (.int .i64 (0)), .w false false (.int .i64 (0)), .w false false (.int .i64 (0)), .w false false (.int .i64 (0)), .w false false (.int .i64 (0)), .w false false (.bool false), .w false false (.int .i64 (0))] := by kernel_rfl
@[simp] theorem slE_68 : slE Try.prog 68 = none := by kernel_rfl
@[simp] theorem isStr_68 : isStr Try.prog 68 = false := by kernel_rfl
@[simp] theorem fOf_68_0 : fOf Try.prog 68 0 = some (0, 1, false) := by kernel_rfl
@[simp] theorem fOf_68_1 : fOf Try.prog 68 1 = some (1, 1, false) := by kernel_rfl
@[simp] theorem fOf_68_2 : fOf Try.prog 68 2 = some (2, 1, false) := by kernel_rfl
@[simp] theorem fOf_68_3 : fOf Try.prog 68 3 = some (3, 1, false) := by kernel_rfl
@[simp] theorem fOf_68_4 : fOf Try.prog 68 4 = some (4, 1, false) := by kernel_rfl
@[simp] theorem fOf_68_5 : fOf Try.prog 68 5 = some (5, 1, false) := by kernel_rfl
@[simp] theorem fOf_68_6 : fOf Try.prog 68 6 = some (6, 1, false) := by kernel_rfl
@[simp] theorem fOf_68_7 : fOf Try.prog 68 7 = some (7, 1, false) := by kernel_rfl
@[simp] theorem pls_68 : pls Try.prog 68 = some [(0, 1), (1, 1), (2, 1), (3, 1), (4, 1), (5, 1), (6, 1), (7, 1)] := by kernel_rfl
@[simp] theorem eqTy_68 : eqTy Try.prog 68 = some [2, 1, 1, 1, 1, 1, 0, 1] := by kernel_rfl
@[simp] theorem tyL_69 : tyL Try.prog 69 = some (8, true) := by kernel_rfl
@[simp] theorem zcells_69 : zcells Try.prog 69 = some [.w false false (.str ByteArray.empty), .w false false (.int .i64 (0)), .w false false (.int .i64 (0)), .w false false (.int .i64 (0)), .w false false (.int .i64 (0)), .w false false (.int .i64 (0)), .w false false (.bool false), .w false false (.int .i64 (0))] := by kernel_rfl
@[simp] theorem slE_69 : slE Try.prog 69 = none := by kernel_rfl
@[simp] theorem isStr_69 : isStr Try.prog 69 = false := by kernel_rfl
@[simp] theorem fOf_69_0 : fOf Try.prog 69 0 = some (0, 1, false) := by kernel_rfl
@[simp] theorem fOf_69_1 : fOf Try.prog 69 1 = some (1, 1, false) := by kernel_rfl
@[simp] theorem fOf_69_2 : fOf Try.prog 69 2 = some (2, 1, false) := by kernel_rfl
@[simp] theorem fOf_69_3 : fOf Try.prog 69 3 = some (3, 1, false) := by kernel_rfl
@[simp] theorem fOf_69_4 : fOf Try.prog 69 4 = some (4, 1, false) := by kernel_rfl
@[simp] theorem fOf_69_5 : fOf Try.prog 69 5 = some (5, 1, false) := by kernel_rfl
@[simp] theorem fOf_69_6 : fOf Try.prog 69 6 = some (6, 1, false) := by kernel_rfl
@[simp] theorem fOf_69_7 : fOf Try.prog 69 7 = some (7, 1, false) := by kernel_rfl
@[simp] theorem pls_69 : pls Try.prog 69 = some [(0, 1), (1, 1), (2, 1), (3, 1), (4, 1), (5, 1), (6, 1), (7, 1)] := by kernel_rfl
@[simp] theorem eqTy_69 : eqTy Try.prog 69 = some [2, 1, 1, 1, 1, 1, 0, 1] := by kernel_rfl
@[simp] theorem tyL_70 : tyL Try.prog 70 = some (1, false) := by kernel_rfl
@[simp] theorem zcells_70 : zcells Try.prog 70 = some [.w true true (.sl 0 [])] := by kernel_rfl
@[simp] theorem slE_70 : slE Try.prog 70 = some (74, 3) := by kernel_rfl
@[simp] theorem byE_74 : byE Try.prog 74 = some 24 := by kernel_rfl
@[simp] theorem isStr_70 : isStr Try.prog 70 = false := by kernel_rfl
@[simp] theorem eqTy_70 : eqTy Try.prog 70 = none := by kernel_rfl
@[simp] theorem tyL_72 : tyL Try.prog 72 = some (1, false) := by kernel_rfl
@[simp] theorem tyL_73 : tyL Try.prog 73 = some (3, true) := by kernel_rfl
@[simp] theorem zcells_73 : zcells Try.prog 73 = some [.w false false (.int .i64 (0)), .w false false (.int .i64 (0)), .w false false (.int .i64 (0))] := by kernel_rfl
@[simp] theorem slE_73 : slE Try.prog 73 = none := by kernel_rfl
@[simp] theorem isStr_73 : isStr Try.prog 73 = false := by kernel_rfl
@[simp] theorem fOf_73_0 : fOf Try.prog 73 0 = some (0, 1, false) := by kernel_rfl
@[simp] theorem fOf_73_1 : fOf Try.prog 73 1 = some (1, 1, false) := by kernel_rfl
@[simp] theorem fOf_73_2 : fOf Try.prog 73 2 = some (2, 1, false) := by kernel_rfl
@[simp] theorem pls_73 : pls Try.prog 73 = some [(0, 1), (1, 1), (2, 1)] := by kernel_rfl
@[simp] theorem eqTy_73 : eqTy Try.prog 73 = some [1, 1, 1] := by kernel_rfl
@[simp] theorem tyL_74 : tyL Try.prog 74 = some (3, true) := by kernel_rfl
@[simp] theorem zcells_74 : zcells Try.prog 74 = some [.w false false (.int .i64 (0)), .w false false (.int .i64 (0)), .w false false (.int .i64 (0))] := by kernel_rfl
@[simp] theorem slE_74 : slE Try.prog 74 = none := by kernel_rfl
@[simp] theorem isStr_74 : isStr Try.prog 74 = false := by kernel_rfl
@[simp] theorem fOf_74_0 : fOf Try.prog 74 0 = some (0, 1, false) := by kernel_rfl
@[simp] theorem fOf_74_1 : fOf Try.prog 74 1 = some (1, 1, false) := by kernel_rfl
@[simp] theorem fOf_74_2 : fOf Try.prog 74 2 = some (2, 1, false) := by kernel_rfl
@[simp] theorem pls_74 : pls Try.prog 74 = some [(0, 1), (1, 1), (2, 1)] := by kernel_rfl
@[simp] theorem eqTy_74 : eqTy Try.prog 74 = some [1, 1, 1] := by kernel_rfl
@[simp] theorem tyL_76 : tyL Try.prog 76 = some (1, false) := by kernel_rfl
@[simp] theorem tyL_77 : tyL Try.prog 77 = some (1, false) := by kernel_rfl
@[simp] theorem tyL_79 : tyL Try.prog 79 = some (1, false) := by kernel_rfl
@[simp] theorem tyL_80 : tyL Try.prog 80 = some (1, false) := by kernel_rfl
@[simp] theorem tyL_81 : tyL Try.prog 81 = some (1, false) := by kernel_rfl
@[simp] theorem tyL_82 : tyL Try.prog 82 = some (1, false) := by kernel_rfl
@[simp] theorem tyL_83 : tyL Try.prog 83 = some (1, false) := by kernel_rfl
@[simp] theorem zcells_83 : zcells Try.prog 83 = some [.w true true (.sl 0 [])] := by kernel_rfl
@[simp] theorem slE_83 : slE Try.prog 83 = some (30, 5) := by kernel_rfl
@[simp] theorem byE_30 : byE Try.prog 30 = some 72 := by kernel_rfl
@[simp] theorem isStr_83 : isStr Try.prog 83 = false := by kernel_rfl
@[simp] theorem eqTy_83 : eqTy Try.prog 83 = none := by kernel_rfl
@[simp] theorem tyL_84 : tyL Try.prog 84 = some (1, false) := by kernel_rfl
@[simp] theorem tyL_86 : tyL Try.prog 86 = some (1, false) := by kernel_rfl
@[simp] theorem tyL_87 : tyL Try.prog 87 = some (1, false) := by kernel_rfl
@[simp] theorem tyL_89 : tyL Try.prog 89 = some (1, false) := by kernel_rfl
@[simp] theorem tyL_90 : tyL Try.prog 90 = some (1, false) := by kernel_rfl
@[simp] theorem tyL_91 : tyL Try.prog 91 = some (10, true) := by kernel_rfl
@[simp] theorem zcells_91 : zcells Try.prog 91 = some [.w false false (.str ByteArray.empty), .w false false (.int .i64 (0)), .w false false (.int .i64 (0)), .w false false (.int .i64 (0)), .w false false (.int .i64 (0)), .w false false (.int .i64 (0)), .w false false (.bool false), .w false false (.int .i64 (0)), .w false false (.int .i64 (0)), .w false false (.int .i64 (0))] := by kernel_rfl
@[simp] theorem slE_91 : slE Try.prog 91 = none := by kernel_rfl
@[simp] theorem isStr_91 : isStr Try.prog 91 = false := by kernel_rfl
@[simp] theorem fOf_91_0 : fOf Try.prog 91 0 = some (0, 8, true) := by kernel_rfl
@[simp] theorem fOf_91_1 : fOf Try.prog 91 1 = some (8, 1, false) := by kernel_rfl
@[simp] theorem fOf_91_2 : fOf Try.prog 91 2 = some (9, 1, false) := by kernel_rfl
@[simp] theorem pls_91 : pls Try.prog 91 = some [(0, 8), (8, 1), (9, 1)] := by kernel_rfl
@[simp] theorem eqTy_91 : eqTy Try.prog 91 = some [2, 1, 1, 1, 1, 1, 0, 1, 1, 1] := by kernel_rfl
@[simp] theorem tyL_92 : tyL Try.prog 92 = some (10, true) := by kernel_rfl
@[simp] theorem zcells_92 : zcells Try.prog 92 = some [.w false false (.str ByteArray.empty), .w false false (.int .i64 (0)), .w false false (.int .i64 (0)), .w false false (.int .i64 (0)), .w false false (.int .i64 (0)), .w false false (.int .i64 (0)), .w false false (.bool false), .w false false (.int .i64 (0)), .w false false (.int .i64 (0)), .w false false (.int .i64 (0))] := by kernel_rfl
@[simp] theorem slE_92 : slE Try.prog 92 = none := by kernel_rfl
@[simp] theorem isStr_92 : isStr Try.prog 92 = false := by kernel_rfl
@[simp] theorem fOf_92_0 : fOf Try.prog 92 0 = some (0, 8, true) := by kernel_rfl
@[simp] theorem fOf_92_1 : fOf Try.prog 92 1 = some (8, 1, false) := by kernel_rfl
@[simp] theorem fOf_92_2 : fOf Try.prog 92 2 = some (9, 1, false) := by kernel_rfl
@[simp] theorem pls_92 : pls Try.prog 92 = some [(0, 8), (8, 1), (9, 1)] := by kernel_rfl
@[simp] theorem eqTy_92 : eqTy Try.prog 92 = some [2, 1, 1, 1, 1, 1, 0, 1, 1, 1] := by kernel_rfl
@[simp] theorem tyL_93 : tyL Try.prog 93 = some (11, true) := by kernel_rfl
@[simp] theorem zcells_93 : zcells Try.prog 93 = some [.w false false (.int .i64 (0)), .w false false (.str ByteArray.empty), .w false false (.int .i64 (0)), .w false false (.int .i64 (0)), .w false false (.int .i64 (0)), .w false false (.int .i64 (0)), .w false false (.int .i64 (0)), .w false false (.bool false), .w false false (.int .i64 (0)), .w false false (.int .i64 (0)), .w false false (.int .i64 (0))] := by kernel_rfl
@[simp] theorem slE_93 : slE Try.prog 93 = none := by kernel_rfl
@[simp] theorem isStr_93 : isStr Try.prog 93 = false := by kernel_rfl
@[simp] theorem fOf_93_0 : fOf Try.prog 93 0 = some (0, 1, false) := by kernel_rfl
@[simp] theorem fOf_93_1 : fOf Try.prog 93 1 = some (1, 10, true) := by kernel_rfl
@[simp] theorem pls_93 : pls Try.prog 93 = some [(0, 1), (1, 10)] := by kernel_rfl
@[simp] theorem eqTy_93 : eqTy Try.prog 93 = some [1, 2, 1, 1, 1, 1, 1, 0, 1, 1, 1] := by kernel_rfl
@[simp] theorem tyL_94 : tyL Try.prog 94 = some (11, true) := by kernel_rfl
@[simp] theorem zcells_94 : zcells Try.prog 94 = some [.w false false (.int .i64 (0)), .w false false (.str ByteArray.empty), .w false false (.int .i64 (0)), .w false false (.int .i64 (0)), .w false false (.int .i64 (0)), .w false false (.int .i64 (0)), .w false false (.int .i64 (0)), .w false false (.bool false), .w false false (.int .i64 (0)), .w false false (.int .i64 (0)), .w false false (.int .i64 (0))] := by kernel_rfl
@[simp] theorem slE_94 : slE Try.prog 94 = none := by kernel_rfl
@[simp] theorem isStr_94 : isStr Try.prog 94 = false := by kernel_rfl
@[simp] theorem fOf_94_0 : fOf Try.prog 94 0 = some (0, 1, false) := by kernel_rfl
@[simp] theorem fOf_94_1 : fOf Try.prog 94 1 = some (1, 10, true) := by kernel_rfl
@[simp] theorem pls_94 : pls Try.prog 94 = some [(0, 1), (1, 10)] := by kernel_rfl
@[simp] theorem eqTy_94 : eqTy Try.prog 94 = some [1, 2, 1, 1, 1, 1, 1, 0, 1, 1, 1] := by kernel_rfl
@[simp] theorem tyL_96 : tyL Try.prog 96 = some (1, false) := by kernel_rfl
@[simp] theorem tyL_97 : tyL Try.prog 97 = some (1, false) := by kernel_rfl
@[simp] theorem tyL_98 : tyL Try.prog 98 = some (1, false) := by kernel_rfl
@[simp] theorem tyL_100 : tyL Try.prog 100 = some (1, false) := by kernel_rfl
@[simp] theorem tyL_101 : tyL Try.prog 101 = some (1, false) := by kernel_rfl
@[simp] theorem tyL_102 : tyL Try.prog 102 = some (1, false) := by kernel_rfl
@[simp] theorem tyL_103 : tyL Try.prog 103 = some (1, false) := by kernel_rfl
@[simp] theorem tyL_104 : tyL Try.prog 104 = some (1, false) := by kernel_rfl
@[simp] theorem tyL_105 : tyL Try.prog 105 = some (2, true) := by kernel_rfl
@[simp] theorem zcells_105 : zcells Try.prog 105 = some [.w false false (.int .i64 (0)), .w false false (.int .i64 (0))] := by kernel_rfl
@[simp] theorem slE_105 : slE Try.prog 105 = none := by kernel_rfl
@[simp] theorem arE_105 : arE Try.prog 105 = some (2, 1) := by kernel_rfl
@[simp] theorem isStr_105 : isStr Try.prog 105 = false := by kernel_rfl
@[simp] theorem pls_105 : pls Try.prog 105 = some [(0, 1), (1, 1)] := by kernel_rfl
@[simp] theorem eqTy_105 : eqTy Try.prog 105 = some [1, 1] := by kernel_rfl
@[simp] theorem tyL_107 : tyL Try.prog 107 = some (1, false) := by kernel_rfl
@[simp] theorem tyL_108 : tyL Try.prog 108 = some (3, true) := by kernel_rfl
@[simp] theorem zcells_108 : zcells Try.prog 108 = some [.w false false (.int .i64 (0)), .w false false (.int .i64 (0)), .w false false (.int .i64 (0))] := by kernel_rfl
@[simp] theorem slE_108 : slE Try.prog 108 = none := by kernel_rfl
@[simp] theorem arE_108 : arE Try.prog 108 = some (3, 1) := by kernel_rfl
@[simp] theorem isStr_108 : isStr Try.prog 108 = false := by kernel_rfl
@[simp] theorem pls_108 : pls Try.prog 108 = some [(0, 1), (1, 1), (2, 1)] := by kernel_rfl
@[simp] theorem eqTy_108 : eqTy Try.prog 108 = some [1, 1, 1] := by kernel_rfl
@[simp] theorem tyL_110 : tyL Try.prog 110 = some (1, false) := by kernel_rfl
@[simp] theorem tyL_112 : tyL Try.prog 112 = some (1, false) := by kernel_rfl
@[simp] theorem tyL_114 : tyL Try.prog 114 = some (1, false) := by kernel_rfl
@[simp] theorem tyL_116 : tyL Try.prog 116 = some (1, false) := by kernel_rfl
@[simp] theorem tyL_117 : tyL Try.prog 117 = some (1, false) := by kernel_rfl
@[simp] theorem tyL_118 : tyL Try.prog 118 = some (1, false) := by kernel_rfl
@[simp] theorem tyL_119 : tyL Try.prog 119 = some (1, false) := by kernel_rfl
@[simp] theorem tyL_120 : tyL Try.prog 120 = some (1, false) := by kernel_rfl
@[simp] theorem tyL_121 : tyL Try.prog 121 = some (1, false) := by kernel_rfl
@[simp] theorem tyL_122 : tyL Try.prog 122 = some (1, false) := by kernel_rfl
@[simp] theorem tyL_123 : tyL Try.prog 123 = some (1, false) := by kernel_rfl
@[simp] theorem tyL_124 : tyL Try.prog 124 = some (1, false) := by kernel_rfl
@[simp] theorem tyL_125 : tyL Try.prog 125 = some (1, false) := by kernel_rfl
@[simp] theorem tyL_126 : tyL Try.prog 126 = some (1, false) := by kernel_rfl
@[simp] theorem zcells_126 : zcells Try.prog 126 = some [.w true false .nilp] := by kernel_rfl
@[simp] theorem slE_126 : slE Try.prog 126 = none := by kernel_rfl
@[simp] theorem isStr_126 : isStr Try.prog 126 = false := by kernel_rfl
@[simp] theorem eqTy_126 : eqTy Try.prog 126 = none := by kernel_rfl
@[simp] theorem tyL_127 : tyL Try.prog 127 = some (8, true) := by kernel_rfl
@[simp] theorem zcells_127 : zcells Try.prog 127 = some [.w false false (.int .i64 (0)), .w false false (.int .i64 (0)), .w false false (.int .i64 (0)), .w true true (.sl 0 []), .w true true (.sl 0 []), .w true true (.sl 0 []), .w true true (.sl 0 []), .w true true (.sl 0 [])] := by kernel_rfl
@[simp] theorem slE_127 : slE Try.prog 127 = none := by kernel_rfl
@[simp] theorem isStr_127 : isStr Try.prog 127 = false := by kernel_rfl
@[simp] theorem fOf_127_0 : fOf Try.prog 127 0 = some (0, 5, true) := by kernel_rfl
@[simp] theorem fOf_127_1 : fOf Try.prog 127 1 = some (5, 1, true) := by kernel_rfl
@[simp] theorem fOf_127_2 : fOf Try.prog 127 2 = some (6, 1, false) := by kernel_rfl
@[simp] theorem fOf_127_3 : fOf Try.prog 127 3 = some (7, 1, false) := by kernel_rfl
@[simp] theorem pls_127 : pls Try.prog 127 = some [(0, 5), (5, 1), (6, 1), (7, 1)] := by kernel_rfl
@[simp] theorem tyL_128 : tyL Try.prog 128 = some (8, true) := by kernel_rfl
@[simp] theorem zcells_128 : zcells Try.prog 128 = some [.w false false (.int .i64 (0)), .w false false (.int .i64 (0)), .w false false (.int .i64 (0)), .w true true (.sl 0 []), .w true true (.sl 0 []), .w true true (.sl 0 []), .w true true (.sl 0 []), .w true true (.sl 0 [])] := by kernel_rfl
@[simp] theorem slE_128 : slE Try.prog 128 = none := by kernel_rfl
@[simp] theorem isStr_128 : isStr Try.prog 128 = false := by kernel_rfl
@[simp] theorem fOf_128_0 : fOf Try.prog 128 0 = some (0, 5, true) := by kernel_rfl
@[simp] theorem fOf_128_1 : fOf Try.prog 128 1 = some (5, 1, true) := by kernel_rfl
@[simp] theorem fOf_128_2 : fOf Try.prog 128 2 = some (6, 1, false) := by kernel_rfl
@[simp] theorem fOf_128_3 : fOf Try.prog 128 3 = some (7, 1, false) := by kernel_rfl
@[simp] theorem pls_128 : pls Try.prog 128 = some [(0, 5), (5, 1), (6, 1), (7, 1)] := by kernel_rfl
@[simp] theorem tyL_129 : tyL Try.prog 129 = some (1, false) := by kernel_rfl
@[simp] theorem tyL_130 : tyL Try.prog 130 = some (1, false) := by kernel_rfl
@[simp] theorem tyL_131 : tyL Try.prog 131 = some (1, false) := by kernel_rfl
@[simp] theorem tyL_132 : tyL Try.prog 132 = some (1, false) := by kernel_rfl
@[simp] theorem tyL_133 : tyL Try.prog 133 = some (1, false) := by kernel_rfl
@[simp] theorem tyL_134 : tyL Try.prog 134 = some (2, true) := by kernel_rfl
@[simp] theorem zcells_134 : zcells Try.prog 134 = some [.w false false (.int .i64 (0)), .w false false (.bool false)] := by kernel_rfl
@[simp] theorem slE_134 : slE Try.prog 134 = none := by kernel_rfl
@[simp] theorem isStr_134 : isStr Try.prog 134 = false := by kernel_rfl
@[simp] theorem fOf_134_0 : fOf Try.prog 134 0 = some (0, 1, false) := by kernel_rfl
@[simp] theorem fOf_134_1 : fOf Try.prog 134 1 = some (1, 1, false) := by kernel_rfl
@[simp] theorem pls_134 : pls Try.prog 134 = some [(0, 1), (1, 1)] := by kernel_rfl
@[simp] theorem eqTy_134 : eqTy Try.prog 134 = some [1, 0] := by kernel_rfl
@[simp] theorem tyL_135 : tyL Try.prog 135 = some (2, true) := by kernel_rfl
@[simp] theorem zcells_135 : zcells Try.prog 135 = some [.w false false (.int .i64 (0)), .w false false (.bool false)] := by kernel_rfl
@[simp] theorem slE_135 : slE Try.prog 135 = none := by kernel_rfl
@[simp] theorem isStr_135 : isStr Try.prog 135 = false := by kernel_rfl
@[simp] theorem fOf_135_0 : fOf Try.prog 135 0 = some (0, 1, false) := by kernel_rfl
@[simp] theorem fOf_135_1 : fOf Try.prog 135 1 = some (1, 1, false) := by kernel_rfl
@[simp] theorem pls_135 : pls Try.prog 135 = some [(0, 1), (1, 1)] := by kernel_rfl
@[simp] theorem eqTy_135 : eqTy Try.prog 135 = some [1, 0] := by kernel_rfl
@[simp] theorem tyL_136 : tyL Try.prog 136 = some (1, false) := by kernel_rfl
@[simp] theorem tyL_137 : tyL Try.prog 137 = some (1, false) := by kernel_rfl
@[simp] theorem tyL_138 : tyL Try.prog 138 = some (1, false) := by kernel_rfl
@[simp] theorem tyL_139 : tyL Try.prog 139 = some (1, false) := by kernel_rfl
@[simp] theorem tyL_140 : tyL Try.prog 140 = some (1, false) := by kernel_rfl
@[simp] theorem tyL_141 : tyL Try.prog 141 = some (1, false) := by kernel_rfl
@[simp] theorem tyL_142 : tyL Try.prog 142 = some (1, false) := by kernel_rfl
@[simp] theorem tyL_143 : tyL Try.prog 143 = some (1, false) := by kernel_rfl
@[simp] theorem tyL_144 : tyL Try.prog 144 = some (1, false) := by kernel_rfl
@[simp] theorem tyL_145 : tyL Try.prog 145 = some (1, false) := by kernel_rfl
@[simp] theorem tyL_146 : tyL Try.prog 146 = some (1, false) := by kernel_rfl
@[simp] theorem tyL_147 : tyL Try.prog 147 = some (1, false) := by kernel_rfl
@[simp] theorem tyL_148 : tyL Try.prog 148 = some (1, false) := by kernel_rfl
@[simp] theorem tyL_149 : tyL Try.prog 149 = some (1, false) := by kernel_rfl
@[simp] theorem tyL_150 : tyL Try.prog 150 = some (1, false) := by kernel_rfl
@[simp] theorem tyL_151 : tyL Try.prog 151 = some (1, false) := by kernel_rfl
@[simp] theorem tyL_152 : tyL Try.prog 152 = some (1, false) := by kernel_rfl
@[simp] theorem tyL_153 : tyL Try.prog 153 = some (1, false) := by kernel_rfl
@[simp] theorem tyL_154 : tyL Try.prog 154 = some (1, false) := by kernel_rfl
@[simp] theorem tyL_155 : tyL Try.prog 155 = some (1, false) := by kernel_rfl
@[simp] theorem tyL_156 : tyL Try.prog 156 = some (1, false) := by kernel_rfl
@[simp] theorem tyL_157 : tyL Try.prog 157 = some (1, false) := by kernel_rfl
@[simp] theorem tyL_158 : tyL Try.prog 158 = some (1, false) := by kernel_rfl
@[simp] theorem tyL_159 : tyL Try.prog 159 = some (1, false) := by kernel_rfl
@[simp] theorem tyL_160 : tyL Try.prog 160 = some (1, false) := by kernel_rfl
@[simp] theorem tyL_161 : tyL Try.prog 161 = some (1, false) := by kernel_rfl
@[simp] theorem tyL_162 : tyL Try.prog 162 = some (1, false) := by kernel_rfl
@[simp] theorem tyL_163 : tyL Try.prog 163 = some (1, false) := by kernel_rfl
@[simp] theorem tyL_164 : tyL Try.prog 164 = some (1, false) := by kernel_rfl
@[simp] theorem tyL_165 : tyL Try.prog 165 = some (1, false) := by kernel_rfl
@[simp] theorem tyL_166 : tyL Try.prog 166 = some (1, false) := by kernel_rfl
@[simp] theorem zcells_166 : zcells Try.prog 166 = some [.w true true (.sl 0 [])] := by kernel_rfl
@[simp] theorem slE_166 : slE Try.prog 166 = some (9, 1) := by kernel_rfl
@[simp] theorem byE_9 : byE Try.prog 9 = some 16 := by kernel_rfl
@[simp] theorem isStr_166 : isStr Try.prog 166 = false := by kernel_rfl
@[simp] theorem eqTy_166 : eqTy Try.prog 166 = none := by kernel_rfl
@[simp] theorem tyL_167 : tyL Try.prog 167 = some (1, false) := by kernel_rfl
@[simp] theorem tyL_168 : tyL Try.prog 168 = some (1, false) := by kernel_rfl
@[simp] theorem tyL_169 : tyL Try.prog 169 = some (1, false) := by kernel_rfl
@[simp] theorem tyL_171 : tyL Try.prog 171 = some (1, false) := by kernel_rfl
@[simp] theorem tyL_172 : tyL Try.prog 172 = some (1, false) := by kernel_rfl
@[simp] theorem tyL_173 : tyL Try.prog 173 = some (1, false) := by kernel_rfl
@[simp] theorem zcells_173 : zcells Try.prog 173 = some [.w true true (.sl 0 [])] := by kernel_rfl
@[simp] theorem slE_173 : slE Try.prog 173 = some (33, 1) := by kernel_rfl
@[simp] theorem byE_33 : byE Try.prog 33 = some 8 := by kernel_rfl
@[simp] theorem isStr_173 : isStr Try.prog 173 = false := by kernel_rfl
@[simp] theorem eqTy_173 : eqTy Try.prog 173 = none := by kernel_rfl
@[simp] theorem tyL_174 : tyL Try.prog 174 = some (1, false) := by kernel_rfl
@[simp] theorem zcells_174 : zcells Try.prog 174 = some [.w false false (.int .u64 (0))] := by kernel_rfl
@[simp] theorem slE_174 : slE Try.prog 174 = none := by kernel_rfl
@[simp] theorem isStr_174 : isStr Try.prog 174 = false := by kernel_rfl
@[simp] theorem kindOf_174 : kindOf Try.prog 174 = some .u64 := by kernel_rfl
@[simp] theorem eqTy_174 : eqTy Try.prog 174 = none := by kernel_rfl
@[simp] theorem tyL_175 : tyL Try.prog 175 = some (1, false) := by kernel_rfl
@[simp] theorem tyL_176 : tyL Try.prog 176 = some (1, false) := by kernel_rfl
@[simp] theorem tyL_177 : tyL Try.prog 177 = some (1, false) := by kernel_rfl
@[simp] theorem tyL_178 : tyL Try.prog 178 = some (1, false) := by kernel_rfl
@[simp] theorem tyL_179 : tyL Try.prog 179 = some (1, false) := by kernel_rfl
@[simp] theorem zcells_179 : zcells Try.prog 179 = some [.w true true (.sl 0 [])] := by kernel_rfl
@[simp] theorem slE_179 : slE Try.prog 179 = some (27, 1) := by kernel_rfl
@[simp] theorem byE_27 : byE Try.prog 27 = some 24 := by kernel_rfl
@[simp] theorem isStr_179 : isStr Try.prog 179 = false := by kernel_rfl
@[simp] theorem eqTy_179 : eqTy Try.prog 179 = none := by kernel_rfl
@[simp] theorem tyL_180 : tyL Try.prog 180 = some (1, false) := by kernel_rfl
@[simp] theorem tyL_181 : tyL Try.prog 181 = some (1, false) := by kernel_rfl
@[simp] theorem zcells_181 : zcells Try.prog 181 = some [.w true false .nilp] := by kernel_rfl
@[simp] theorem slE_181 : slE Try.prog 181 = none := by kernel_rfl
@[simp] theorem isStr_181 : isStr Try.prog 181 = false := by kernel_rfl
@[simp] theorem eqTy_181 : eqTy Try.prog 181 = none := by kernel_rfl
@[simp] theorem tyL_182 : tyL Try.prog 182 = some (1, false) := by kernel_rfl
@[simp] theorem zcells_182 : zcells Try.prog 182 = some [.w true true (.sl 0 [])] := by kernel_rfl
@[simp] theorem slE_182 : slE Try.prog 182 = some (5, 1) := by kernel_rfl
@[simp] theorem byE_5 : byE Try.prog 5 = some 1 := by kernel_rfl
@[simp] theorem isStr_182 : isStr Try.prog 182 = false := by kernel_rfl
@[simp] theorem eqTy_182 : eqTy Try.prog 182 = none := by kernel_rfl
@[simp] theorem tyL_183 : tyL Try.prog 183 = some (2, true) := by kernel_rfl
@[simp] theorem zcells_183 : zcells Try.prog 183 = some [.w true false .nilp, .w true true (.sl 0 [])] := by kernel_rfl
@[simp] theorem slE_183 : slE Try.prog 183 = none := by kernel_rfl
@[simp] theorem isStr_183 : isStr Try.prog 183 = false := by kernel_rfl
@[simp] theorem fOf_183_0 : fOf Try.prog 183 0 = some (0, 1, false) := by kernel_rfl
@[simp] theorem fOf_183_1 : fOf Try.prog 183 1 = some (1, 1, false) := by kernel_rfl
@[simp] theorem pls_183 : pls Try.prog 183 = some [(0, 1), (1, 1)] := by kernel_rfl
@[simp] theorem tyL_184 : tyL Try.prog 184 = some (2, true) := by kernel_rfl
@[simp] theorem zcells_184 : zcells Try.prog 184 = some [.w true false .nilp, .w true true (.sl 0 [])] := by kernel_rfl
@[simp] theorem slE_184 : slE Try.prog 184 = none := by kernel_rfl
@[simp] theorem isStr_184 : isStr Try.prog 184 = false := by kernel_rfl
@[simp] theorem fOf_184_0 : fOf Try.prog 184 0 = some (0, 1, false) := by kernel_rfl
@[simp] theorem fOf_184_1 : fOf Try.prog 184 1 = some (1, 1, false) := by kernel_rfl
@[simp] theorem pls_184 : pls Try.prog 184 = some [(0, 1), (1, 1)] := by kernel_rfl
@[simp] theorem tyL_185 : tyL Try.prog 185 = some (1, false) := by kernel_rfl
@[simp] theorem tyL_189 : tyL Try.prog 189 = some (1, false) := by kernel_rfl
@[simp] theorem tyL_190 : tyL Try.prog 190 = some (1, false) := by kernel_rfl
@[simp] theorem tyL_191 : tyL Try.prog 191 = some (1, false) := by kernel_rfl
@[simp] theorem tyL_192 : tyL Try.prog 192 = some (1, false) := by kernel_rfl
@[simp] theorem tyL_193 : tyL Try.prog 193 = some (1, false) := by kernel_rfl
@[simp] theorem zcells_193 : zcells Try.prog 193 = some [.w true false .nilp] := by kernel_rfl
@[simp] theorem slE_193 : slE Try.prog 193 = none := by kernel_rfl
@[simp] theorem isStr_193 : isStr Try.prog 193 = false := by kernel_rfl
@[simp] theorem eqTy_193 : eqTy Try.prog 193 = none := by kernel_rfl
@[simp] theorem tyL_194 : tyL Try.prog 194 = some (1, false) := by kernel_rfl
@[simp] theorem tyL_197 : tyL Try.prog 197 = some (1, false) := by kernel_rfl
@[simp] theorem tyL_203 : tyL Try.prog 203 = some (1, false) := by kernel_rfl
@[simp] theorem zcells_203 : zcells Try.prog 203 = some [.w false false (.int .u32 (0))] := by kernel_rfl
@[simp] theorem slE_203 : slE Try.prog 203 = none := by kernel_rfl
@[simp] theorem isStr_203 : isStr Try.prog 203 = false := by kernel_rfl
@[simp] theorem kindOf_203 : kindOf Try.prog 203 = some .u32 := by kernel_rfl
@[simp] theorem eqTy_203 : eqTy Try.prog 203 = none := by kernel_rfl
@[simp] theorem byteSl_9_182 : byteSl Try.prog 9 182 = true := by kernel_rfl
@[simp] theorem byteSl_10_182 : byteSl Try.prog 10 182 = true := by kernel_rfl
@[simp] theorem byteSl_11_182 : byteSl Try.prog 11 182 = true := by kernel_rfl
end Go.Proofs.Ytceimmohnniebaa
