/- Contracts of functions for this claim: lemmas alone. -/
import Derived.Test.YtmedbghkldmlhaaProg
import Derived.Test.YtmedbghkldmlhaaLd
import Derived.KernelRfl
set_option linter.unusedSimpArgs false
set_option linter.unusedVariables false
namespace Go.Proofs.Ytmedbghkldmlhaa
open Go Go.Fi
set_option maxRecDepth 100000
@[simp] theorem tyL_1 : tyL Try.prog 1 = some (1, false) := by kernel_rfl
@[simp] theorem tyL_2 : tyL Try.prog 2 = some (1, false) := by kernel_rfl
@[simp] theorem zcells_2 : zcells Try.prog 2 = some [.w false false (.int .i64 (0))] := by kernel_rfl
@[simp] theorem slE_2 : slE Try.prog 2 = none := by kernel_rfl
@[simp] theorem isStr_2 : isStr Try.prog 2 = false := by kernel_rfl
@[simp] theorem kindOf_2 : kindOf Try.prog 2 = some .i64 := by kernel_rfl
@[simp] theorem eqTy_2 : eqTy Try.prog 2 = none := by kernel_rfl
@[simp] theorem tyL_3 : tyL Try.prog 3 = some (1, false) := by kernel_rfl
@[simp] theorem zcells_3 : zcells Try.prog 3 = some [.w false false (.int .i64 (0))] := by kernel_rfl
@[simp] theorem slE_3 : slE Try.prog 3 = none := by kernel_rfl
@[simp] theorem isStr_3 : isStr Try.prog 3 = false := by kernel_rfl
@[simp] theorem kindOf_3 : kindOf Try.prog 3 = some .i64 := by kernel_rfl
@[simp] theorem eqTy_3 : eqTy Try.prog 3 = none := by kernel_rfl
@[simp] theorem tyL_4 : tyL Try.prog 4 = some (1, false) := by kernel_rfl
@[simp] theorem zcells_4 : zcells Try.prog 4 = some [.w false false (.bool false)] := by kernel_rfl
@[simp] theorem slE_4 : slE Try.prog 4 = none := by kernel_rfl
@[simp] theorem isStr_4 : isStr Try.prog 4 = false := by kernel_rfl
@[simp] theorem isBool_4 : isBool Try.prog 4 = true := by kernel_rfl
@[simp] theorem eqTy_4 : eqTy Try.prog 4 = none := by kernel_rfl
@[simp] theorem tyL_5 : tyL Try.prog 5 = some (1, false) := by kernel_rfl
@[simp] theorem zcells_5 : zcells Try.prog 5 = some [.w false false (.int .u8 (0))] := by kernel_rfl
@[simp] theorem slE_5 : slE Try.prog 5 = none := by kernel_rfl
@[simp] theorem isStr_5 : isStr Try.prog 5 = false := by kernel_rfl
@[simp] theorem kindOf_5 : kindOf Try.prog 5 = some .u8 := by kernel_rfl
@[simp] theorem eqTy_5 : eqTy Try.prog 5 = none := by kernel_rfl
@[simp] theorem tyL_9 : tyL Try.prog 9 = some (1, false) := by kernel_rfl
@[simp] theorem zcells_9 : zcells Try.prog 9 = some [.w false false (.str ByteArray.empty)] := by kernel_rfl
@[simp] theorem slE_9 : slE Try.prog 9 = none := by kernel_rfl
@[simp] theorem isStr_9 : isStr Try.prog 9 = true := by kernel_rfl
@[simp] theorem eqTy_9 : eqTy Try.prog 9 = none := by kernel_rfl
@[simp] theorem tyL_21 : tyL Try.prog 21 = some (1, false) := by kernel_rfl
@[simp] theorem zcells_21 : zcells Try.prog 21 = some [.w false false (.int .i32 (0))] := by kernel_rfl
@[simp] theorem slE_21 : slE Try.prog 21 = none := by kernel_rfl
@[simp] theorem isStr_21 : isStr Try.prog 21 = false := by kernel_rfl
@[simp] theorem kindOf_21 : kindOf Try.prog 21 = some .i32 := by kernel_rfl
@[simp] theorem eqTy_21 : eqTy Try.prog 21 = none := by kernel_rfl
@[simp] theorem tyL_22 : tyL Try.prog 22 = some (1, false) := by kernel_rfl
@[simp] theorem zcells_22 : zcells Try.prog 22 = some [.w true true (.sl 0 [])] := by kernel_rfl
@[simp] theorem slE_22 : slE Try.prog 22 = some (9, 1) := by kernel_rfl
@[simp] theorem byE_9 : byE Try.prog 9 = some 16 := by kernel_rfl
@[simp] theorem isStr_22 : isStr Try.prog 22 = false := by kernel_rfl
@[simp] theorem eqTy_22 : eqTy Try.prog 22 = none := by kernel_rfl
@[simp] theorem tyL_23 : tyL Try.prog 23 = some (1, false) := by kernel_rfl
@[simp] theorem zcells_23 : zcells Try.prog 23 = some [.w true true (.sl 0 [])] := by kernel_rfl
@[simp] theorem slE_23 : slE Try.prog 23 = some (45, 5) := by kernel_rfl
@[simp] theorem byE_45 : byE Try.prog 45 = some 64 := by kernel_rfl
@[simp] theorem isStr_23 : isStr Try.prog 23 = false := by kernel_rfl
@[simp] theorem eqTy_23 : eqTy Try.prog 23 = none := by kernel_rfl
@[simp] theorem tyL_24 : tyL Try.prog 24 = some (2, true) := by kernel_rfl
@[simp] theorem zcells_24 : zcells Try.prog 24 = some [.w true true (.sl 0 []), .w true true (.sl 0 [])] := by kernel_rfl
@[simp] theorem slE_24 : slE Try.prog 24 = none := by kernel_rfl
@[simp] theorem isStr_24 : isStr Try.prog 24 = false := by kernel_rfl
@[simp] theorem fOf_24_0 : fOf Try.prog 24 0 = some (0, 1, false) := by kernel_rfl
@[simp] theorem fOf_24_1 : fOf Try.prog 24 1 = some (1, 1, false) := by kernel_rfl
@[simp] theorem pls_24 : pls Try.prog 24 = some [(0, 1), (1, 1)] := by kernel_rfl
@[simp] theorem tyL_25 : tyL Try.prog 25 = some (2, true) := by kernel_rfl
@[simp] theorem zcells_25 : zcells Try.prog 25 = some [.w true true (.sl 0 []), .w true true (.sl 0 [])] := by kernel_rfl
@[simp] theorem slE_25 : slE Try.prog 25 = none := by kernel_rfl
@[simp] theorem isStr_25 : isStr Try.prog 25 = false := by kernel_rfl
@[simp] theorem fOf_25_0 : fOf Try.prog 25 0 = some (0, 1, false) := by kernel_rfl
@[simp] theorem fOf_25_1 : fOf Try.prog 25 1 = some (1, 1, false) := by kernel_rfl
@[simp] theorem pls_25 : pls Try.prog 25 = some [(0, 1), (1, 1)] := by kernel_rfl
@[simp] theorem tyL_26 : tyL Try.prog 26 = some (1, false) := by kernel_rfl
@[simp] theorem tyL_27 : tyL Try.prog 27 = some (1, false) := by kernel_rfl
@[simp] theorem tyL_28 : tyL Try.prog 28 = some (2, true) := by kernel_rfl
@[simp] theorem zcells_28 : zcells Try.prog 28 = some [.w false false (.int .i64 (0)), .w false false (.int .i64 (0))] := by kernel_rfl
@[simp] theorem slE_28 : slE Try.prog 28 = none := by kernel_rfl
@[simp] theorem isStr_28 : isStr Try.prog 28 = false := by kernel_rfl
@[simp] theorem fOf_28_0 : fOf Try.prog 28 0 = some (0, 1, false) := by kernel_rfl
@[simp] theorem fOf_28_1 : fOf Try.prog 28 1 = some (1, 1, false) := by kernel_rfl
@[simp] theorem pls_28 : pls Try.prog 28 = some [(0, 1), (1, 1)] := by kernel_rfl
@[simp] theorem eqTy_28 : eqTy Try.prog 28 = some [1, 1] := by kernel_rfl
@[simp] theorem tyL_29 : tyL Try.prog 29 = some (2, true) := by kernel_rfl
@[simp] theorem zcells_29 : zcells Try.prog 29 = some [.w false false (.int .i64 (0)), .w false false (.int .i64 (0))] := by kernel_rfl
@[simp] theorem slE_29 : slE Try.prog 29 = none := by kernel_rfl
@[simp] theorem isStr_29 : isStr Try.prog 29 = false := by kernel_rfl
@[simp] theorem fOf_29_0 : fOf Try.prog 29 0 = some (0, 1, false) := by kernel_rfl
@[simp] theorem fOf_29_1 : fOf Try.prog 29 1 = some (1, 1, false) := by kernel_rfl
@[simp] theorem pls_29 : pls Try.prog 29 = some [(0, 1), (1, 1)] := by kernel_rfl
@[simp] theorem eqTy_29 : eqTy Try.prog 29 = some [1, 1] := by kernel_rfl
@[simp] theorem tyL_30 : tyL Try.prog 30 = some (1, false) := by kernel_rfl
@[simp] theorem zcells_30 : zcells Try.prog 30 = some [.w false false (.int .i64 (0))] := by kernel_rfl
@[simp] theorem slE_30 : slE Try.prog 30 = none := by kernel_rfl
@[simp] theorem isStr_30 : isStr Try.prog 30 = false := by kernel_rfl
@[simp] theorem kindOf_30 : kindOf Try.prog 30 = some .i64 := by kernel_rfl
@[simp] theorem eqTy_30 : eqTy Try.prog 30 = none := by kernel_rfl
@[simp] theorem tyL_32 : tyL Try.prog 32 = some (1, false) := by kernel_rfl
@[simp] theorem tyL_33 : tyL Try.prog 33 = some (1, false) := by kernel_rfl
@[simp] theorem tyL_34 : tyL Try.prog 34 = some (2, true) := by kernel_rfl
@[simp] theorem zcells_34 : zcells Try.prog 34 = some [.w false false (.int .i64 (0)), .w false false (.int .i64 (0))] := by kernel_rfl
@[simp] theorem slE_34 : slE Try.prog 34 = none := by kernel_rfl
@[simp] theorem isStr_34 : isStr Try.prog 34 = false := by kernel_rfl
@[simp] theorem fOf_34_0 : fOf Try.prog 34 0 = some (0, 1, false) := by kernel_rfl
@[simp] theorem fOf_34_1 : fOf Try.prog 34 1 = some (1, 1, false) := by kernel_rfl
@[simp] theorem pls_34 : pls Try.prog 34 = some [(0, 1), (1, 1)] := by kernel_rfl
@[simp] theorem eqTy_34 : eqTy Try.prog 34 = some [1, 1] := by kernel_rfl
@[simp] theorem tyL_35 : tyL Try.prog 35 = some (2, true) := by kernel_rfl
@[simp] theorem zcells_35 : zcells Try.prog 35 = some [.w false false (.int .i64 (0)), .w false false (.int .i64 (0))] := by kernel_rfl
@[simp] theorem slE_35 : slE Try.prog 35 = none := by kernel_rfl
@[simp] theorem isStr_35 : isStr Try.prog 35 = false := by kernel_rfl
@[simp] theorem fOf_35_0 : fOf Try.prog 35 0 = some (0, 1, false) := by kernel_rfl
@[simp] theorem fOf_35_1 : fOf Try.prog 35 1 = some (1, 1, false) := by kernel_rfl
@[simp] theorem pls_35 : pls Try.prog 35 = some [(0, 1), (1, 1)] := by kernel_rfl
@[simp] theorem eqTy_35 : eqTy Try.prog 35 = some [1, 1] := by kernel_rfl
@[simp] theorem tyL_37 : tyL Try.prog 37 = some (1, false) := by kernel_rfl
@[simp] theorem tyL_39 : tyL Try.prog 39 = some (1, false) := by kernel_rfl
@[simp] theorem tyL_40 : tyL Try.prog 40 = some (1, false) := by kernel_rfl
@[simp] theorem tyL_41 : tyL Try.prog 41 = some (1, false) := by kernel_rfl
@[simp] theorem tyL_42 : tyL Try.prog 42 = some (1, false) := by kernel_rfl
@[simp] theorem tyL_43 : tyL Try.prog 43 = some (1, false) := by kernel_rfl
@[simp] theorem zcells_43 : zcells Try.prog 43 = some [.w true true (.sl 0 [])] := by kernel_rfl
@[simp] theorem slE_43 : slE Try.prog 43 = some (141, 3) := by kernel_rfl
@[simp] theorem byE_141 : byE Try.prog 141 = some 24 := by kernel_rfl
@[simp] theorem isStr_43 : isStr Try.prog 43 = false := by kernel_rfl
@[simp] theorem eqTy_43 : eqTy Try.prog 43 = none := by kernel_rfl
@[simp] theorem tyL_44 : tyL Try.prog 44 = some (5, true) := by kernel_rfl
@[simp] theorem zcells_44 : zcells Try.prog 44 = some [.w false false (.str ByteArray.empty), .w false false (.int .i64 (0)), .w false false (.int .i64 (0)), .w false false (.int .i64 (0)), .w true true (.sl 0 [])] := by kernel_rfl
@[simp] theorem slE_44 : slE Try.prog 44 = none := by kernel_rfl
@[simp] theorem isStr_44 : isStr Try.prog 44 = false := by kernel_rfl
@[simp] theorem fOf_44_0 : fOf Try.prog 44 0 = some (0, 1, false) := by kernel_rfl
@[simp] theorem fOf_44_1 : fOf Try.prog 44 1 = some (1, 1, false) := by kernel_rfl
@[simp] theorem fOf_44_2 : fOf Try.prog 44 2 = some (2, 1, false) := by kernel_rfl
@[simp] theorem fOf_44_3 : fOf Try.prog 44 3 = some (3, 1, false) := by kernel_rfl
@[simp] theorem fOf_44_4 : fOf Try.prog 44 4 = some (4, 1, false) := by kernel_rfl
@[simp] theorem pls_44 : pls Try.prog 44 = some [(0, 1), (1, 1), (2, 1), (3, 1), (4, 1)] := by kernel_rfl
@[simp] theorem tyL_45 : tyL Try.prog 45 = some (5, true) := by kernel_rfl
@[simp] theorem zcells_45 : zcells Try.prog 45 = some [.w false false (.str ByteArray.empty), .w false false (.int .i64 (0)), .w false false (.int .i64 (0)), .w false false (.int .i64 (0)), .w true true (.sl 0 [])] := by kernel_rfl
@[simp] theorem slE_45 : slE Try.prog 45 = none := by kernel_rfl
@[simp] theorem isStr_45 : isStr Try.prog 45 = false := by kernel_rfl
@[simp] theorem fOf_45_0 : fOf Try.prog 45 0 = some (0, 1, false) := by kernel_rfl
@[simp] theorem fOf_45_1 : fOf Try.prog 45 1 = some (1, 1, false) := by kernel_rfl
@[simp] theorem fOf_45_2 : fOf Try.prog 45 2 = some (2, 1, false) := by kernel_rfl
@[simp] theorem fOf_45_3 : fOf Try.prog 45 3 = some (3, 1, false) := by kernel_rfl
@[simp] theorem fOf_45_4 : fOf Try.prog 45 4 = some (4, 1, false) := by kernel_rfl
@[simp] theorem pls_45 : pls Try.prog 45 = some [(0, 1), (1, 1), (2, 1), (3, 1), (4, 1)] := by kernel_rfl
@[simp] theorem tyL_46 : tyL Try.prog 46 = some (1, false) := by kernel_rfl
@[simp] theorem tyL_47 : tyL Try.prog 47 = some (3, true) := by kernel_rfl
@[simp] theorem zcells_47 : zcells Try.prog 47 = some [.w false false (.int .i64 (0)), .w false false (.int .i64 (0)), .w false false (.int .i64 (0))] := by kernel_rfl
@[simp] theorem slE_47 : slE Try.prog 47 = none := by kernel_rfl
@[simp] theorem isStr_47 : isStr Try.prog 47 = false := by kernel_rfl
@[simp] theorem fOf_47_0 : fOf Try.prog 47 0 = some (0, 1, false) := by kernel_rfl
@[simp] theorem fOf_47_1 : fOf Try.prog 47 1 = some (1, 1, false) := by kernel_rfl
@[simp] theorem fOf_47_2 : fOf Try.prog 47 2 = some (2, 1, false) := by kernel_rfl
@[simp] theorem pls_47 : pls Try.prog 47 = some [(0, 1), (1, 1), (2, 1)] := by kernel_rfl
@[simp] theorem eqTy_47 : eqTy Try.prog 47 = some [1, 1, 1] := by kernel_rfl
@[simp] theorem tyL_48 : tyL Try.prog 48 = some (3, true) := by kernel_rfl
@[simp] theorem zcells_48 : zcells Try.prog 48 = some [.w false false (.int .i64 (0)), .w false false (.int .i64 (0)), .w false false (.int .i64 (0))] := by kernel_rfl
@[simp] theorem slE_48 : slE Try.prog 48 = none := by kernel_rfl
@[simp] theorem isStr_48 : isStr Try.prog 48 = false := by kernel_rfl
@[simp] theorem fOf_48_0 : fOf Try.prog 48 0 = some (0, 1, false) := by kernel_rfl
@[simp] theorem fOf_48_1 : fOf Try.prog 48 1 = some (1, 1, false) := by kernel_rfl
@[simp] theorem fOf_48_2 : fOf Try.prog 48 2 = some (2, 1, false) := by kernel_rfl
@[simp] theorem pls_48 : pls Try.prog 48 = some [(0, 1), (1, 1), (2, 1)] := by kernel_rfl
@[simp] theorem eqTy_48 : eqTy Try.prog 48 = some [1, 1, 1] := by kernel_rfl
@[simp] theorem tyL_50 : tyL Try.prog 50 = some (1, false) := by kernel_rfl
@[simp] theorem tyL_51 : tyL Try.prog 51 = some (1, false) := by kernel_rfl
@[simp] theorem tyL_52 : tyL Try.prog 52 = some (1, false) := by kernel_rfl
@[simp] theorem tyL_53 : tyL Try.prog 53 = some (1, false) := by kernel_rfl
@[simp] theorem tyL_54 : tyL Try.prog 54 = some (1, false) := by kernel_rfl
@[simp] theorem tyL_56 : tyL Try.prog 56 = some (1, false) := by kernel_rfl
@[simp] theorem tyL_57 : tyL Try.prog 57 = some (1, false) := by kernel_rfl
@[simp] theorem tyL_58 : tyL Try.prog 58 = some (1, false) := by kernel_rfl
@[simp] theorem tyL_59 : tyL Try.prog 59 = some (1, false) := by kernel_rfl
@[simp] theorem tyL_60 : tyL Try.prog 60 = some (1, false) := by kernel_rfl
@[simp] theorem zcells_60 : zcells Try.prog 60 = some [.w true true (.sl 0 [])] := by kernel_rfl
@[simp] theorem slE_60 : slE Try.prog 60 = some (3, 1) := by kernel_rfl
@[simp] theorem byE_3 : byE Try.prog 3 = some 8 := by kernel_rfl
@[simp] theorem isStr_60 : isStr Try.prog 60 = false := by kernel_rfl
@[simp] theorem eqTy_60 : eqTy Try.prog 60 = none := by kernel_rfl
@[simp] theorem tyL_61 : tyL Try.prog 61 = some (2, true) := by kernel_rfl
@[simp] theorem zcells_61 : zcells Try.prog 61 = some [.w true true (.sl 0 []), .w false false (.int .i64 (0))] := by kernel_rfl
@[simp] theorem slE_61 : slE Try.prog 61 = none := by kernel_rfl
@[simp] theorem isStr_61 : isStr Try.prog 61 = false := by kernel_rfl
@[simp] theorem fOf_61_0 : fOf Try.prog 61 0 = some (0, 1, false) := by kernel_rfl
@[simp] theorem fOf_61_1 : fOf Try.prog 61 1 = some (1, 1, false) := by kernel_rfl
@[simp] theorem pls_61 : pls Try.prog 61 = some [(0, 1), (1, 1)] := by kernel_rfl
@[simp] theorem tyL_62 : tyL Try.prog 62 = some (2, true) := by kernel_rfl
@[simp] theorem zcells_62 : zcells Try.prog 62 = some [.w true true (.sl 0 []), .w false false (.int .i64 (0))] := by kernel_rfl
@[simp] theorem slE_62 : slE Try.prog 62 = none := by kernel_rfl
@[simp] theorem isStr_62 : isStr Try.prog 62 = false := by kernel_rfl
@[simp] theorem fOf_62_0 : fOf Try.prog 62 0 = some (0, 1, false) := by kernel_rfl
@[simp] theorem fOf_62_1 : fOf Try.prog 62 1 = some (1, 1, false) := by kernel_rfl
@[simp] theorem pls_62 : pls Try.prog 62 = some [(0, 1), (1, 1)] := by kernel_rfl
@[simp] theorem tyL_63 : tyL Try.prog 63 = some (1, false) := by kernel_rfl
@[simp] theorem tyL_64 : tyL Try.prog 64 = some (1, false) := by kernel_rfl
@[simp] theorem tyL_65 : tyL Try.prog 65 = some (3, true) := by kernel_rfl
@[simp] theorem zcells_65 : zcells Try.prog 65 = some [.w false false (.int .i64 (0)), .w false false (.int .i64 (0)), .w false false (.bool false)] := by kernel_rfl
@[simp] theorem slE_65 : slE Try.prog 65 = none := by kernel_rfl
@[simp] theorem isStr_65 : isStr Try.prog 65 = false := by kernel_rfl
@[simp] theorem fOf_65_0 : fOf Try.prog 65 0 = some (0, 1, false) := by kernel_rfl
@[simp] theorem fOf_65_1 : fOf Try.prog 65 1 = some (1, 1, false) := by kernel_rfl
@[simp] theorem fOf_65_2 : fOf Try.prog 65 2 = some (2, 1, false) := by kernel_rfl
@[simp] theorem pls_65 : pls Try.prog 65 = some [(0, 1), (1, 1), (2, 1)] := by kernel_rfl
@[simp] theorem eqTy_65 : eqTy Try.prog 65 = some [1, 1, 0] := by kernel_rfl
@[simp] theorem tyL_66 : tyL Try.prog 66 = some (3, true) := by kernel_rfl
@[simp] theorem zcells_66 : zcells Try.prog 66 = some [.w false false (.int .i64 (0)), .w false false (.int .i64 (0)), .w false false (.bool false)] := by kernel_rfl
@[simp] theorem slE_66 : slE Try.prog 66 = none := by kernel_rfl
@[simp] theorem isStr_66 : isStr Try.prog 66 = false := by kernel_rfl
@[simp] theorem fOf_66_0 : fOf Try.prog 66 0 = some (0, 1, false) := by kernel_rfl
@[simp] theorem fOf_66_1 : fOf Try.prog 66 1 = some (1, 1, false) := by kernel_rfl
@[simp] theorem fOf_66_2 : fOf Try.prog 66 2 = some (2, 1, false) := by kernel_rfl
@[simp] theorem pls_66 : pls Try.prog 66 = some [(0, 1), (1, 1), (2, 1)] := by kernel_rfl
@[simp] theorem eqTy_66 : eqTy Try.prog 66 = some [1, 1, 0] := by kernel_rfl
@[simp] theorem tyL_68 : tyL Try.prog 68 = some (1, false) := by kernel_rfl
@[simp] theorem tyL_70 : tyL Try.prog 70 = some (1, false) := by kernel_rfl
@[simp] theorem tyL_72 : tyL Try.prog 72 = some (1, false) := by kernel_rfl
@[simp] theorem tyL_74 : tyL Try.prog 74 = some (1, false) := by kernel_rfl
@[simp] theorem tyL_75 : tyL Try.prog 75 = some (1, false) := by kernel_rfl
@[simp] theorem tyL_76 : tyL Try.prog 76 = some (1, false) := by kernel_rfl
@[simp] theorem tyL_77 : tyL Try.prog 77 = some (2, true) := by kernel_rfl
@[simp] theorem zcells_77 : zcells Try.prog 77 = some [.w false false (.int .i64 (0)), .w false false (.int .i64 (0))] := by kernel_rfl
@[simp] theorem slE_77 : slE Try.prog 77 = none := by kernel_rfl
@[simp] theorem arE_77 : arE Try.prog 77 = some (2, 1) := by kernel_rfl
@[simp] theorem isStr_77 : isStr Try.prog 77 = false := by kernel_rfl
@[simp] theorem pls_77 : pls Try.prog 77 = some [(0, 1), (1, 1)] := by kernel_rfl
@[simp] theorem eqTy_77 : eqTy Try.prog 77 = some [1, 1] := by kernel_rfl
@[simp] theorem tyL_78 : tyL Try.prog 78 = some (1, false) := by kernel_rfl
@[simp] theorem tyL_79 : tyL Try.prog 79 = some (1, false) := by kernel_rfl
@[simp] theorem tyL_80 : tyL Try.prog 80 = some (1, false) := by kernel_rfl
@[simp] theorem tyL_81 : tyL Try.prog 81 = some (1, false) := by kernel_rfl
@[simp] theorem tyL_82 : tyL Try.prog 82 = some (1, false) := by kernel_rfl
@[simp] theorem tyL_83 : tyL Try.prog 83 = some (1, false) := by kernel_rfl
@[simp] theorem tyL_84 : tyL Try.prog 84 = some (1, false) := by kernel_rfl
@[simp] theorem tyL_85 : tyL Try.prog 85 = some (1, false) := by kernel_rfl
@[simp] theorem tyL_86 : tyL Try.prog 86 = some (1, false) := by kernel_rfl
@[simp] theorem tyL_87 : tyL Try.prog 87 = some (1, false) := by kernel_rfl
@[simp] theorem tyL_89 : tyL Try.prog 89 = some (1, false) := by kernel_rfl
@[simp] theorem tyL_90 : tyL Try.prog 90 = some (1, false) := by kernel_rfl
@[simp] theorem tyL_92 : tyL Try.prog 92 = some (1, false) := by kernel_rfl
@[simp] theorem tyL_94 : tyL Try.prog 94 = some (1, false) := by kernel_rfl
@[simp] theorem tyL_95 : tyL Try.prog 95 = some (1, false) := by kernel_rfl
@[simp] theorem tyL_96 : tyL Try.prog 96 = some (1, false) := by kernel_rfl
@[simp] theorem tyL_97 : tyL Try.prog 97 = some (1, false) := by kernel_rfl
@[simp] theorem zcells_97 : zcells Try.prog 97 = some [.w true true (.sl 0 [])] := by kernel_rfl
@[simp] theorem slE_97 : slE Try.prog 97 = some (60, 1) := by kernel_rfl
@[simp] theorem byE_60 : byE Try.prog 60 = some 24 := by kernel_rfl
@[simp] theorem isStr_97 : isStr Try.prog 97 = false := by kernel_rfl
@[simp] theorem eqTy_97 : eqTy Try.prog 97 = none := by kernel_rfl
@[simp] theorem tyL_99 : tyL Try.prog 99 = some (1, false) := by kernel_rfl
@[simp] theorem tyL_100 : tyL Try.prog 100 = some (1, false) := by kernel_rfl
@[simp] theorem tyL_101 : tyL Try.prog 101 = some (1, false) := by kernel_rfl
@[simp] theorem tyL_102 : tyL Try.prog 102 = some (1, false) := by kernel_rfl
@[simp] theorem tyL_103 : tyL Try.prog 103 = some (1, false) := by kernel_rfl
@[simp] theorem tyL_104 : tyL Try.prog 104 = some (1, false) := by kernel_rfl
@[simp] theorem tyL_105 : tyL Try.prog 105 = some (1, false) := by kernel_rfl
@[simp] theorem tyL_106 : tyL Try.prog 106 = some (1, false) := by kernel_rfl
@[simp] theorem tyL_107 : tyL Try.prog 107 = some (1, false) := by kernel_rfl
@[simp] theorem tyL_108 : tyL Try.prog 108 = some (2, true) := by kernel_rfl
@[simp] theorem zcells_108 : zcells Try.prog 108 = some [.w true true (.sl 0 []), .w true true (.sl 0 [])] := by kernel_rfl
@[simp] theorem slE_108 : slE Try.prog 108 = none := by kernel_rfl
@[simp] theorem isStr_108 : isStr Try.prog 108 = false := by kernel_rfl
@[simp] theorem fOf_108_0 : fOf Try.prog 108 0 = some (0, 1, false) := by kernel_rfl
@[simp] theorem fOf_108_1 : fOf Try.prog 108 1 = some (1, 1, false) := by kernel_rfl
@[simp] theorem pls_108 : pls Try.prog 108 = some [(0, 1), (1, 1)] := by kernel_rfl
@[simp] theorem tyL_109 : tyL Try.prog 109 = some (2, true) := by kernel_rfl
@[simp] theorem zcells_109 : zcells Try.prog 109 = some [.w true true (.sl 0 []), .w true true (.sl 0 [])] := by kernel_rfl
@[simp] theorem slE_109 : slE Try.prog 109 = none := by kernel_rfl
@[simp] theorem isStr_109 : isStr Try.prog 109 = false := by kernel_rfl
@[simp] theorem fOf_109_0 : fOf Try.prog 109 0 = some (0, 1, false) := by kernel_rfl
@[simp] theorem fOf_109_1 : fOf Try.prog 109 1 = some (1, 1, false) := by kernel_rfl
@[simp] theorem pls_109 : pls Try.prog 109 = some [(0, 1), (1, 1)] := by kernel_rfl
@[simp] theorem tyL_110 : tyL Try.prog 110 = some (3, true) := by kernel_rfl
@[simp] theorem zcells_110 : zcells Try.prog 110 = some [.w true true (.sl 0 []), .w true true (.sl 0 []), .w true true (.sl 0 [])] := by kernel_rfl
@[simp] theorem slE_110 : slE Try.prog 110 = none := by kernel_rfl
@[simp] theorem isStr_110 : isStr Try.prog 110 = false := by kernel_rfl
@[simp] theorem fOf_110_0 : fOf Try.prog 110 0 = some (0, 2, true) := by kernel_rfl
@[simp] theorem fOf_110_1 : fOf Try.prog 110 1 = some (2, 1, false) := by kernel_rfl
@[simp] theorem pls_110 : pls Try.prog 110 = some [(0, 2), (2, 1)] := by kernel_rfl
@[simp] theorem tyL_111 : tyL Try.prog 111 = some (3, true) := by kernel_rfl
@[simp] theorem zcells_111 : zcells Try.prog 111 = some [.w true true (.sl 0 []), .w true true (.sl 0 []), .w true true (.sl 0 [])] := by kernel_rfl
@[simp] theorem slE_111 : slE Try.prog 111 = none := by kernel_rfl
@[simp] theorem isStr_111 : isStr Try.prog 111 = false := by kernel_rfl
@[simp] theorem fOf_111_0 : fOf Try.prog 111 0 = some (0, 2, true) := by kernel_rfl
@[simp] theorem fOf_111_1 : fOf Try.prog 111 1 = some (2, 1, false) := by kernel_rfl
@[simp] theorem pls_111 : pls Try.prog 111 = some [(0, 2), (2, 1)] := by kernel_rfl
@[simp] theorem tyL_112 : tyL Try.prog 112 = some (1, false) := by kernel_rfl
@[simp] theorem tyL_113 : tyL Try.prog 113 = some (1, false) := by kernel_rfl
@[simp] theorem tyL_114 : tyL Try.prog 114 = some (1, false) := by kernel_rfl
@[simp] theorem tyL_115 : tyL Try.prog 115 = some (1, false) := by kernel_rfl
@[simp] theorem tyL_117 : tyL Try.prog 117 = some (1, false) := by kernel_rfl
@[simp] theorem tyL_118 : tyL Try.prog 118 = some (1, false) := by kernel_rfl
@[simp] theorem tyL_119 : tyL Try.prog 119 = some (1, false) := by kernel_rfl
@[simp] theorem tyL_120 : tyL Try.prog 120 = some (1, false) := by kernel_rfl
@[simp] theorem tyL_121 : tyL Try.prog 121 = some (1, false) := by kernel_rfl
@[simp] theorem tyL_122 : tyL Try.prog 122 = some (1, false) := by kernel_rfl
@[simp] theorem tyL_123 : tyL Try.prog 123 = some (1, false) := by kernel_rfl
@[simp] theorem tyL_124 : tyL Try.prog 124 = some (1, false) := by kernel_rfl
@[simp] theorem tyL_125 : tyL Try.prog 125 = some (1, false) := by kernel_rfl
@[simp] theorem tyL_126 : tyL Try.prog 126 = some (1, false) := by kernel_rfl
@[simp] theorem tyL_127 : tyL Try.prog 127 = some (1, false) := by kernel_rfl
@[simp] theorem tyL_128 : tyL Try.prog 128 = some (1, false) := by kernel_rfl
@[simp] theorem tyL_129 : tyL Try.prog 129 = some (1, false) := by kernel_rfl
@[simp] theorem tyL_130 : tyL Try.prog 130 = some (2, true) := by kernel_rfl
@[simp] theorem zcells_130 : zcells Try.prog 130 = some [.w true true (.sl 0 []), .w true true (.sl 0 [])] := by kernel_rfl
@[simp] theorem slE_130 : slE Try.prog 130 = none := by kernel_rfl
@[simp] theorem isStr_130 : isStr Try.prog 130 = false := by kernel_rfl
@[simp] theorem fOf_130_0 : fOf Try.prog 130 0 = some (0, 2, true) := by kernel_rfl
@[simp] theorem pls_130 : pls Try.prog 130 = some [(0, 2)] := by kernel_rfl
@[simp] theorem tyL_131 : tyL Try.prog 131 = some (2, true) := by kernel_rfl
@[simp] theorem zcells_131 : zcells Try.prog 131 = some [.w true true (.sl 0 []), .w true true (.sl 0 [])] := by kernel_rfl
@[simp] theorem slE_131 : slE Try.prog 131 = none := by kernel_rfl
@[simp] theorem isStr_131 : isStr Try.prog 131 = false := by kernel_rfl
@[simp] theorem fOf_131_0 : fOf Try.prog 131 0 = some (0, 2, true) := by kernel_rfl
@[simp] theorem pls_131 : pls Try.prog 131 = some [(0, 2)] := by kernel_rfl
@[simp] theorem tyL_133 : tyL Try.prog 133 = some (1, false) := by kernel_rfl
@[simp] theorem tyL_134 : tyL Try.prog 134 = some (1, false) := by kernel_rfl
@[simp] theorem tyL_135 : tyL Try.prog 135 = some (1, false) := by kernel_rfl
@[simp] theorem tyL_136 : tyL Try.prog 136 = some (1, false) := by kernel_rfl
@[simp] theorem tyL_137 : tyL Try.prog 137 = some (1, false) := by kernel_rfl
@[simp] theorem tyL_138 : tyL Try.prog 138 = some (1, false) := by kernel_rfl
@[simp] theorem tyL_139 : tyL Try.prog 139 = some (1, false) := by kernel_rfl
@[simp] theorem tyL_140 : tyL Try.prog 140 = some (3, true) := by kernel_rfl
@[simp] theorem zcells_140 : zcells Try.prog 140 = some [.w false false (.int .i64 (0)), .w false false (.int .i64 (0)), .w false false (.int .i64 (0))] := by kernel_rfl
@[simp] theorem slE_140 : slE Try.prog 140 = none := by kernel_rfl
@[simp] theorem isStr_140 : isStr Try.prog 140 = false := by kernel_rfl
@[simp] theorem fOf_140_0 : fOf Try.prog 140 0 = some (0, 1, false) := by kernel_rfl
@[simp] theorem fOf_140_1 : fOf Try.prog 140 1 = some (1, 2, true) := by kernel_rfl
@[simp] theorem pls_140 : pls Try.prog 140 = some [(0, 1), (1, 2)] := by kernel_rfl
@[simp] theorem eqTy_140 : eqTy Try.prog 140 = some [1, 1, 1] := by kernel_rfl
@[simp] theorem tyL_141 : tyL Try.prog 141 = some (3, true) := by kernel_rfl
@[simp] theorem zcells_141 : zcells Try.prog 141 = some [.w false false (.int .i64 (0)), .w false false (.int .i64 (0)), .w false false (.int .i64 (0))] := by kernel_rfl
@[simp] theorem slE_141 : slE Try.prog 141 = none := by kernel_rfl
@[simp] theorem isStr_141 : isStr Try.prog 141 = false := by kernel_rfl
@[simp] theorem fOf_141_0 : fOf Try.prog 141 0 = some (0, 1, false) := by kernel_rfl
@[simp] theorem fOf_141_1 : fOf Try.prog 141 1 = some (1, 2, true) := by kernel_rfl
@[simp] theorem pls_141 : pls Try.prog 141 = some [(0, 1), (1, 2)] := by kernel_rfl
@[simp] theorem eqTy_141 : eqTy Try.prog 141 = some [1, 1, 1] := by kernel_rfl
@[simp] theorem tyL_142 : tyL Try.prog 142 = some (1, false) := by kernel_rfl
@[simp] theorem tyL_143 : tyL Try.prog 143 = some (1, false) := by kernel_rfl
@[simp] theorem tyL_144 : tyL Try.prog 144 = some (2, true) := by kernel_rfl
@[simp] theorem zcells_144 : zcells Try.prog 144 = some [.w true true (.sl 0 []), .w true true (.sl 0 [])] := by kernel_rfl
@[simp] theorem slE_144 : slE Try.prog 144 = none := by kernel_rfl
@[simp] theorem isStr_144 : isStr Try.prog 144 = false := by kernel_rfl
@[simp] theorem fOf_144_0 : fOf Try.prog 144 0 = some (0, 1, false) := by kernel_rfl
@[simp] theorem fOf_144_1 : fOf Try.prog 144 1 = some (1, 1, false) := by kernel_rfl
@[simp] theorem pls_144 : pls Try.prog 144 = some [(0, 1), (1, 1)] := by kernel_rfl
@[simp] theorem tyL_145 : tyL Try.prog 145 = some (2, true) := by kernel_rfl
@[simp] theorem zcells_145 : zcells Try.prog 145 = some [.w true true (.sl 0 []), .w true true (.sl 0 [])] := by kernel_rfl
@[simp] theorem slE_145 : slE Try.prog 145 = none := by kernel_rfl
@[simp] theorem isStr_145 : isStr Try.prog 145 = false := by kernel_rfl
@[simp] theorem fOf_145_0 : fOf Try.prog 145 0 = some (0, 1, false) := by kernel_rfl
@[simp] theorem fOf_145_1 : fOf Try.prog 145 1 = some (1, 1, false) := by kernel_rfl
@[simp] theorem pls_145 : pls Try.prog 145 = some [(0, 1), (1, 1)] := by kernel_rfl
@[simp] theorem tyL_146 : tyL Try.prog 146 = some (1, false) := by kernel_rfl
@[simp] theorem tyL_147 : tyL Try.prog 147 = some (1, false) := by kernel_rfl
@[simp] theorem tyL_148 : tyL Try.prog 148 = some (1, false) := by kernel_rfl
@[simp] theorem tyL_149 : tyL Try.prog 149 = some (1, false) := by kernel_rfl
@[simp] theorem tyL_150 : tyL Try.prog 150 = some (1, false) := by kernel_rfl
@[simp] theorem tyL_151 : tyL Try.prog 151 = some (1, false) := by kernel_rfl
@[simp] theorem tyL_152 : tyL Try.prog 152 = some (1, false) := by kernel_rfl
@[simp] theorem tyL_153 : tyL Try.prog 153 = some (1, false) := by kernel_rfl
@[simp] theorem tyL_154 : tyL Try.prog 154 = some (1, false) := by kernel_rfl
@[simp] theorem tyL_155 : tyL Try.prog 155 = some (1, false) := by kernel_rfl
@[simp] theorem tyL_156 : tyL Try.prog 156 = some (1, false) := by kernel_rfl
@[simp] theorem tyL_157 : tyL Try.prog 157 = some (1, false) := by kernel_rfl
@[simp] theorem tyL_158 : tyL Try.prog 158 = some (1, false) := by kernel_rfl
@[simp] theorem tyL_159 : tyL Try.prog 159 = some (1, false) := by kernel_rfl
@[simp] theorem tyL_160 : tyL Try.prog 160 = some (1, false) := by kernel_rfl
@[simp] theorem zcells_160 : zcells Try.prog 160 = some [.w true true (.sl 0 [])] := by kernel_rfl
@[simp] theorem slE_160 : slE Try.prog 160 = some (4, 1) := by kernel_rfl
@[simp] theorem byE_4 : byE Try.prog 4 = some 1 := by kernel_rfl
@[simp] theorem isStr_160 : isStr Try.prog 160 = false := by kernel_rfl
@[simp] theorem eqTy_160 : eqTy Try.prog 160 = none := by kernel_rfl
@[simp] theorem tyL_161 : tyL Try.prog 161 = some (1, false) := by kernel_rfl
@[simp] theorem tyL_162 : tyL Try.prog 162 = some (1, false) := by kernel_rfl
@[simp] theorem zcells_162 : zcells Try.prog 162 = some [.w true true (.sl 0 [])] := by kernel_rfl
@[simp] theorem slE_162 : slE Try.prog 162 = some (160, 1) := by kernel_rfl
@[simp] theorem byE_160 : byE Try.prog 160 = some 24 := by kernel_rfl
@[simp] theorem isStr_162 : isStr Try.prog 162 = false := by kernel_rfl
@[simp] theorem eqTy_162 : eqTy Try.prog 162 = none := by kernel_rfl
@[simp] theorem tyL_163 : tyL Try.prog 163 = some (1, false) := by kernel_rfl
@[simp] theorem tyL_164 : tyL Try.prog 164 = some (1, false) := by kernel_rfl
@[simp] theorem tyL_165 : tyL Try.prog 165 = some (2, true) := by kernel_rfl
@[simp] theorem zcells_165 : zcells Try.prog 165 = some [.w false false .undef, .w false false .undef] := by kernel_rfl
@[simp] theorem slE_165 : slE Try.prog 165 = none := by kernel_rfl
@[simp] theorem arE_165 : arE Try.prog 165 = some (2, 1) := by kernel_rfl
@[simp] theorem isStr_165 : isStr Try.prog 165 = false := by kernel_rfl
@[simp] theorem pls_165 : pls Try.prog 165 = some [(0, 1), (1, 1)] := by kernel_rfl
@[simp] theorem tyL_166 : tyL Try.prog 166 = some (2, true) := by kernel_rfl
@[simp] theorem zcells_166 : zcells Try.prog 166 = some [.w true true (.sl 0 []), .w true true (.sl 0 [])] := by kernel_rfl
@[simp] theorem slE_166 : slE Try.prog 166 = none := by kernel_rfl
@[simp] theorem arE_166 : arE Try.prog 166 = some (2, 1) := by kernel_rfl
@[simp] theorem isStr_166 : isStr Try.prog 166 = false := by kernel_rfl
@[simp] theorem pls_166 : pls Try.prog 166 = some [(0, 1), (1, 1)] := by kernel_rfl
@[simp] theorem tyL_167 : tyL Try.prog 167 = some (1, false) := by kernel_rfl
@[simp] theorem tyL_168 : tyL Try.prog 168 = some (1, false) := by kernel_rfl
@[simp] theorem tyL_169 : tyL Try.prog 169 = some (1, false) := by kernel_rfl
@[simp] theorem tyL_170 : tyL Try.prog 170 = some (1, false) := by kernel_rfl
@[simp] theorem zcells_170 : zcells Try.prog 170 = some [.w true true (.sl 0 [])] := by kernel_rfl
@[simp] theorem slE_170 : slE Try.prog 170 = some (30, 1) := by kernel_rfl
@[simp] theorem byE_30 : byE Try.prog 30 = some 8 := by kernel_rfl
@[simp] theorem isStr_170 : isStr Try.prog 170 = false := by kernel_rfl
@[simp] theorem eqTy_170 : eqTy Try.prog 170 = none := by kernel_rfl
@[simp] theorem tyL_171 : tyL Try.prog 171 = some (1, false) := by kernel_rfl
@[simp] theorem zcells_171 : zcells Try.prog 171 = some [.w true true (.sl 0 [])] := by kernel_rfl
@[simp] theorem slE_171 : slE Try.prog 171 = some (5, 1) := by kernel_rfl
@[simp] theorem byE_5 : byE Try.prog 5 = some 1 := by kernel_rfl
@[simp] theorem isStr_171 : isStr Try.prog 171 = false := by kernel_rfl
@[simp] theorem eqTy_171 : eqTy Try.prog 171 = none := by kernel_rfl
@[simp] theorem tyL_172 : tyL Try.prog 172 = some (1, false) := by kernel_rfl
@[simp] theorem tyL_173 : tyL Try.prog 173 = some (1, false) := by kernel_rfl
@[simp] theorem tyL_175 : tyL Try.prog 175 = some (1, false) := by kernel_rfl
@[simp] theorem tyL_176 : tyL Try.prog 176 = some (1, false) := by kernel_rfl
@[simp] theorem tyL_177 : tyL Try.prog 177 = some (1, false) := by kernel_rfl
@[simp] theorem zcells_177 : zcells Try.prog 177 = some [.w false false (.int .u64 (0))] := by kernel_rfl
@[simp] theorem slE_177 : slE Try.prog 177 = none := by kernel_rfl
@[simp] theorem isStr_177 : isStr Try.prog 177 = false := by kernel_rfl
@[simp] theorem kindOf_177 : kindOf Try.prog 177 = some .u64 := by kernel_rfl
@[simp] theorem eqTy_177 : eqTy Try.prog 177 = none := by kernel_rfl
@[simp] theorem tyL_178 : tyL Try.prog 178 = some (1, false) := by kernel_rfl
@[simp] theorem tyL_179 : tyL Try.prog 179 = some (1, false) := by kernel_rfl
@[simp] theorem tyL_180 : tyL Try.prog 180 = some (1, false) := by kernel_rfl
@[simp] theorem tyL_181 : tyL Try.prog 181 = some (1, false) := by kernel_rfl
@[simp] theorem tyL_187 : tyL Try.prog 187 = some (1, false) := by kernel_rfl
@[simp] theorem tyL_188 : tyL Try.prog 188 = some (1, false) := by kernel_rfl
@[simp] theorem zcells_188 : zcells Try.prog 188 = some [.w false false (.int .u32 (0))] := by kernel_rfl
@[simp] theorem slE_188 : slE Try.prog 188 = none := by kernel_rfl
@[simp] theorem isStr_188 : isStr Try.prog 188 = false := by kernel_rfl
@[simp] theorem kindOf_188 : kindOf Try.prog 188 = some .u32 := by kernel_rfl
@[simp] theorem eqTy_188 : eqTy Try.prog 188 = none := by kernel_rfl
@[simp] theorem tyL_192 : tyL Try.prog 192 = some (1, false) := by kernel_rfl
@[simp] theorem zcells_192 : zcells Try.prog 192 = some [.w true false .nilp] := by kernel_rfl
@[simp] theorem slE_192 : slE Try.prog 192 = none := by kernel_rfl
@[simp] theorem isStr_192 : isStr Try.prog 192 = false := by kernel_rfl
@[simp] theorem eqTy_192 : eqTy Try.prog 192 = none := by kernel_rfl
@[simp] theorem byteSl_9_171 : byteSl Try.prog 9 171 = true := by kernel_rfl
@[simp] theorem byteSl_10_171 : byteSl Try.prog 10 171 = true := by kernel_rfl
@[simp] theorem byteSl_11_171 : byteSl Try.prog 11 171 = true := by kernel_rfl
end Go.Proofs.Ytmedbghkldmlhaa
