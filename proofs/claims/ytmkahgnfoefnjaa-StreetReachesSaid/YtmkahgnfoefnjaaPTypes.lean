/- Contracts of functions for this claim: lemmas alone. -/
import Derived.Test.YtmkahgnfoefnjaaProg
import Derived.Test.YtmkahgnfoefnjaaLd
import Derived.KernelRfl
set_option linter.unusedSimpArgs false
set_option linter.unusedVariables false
namespace Go.Proofs.Ytmkahgnfoefnjaa
open Go Go.Fi
set_option maxRecDepth 100000
@[simp] theorem tyL_1 : tyL Try.prog 1 = some (1, false) := by kernel_rfl
@[simp] theorem tyL_2 : tyL Try.prog 2 = some (1, false) := by kernel_rfl
@[simp] theorem zcells_2 : zcells Try.prog 2 = some [.w false false (.int .i64 (0))] := by kernel_rfl
@[simp] theorem slE_2 : slE Try.prog 2 = none := by kernel_rfl
@[simp] theorem isStr_2 : isStr Try.prog 2 = false := by kernel_rfl
@[simp] theorem kindOf_2 : kindOf Try.prog 2 = some .i64 := by kernel_rfl
@[simp] theorem eqTy_2 : eqTy Try.prog 2 = none := by kernel_rfl
@[simp] theorem tyL_3 : tyL Try.prog 3 = some (1, false) := by kernel_rfl
@[simp] theorem zcells_3 : zcells Try.prog 3 = some [.w false false (.int .i64 (0))] := by kernel_rfl
@[simp] theorem slE_3 : slE Try.prog 3 = none := by kernel_rfl
@[simp] theorem isStr_3 : isStr Try.prog 3 = false := by kernel_rfl
@[simp] theorem kindOf_3 : kindOf Try.prog 3 = some .i64 := by kernel_rfl
@[simp] theorem eqTy_3 : eqTy Try.prog 3 = none := by kernel_rfl
@[simp] theorem tyL_4 : tyL Try.prog 4 = some (1, false) := by kernel_rfl
@[simp] theorem zcells_4 : zcells Try.prog 4 = some [.w false false (.bool false)] := by kernel_rfl
@[simp] theorem slE_4 : slE Try.prog 4 = none := by kernel_rfl
@[simp] theorem isStr_4 : isStr Try.prog 4 = false := by kernel_rfl
@[simp] theorem isBool_4 : isBool Try.prog 4 = true := by kernel_rfl
@[simp] theorem eqTy_4 : eqTy Try.prog 4 = none := by kernel_rfl
@[simp] theorem tyL_5 : tyL Try.prog 5 = some (1, false) := by kernel_rfl
@[simp] theorem zcells_5 : zcells Try.prog 5 = some [.w false false (.int .u8 (0))] := by kernel_rfl
@[simp] theorem slE_5 : slE Try.prog 5 = none := by kernel_rfl
@[simp] theorem isStr_5 : isStr Try.prog 5 = false := by kernel_rfl
@[simp] theorem kindOf_5 : kindOf Try.prog 5 = some .u8 := by kernel_rfl
@[simp] theorem eqTy_5 : eqTy Try.prog 5 = none := by kernel_rfl
@[simp] theorem tyL_9 : tyL Try.prog 9 = some (1, false) := by kernel_rfl
@[simp] theorem zcells_9 : zcells Try.prog 9 = some [.w false false (.str ByteArray.empty)] := by kernel_rfl
@[simp] theorem slE_9 : slE Try.prog 9 = none := by kernel_rfl
@[simp] theorem isStr_9 : isStr Try.prog 9 = true := by kernel_rfl
@[simp] theorem eqTy_9 : eqTy Try.prog 9 = none := by kernel_rfl
@[simp] theorem tyL_21 : tyL Try.prog 21 = some (1, false) := by kernel_rfl
@[simp] theorem zcells_21 : zcells Try.prog 21 = some [.w false false (.int .i32 (0))] := by kernel_rfl
@[simp] theorem slE_21 : slE Try.prog 21 = none := by kernel_rfl
@[simp] theorem isStr_21 : isStr Try.prog 21 = false := by kernel_rfl
@[simp] theorem kindOf_21 : kindOf Try.prog 21 = some .i32 := by kernel_rfl
@[simp] theorem eqTy_21 : eqTy Try.prog 21 = none := by kernel_rfl
@[simp] theorem tyL_22 : tyL Try.prog 22 = some (1, false) := by kernel_rfl
@[simp] theorem zcells_22 : zcells Try.prog 22 = some [.w true true (.sl 0 [])] := by kernel_rfl
@[simp] theorem slE_22 : slE Try.prog 22 = some (9, 1) := by kernel_rfl
@[simp] theorem byE_9 : byE Try.prog 9 = some 16 := by kernel_rfl
@[simp] theorem isStr_22 : isStr Try.prog 22 = false := by kernel_rfl
@[simp] theorem eqTy_22 : eqTy Try.prog 22 = none := by kernel_rfl
@[simp] theorem tyL_23 : tyL Try.prog 23 = some (1, false) := by kernel_rfl
@[simp] theorem zcells_23 : zcells Try.prog 23 = some [.w true true (.sl 0 [])] := by kernel_rfl
@[simp] theorem slE_23 : slE Try.prog 23 = some (61, 5) := by kernel_rfl
@[simp] theorem byE_61 : byE Try.prog 61 = some 64 := by kernel_rfl
@[simp] theorem isStr_23 : isStr Try.prog 23 = false := by kernel_rfl
@[simp] theorem eqTy_23 : eqTy Try.prog 23 = none := by kernel_rfl
@[simp] theorem tyL_24 : tyL Try.prog 24 = some (2, true) := by kernel_rfl
@[simp] theorem zcells_24 : zcells Try.prog 24 = some [.w true true (.sl 0 []), .w true true (.sl 0 [])] := by kernel_rfl
@[simp] theorem slE_24 : slE Try.prog 24 = none := by kernel_rfl
@[simp] theorem isStr_24 : isStr Try.prog 24 = false := by kernel_rfl
@[simp] theorem fOf_24_0 : fOf Try.prog 24 0 = some (0, 1, false) := by kernel_rfl
@[simp] theorem fOf_24_1 : fOf Try.prog 24 1 = some (1, 1, false) := by kernel_rfl
@[simp] theorem pls_24 : pls Try.prog 24 = some [(0, 1), (1, 1)] := by kernel_rfl
@[simp] theorem tyL_25 : tyL Try.prog 25 = some (2, true) := by kernel_rfl
@[simp] theorem zcells_25 : zcells Try.prog 25 = some [.w true true (.sl 0 []), .w true true (.sl 0 [])] := by kernel_rfl
@[simp] theorem slE_25 : slE Try.prog 25 = none := by kernel_rfl
@[simp] theorem isStr_25 : isStr Try.prog 25 = false := by kernel_rfl
@[simp] theorem fOf_25_0 : fOf Try.prog 25 0 = some (0, 1, false) := by kernel_rfl
@[simp] theorem fOf_25_1 : fOf Try.prog 25 1 = some (1, 1, false) := by kernel_rfl
@[simp] theorem pls_25 : pls Try.prog 25 = some [(0, 1), (1, 1)] := by kernel_rfl
@[simp] theorem tyL_26 : tyL Try.prog 26 = some (2, true) := by kernel_rfl
@[simp] theorem zcells_26 : zcells Try.prog 26 = some [.w false false (.int .i64 (0)), .w false false (.int .i64 (0))] := by kernel_rfl
@[simp] theorem slE_26 : slE Try.prog 26 = none := by kernel_rfl
@[simp] theorem arE_26 : arE Try.prog 26 = some (2, 1) := by kernel_rfl
@[simp] theorem isStr_26 : isStr Try.prog 26 = false := by kernel_rfl
@[simp] theorem pls_26 : pls Try.prog 26 = some [(0, 1), (1, 1)] := by kernel_rfl
@[simp] theorem eqTy_26 : eqTy Try.prog 26 = some [1, 1] := by kernel_rfl
@[simp] theorem tyL_27 : tyL Try.prog 27 = some (1, false) := by kernel_rfl
@[simp] theorem tyL_28 : tyL Try.prog 28 = some (1, false) := by kernel_rfl
@[simp] theorem tyL_29 : tyL Try.prog 29 = some (1, false) := by kernel_rfl
@[simp] theorem zcells_29 : zcells Try.prog 29 = some [.w true true (.sl 0 [])] := by kernel_rfl
@[simp] theorem slE_29 : slE Try.prog 29 = some (3, 1) := by kernel_rfl
@[simp] theorem byE_3 : byE Try.prog 3 = some 8 := by kernel_rfl
@[simp] theorem isStr_29 : isStr Try.prog 29 = false := by kernel_rfl
@[simp] theorem eqTy_29 : eqTy Try.prog 29 = none := by kernel_rfl
@[simp] theorem tyL_30 : tyL Try.prog 30 = some (1, false) := by kernel_rfl
@[simp] theorem zcells_30 : zcells Try.prog 30 = some [.w false false (.int .i64 (0))] := by kernel_rfl
@[simp] theorem slE_30 : slE Try.prog 30 = none := by kernel_rfl
@[simp] theorem isStr_30 : isStr Try.prog 30 = false := by kernel_rfl
@[simp] theorem kindOf_30 : kindOf Try.prog 30 = some .i64 := by kernel_rfl
@[simp] theorem eqTy_30 : eqTy Try.prog 30 = none := by kernel_rfl
@[simp] theorem tyL_32 : tyL Try.prog 32 = some (1, false) := by kernel_rfl
@[simp] theorem tyL_33 : tyL Try.prog 33 = some (1, false) := by kernel_rfl
@[simp] theorem tyL_34 : tyL Try.prog 34 = some (1, false) := by kernel_rfl
@[simp] theorem zcells_34 : zcells Try.prog 34 = some [.w true true (.sl 0 [])] := by kernel_rfl
@[simp] theorem slE_34 : slE Try.prog 34 = some (29, 1) := by kernel_rfl
@[simp] theorem byE_29 : byE Try.prog 29 = some 24 := by kernel_rfl
@[simp] theorem isStr_34 : isStr Try.prog 34 = false := by kernel_rfl
@[simp] theorem eqTy_34 : eqTy Try.prog 34 = none := by kernel_rfl
@[simp] theorem tyL_36 : tyL Try.prog 36 = some (1, false) := by kernel_rfl
@[simp] theorem tyL_37 : tyL Try.prog 37 = some (1, false) := by kernel_rfl
@[simp] theorem tyL_38 : tyL Try.prog 38 = some (1, false) := by kernel_rfl
@[simp] theorem tyL_39 : tyL Try.prog 39 = some (1, false) := by kernel_rfl
@[simp] theorem tyL_40 : tyL Try.prog 40 = some (1, false) := by kernel_rfl
@[simp] theorem tyL_41 : tyL Try.prog 41 = some (1, false) := by kernel_rfl
@[simp] theorem tyL_42 : tyL Try.prog 42 = some (1, false) := by kernel_rfl
@[simp] theorem tyL_43 : tyL Try.prog 43 = some (1, false) := by kernel_rfl
@[simp] theorem tyL_44 : tyL Try.prog 44 = some (1, false) := by kernel_rfl
@[simp] theorem tyL_45 : tyL Try.prog 45 = some (1, false) := by kernel_rfl
@[simp] theorem tyL_46 : tyL Try.prog 46 = some (1, false) := by kernel_rfl
@[simp] theorem tyL_47 : tyL Try.prog 47 = some (2, true) := by kernel_rfl
@[simp] theorem zcells_47 : zcells Try.prog 47 = some [.w false false (.int .i64 (0)), .w false false (.int .i64 (0))] := by kernel_rfl
@[simp] theorem slE_47 : slE Try.prog 47 = none := by kernel_rfl
@[simp] theorem isStr_47 : isStr Try.prog 47 = false := by kernel_rfl
@[simp] theorem fOf_47_0 : fOf Try.prog 47 0 = some (0, 1, false) := by kernel_rfl
@[simp] theorem fOf_47_1 : fOf Try.prog 47 1 = some (1, 1, false) := by kernel_rfl
@[simp] theorem pls_47 : pls Try.prog 47 = some [(0, 1), (1, 1)] := by kernel_rfl
@[simp] theorem eqTy_47 : eqTy Try.prog 47 = some [1, 1] := by kernel_rfl
@[simp] theorem tyL_48 : tyL Try.prog 48 = some (2, true) := by kernel_rfl
@[simp] theorem zcells_48 : zcells Try.prog 48 = some [.w false false (.int .i64 (0)), .w false false (.int .i64 (0))] := by kernel_rfl
@[simp] theorem slE_48 : slE Try.prog 48 = none := by kernel_rfl
@[simp] theorem isStr_48 : isStr Try.prog 48 = false := by kernel_rfl
@[simp] theorem fOf_48_0 : fOf Try.prog 48 0 = some (0, 1, false) := by kernel_rfl
@[simp] theorem fOf_48_1 : fOf Try.prog 48 1 = some (1, 1, false) := by kernel_rfl
@[simp] theorem pls_48 : pls Try.prog 48 = some [(0, 1), (1, 1)] := by kernel_rfl
@[simp] theorem eqTy_48 : eqTy Try.prog 48 = some [1, 1] := by kernel_rfl
@[simp] theorem tyL_50 : tyL Try.prog 50 = some (1, false) := by kernel_rfl
@[simp] theorem tyL_51 : tyL Try.prog 51 = some (1, false) := by kernel_rfl
@[simp] theorem tyL_52 : tyL Try.prog 52 = some (1, false) := by kernel_rfl
@[simp] theorem tyL_53 : tyL Try.prog 53 = some (3, true) := by kernel_rfl
@[simp] theorem zcells_53 : zcells Try.prog 53 = some [.w false false (.int .i64 (0)), .w false false (.int .i64 (0)), .w false false (.int .i64 (0))] := by kernel_rfl
@[simp] theorem slE_53 : slE Try.prog 53 = none := by kernel_rfl
@[simp] theorem isStr_53 : isStr Try.prog 53 = false := by kernel_rfl
@[simp] theorem fOf_53_0 : fOf Try.prog 53 0 = some (0, 1, false) := by kernel_rfl
@[simp] theorem fOf_53_1 : fOf Try.prog 53 1 = some (1, 1, false) := by kernel_rfl
@[simp] theorem fOf_53_2 : fOf Try.prog 53 2 = some (2, 1, false) := by kernel_rfl
@[simp] theorem pls_53 : pls Try.prog 53 = some [(0, 1), (1, 1), (2, 1)] := by kernel_rfl
@[simp] theorem eqTy_53 : eqTy Try.prog 53 = some [1, 1, 1] := by kernel_rfl
@[simp] theorem tyL_54 : tyL Try.prog 54 = some (3, true) := by kernel_rfl
@[simp] theorem zcells_54 : zcells Try.prog 54 = some [.w false false (.int .i64 (0)), .w false false (.int .i64 (0)), .w false false (.int .i64 (0))] := by kernel_rfl
@[simp] theorem slE_54 : slE Try.prog 54 = none := by kernel_rfl
@[simp] theorem isStr_54 : isStr Try.prog 54 = false := by kernel_rfl
@[simp] theorem fOf_54_0 : fOf Try.prog 54 0 = some (0, 1, false) := by kernel_rfl
@[simp] theorem fOf_54_1 : fOf Try.prog 54 1 = some (1, 1, false) := by kernel_rfl
@[simp] theorem fOf_54_2 : fOf Try.prog 54 2 = some (2, 1, false) := by kernel_rfl
@[simp] theorem pls_54 : pls Try.prog 54 = some [(0, 1), (1, 1), (2, 1)] := by kernel_rfl
@[simp] theorem eqTy_54 : eqTy Try.prog 54 = some [1, 1, 1] := by kernel_rfl
@[simp] theorem tyL_56 : tyL Try.prog 56 = some (1, false) := by kernel_rfl
@[simp] theorem tyL_58 : tyL Try.prog 58 = some (1, false) := by kernel_rfl
@[simp] theorem tyL_59 : tyL Try.prog 59 = some (1, false) := by kernel_rfl
@[simp] theorem zcells_59 : zcells Try.prog 59 = some [.w true true (.sl 0 [])] := by kernel_rfl
@[simp] theorem slE_59 : slE Try.prog 59 = some (83, 3) := by kernel_rfl
@[simp] theorem byE_83 : byE Try.prog 83 = some 24 := by kernel_rfl
@[simp] theorem isStr_59 : isStr Try.prog 59 = false := by kernel_rfl
@[simp] theorem eqTy_59 : eqTy Try.prog 59 = none := by kernel_rfl
@[simp] theorem tyL_60 : tyL Try.prog 60 = some (5, true) := by kernel_rfl
@[simp] theorem zcells_60 : zcells Try.prog 60 = some [.w false false (.str ByteArray.empty), .w false false (.int .i64 (0)), .w false false (.int .i64 (0)), .w false false (.int .i64 (0)), .w true true (.sl 0 [])] := by kernel_rfl
@[simp] theorem slE_60 : slE Try.prog 60 = none := by kernel_rfl
@[simp] theorem isStr_60 : isStr Try.prog 60 = false := by kernel_rfl
@[simp] theorem fOf_60_0 : fOf Try.prog 60 0 = some (0, 1, false) := by kernel_rfl
@[simp] theorem fOf_60_1 : fOf Try.prog 60 1 = some (1, 1, false) := by kernel_rfl
@[simp] theorem fOf_60_2 : fOf Try.prog 60 2 = some (2, 1, false) := by kernel_rfl
@[simp] theorem fOf_60_3 : fOf Try.prog 60 3 = some (3, 1, false) := by kernel_rfl
@[simp] theorem fOf_60_4 : fOf Try.prog 60 4 = some (4, 1, false) := by kernel_rfl
@[simp] theorem pls_60 : pls Try.prog 60 = some [(0, 1), (1, 1), (2, 1), (3, 1), (4, 1)] := by kernel_rfl
@[simp] theorem tyL_61 : tyL Try.prog 61 = some (5, true) := by kernel_rfl
@[simp] theorem zcells_61 : zcells Try.prog 61 = some [.w false false (.str ByteArray.empty), .w false false (.int .i64 (0)), .w false false (.int .i64 (0)), .w false false (.int .i64 (0)), .w true true (.sl 0 [])] := by kernel_rfl
@[simp] theorem slE_61 : slE Try.prog 61 = none := by kernel_rfl
@[simp] theorem isStr_61 : isStr Try.prog 61 = false := by kernel_rfl
@[simp] theorem fOf_61_0 : fOf Try.prog 61 0 = some (0, 1, false) := by kernel_rfl
@[simp] theorem fOf_61_1 : fOf Try.prog 61 1 = some (1, 1, false) := by kernel_rfl
@[simp] theorem fOf_61_2 : fOf Try.prog 61 2 = some (2, 1, false) := by kernel_rfl
@[simp] theorem fOf_61_3 : fOf Try.prog 61 3 = some (3, 1, false) := by kernel_rfl
@[simp] theorem fOf_61_4 : fOf Try.prog 61 4 = some (4, 1, false) := by kernel_rfl
@[simp] theorem pls_61 : pls Try.prog 61 = some [(0, 1), (1, 1), (2, 1), (3, 1), (4, 1)] := by kernel_rfl
@[simp] theorem tyL_62 : tyL Try.prog 62 = some (2, true) := by kernel_rfl
@[simp] theorem zcells_62 : zcells Try.prog 62 = some [.w true true (.sl 0 []), .w true true (.sl 0 [])] := by kernel_rfl
@[simp] theorem slE_62 : slE Try.prog 62 = none := by kernel_rfl
@[simp] theorem isStr_62 : isStr Try.prog 62 = false := by kernel_rfl
@[simp] theorem fOf_62_0 : fOf Try.prog 62 0 = some (0, 2, true) := by kernel_rfl
@[simp] theorem pls_62 : pls Try.prog 62 = some [(0, 2)] := by kernel_rfl
@[simp] theorem tyL_63 : tyL Try.prog 63 = some (2, true) := by kernel_rfl
@[simp] theorem zcells_63 : zcells Try.prog 63 = some [.w true true (.sl 0 []), .w true true (.sl 0 [])] := by kernel_rfl
@[simp] theorem slE_63 : slE Try.prog 63 = none := by kernel_rfl
@[simp] theorem isStr_63 : isStr Try.prog 63 = false := by kernel_rfl
@[simp] theorem fOf_63_0 : fOf Try.prog 63 0 = some (0, 2, true) := by kernel_rfl
@[simp] theorem pls_63 : pls Try.prog 63 = some [(0, 2)] := by kernel_rfl
@[simp] theorem tyL_65 : tyL Try.prog 65 = some (1, false) := by kernel_rfl
@[simp] theorem tyL_66 : tyL Try.prog 66 = some (1, false) := by kernel_rfl
@[simp] theorem tyL_67 : tyL Try.prog 67 = some (1, false) := by kernel_rfl
@[simp] theorem tyL_68 : tyL Try.prog 68 = some (1, false) := by kernel_rfl
@[simp] theorem zcells_68 : zcells Try.prog 68 = some [.w true true (.sl 0 [])] := by kernel_rfl
@[simp] theorem slE_68 : slE Try.prog 68 = some (4, 1) := by kernel_rfl
@[simp] theorem byE_4 : byE Try.prog 4 = some 1 := by kernel_rfl
@[simp] theorem isStr_68 : isStr Try.prog 68 = false := by kernel_rfl
@[simp] theorem eqTy_68 : eqTy Try.prog 68 = none := by kernel_rfl
@[simp] theorem tyL_69 : tyL Try.prog 69 = some (1, false) := by kernel_rfl
@[simp] theorem tyL_70 : tyL Try.prog 70 = some (1, false) := by kernel_rfl
@[simp] theorem tyL_71 : tyL Try.prog 71 = some (1, false) := by kernel_rfl
@[simp] theorem zcells_71 : zcells Try.prog 71 = some [.w true true (.sl 0 [])] := by kernel_rfl
@[simp] theorem slE_71 : slE Try.prog 71 = some (68, 1) := by kernel_rfl
@[simp] theorem byE_68 : byE Try.prog 68 = some 24 := by kernel_rfl
@[simp] theorem isStr_71 : isStr Try.prog 71 = false := by kernel_rfl
@[simp] theorem eqTy_71 : eqTy Try.prog 71 = none := by kernel_rfl
@[simp] theorem tyL_72 : tyL Try.prog 72 = some (1, false) := by kernel_rfl
@[simp] theorem tyL_73 : tyL Try.prog 73 = some (1, false) := by kernel_rfl
@[simp] theorem tyL_74 : tyL Try.prog 74 = some (2, true) := by kernel_rfl
@[simp] theorem zcells_74 : zcells Try.prog 74 = some [.w false false (.int .i64 (0)), .w false false (.int .i64 (0))] := by kernel_rfl
@[simp] theorem slE_74 : slE Try.prog 74 = none := by kernel_rfl
@[simp] theorem isStr_74 : isStr Try.prog 74 = false := by kernel_rfl
@[simp] theorem fOf_74_0 : fOf Try.prog 74 0 = some (0, 1, false) := by kernel_rfl
@[simp] theorem fOf_74_1 : fOf Try.prog 74 1 = some (1, 1, false) := by kernel_rfl
@[simp] theorem pls_74 : pls Try.prog 74 = some [(0, 1), (1, 1)] := by kernel_rfl
@[simp] theorem eqTy_74 : eqTy Try.prog 74 = some [1, 1] := by kernel_rfl
@[simp] theorem tyL_75 : tyL Try.prog 75 = some (2, true) := by kernel_rfl
@[simp] theorem zcells_75 : zcells Try.prog 75 = some [.w false false (.int .i64 (0)), .w false false (.int .i64 (0))] := by kernel_rfl
@[simp] theorem slE_75 : slE Try.prog 75 = none := by kernel_rfl
@[simp] theorem isStr_75 : isStr Try.prog 75 = false := by kernel_rfl
@[simp] theorem fOf_75_0 : fOf Try.prog 75 0 = some (0, 1, false) := by kernel_rfl
@[simp] theorem fOf_75_1 : fOf Try.prog 75 1 = some (1, 1, false) := by kernel_rfl
@[simp] theorem pls_75 : pls Try.prog 75 = some [(0, 1), (1, 1)] := by kernel_rfl
@[simp] theorem eqTy_75 : eqTy Try.prog 75 = some [1, 1] := by kernel_rfl
@[simp] theorem tyL_77 : tyL Try.prog 77 = some (1, false) := by kernel_rfl
@[simp] theorem tyL_78 : tyL Try.prog 78 = some (1, false) := by kernel_rfl
@[simp] theorem tyL_79 : tyL Try.prog 79 = some (1, false) := by kernel_rfl
@[simp] theorem tyL_80 : tyL Try.prog 80 = some (1, false) := by kernel_rfl
@[simp] theorem tyL_81 : tyL Try.prog 81 = some (1, false) := by kernel_rfl
@[simp] theorem tyL_82 : tyL Try.prog 82 = some (3, true) := by kernel_rfl
@[simp] theorem zcells_82 : zcells Try.prog 82 = some [.w false false (.int .i64 (0)), .w false false (.int .i64 (0)), .w false false (.int .i64 (0))] := by kernel_rfl
@[simp] theorem slE_82 : slE Try.prog 82 = none := by kernel_rfl
@[simp] theorem isStr_82 : isStr Try.prog 82 = false := by kernel_rfl
@[simp] theorem fOf_82_0 : fOf Try.prog 82 0 = some (0, 1, false) := by kernel_rfl
@[simp] theorem fOf_82_1 : fOf Try.prog 82 1 = some (1, 2, true) := by kernel_rfl
@[simp] theorem pls_82 : pls Try.prog 82 = some [(0, 1), (1, 2)] := by kernel_rfl
@[simp] theorem eqTy_82 : eqTy Try.prog 82 = some [1, 1, 1] := by kernel_rfl
@[simp] theorem tyL_83 : tyL Try.prog 83 = some (3, true) := by kernel_rfl
@[simp] theorem zcells_83 : zcells Try.prog 83 = some [.w false false (.int .i64 (0)), .w false false (.int .i64 (0)), .w false false (.int .i64 (0))] := by kernel_rfl
@[simp] theorem slE_83 : slE Try.prog 83 = none := by kernel_rfl
@[simp] theorem isStr_83 : isStr Try.prog 83 = false := by kernel_rfl
@[simp] theorem fOf_83_0 : fOf Try.prog 83 0 = some (0, 1, false) := by kernel_rfl
@[simp] theorem fOf_83_1 : fOf Try.prog 83 1 = some (1, 2, true) := by kernel_rfl
@[simp] theorem pls_83 : pls Try.prog 83 = some [(0, 1), (1, 2)] := by kernel_rfl
@[simp] theorem eqTy_83 : eqTy Try.prog 83 = some [1, 1, 1] := by kernel_rfl
@[simp] theorem tyL_84 : tyL Try.prog 84 = some (1, false) := by kernel_rfl
@[simp] theorem tyL_85 : tyL Try.prog 85 = some (2, true) := by kernel_rfl
@[simp] theorem zcells_85 : zcells Try.prog 85 = some [.w true true (.sl 0 []), .w true true (.sl 0 [])] := by kernel_rfl
@[simp] theorem slE_85 : slE Try.prog 85 = none := by kernel_rfl
@[simp] theorem isStr_85 : isStr Try.prog 85 = false := by kernel_rfl
@[simp] theorem fOf_85_0 : fOf Try.prog 85 0 = some (0, 1, false) := by kernel_rfl
@[simp] theorem fOf_85_1 : fOf Try.prog 85 1 = some (1, 1, false) := by kernel_rfl
@[simp] theorem pls_85 : pls Try.prog 85 = some [(0, 1), (1, 1)] := by kernel_rfl
@[simp] theorem tyL_86 : tyL Try.prog 86 = some (2, true) := by kernel_rfl
@[simp] theorem zcells_86 : zcells Try.prog 86 = some [.w true true (.sl 0 []), .w true true (.sl 0 [])] := by kernel_rfl
@[simp] theorem slE_86 : slE Try.prog 86 = none := by kernel_rfl
@[simp] theorem isStr_86 : isStr Try.prog 86 = false := by kernel_rfl
@[simp] theorem fOf_86_0 : fOf Try.prog 86 0 = some (0, 1, false) := by kernel_rfl
@[simp] theorem fOf_86_1 : fOf Try.prog 86 1 = some (1, 1, false) := by kernel_rfl
@[simp] theorem pls_86 : pls Try.prog 86 = some [(0, 1), (1, 1)] := by kernel_rfl
@[simp] theorem tyL_87 : tyL Try.prog 87 = some (1, false) := by kernel_rfl
@[simp] theorem tyL_88 : tyL Try.prog 88 = some (1, false) := by kernel_rfl
@[simp] theorem tyL_89 : tyL Try.prog 89 = some (1, false) := by kernel_rfl
@[simp] theorem tyL_90 : tyL Try.prog 90 = some (1, false) := by kernel_rfl
@[simp] theorem tyL_91 : tyL Try.prog 91 = some (1, false) := by kernel_rfl
@[simp] theorem tyL_93 : tyL Try.prog 93 = some (1, false) := by kernel_rfl
@[simp] theorem tyL_94 : tyL Try.prog 94 = some (1, false) := by kernel_rfl
@[simp] theorem zcells_94 : zcells Try.prog 94 = some [.w true true (.sl 0 [])] := by kernel_rfl
@[simp] theorem slE_94 : slE Try.prog 94 = some (30, 1) := by kernel_rfl
@[simp] theorem byE_30 : byE Try.prog 30 = some 8 := by kernel_rfl
@[simp] theorem isStr_94 : isStr Try.prog 94 = false := by kernel_rfl
@[simp] theorem eqTy_94 : eqTy Try.prog 94 = none := by kernel_rfl
@[simp] theorem tyL_95 : tyL Try.prog 95 = some (1, false) := by kernel_rfl
@[simp] theorem tyL_96 : tyL Try.prog 96 = some (1, false) := by kernel_rfl
@[simp] theorem tyL_97 : tyL Try.prog 97 = some (1, false) := by kernel_rfl
@[simp] theorem tyL_98 : tyL Try.prog 98 = some (1, false) := by kernel_rfl
@[simp] theorem tyL_100 : tyL Try.prog 100 = some (1, false) := by kernel_rfl
@[simp] theorem tyL_101 : tyL Try.prog 101 = some (1, false) := by kernel_rfl
@[simp] theorem tyL_103 : tyL Try.prog 103 = some (1, false) := by kernel_rfl
@[simp] theorem tyL_104 : tyL Try.prog 104 = some (1, false) := by kernel_rfl
@[simp] theorem tyL_105 : tyL Try.prog 105 = some (1, false) := by kernel_rfl
@[simp] theorem tyL_106 : tyL Try.prog 106 = some (1, false) := by kernel_rfl
@[simp] theorem tyL_107 : tyL Try.prog 107 = some (1, false) := by kernel_rfl
@[simp] theorem tyL_108 : tyL Try.prog 108 = some (1, false) := by kernel_rfl
@[simp] theorem tyL_109 : tyL Try.prog 109 = some (1, false) := by kernel_rfl
@[simp] theorem zcells_109 : zcells Try.prog 109 = some [.w false false (.int .u64 (0))] := by kernel_rfl
@[simp] theorem slE_109 : slE Try.prog 109 = none := by kernel_rfl
@[simp] theorem isStr_109 : isStr Try.prog 109 = false := by kernel_rfl
@[simp] theorem kindOf_109 : kindOf Try.prog 109 = some .u64 := by kernel_rfl
@[simp] theorem eqTy_109 : eqTy Try.prog 109 = none := by kernel_rfl
@[simp] theorem tyL_110 : tyL Try.prog 110 = some (1, false) := by kernel_rfl
@[simp] theorem tyL_111 : tyL Try.prog 111 = some (1, false) := by kernel_rfl
@[simp] theorem tyL_112 : tyL Try.prog 112 = some (1, false) := by kernel_rfl
@[simp] theorem tyL_113 : tyL Try.prog 113 = some (1, false) := by kernel_rfl
@[simp] theorem tyL_114 : tyL Try.prog 114 = some (1, false) := by kernel_rfl
@[simp] theorem zcells_114 : zcells Try.prog 114 = some [.w true true (.sl 0 [])] := by kernel_rfl
@[simp] theorem slE_114 : slE Try.prog 114 = some (5, 1) := by kernel_rfl
@[simp] theorem byE_5 : byE Try.prog 5 = some 1 := by kernel_rfl
@[simp] theorem isStr_114 : isStr Try.prog 114 = false := by kernel_rfl
@[simp] theorem eqTy_114 : eqTy Try.prog 114 = none := by kernel_rfl
@[simp] theorem tyL_115 : tyL Try.prog 115 = some (1, false) := by kernel_rfl
@[simp] theorem tyL_116 : tyL Try.prog 116 = some (1, false) := by kernel_rfl
@[simp] theorem tyL_117 : tyL Try.prog 117 = some (1, false) := by kernel_rfl
@[simp] theorem tyL_123 : tyL Try.prog 123 = some (1, false) := by kernel_rfl
@[simp] theorem tyL_124 : tyL Try.prog 124 = some (1, false) := by kernel_rfl
@[simp] theorem zcells_124 : zcells Try.prog 124 = some [.w false false (.int .u32 (0))] := by kernel_rfl
@[simp] theorem slE_124 : slE Try.prog 124 = none := by kernel_rfl
@[simp] theorem isStr_124 : isStr Try.prog 124 = false := by kernel_rfl
@[simp] theorem kindOf_124 : kindOf Try.prog 124 = some .u32 := by kernel_rfl
@[simp] theorem eqTy_124 : eqTy Try.prog 124 = none := by kernel_rfl
@[simp] theorem tyL_128 : tyL Try.prog 128 = some (1, false) := by kernel_rfl
@[simp] theorem zcells_128 : zcells Try.prog 128 = some [.w true false .nilp] := by kernel_rfl
@[simp] theorem slE_128 : slE Try.prog 128 = none := by kernel_rfl
@[simp] theorem isStr_128 : isStr Try.prog 128 = false := by kernel_rfl
@[simp] theorem eqTy_128 : eqTy Try.prog 128 = none := by kernel_rfl
@[simp] theorem byteSl_9_114 : byteSl Try.prog 9 114 = true := by kernel_rfl
@[simp] theorem byteSl_10_114 : byteSl Try.prog 10 114 = true := by kernel_rfl
@[simp] theorem byteSl_11_114 : byteSl Try.prog 11 114 = true := by kernel_rfl
end Go.Proofs.Ytmkahgnfoefnjaa
