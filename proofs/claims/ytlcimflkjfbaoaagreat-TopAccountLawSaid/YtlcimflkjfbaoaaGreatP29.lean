/- Contracts of functions for this claim: lemmas alone. -/
import Derived.Test.YtlcimflkjfbaoaaGreatP26
import Derived.Test.YtlcimflkjfbaoaaGreatP13
import Derived.Test.YtlcimflkjfbaoaaGreatP17
import Derived.Test.YtlcimflkjfbaoaaGreatP9
set_option linter.unusedSimpArgs false
set_option linter.unusedVariables false
namespace Go.Proofs.YtlcimflkjfbaoaaGreat
open Go Go.Fi
set_option maxRecDepth 20000

theorem divAll_small (a : Nat) (ns : List Nat) (h0 : 0 < sumN ns) (h : ∀ k, k < ns.length → a * nth ns k < 18446744073709551616) : DivAll a ns := by
  intro k hk
  have h1 := h k hk
  rw [Nat.div_eq_of_lt h1, Nat.mod_eq_of_lt h1]
  exact divSmall_c _ _ h0 h1
def exLines : List Line := [⟨bs [99, 97, 115, 104], 600⟩, ⟨bs [118, 111, 117, 99, 104, 101, 114, 115], 500⟩, ⟨bs [111, 119, 110, 101, 114], -501⟩, ⟨bs [97, 110, 110], -400⟩, ⟨bs [111, 102, 102, 105, 99, 101], -100⟩, ⟨bs [97, 110, 110], -99⟩]
def exEntry : Entry := ⟨12, bs [116, 114, 105, 112, 49], exLines⟩
end Go.Proofs.YtlcimflkjfbaoaaGreat
namespace Go.Proofs.YtlcimflkjfbaoaaGreat
open Go Go.Fi
set_option maxRecDepth 20000

/-! ### the law's example -/
deriving instance DecidableEq for Line
deriving instance DecidableEq for Entry
theorem splitIn_ex : SplitIn 1001 [50, 40, 10] := ⟨by decide, by decide, by decide, by decide⟩
theorem splitS_ex : splitS 1001 [50, 40, 10] = [501, 400, 100] := by decide +kernel
theorem split_ex : MkCall Tryz.prog 43 [.int .i64 1001, .sl 3 [.int .i64 50, .int .i64 40, .int .i64 10]] [iA [501, 400, 100]] (.msl 0 3 1 0 3) := by
  have h := split_mk 1001 [50, 40, 10] splitIn_ex (divAll_small _ _ (by decide) (by decide))
  rw [splitS_ex] at h
  exact h
theorem splitF_ex : RealCall Tryz.prog 16 [.int .i64 1001, .sl 3 [.int .i64 50, .int .i64 40, .int .i64 10]] (.tup [.sl 3 [.int .i64 501, .int .i64 400, .int .i64 100], .int .i64 0]) true :=
  splitF_ok 1001 [50, 40, 10] (by decide) (by decide +kernel) [501, 400, 100] rfl split_ex
theorem accsIn_ex : AccsIn exAccs := by
  refine ⟨by decide, ?_⟩
  intro k hk
  match k, hk with
  | 0, _ => decide
  | 1, _ => decide
  | 2, _ => decide
  | 3, _ => decide
  | 4, _ => decide
  | _ + 5, h => exact absurd h (by show ¬ (_ + 5 < 5); omega)
theorem ruleOk_ex : RuleOk exAccs exRule := by
  refine ⟨by decide +kernel, ?_, ?_⟩ <;> decide +kernel
theorem rule_ex : RealCall Tryz.prog 28 [.sl 5 (cAccs exAccs), .agg (cRule exRule)] (.int .i64 0) true := by
  have h := checkRule_ok exAccs accsIn_ex exRule ruleOk_ex
  rw [show shareE (sharesOf exRule) = 0 by decide +kernel] at h
  exact h
theorem fare_ex : RealCall Tryz.prog 10 [.sl 5 (cAccs exAccs), .agg (cRule exRule), .agg (cTrip exTrip)] (.tup [.agg (cEntry exEntry), .int .i64 0]) false := by
  have cl := largest_c exEntry (by decide)
  rw [show largestS exEntry = (exEntry, 0) by decide +kernel] at cl
  have h := fareEntry_t exAccs exRule exTrip rule_ex (by decide) (by decide +kernel) ⟨by decide, by decide⟩ ⟨by decide, by decide⟩ ⟨by decide, by decide⟩ [501, 400, 100] rfl (by decide) split_ex exEntry 0 cl
  exact h
theorem ints_ex : RealCall Tryz.prog 18 [.sl 3 [.int .i64 501, .int .i64 400, .int .i64 100], .sl 3 [.int .i64 501, .int .i64 400, .int .i64 100]] (.bool true) true := ints_eq [501, 400, 100] (by decide)
end Go.Proofs.YtlcimflkjfbaoaaGreat

