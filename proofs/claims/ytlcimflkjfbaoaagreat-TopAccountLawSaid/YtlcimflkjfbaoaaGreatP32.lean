/- Contracts of functions for this claim: lemmas alone. -/
import Derived.Test.YtlcimflkjfbaoaaGreatP22
import Derived.Test.YtlcimflkjfbaoaaGreatP9
set_option linter.unusedSimpArgs false
set_option linter.unusedVariables false
namespace Go.Proofs.YtlcimflkjfbaoaaGreat
open Go Go.Fi
set_option maxRecDepth 20000

/-! ### the guards, and copies -/
@[simp] theorem accs_ones : ∀ l : List Acc, ones ((cAccs l).map (AV.w false false)) = true
  | [] => rfl
  | x :: r => accs_ones r
@[simp] theorem lines_ones : ∀ l : List Line, ones ((cLines l).map (AV.w false false)) = true
  | [] => rfl
  | x :: r => lines_ones r
theorem accs_flat : ∀ (l : List Acc) (x : PV), x ∈ cAccs l → flat x = true
  | [], _, h => by cases h
  | a :: r, x, h => by
    rcases List.mem_append.1 (show x ∈ cAcc a ++ cAccs r from h) with h | h
    · simp only [cAcc, List.mem_cons, List.not_mem_nil, or_false] at h
      rcases h with rfl | rfl <;> rfl
    · exact accs_flat r x h
theorem lines_flat : ∀ (l : List Line) (x : PV), x ∈ cLines l → flat x = true
  | [], _, h => by cases h
  | a :: r, x, h => by
    rcases List.mem_append.1 (show x ∈ cLine a ++ cLines r from h) with h | h
    · simp only [cLine, List.mem_cons, List.not_mem_nil, or_false] at h
      rcases h with rfl | rfl <;> rfl
    · exact lines_flat r x h
end Go.Proofs.YtlcimflkjfbaoaaGreat

