/- Contracts of functions for this claim: lemmas alone. -/
import Derived.Test.YtchpdgojiibjcaaP31
import Derived.Test.YtchpdgojiibjcaaP33
import Derived.Test.YtchpdgojiibjcaaP34
set_option linter.unusedSimpArgs false
set_option linter.unusedVariables false
namespace Go.Proofs.Ytchpdgojiibjcaa
open Go Go.Fi

theorem winB_true {r : Int} {n : Nat} (h : winB r 0 ((n : Int) - 1) = true) : ∃ j : Nat, r = (j : Int) ∧ j < n := by
  unfold winB at h
  simp only [Bool.and_eq_true, decide_eq_true_eq] at h
  exact ⟨r.toNat, by omega, by omega⟩
theorem brokR_false : ∀ o : Option (Int × Int), (brokR o).2 = false → (brokR o).1 = (0, 0)
  | none, _ => rfl
  | some _, h => by cases h
end Go.Proofs.Ytchpdgojiibjcaa
