/- A logic of abstract states for this claim (part Ly): lemmas alone. -/
import Derived.Lib.BitFns
import Derived.Laws.Bits64b
set_option linter.unusedSimpArgs false
set_option linter.unusedVariables false

namespace Go.Fi
open Go

/-! ### Div64's numbers -/
theorem bitLen_up : ∀ x : Nat, x < 2 ^ 64 → x < 2 ^ Lib.bitLen x := fun x => by
  induction x using Nat.strongRecOn with
  | _ x ih =>
    intro hx
    by_cases h0 : x = 0
    · subst h0; decide
    · rw [Lib.bitLen_half x h0 hx]
      have := ih (x / 2) (by omega) (by omega)
      rw [Nat.add_comm, Nat.pow_succ]
      omega
theorem shift_of {S : Nat} (h0 : 0 < S) (h1 : S < 4294967296) : ∃ s p PL : Nat, (64 : Int) - (Lib.bitLen S : Int) = (s : Int) ∧ 32 ≤ s ∧ s ≤ 63 ∧ 2 ^ s = p * 4294967296 ∧ 2 ^ (64 - s) = PL ∧ p * PL = 4294967296 ∧ 0 < p ∧ 0 < PL ∧ S * p < 4294967296 := by
  have hu := bitLen_up S (by omega)
  have hl : Lib.bitLen S ≤ 32 := Lib.bitLen_le S 32 (by decide) h1
  have hp : 1 ≤ Lib.bitLen S := by rw [Lib.bitLen_half S (by omega) (by omega)]; omega
  generalize Lib.bitLen S = L at *
  have e1 : 2 ^ (64 - L) = 2 ^ (32 - L) * 4294967296 := by rw [show 64 - L = (32 - L) + 32 by omega, Nat.pow_add]
  have e2 : 2 ^ (32 - L) * 2 ^ L = 4294967296 := by rw [← Nat.pow_add, show 32 - L + L = 32 by omega]
  refine ⟨64 - L, 2 ^ (32 - L), 2 ^ L, by omega, by omega, by omega, e1, by rw [show 64 - (64 - L) = L by omega], e2, Nat.two_pow_pos _, Nat.two_pow_pos _, ?_⟩
  rw [← e2, Nat.mul_comm S]
  exact Nat.mul_lt_mul_of_pos_left hu (Nat.two_pow_pos _)
end Go.Fi

