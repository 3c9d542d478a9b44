/- Contracts of functions for this claim: lemmas alone. -/
import Derived.Test.YtgoemokfpfnlkaaP25
set_option linter.unusedSimpArgs false
set_option linter.unusedVariables false
namespace Go.Proofs.Ytgoemokfpfnlkaa
open Go Go.Fi

def bsF (p : Int → Bool) : Nat → Int → Int → Int
  | 0, i, _ => i
  | m + 1, i, j => if i < j then (if p (ceilS (i + j) 2) = true then bsF p m (ceilS (i + j) 2) j else bsF p m i (ceilS (i + j) 2 - 1)) else i
def inT (n : Net) (t3 : Int) (a b : Nat) (k : Int) : Bool := decide (nth (growS (fTime true) n a k).l b ≤ t3)
def rLatS (n : Net) (t3 : Int) (a b : Nat) : Int :=
  if nth (growS (fTime false) n a 0).l b < 0 then -1
  else if t3 < nth (growS (fTime true) n a 0).l b then -1
  else bsF (inT n t3 a b) 604800 0 604800
theorem ceil2 (i j : Int) (h : i < j) : i < ceilS (i + j) 2 ∧ ceilS (i + j) 2 ≤ j := by
  have := ceilS_ge (i + j) 2 (by omega)
  omega
end Go.Proofs.Ytgoemokfpfnlkaa
