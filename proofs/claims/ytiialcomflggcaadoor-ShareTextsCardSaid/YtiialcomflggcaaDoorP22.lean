/- Contracts of functions for this claim: lemmas alone. -/
import Derived.Test.YtiialcomflggcaaDoorP21
set_option linter.unusedSimpArgs false
set_option linter.unusedVariables false
namespace Go.Proofs.YtiialcomflggcaaDoor
open Go Go.Fi
set_option maxRecDepth 20000

def bV (b : Option Offer) : Offer := b.getD (0, 0, 0)
@[simp] theorem bestF_nil (b : Option Offer) : bestF [] b = b := rfl
@[simp] theorem bestF_one (x : Offer) : bestF [x] none = some x := rfl
@[simp] theorem bV_none : bV none = (0, 0, 0) := rfl
@[simp] theorem bV_some (x : Offer) : bV (some x) = x := rfl
end Go.Proofs.YtiialcomflggcaaDoor

