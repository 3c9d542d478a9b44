/- Contracts of functions for this claim: lemmas alone. -/
import Derived.Test.YtiialcomflggcaaP34
set_option linter.unusedSimpArgs false
set_option linter.unusedVariables false
namespace Go.Proofs.Ytiialcomflggcaa
open Go Go.Fi
set_option maxRecDepth 20000

/-! ### behind the last stop nobody is in the car -/
def onB (p : Plan) (k j : Nat) : Bool := ((nth p.riders j).aboard || elemB (p.stops.take k) ⟨(j : Int), false⟩) && !elemB (p.stops.take k) ⟨(j : Int), true⟩
end Go.Proofs.Ytiialcomflggcaa

