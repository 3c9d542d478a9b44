/- Contracts of functions for this claim: lemmas alone. -/
import Derived.Test.YtfpamehamllndaaGreatDoorP33
set_option linter.unusedSimpArgs false
set_option linter.unusedVariables false
namespace Go.Proofs.YtfpamehamllndaaGreatDoor
open Go Go.Fi

section
variable {n : Net}
end
end Go.Proofs.YtfpamehamllndaaGreatDoor
namespace Go.Proofs.YtfpamehamllndaaGreatDoor
open Go Go.Fi

@[simp] theorem ints_one (l : List Int) : (ints l).all oneP = true := by simp [ints, oneP]
end Go.Proofs.YtfpamehamllndaaGreatDoor
namespace Go.Proofs.YtfpamehamllndaaGreatDoor
open Go Go.Fi

end Go.Proofs.YtfpamehamllndaaGreatDoor

