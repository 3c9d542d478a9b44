/- Contracts of functions for this claim: lemmas alone. -/
import Derived.Test.YtiialcomflggcaaPTypes
set_option linter.unusedSimpArgs false
set_option linter.unusedVariables false
namespace Go.Proofs.Ytiialcomflggcaa
open Go Go.Fi
instance : LaidW := ⟨fun _ => True, fun _ _ => trivial⟩
end Go.Proofs.Ytiialcomflggcaa

