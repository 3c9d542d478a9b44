/- Contracts of functions for this claim: lemmas alone. -/
import Derived.Test.YtchpdgojiibjcaaP83
import Derived.Test.YtchpdgojiibjcaaP36
set_option linter.unusedSimpArgs false
set_option linter.unusedVariables false
namespace Go.Proofs.Ytchpdgojiibjcaa
open Go Go.Fi
theorem reads_car : Reads Try.prog 26 cCar := reads_map (c := cI3) (fun y => ⟨y.1, y.2.1, y.2.2.1⟩) (fun _ => rfl) reads_car0
end Go.Proofs.Ytchpdgojiibjcaa
