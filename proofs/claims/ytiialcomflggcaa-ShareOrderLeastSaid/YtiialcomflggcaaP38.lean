/- Contracts of functions for this claim: lemmas alone. -/
import Derived.Test.YtiialcomflggcaaP31
import Derived.Test.YtiialcomflggcaaP33
import Derived.Test.YtiialcomflggcaaP34
set_option linter.unusedSimpArgs false
set_option linter.unusedVariables false
namespace Go.Proofs.Ytiialcomflggcaa
open Go Go.Fi

end Go.Proofs.Ytiialcomflggcaa

