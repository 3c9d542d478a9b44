/- Contracts of functions for this claim: lemmas alone. -/
import Derived.Test.YtacepceplonceaaP36
set_option linter.unusedSimpArgs false
set_option linter.unusedVariables false
namespace Go.Proofs.Ytacepceplonceaa
open Go Go.Fi

end Go.Proofs.Ytacepceplonceaa
