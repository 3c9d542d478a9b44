/- Contracts of functions for this claim: lemmas alone. -/
import Derived.Test.YtlcimflkjfbaoaaGreatP57
import Derived.Test.YtlcimflkjfbaoaaGreatP40
set_option linter.unusedSimpArgs false
set_option linter.unusedVariables false
namespace Go.Proofs.YtlcimflkjfbaoaaGreat
open Go Go.Fi
set_option maxRecDepth 20000

/-! ### AccountCloses -/
end Go.Proofs.YtlcimflkjfbaoaaGreat

