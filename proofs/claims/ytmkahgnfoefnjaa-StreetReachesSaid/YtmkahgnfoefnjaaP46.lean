/- Contracts of functions for this claim: lemmas alone. -/
import Derived.Test.YtmkahgnfoefnjaaP32
import Derived.Test.YtmkahgnfoefnjaaP30
import Derived.Test.YtmkahgnfoefnjaaLj
set_option linter.unusedSimpArgs false
set_option linter.unusedVariables false
namespace Go.Proofs.Ytmkahgnfoefnjaa
open Go Go.Fi

end Go.Proofs.Ytmkahgnfoefnjaa
