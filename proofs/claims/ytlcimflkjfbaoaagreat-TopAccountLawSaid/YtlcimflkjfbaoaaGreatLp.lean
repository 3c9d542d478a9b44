/- A logic of abstract states for this claim (part Lp): lemmas alone. -/
import Derived.Test.YtlcimflkjfbaoaaGreatLf
import Derived.Shelf.Strings.OnBuilder
set_option linter.unusedSimpArgs false
set_option linter.unusedVariables false

namespace Go.Fi
open Go Go.RowKit Go.Shelf Go.Proofs
variable [LaidW]

def strP (xs : List ByteArray) : List PV := xs.map .str
end Go.Fi

