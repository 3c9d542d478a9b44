/- A logic of abstract states for this claim (part Li): lemmas alone. -/
import Derived.Test.YtfpamehamllndaaGreatDoorLg
import Derived.OpenShut
set_option linter.unusedSimpArgs false
set_option linter.unusedVariables false

namespace Go.Fi
open Go Go.RowKit Go.ChangeShapes Go.WideShapes
variable [LaidW]

section
variable {P : Program} {t e : TypeId} {W : World}
end
end Go.Fi

