/- Lemmas. -/
import Derived.Test.YthpkmilhiganjaaGreatPLa
set_option linter.all false
set_option maxHeartbeats 32000000
set_option maxRecDepth 100000
namespace Go.Fc
end Go.Fc
