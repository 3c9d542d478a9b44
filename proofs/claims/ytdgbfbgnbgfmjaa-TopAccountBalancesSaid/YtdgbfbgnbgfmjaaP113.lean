/- Contracts of functions for this claim: lemmas alone. -/
import Derived.Test.YtdgbfbgnbgfmjaaP110
import Derived.Test.YtdgbfbgnbgfmjaaP34
set_option linter.unusedSimpArgs false
set_option linter.unusedVariables false
namespace Go.Proofs.Ytdgbfbgnbgfmjaa
open Go Go.Fi Go.RowKit Go.ChangeShapes Go.WideShapes Go.ChangeAt

theorem reads_trips : Reads Try.prog 22 (fun l : List Trip => [.sl l.length (cTrips l)]) := reads_slice Try.underlying22 cells_trip (by decide) (fun _ => rfl) reads_trip
end Go.Proofs.Ytdgbfbgnbgfmjaa

