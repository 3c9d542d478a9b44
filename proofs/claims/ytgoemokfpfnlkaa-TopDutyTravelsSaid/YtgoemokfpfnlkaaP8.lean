/- Contracts of functions for this claim: lemmas alone. -/
import Derived.Test.YtgoemokfpfnlkaaP7
set_option linter.unusedSimpArgs false
set_option linter.unusedVariables false
namespace Go.Proofs.Ytgoemokfpfnlkaa
open Go Go.Fi

def rTakesS (l : List Pt) (at_ : Int) (hi : Bool) : Int :=
  let x := at_ % 86400
  let i := lastI l x l.length
  let j := (i + 1) % l.length
  let d := ((nth l j).at_ - (nth l i).at_) % 86400
  if d = 0 then ptv hi (nth l i) else ptv hi (nth l i) + ceilS ((ptv hi (nth l j) - ptv hi (nth l i)) * ((x - (nth l i).at_) % 86400)) d
end Go.Proofs.Ytgoemokfpfnlkaa
