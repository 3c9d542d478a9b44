/- Contracts of functions for this claim: lemmas alone. -/
import Derived.Test.YtgoemokfpfnlkaaP22
set_option linter.unusedSimpArgs false
set_option linter.unusedVariables false
namespace Go.Proofs.Ytgoemokfpfnlkaa
open Go Go.Fi

theorem fTime_bd {n : Net} (h : NetOk n) {k : Nat} (hk : k < n.roads.length) (m : Int) (late : Bool) : 0 ≤ takesS (nth n.roads k).pts m late ∧ takesS (nth n.roads k).pts m late ≤ 14400 :=
  takes_bd (h.road k hk).pts (h.road k hk).inc m late
end Go.Proofs.Ytgoemokfpfnlkaa
