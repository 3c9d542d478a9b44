/- Contracts of functions for this claim: lemmas alone. -/
import Derived.Test.YtmkahgnfoefnjaaP35
set_option linter.unusedSimpArgs false
set_option linter.unusedVariables false
namespace Go.Proofs.Ytmkahgnfoefnjaa
open Go Go.Fi

/-- ways are walked: what one arrives with, and how long they are -/
def owE (n : Net) (w : List Int) : Int := if (netS n).2.2 ≠ 0 then (netS n).2.2 else (wayS n w).2.2
end Go.Proofs.Ytmkahgnfoefnjaa
namespace Go.Proofs.Ytmkahgnfoefnjaa
open Go Go.Fi

theorem metS_drop (n : Net) (w : List Int) (k : Nat) (h : k < w.length) : metS n (w.drop k) = (nth n.roads (nth w k).toNat).metres + metS n (w.drop (k + 1)) := by
  rw [drop_nth w k h]; rfl
end Go.Proofs.Ytmkahgnfoefnjaa
