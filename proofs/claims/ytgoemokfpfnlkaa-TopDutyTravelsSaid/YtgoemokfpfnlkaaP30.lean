/- Contracts of functions for this claim: lemmas alone. -/
import Derived.Test.YtgoemokfpfnlkaaP29
import Derived.Test.YtgoemokfpfnlkaaP23
import Derived.Test.YtgoemokfpfnlkaaP16
set_option linter.unusedSimpArgs false
set_option linter.unusedVariables false
namespace Go.Proofs.Ytgoemokfpfnlkaa
open Go Go.Fi

theorem tE_trip (n : Net) (t : Trip) : tE n t = tripE n t := by
  unfold tE tripE errUnless
  cases winB t.frm 0 (n.places.length - 1) <;> cases winB t.to 0 (n.places.length - 1) <;> cases winB t.at_ 0 604800 <;> rfl
theorem otE_net {n : Net} {t : Trip} (h : (netS n).2.2 ≠ 0) : otE n t = (netS n).2.2 := by
  unfold otE; simp only [firstS]; rw [if_neg h]
theorem otE_trip {n : Net} {t : Trip} (h : (netS n).2.2 = 0) : otE n t = tripE n t := by
  unfold otE; rw [tE_trip]; simp only [firstS]; rw [if_pos h]
  split
  · rename_i h; rw [h]
  · rfl
theorem latestS_bad {n : Net} {t : Trip} {c : Int} (h : otE n t = c) (hc : c ≠ 0) : latestS n t = (0, c) := by
  unfold latestS; rw [if_pos (by rw [h]; exact hc), h]
end Go.Proofs.Ytgoemokfpfnlkaa
