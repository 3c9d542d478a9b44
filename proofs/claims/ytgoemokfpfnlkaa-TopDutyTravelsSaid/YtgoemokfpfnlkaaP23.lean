/- Contracts of functions for this claim: lemmas alone. -/
import Derived.Test.YtgoemokfpfnlkaaP22
set_option linter.unusedSimpArgs false
set_option linter.unusedVariables false
namespace Go.Proofs.Ytgoemokfpfnlkaa
open Go Go.Fi

/-- the net of the examples -/
def exNet : Net := ⟨[⟨#[97]⟩, ⟨#[98]⟩, ⟨#[99]⟩], [⟨⟨#[120]⟩, 0, 1, 1000, [⟨0, 100, 200⟩, ⟨3600, 700, 800⟩]⟩, ⟨⟨#[121]⟩, 1, 2, 500, [⟨0, 60, 90⟩]⟩, ⟨⟨#[122]⟩, 0, 2, 2000, [⟨0, 900, 900⟩]⟩]⟩
theorem ex_in : NetIn exNet := by
  refine ⟨by decide, by decide, fun k hk => ?_, fun k hk => ?_, fun k hk => ?_⟩
  all_goals
    have hk : k < 3 := hk
    match k, hk with
    | 0, _ => decide
    | 1, _ => decide
    | 2, _ => decide
theorem ex_takes : takesR exNet 0 1800 = (400, 500, 0) := by decide +kernel
theorem ex_est : estS exNet ⟨0, 2, 0⟩ = (160, 290, 0) := by decide +kernel
theorem ex_pE : pE exNet 0 2 = 0 := by decide +kernel
theorem ex_len : nth (growS fLen exNet 0 0).l 2 = 1500 := by decide +kernel
theorem ex_way : backF exNet (growS fLen exNet 0 0).b 10 2 = some [1, 0] := by decide +kernel
theorem ex_late : latestS exNet ⟨0, 2, 290⟩ = (0, 0) := by decide +kernel
theorem ex_net : (netS exNet).2.2 = 0 := by decide +kernel
end Go.Proofs.Ytgoemokfpfnlkaa
