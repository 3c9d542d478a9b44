/- Contracts of functions for this claim: lemmas alone. -/
import Derived.Test.YtpjhpmpbdfeajaaGreatDoorP31
import Derived.Test.YtpjhpmpbdfeajaaGreatDoorP34
set_option linter.unusedSimpArgs false
set_option linter.unusedVariables false
namespace Go.Proofs.YtpjhpmpbdfeajaaGreatDoor
open Go Go.Fi Go.RowKit
set_option maxRecDepth 100000

/-! ### closed facts that all rows share -/
theorem band {a b : Bool} (h : a = true) (k : b = true) : (a && b) = true := by rw [h, k]; rfl
theorem fMaps : mapsRowed Tryz.prog = true := by kernel_rfl
theorem fKeys : (Rows.accountNetsRow.plainKeys == Tryz.prog.plainKeys) = true := by kernel_rfl
theorem fHeard : Tryz.prog.stopsHeard = true := by kernel_rfl
theorem fEnter : Tryz.prog.mayEnter = true := by kernel_rfl
theorem fLifted : (Rows.accountNetsRow.lifted == Tryz.prog.liftsFinal) = true := by kernel_rfl
theorem fMake : (Tryz.prog.make == some Rows.accountNetsRow.make) = true := by kernel_rfl
end Go.Proofs.YtpjhpmpbdfeajaaGreatDoor

