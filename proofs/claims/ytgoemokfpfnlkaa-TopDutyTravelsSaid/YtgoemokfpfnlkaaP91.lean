/- Contracts of functions for this claim: lemmas alone. -/
import Derived.Test.YtgoemokfpfnlkaaP90
import Derived.Test.YtgoemokfpfnlkaaP16
set_option linter.unusedSimpArgs false
set_option linter.unusedVariables false
namespace Go.Proofs.Ytgoemokfpfnlkaa
open Go Go.Fi
set_option maxRecDepth 20000

theorem cells_rul : Try.prog.cellsOf 29 = 5 := by kernel_rfl
def cR4 : Int × (Int × (Int × (Int × Unit))) → List PV := fun y => [.int .i64 y.1] ++ cR3 y.2
def cR5 : Int × (Int × (Int × (Int × (Int × Unit)))) → List PV := fun y => [.int .i64 y.1] ++ cR4 y.2
theorem reads_rul0 : Reads Try.prog 29 cR5 := by
  refine reads_struct Try.underlying29 cells_rul ?_
  exact readsR_cons (s := 1) (S := 4) (c := cI) (c' := cR4) rfl cells_int rI (readsR_cons (s := 1) (S := 3) (c := cI) (c' := cR3) rfl cells_int rI (readsR_cons (s := 1) (S := 2) (c := cI) (c' := cR2) rfl cells_int rI (readsR_cons (s := 1) (S := 1) (c := cI) (c' := cR1) rfl cells_int rI (readsR_cons (s := 1) (S := 0) (c := cI) (c' := cU) rfl cells_int rI readsR_nil))))
theorem reads_rul : Reads Try.prog 29 cRul := reads_map (c := cR5) (fun y => ⟨y.1, y.2.1, y.2.2.1, y.2.2.2.1, y.2.2.2.2.1⟩) (fun _ => rfl) reads_rul0
theorem dutyTravels_c (n : Net) (t : Trip) (r : Rul) : RealCall Try.prog 3 [aNet n, .agg (cTripL t), .agg (cRul r)] (.bool true) true := duty_law n t.frm t.to t.at_ r
end Go.Proofs.Ytgoemokfpfnlkaa
