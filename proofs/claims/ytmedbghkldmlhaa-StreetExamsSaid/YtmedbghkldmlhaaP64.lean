/- Contracts of functions for this claim: lemmas alone. -/
import Derived.Test.YtmedbghkldmlhaaP42
set_option linter.unusedSimpArgs false
set_option linter.unusedVariables false
namespace Go.Proofs.Ytmedbghkldmlhaa
open Go Go.Fi Go.RowKit Go.ChangeShapes Go.WideShapes Go.ChangeAt

/-! more arguments -/
theorem cells_ints : Try.prog.cellsOf 60 = 1 := by kernel_rfl
theorem cells_exam : Try.prog.cellsOf 62 = 2 := by kernel_rfl
theorem cells_labs : Try.prog.cellsOf 109 = 2 := by kernel_rfl
theorem cells_claim : Try.prog.cellsOf 111 = 3 := by kernel_rfl
abbrev cW1 (y : List Int × Unit) : List PV := cIs y.1 ++ cU y.2
abbrev cW2 (y : List Int × List Int × Unit) : List PV := cIs y.1 ++ cW1 y.2
theorem reads_labs : Reads Try.prog 109 cW2 := by
  refine reads_struct Try.underlying109 cells_labs ?_
  exact readsR_cons (s := 1) (S := 1) (c := cIs) (c' := cW1) rfl cells_ints reads_ints (readsR_cons (s := 1) (S := 0) (c := cIs) (c' := cU) rfl cells_ints reads_ints readsR_nil)
abbrev cK0 (y : (List Int × List Int × Unit) × List Int × Unit) : List PV := cW2 y.1 ++ cW1 y.2
theorem reads_claim0 : Reads Try.prog 111 cK0 := by
  refine reads_struct Try.underlying111 cells_claim ?_
  exact readsR_cons (s := 2) (S := 1) (c := cW2) (c' := cW1) rfl cells_labs reads_labs (readsR_cons (s := 1) (S := 0) (c := cIs) (c' := cU) rfl cells_ints reads_ints readsR_nil)
abbrev cClaim (y : List Int × List Int × List Int) : List PV := [.sl y.1.length (ints y.1), .sl y.2.1.length (ints y.2.1), .sl y.2.2.length (ints y.2.2)]
theorem reads_claim : Reads Try.prog 111 cClaim := reads_map (c := cK0) (fun y => (y.1.1, y.1.2.1, y.2.1)) (fun _ => rfl) reads_claim0
abbrev cX1 (y : Int × Unit) : List PV := cI y.1 ++ cU y.2
abbrev cX0 (y : List Int × Int × Unit) : List PV := cIs y.1 ++ cX1 y.2
theorem reads_exam0 : Reads Try.prog 62 cX0 := by
  refine reads_struct Try.underlying62 cells_exam ?_
  exact readsR_cons (s := 1) (S := 1) (c := cIs) (c' := cX1) rfl cells_ints reads_ints (readsR_cons (s := 1) (S := 0) (c := cI) (c' := cU) rfl cells_int rI readsR_nil)
abbrev cExam (y : List Int × Int) : List PV := [.sl y.1.length (ints y.1), .int .i64 y.2]
theorem reads_exam : Reads Try.prog 62 cExam := reads_map (c := cX0) (fun y => (y.1, y.2.1)) (fun _ => rfl) reads_exam0
end Go.Proofs.Ytmedbghkldmlhaa
