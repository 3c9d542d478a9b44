/- Contracts of functions for this claim: lemmas alone. -/
import Derived.Test.YtmkahgnfoefnjaaP16
import Derived.Test.YtmkahgnfoefnjaaP40
import Derived.Test.YtmkahgnfoefnjaaLi
set_option linter.unusedSimpArgs false
set_option linter.unusedVariables false
namespace Go.Proofs.Ytmkahgnfoefnjaa
open Go Go.Fi Go.RowKit Go.ChangeShapes Go.WideShapes Go.ChangeAt

/-! what the arguments of the statements read as -/
theorem cells_pair : Try.prog.cellsOf 26 = 2 := by kernel_rfl
theorem ints_flatMap : ∀ l : List Int, l.flatMap cI = ints l
  | [] => rfl
  | x :: r => by rw [List.flatMap_cons, ints_flatMap r]; rfl
abbrev cIs (l : List Int) : List PV := [.sl l.length (ints l)]
theorem reads_ints : Reads Try.prog 29 cIs := reads_map (c := fun l : List Int => [.sl l.length (l.flatMap cI)]) id (fun l => by simp only [id, cIs]; rw [ints_flatMap]) (reads_slice Try.underlying29 cells_int (by decide) (fun _ => rfl) rI)
theorem reads_pair : Reads Try.prog 26 (fun y : Int × Int => [.int .i64 y.1, .int .i64 y.2]) := reads_array2 (c := cI) Try.underlying26 cells_int cells_pair rI
end Go.Proofs.Ytmkahgnfoefnjaa
