/- Contracts of functions for this claim: lemmas alone. -/
import Derived.Test.YtpjhpmpbdfeajaaGreatDoorP2
import Derived.Test.YtpjhpmpbdfeajaaGreatDoorLg
import Derived.Test.YtpjhpmpbdfeajaaGreatDoorLi
set_option linter.unusedSimpArgs false
set_option linter.unusedVariables false
namespace Go.Proofs.YtpjhpmpbdfeajaaGreatDoor
open Go Go.Fi Go.RowKit Go.ChangeShapes Go.WideShapes Go.ChangeAt

/-! ### what the data look like -/
theorem Tryz.own : ownKnob Tryz.prog.godebug = none := by kernel_rfl
theorem Tryz.laidOut : laidOutB Tryz.prog = true := by kernel_rfl
theorem cells_int : Tryz.prog.cellsOf 3 = 1 := by kernel_rfl
abbrev cI (n : Int) : List PV := [.int .i64 n]
theorem rI : Reads Tryz.prog 3 cI := reads_int Tryz.underlying3
theorem ints_flatMap : ∀ l : List Int, l.flatMap cI = ints l
  | [] => rfl
  | x :: r => by rw [List.flatMap_cons, ints_flatMap r]; rfl
theorem reads_ints : Reads Tryz.prog 22 (fun l : List Int => [.sl l.length (ints l)]) := reads_map (c := fun l : List Int => [.sl l.length (l.flatMap cI)]) id (fun l => by simp only [id]; rw [ints_flatMap]) (reads_slice Tryz.underlying22 cells_int (by decide) (fun _ => rfl) rI)
end Go.Proofs.YtpjhpmpbdfeajaaGreatDoor

