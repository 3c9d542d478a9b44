/- Contracts of functions for this claim: lemmas alone. -/
import Derived.Test.YtpjhpmpbdfeajaaGreatDoorP2
import Derived.Test.YtpjhpmpbdfeajaaGreatDoorLg
import Derived.Test.YtpjhpmpbdfeajaaGreatDoorLi
set_option linter.unusedSimpArgs false
set_option linter.unusedVariables false
namespace Go.Proofs.YtpjhpmpbdfeajaaGreatDoor
open Go Go.Fi Go.RowKit Go.ChangeShapes Go.WideShapes Go.ChangeAt

/-! ### what the data look like -/
theorem Tryz.own : ownKnob Tryz.prog.godebug = none := by kernel_rfl
theorem Tryz.laidOut : laidOutB Tryz.prog = true := by kernel_rfl
theorem cells_int : Tryz.prog.cellsOf 3 = 1 := by kernel_rfl
theorem cells_str : Tryz.prog.cellsOf 9 = 1 := by kernel_rfl
theorem cells_line : Tryz.prog.cellsOf 89 = 2 := by kernel_rfl
theorem cells_lines : Tryz.prog.cellsOf 38 = 1 := by kernel_rfl
theorem cells_entry : Tryz.prog.cellsOf 40 = 3 := by kernel_rfl
abbrev cI (n : Int) : List PV := [.int .i64 n]
abbrev cS (s : ByteArray) : List PV := [.str s]
abbrev cU (_ : Unit) : List PV := []
theorem rI : Reads Tryz.prog 3 cI := reads_int Tryz.underlying3
theorem rS : Reads Tryz.prog 9 cS := reads_str Tryz.underlying9
abbrev cI1 (y : Int × Unit) : List PV := cI y.1 ++ cU y.2
theorem rI1 {o : Nat} {f : Field} (h1 : f.offset = o) (h2 : f.type = 3) : ReadsR Tryz.prog [f] o cI1 1 := readsR_cons (s := 1) (S := 0) (c := cI) (c' := cU) h1 (by rw [h2]; exact cells_int) (by rw [h2]; exact rI) readsR_nil
abbrev cSI (y : ByteArray × Int × Unit) : List PV := cS y.1 ++ cI1 y.2
theorem reads_line : Reads Tryz.prog 89 cLine := by
  refine reads_map (c := cSI) (fun y => ⟨y.1, y.2.1⟩) (fun _ => rfl) (reads_struct Tryz.underlying89 cells_line ?_)
  exact readsR_cons (s := 1) (S := 1) (c := cS) (c' := cI1) rfl cells_str rS (rI1 rfl rfl)
theorem reads_lines : Reads Tryz.prog 38 (fun l : List Line => [.sl l.length (cLines l)]) := reads_slice Tryz.underlying38 cells_line (by decide) (fun _ => rfl) reads_line
abbrev cL1 (y : List Line × Unit) : List PV := [.sl y.1.length (cLines y.1)] ++ cU y.2
abbrev cE2 (y : ByteArray × List Line × Unit) : List PV := cS y.1 ++ cL1 y.2
abbrev cE3 (y : Int × ByteArray × List Line × Unit) : List PV := cI y.1 ++ cE2 y.2
theorem reads_entry : Reads Tryz.prog 40 cEntry := by
  refine reads_map (c := cE3) (fun y => ⟨y.1, y.2.1, y.2.2.1⟩) (fun _ => rfl) (reads_struct Tryz.underlying40 cells_entry ?_)
  exact readsR_cons (s := 1) (S := 2) (c := cI) (c' := cE2) rfl cells_int rI (readsR_cons (s := 1) (S := 1) (c := cS) (c' := cL1) rfl cells_str rS
    (readsR_cons (s := 1) (S := 0) (c := fun l : List Line => [.sl l.length (cLines l)]) (c' := cU) rfl cells_lines reads_lines readsR_nil))
theorem reads_entries : Reads Tryz.prog 52 (fun l : List Entry => [.sl l.length (cEntries l)]) := reads_slice Tryz.underlying52 cells_entry (by decide) (fun _ => rfl) reads_entry
end Go.Proofs.YtpjhpmpbdfeajaaGreatDoor
namespace Go.Proofs.YtpjhpmpbdfeajaaGreatDoor
open Go Go.Fi Go.RowKit Go.ChangeShapes Go.WideShapes Go.ChangeAt

/-! ### numbers are in the range of their type -/
abbrev WI := {n : Int // -9223372036854775808 ≤ n ∧ n ≤ 9223372036854775807}
abbrev cW (n : WI) : List PV := [.int .i64 n.1]
end Go.Proofs.YtpjhpmpbdfeajaaGreatDoor

