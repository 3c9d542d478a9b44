/- Contracts of functions for this claim: lemmas alone. -/
import Derived.Test.YtdgbfbgnbgfmjaaP2
import Derived.Test.YtdgbfbgnbgfmjaaLg
import Derived.Test.YtdgbfbgnbgfmjaaLi
set_option linter.unusedSimpArgs false
set_option linter.unusedVariables false
namespace Go.Proofs.Ytdgbfbgnbgfmjaa
open Go Go.Fi Go.RowKit Go.ChangeShapes Go.WideShapes Go.ChangeAt

/-! ### what the data look like -/
theorem Try.own : ownKnob Try.prog.godebug = none := by kernel_rfl
theorem Try.laidOut : laidOutB Try.prog = true := by kernel_rfl
theorem cells_int : Try.prog.cellsOf 3 = 1 := by kernel_rfl
theorem cells_str : Try.prog.cellsOf 9 = 1 := by kernel_rfl
theorem cells_trip : Try.prog.cellsOf 41 = 5 := by kernel_rfl
abbrev cI (n : Int) : List PV := [.int .i64 n]
abbrev cS (s : ByteArray) : List PV := [.str s]
abbrev cU (_ : Unit) : List PV := []
theorem rI : Reads Try.prog 3 cI := reads_int Try.underlying3
theorem rS : Reads Try.prog 9 cS := reads_str Try.underlying9
abbrev cI1 (y : Int × Unit) : List PV := cI y.1 ++ cU y.2
abbrev cI2 (y : Int × Int × Unit) : List PV := cI y.1 ++ cI1 y.2
abbrev cI3 (y : Int × Int × Int × Unit) : List PV := cI y.1 ++ cI2 y.2
theorem rI1 {o : Nat} {f : Field} (h1 : f.offset = o) (h2 : f.type = 3) : ReadsR Try.prog [f] o cI1 1 := readsR_cons (s := 1) (S := 0) (c := cI) (c' := cU) h1 (by rw [h2]; exact cells_int) (by rw [h2]; exact rI) readsR_nil
theorem rI2 {o : Nat} {f g : Field} (h1 : f.offset = o) (h2 : f.type = 3) (h3 : g.offset = o + 1) (h4 : g.type = 3) : ReadsR Try.prog [f, g] o cI2 2 := readsR_cons (s := 1) (S := 1) (c := cI) (c' := cI1) h1 (by rw [h2]; exact cells_int) (by rw [h2]; exact rI) (rI1 h3 h4)
theorem rI3 {o : Nat} {f g k : Field} (h1 : f.offset = o) (h2 : f.type = 3) (h3 : g.offset = o + 1) (h4 : g.type = 3) (h5 : k.offset = o + 1 + 1) (h6 : k.type = 3) : ReadsR Try.prog [f, g, k] o cI3 3 := readsR_cons (s := 1) (S := 2) (c := cI) (c' := cI2) h1 (by rw [h2]; exact cells_int) (by rw [h2]; exact rI) (rI2 h3 h4 h5 h6)
abbrev cT4 (y : ByteArray × Int × Int × Int × Unit) : List PV := cS y.1 ++ cI3 y.2
abbrev cT5 (y : Int × ByteArray × Int × Int × Int × Unit) : List PV := cI y.1 ++ cT4 y.2
theorem reads_trip : Reads Try.prog 41 cTrip := by
  refine reads_map (c := cT5) (fun y => ⟨y.1, y.2.1, y.2.2.1, y.2.2.2.1, y.2.2.2.2.1⟩) (fun _ => rfl) (reads_struct Try.underlying41 cells_trip ?_)
  exact readsR_cons (s := 1) (S := 4) (c := cI) (c' := cT4) rfl cells_int rI (readsR_cons (s := 1) (S := 3) (c := cS) (c' := cI3) rfl cells_str rS (rI3 rfl rfl rfl rfl rfl rfl))
end Go.Proofs.Ytdgbfbgnbgfmjaa

