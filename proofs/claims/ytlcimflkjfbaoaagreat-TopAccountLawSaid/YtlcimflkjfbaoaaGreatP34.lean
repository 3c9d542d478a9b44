/- Contracts of functions for this claim: lemmas alone. -/
import Derived.Test.YtlcimflkjfbaoaaGreatP2
import Derived.Test.YtlcimflkjfbaoaaGreatLg
import Derived.Test.YtlcimflkjfbaoaaGreatLi
set_option linter.unusedSimpArgs false
set_option linter.unusedVariables false
namespace Go.Proofs.YtlcimflkjfbaoaaGreat
open Go Go.Fi Go.RowKit Go.ChangeShapes Go.WideShapes Go.ChangeAt

/-! ### what the data look like -/
theorem Tryz.own : ownKnob Tryz.prog.godebug = none := by kernel_rfl
theorem Tryz.laidOut : laidOutB Tryz.prog = true := by kernel_rfl
theorem cells_int : Tryz.prog.cellsOf 3 = 1 := by kernel_rfl
abbrev cI (n : Int) : List PV := [.int .i64 n]
abbrev cU (_ : Unit) : List PV := []
theorem rI : Reads Tryz.prog 3 cI := reads_int Tryz.underlying3
abbrev cI1 (y : Int × Unit) : List PV := cI y.1 ++ cU y.2
abbrev cI2 (y : Int × Int × Unit) : List PV := cI y.1 ++ cI1 y.2
abbrev cI3 (y : Int × Int × Int × Unit) : List PV := cI y.1 ++ cI2 y.2
theorem rI1 {o : Nat} {f : Field} (h1 : f.offset = o) (h2 : f.type = 3) : ReadsR Tryz.prog [f] o cI1 1 := readsR_cons (s := 1) (S := 0) (c := cI) (c' := cU) h1 (by rw [h2]; exact cells_int) (by rw [h2]; exact rI) readsR_nil
theorem rI2 {o : Nat} {f g : Field} (h1 : f.offset = o) (h2 : f.type = 3) (h3 : g.offset = o + 1) (h4 : g.type = 3) : ReadsR Tryz.prog [f, g] o cI2 2 := readsR_cons (s := 1) (S := 1) (c := cI) (c' := cI1) h1 (by rw [h2]; exact cells_int) (by rw [h2]; exact rI) (rI1 h3 h4)
theorem rI3 {o : Nat} {f g k : Field} (h1 : f.offset = o) (h2 : f.type = 3) (h3 : g.offset = o + 1) (h4 : g.type = 3) (h5 : k.offset = o + 1 + 1) (h6 : k.type = 3) : ReadsR Tryz.prog [f, g, k] o cI3 3 := readsR_cons (s := 1) (S := 2) (c := cI) (c' := cI2) h1 (by rw [h2]; exact cells_int) (by rw [h2]; exact rI) (rI2 h3 h4 h5 h6)
end Go.Proofs.YtlcimflkjfbaoaaGreat

