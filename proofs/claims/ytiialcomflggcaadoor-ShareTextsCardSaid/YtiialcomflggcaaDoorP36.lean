/- Contracts of functions for this claim: lemmas alone. -/
import Derived.Test.YtiialcomflggcaaDoorP23
import Derived.Test.YtiialcomflggcaaDoorP26
import Derived.Test.YtiialcomflggcaaDoorRows
import Derived.Test.YtiialcomflggcaaDoorLg
import Derived.Test.YtiialcomflggcaaDoorLi
set_option linter.unusedSimpArgs false
set_option linter.unusedVariables false
namespace Go.Proofs.YtiialcomflggcaaDoor
open Go Go.Fi Go.RowKit Go.ChangeShapes Go.WideShapes Go.ChangeAt

theorem Tryd.own : ownKnob Tryd.prog.godebug = none := by kernel_rfl
theorem Tryd.laidOut : laidOutB Tryd.prog = true := by kernel_rfl
theorem cells_int : Tryd.prog.cellsOf 3 = 1 := by kernel_rfl
theorem cells_bool : Tryd.prog.cellsOf 4 = 1 := by kernel_rfl
theorem cells_str : Tryd.prog.cellsOf 9 = 1 := by kernel_rfl
theorem cells_row : Tryd.prog.cellsOf 43 = 1 := by kernel_rfl
theorem cells_rows : Tryd.prog.cellsOf 22 = 1 := by kernel_rfl
theorem cells_map : Tryd.prog.cellsOf 24 = 1 := by kernel_rfl
theorem cells_car : Tryd.prog.cellsOf 26 = 3 := by kernel_rfl
theorem cells_riders : Tryd.prog.cellsOf 27 = 1 := by kernel_rfl
theorem cells_stops : Tryd.prog.cellsOf 28 = 1 := by kernel_rfl
theorem cells_plan : Tryd.prog.cellsOf 30 = 5 := by kernel_rfl
theorem cells_rider : Tryd.prog.cellsOf 52 = 8 := by kernel_rfl
theorem cells_stop : Tryd.prog.cellsOf 63 = 2 := by kernel_rfl

abbrev cI (n : Int) : List PV := [.int .i64 n]
abbrev cB (b : Bool) : List PV := [.bool b]
abbrev cS (s : ByteArray) : List PV := [.str s]
abbrev cU (_ : Unit) : List PV := []
theorem rI : Reads Tryd.prog 3 cI := reads_int Tryd.underlying3
theorem rB : Reads Tryd.prog 4 cB := reads_bool Tryd.underlying4
theorem rS : Reads Tryd.prog 9 cS := reads_str Tryd.underlying9
theorem ints_flatMap : ∀ l : List Int, l.flatMap cI = ints l
  | [] => rfl
  | x :: r => by rw [List.flatMap_cons, ints_flatMap r]; rfl
abbrev cRowL (l : List Int) : List PV := [.sl l.length (ints l)]
theorem reads_row : Reads Tryd.prog 43 cRowL := reads_map (c := fun l : List Int => [.sl l.length (l.flatMap cI)]) id (fun l => by simp only [id, cRowL]; rw [ints_flatMap]) (reads_slice Tryd.underlying43 cells_int (by decide) (fun _ => rfl) rI)
theorem rows_flatMap : ∀ l : Grid, l.flatMap cRowL = cRows l
  | [] => rfl
  | x :: r => by rw [List.flatMap_cons, rows_flatMap r]; rfl
theorem reads_rows : Reads Tryd.prog 22 cMap := reads_map (c := fun l : Grid => [.sl l.length (l.flatMap cRowL)]) id (fun l => by simp only [id, cMap]; rw [rows_flatMap]) (reads_slice Tryd.underlying22 cells_row (by decide) (fun _ => rfl) reads_row)
theorem reads_grid : Reads Tryd.prog 24 cMap := by
  refine reads_map (c := fun y : Grid × Unit => cMap y.1 ++ cU y.2) (fun y => y.1) (fun _ => rfl) ?_
  refine reads_struct Tryd.underlying24 cells_map ?_
  exact readsR_cons (s := 1) (S := 0) (c := cMap) (c' := cU) rfl cells_rows reads_rows readsR_nil
abbrev cI1 (y : Int × Unit) : List PV := cI y.1 ++ cU y.2
abbrev cI2 (y : Int × Int × Unit) : List PV := cI y.1 ++ cI1 y.2
abbrev cI3 (y : Int × Int × Int × Unit) : List PV := cI y.1 ++ cI2 y.2
theorem rI1 {o : Nat} {f : Field} (h1 : f.offset = o) (h2 : f.type = 3) : ReadsR Tryd.prog [f] o cI1 1 := readsR_cons (s := 1) (S := 0) (c := cI) (c' := cU) h1 (by rw [h2]; exact cells_int) (by rw [h2]; exact rI) readsR_nil
theorem rI2 {o : Nat} {f g : Field} (h1 : f.offset = o) (h2 : f.type = 3) (h3 : g.offset = o + 1) (h4 : g.type = 3) : ReadsR Tryd.prog [f, g] o cI2 2 := readsR_cons (s := 1) (S := 1) (c := cI) (c' := cI1) h1 (by rw [h2]; exact cells_int) (by rw [h2]; exact rI) (rI1 h3 h4)
theorem reads_car0 : Reads Tryd.prog 26 cI3 := by
  refine reads_struct Tryd.underlying26 cells_car ?_
  exact readsR_cons (s := 1) (S := 2) (c := cI) (c' := cI2) rfl cells_int rI (rI2 rfl rfl rfl rfl)
theorem reads_stop0 : Reads Tryd.prog 63 (fun y : Int × Bool × Unit => cI y.1 ++ (cB y.2.1 ++ cU y.2.2)) := by
  refine reads_struct Tryd.underlying63 cells_stop ?_
  exact readsR_cons (s := 1) (S := 1) (c := cI) (c' := fun y : Bool × Unit => cB y.1 ++ cU y.2) rfl cells_int rI (readsR_cons (s := 1) (S := 0) (c := cB) (c' := cU) rfl cells_bool rB readsR_nil)
theorem reads_stop : Reads Tryd.prog 63 cStop := reads_map (c := fun y : Int × Bool × Unit => cI y.1 ++ (cB y.2.1 ++ cU y.2.2)) (fun y => ⟨y.1, y.2.1⟩) (fun _ => rfl) reads_stop0
theorem reads_stops : Reads Tryd.prog 28 (fun l : List Stop => [.sl l.length (cStops l)]) := reads_slice Tryd.underlying28 cells_stop (by decide) (fun _ => rfl) reads_stop
abbrev cG2 (y : Bool × Int × Unit) : List PV := cB y.1 ++ cI1 y.2
abbrev cG3 (y : Int × Bool × Int × Unit) : List PV := cI y.1 ++ cG2 y.2
abbrev cG4 (y : Int × Int × Bool × Int × Unit) : List PV := cI y.1 ++ cG3 y.2
abbrev cG5 (y : Int × Int × Int × Bool × Int × Unit) : List PV := cI y.1 ++ cG4 y.2
abbrev cG6 (y : Int × Int × Int × Int × Bool × Int × Unit) : List PV := cI y.1 ++ cG5 y.2
abbrev cG7 (y : Int × Int × Int × Int × Int × Bool × Int × Unit) : List PV := cI y.1 ++ cG6 y.2
abbrev cG8 (y : ByteArray × Int × Int × Int × Int × Int × Bool × Int × Unit) : List PV := cS y.1 ++ cG7 y.2
theorem reads_rider0 : Reads Tryd.prog 52 cG8 := by
  refine reads_struct Tryd.underlying52 cells_rider ?_
  exact readsR_cons (s := 1) (S := 7) (c := cS) (c' := cG7) rfl cells_str rS (readsR_cons (s := 1) (S := 6) (c := cI) (c' := cG6) rfl cells_int rI (readsR_cons (s := 1) (S := 5) (c := cI) (c' := cG5) rfl cells_int rI
    (readsR_cons (s := 1) (S := 4) (c := cI) (c' := cG4) rfl cells_int rI (readsR_cons (s := 1) (S := 3) (c := cI) (c' := cG3) rfl cells_int rI (readsR_cons (s := 1) (S := 2) (c := cI) (c' := cG2) rfl cells_int rI
    (readsR_cons (s := 1) (S := 1) (c := cB) (c' := cI1) rfl cells_bool rB (rI1 rfl rfl)))))))
theorem reads_rider : Reads Tryd.prog 52 cRider := reads_map (c := cG8) (fun y => ⟨y.1, y.2.1, y.2.2.1, y.2.2.2.1, y.2.2.2.2.1, y.2.2.2.2.2.1, y.2.2.2.2.2.2.1, y.2.2.2.2.2.2.2.1⟩) (fun _ => rfl) reads_rider0
theorem reads_riders : Reads Tryd.prog 27 (fun l : List Rider => [.sl l.length (cRiders l)]) := reads_slice Tryd.underlying27 cells_rider (by decide) (fun _ => rfl) reads_rider
abbrev cP1 (y : List Stop × Unit) : List PV := [.sl y.1.length (cStops y.1)] ++ cU y.2
abbrev cP2 (y : List Rider × List Stop × Unit) : List PV := [.sl y.1.length (cRiders y.1)] ++ cP1 y.2
abbrev cP3 (y : (Int × Int × Int × Unit) × List Rider × List Stop × Unit) : List PV := cI3 y.1 ++ cP2 y.2
theorem reads_plan0 : Reads Tryd.prog 30 cP3 := by
  refine reads_struct Tryd.underlying30 cells_plan ?_
  exact readsR_cons (s := 3) (S := 2) (c := cI3) (c' := cP2) rfl cells_car reads_car0 (readsR_cons (s := 1) (S := 1) (c := fun l : List Rider => [.sl l.length (cRiders l)]) (c' := cP1) rfl cells_riders reads_riders
    (readsR_cons (s := 1) (S := 0) (c := fun l : List Stop => [.sl l.length (cStops l)]) (c' := cU) rfl cells_stops reads_stops readsR_nil))
theorem reads_plan : Reads Tryd.prog 30 cPlan := reads_map (c := cP3) (fun y => ⟨⟨y.1.1, y.1.2.1, y.1.2.2.1⟩, y.2.1, y.2.2.1⟩) (fun _ => rfl) reads_plan0
structure Change where
  rider : Int
  ins : Insert
end Go.Proofs.YtiialcomflggcaaDoor

