/- Contracts of functions for this claim: lemmas alone. -/
import Derived.Test.YtfpamehamllndaaGreatDoorP12
import Derived.Test.YtfpamehamllndaaGreatDoorRows
import Derived.Test.YtfpamehamllndaaGreatDoorLg
set_option linter.unusedSimpArgs false
set_option linter.unusedVariables false
namespace Go.Proofs.YtfpamehamllndaaGreatDoor
open Go Go.Fi Go.RowKit Go.ChangeShapes Go.WideShapes Go.ChangeAt

theorem Tryz.own : ownKnob Tryz.prog.godebug = none := by kernel_rfl
theorem Tryz.laidOut : laidOutB Tryz.prog = true := by kernel_rfl
theorem cells_int : Tryz.prog.cellsOf 3 = 1 := by kernel_rfl
theorem cells_str : Tryz.prog.cellsOf 9 = 1 := by kernel_rfl
theorem cells_range : Tryz.prog.cellsOf 41 = 2 := by kernel_rfl
theorem cells_pt : Tryz.prog.cellsOf 70 = 3 := by kernel_rfl
theorem cells_pts : Tryz.prog.cellsOf 53 = 1 := by kernel_rfl
theorem cells_road : Tryz.prog.cellsOf 55 = 5 := by kernel_rfl
theorem cells_places : Tryz.prog.cellsOf 22 = 1 := by kernel_rfl
theorem cells_roads : Tryz.prog.cellsOf 23 = 1 := by kernel_rfl
theorem cells_net : Tryz.prog.cellsOf 25 = 2 := by kernel_rfl
abbrev cI (n : Int) : List PV := [.int .i64 n]
abbrev cS (s : ByteArray) : List PV := [.str s]
abbrev cU (_ : Unit) : List PV := []
theorem rI : Reads Tryz.prog 3 cI := reads_int Tryz.underlying3
theorem rS : Reads Tryz.prog 9 cS := reads_str Tryz.underlying9
abbrev cR1 (y : Int × Unit) : List PV := cI y.1 ++ cU y.2
abbrev cR2 (y : Int × Int × Unit) : List PV := cI y.1 ++ cR1 y.2
theorem reads_range : Reads Tryz.prog 41 cR2 := by
  refine reads_struct Tryz.underlying41 cells_range ?_
  exact readsR_cons (s := 1) (S := 1) (c := cI) (c' := cR1) rfl cells_int rI (readsR_cons (s := 1) (S := 0) (c := cI) (c' := cU) rfl cells_int rI readsR_nil)
abbrev cP1 (y : (Int × Int × Unit) × Unit) : List PV := cR2 y.1 ++ cU y.2
abbrev cP0 (y : Int × (Int × Int × Unit) × Unit) : List PV := cI y.1 ++ cP1 y.2
theorem reads_pt0 : Reads Tryz.prog 70 cP0 := by
  refine reads_struct Tryz.underlying70 cells_pt ?_
  exact readsR_cons (s := 1) (S := 2) (c := cI) (c' := cP1) rfl cells_int rI (readsR_cons (s := 2) (S := 0) (c := cR2) (c' := cU) rfl cells_range reads_range readsR_nil)
theorem reads_pt : Reads Tryz.prog 70 cPt := reads_map (c := cP0) (fun y => ⟨y.1, y.2.1.1, y.2.1.2.1⟩) (fun _ => rfl) reads_pt0
abbrev cL (l : List Pt) : List PV := [.sl l.length (cPts l)]
theorem reads_pts : Reads Tryz.prog 53 cL := reads_slice Tryz.underlying53 cells_pt (by decide) (fun _ => rfl) reads_pt
abbrev cD4 (y : List Pt × Unit) : List PV := cL y.1 ++ cU y.2
abbrev cD3 (y : Int × List Pt × Unit) : List PV := cI y.1 ++ cD4 y.2
abbrev cD2 (y : Int × Int × List Pt × Unit) : List PV := cI y.1 ++ cD3 y.2
abbrev cD1 (y : Int × Int × Int × List Pt × Unit) : List PV := cI y.1 ++ cD2 y.2
abbrev cD0 (y : ByteArray × Int × Int × Int × List Pt × Unit) : List PV := cS y.1 ++ cD1 y.2
theorem reads_road0 : Reads Tryz.prog 55 cD0 := by
  refine reads_struct Tryz.underlying55 cells_road ?_
  exact readsR_cons (s := 1) (S := 4) (c := cS) (c' := cD1) rfl cells_str rS (readsR_cons (s := 1) (S := 3) (c := cI) (c' := cD2) rfl cells_int rI (readsR_cons (s := 1) (S := 2) (c := cI) (c' := cD3) rfl cells_int rI
    (readsR_cons (s := 1) (S := 1) (c := cI) (c' := cD4) rfl cells_int rI (readsR_cons (s := 1) (S := 0) (c := cL) (c' := cU) rfl cells_pts reads_pts readsR_nil))))
theorem reads_road : Reads Tryz.prog 55 cRoad := reads_map (c := cD0) (fun y => ⟨y.1, y.2.1, y.2.2.1, y.2.2.2.1, y.2.2.2.2.1⟩) (fun _ => rfl) reads_road0
theorem strs_flatMap : ∀ l : List ByteArray, l.flatMap cS = strs l
  | [] => rfl
  | x :: r => by rw [List.flatMap_cons, strs_flatMap r]; rfl
abbrev cT (l : List ByteArray) : List PV := [.sl l.length (strs l)]
theorem reads_places : Reads Tryz.prog 22 cT := reads_map (c := fun l : List ByteArray => [.sl l.length (l.flatMap cS)]) id (fun l => by simp only [id, cT]; rw [strs_flatMap]) (reads_slice Tryz.underlying22 cells_str (by decide) (fun _ => rfl) rS)
abbrev cQ (l : List Road) : List PV := [.sl l.length (cRoads l)]
theorem reads_roads : Reads Tryz.prog 23 cQ := reads_slice Tryz.underlying23 cells_road (by decide) (fun _ => rfl) reads_road
abbrev cN1 (y : List Road × Unit) : List PV := cQ y.1 ++ cU y.2
abbrev cN0 (y : List ByteArray × List Road × Unit) : List PV := cT y.1 ++ cN1 y.2
theorem reads_net0 : Reads Tryz.prog 25 cN0 := by
  refine reads_struct Tryz.underlying25 cells_net ?_
  exact readsR_cons (s := 1) (S := 1) (c := cT) (c' := cN1) rfl cells_places reads_places (readsR_cons (s := 1) (S := 0) (c := cQ) (c' := cU) rfl cells_roads reads_roads readsR_nil)
theorem reads_net : Reads Tryz.prog 25 cNet := reads_map (c := cN0) (fun y => ⟨y.1, y.2.1⟩) (fun _ => rfl) reads_net0
end Go.Proofs.YtfpamehamllndaaGreatDoor

