/- Contracts of functions for this claim: lemmas alone. -/
import Derived.Test.YtgoemokfpfnlkaaP15
import Derived.Test.YtgoemokfpfnlkaaRows
import Derived.Test.YtgoemokfpfnlkaaLg
set_option linter.unusedSimpArgs false
set_option linter.unusedVariables false
namespace Go.Proofs.Ytgoemokfpfnlkaa
open Go Go.Fi Go.RowKit Go.ChangeShapes Go.WideShapes Go.ChangeAt

theorem Try.own : ownKnob Try.prog.godebug = none := by kernel_rfl
theorem Try.laidOut : laidOutB Try.prog = true := by kernel_rfl
theorem cells_int : Try.prog.cellsOf 3 = 1 := by kernel_rfl
theorem cells_str : Try.prog.cellsOf 9 = 1 := by kernel_rfl
theorem cells_range : Try.prog.cellsOf 36 = 2 := by kernel_rfl
theorem cells_pt : Try.prog.cellsOf 110 = 3 := by kernel_rfl
theorem cells_pts : Try.prog.cellsOf 56 = 1 := by kernel_rfl
theorem cells_road : Try.prog.cellsOf 58 = 5 := by kernel_rfl
theorem cells_places : Try.prog.cellsOf 22 = 1 := by kernel_rfl
theorem cells_roads : Try.prog.cellsOf 23 = 1 := by kernel_rfl
theorem cells_net : Try.prog.cellsOf 25 = 2 := by kernel_rfl
theorem cells_trip : Try.prog.cellsOf 27 = 3 := by kernel_rfl

abbrev cI (n : Int) : List PV := [.int .i64 n]
abbrev cS (s : ByteArray) : List PV := [.str s]
abbrev cU (_ : Unit) : List PV := []
theorem rI : Reads Try.prog 3 cI := reads_int Try.underlying3
theorem rS : Reads Try.prog 9 cS := reads_str Try.underlying9
abbrev cR1 (y : Int × Unit) : List PV := cI y.1 ++ cU y.2
abbrev cR2 (y : Int × Int × Unit) : List PV := cI y.1 ++ cR1 y.2
abbrev cR3 (y : Int × Int × Int × Unit) : List PV := cI y.1 ++ cR2 y.2
theorem reads_range : Reads Try.prog 36 cR2 := by
  refine reads_struct Try.underlying36 cells_range ?_
  exact readsR_cons (s := 1) (S := 1) (c := cI) (c' := cR1) rfl cells_int rI (readsR_cons (s := 1) (S := 0) (c := cI) (c' := cU) rfl cells_int rI readsR_nil)
abbrev cP1 (y : (Int × Int × Unit) × Unit) : List PV := cR2 y.1 ++ cU y.2
abbrev cP0 (y : Int × (Int × Int × Unit) × Unit) : List PV := cI y.1 ++ cP1 y.2
theorem reads_pt0 : Reads Try.prog 110 cP0 := by
  refine reads_struct Try.underlying110 cells_pt ?_
  exact readsR_cons (s := 1) (S := 2) (c := cI) (c' := cP1) rfl cells_int rI (readsR_cons (s := 2) (S := 0) (c := cR2) (c' := cU) rfl cells_range reads_range readsR_nil)
theorem reads_pt : Reads Try.prog 110 cPt := reads_map (c := cP0) (fun y => ⟨y.1, y.2.1.1, y.2.1.2.1⟩) (fun _ => rfl) reads_pt0
abbrev cL (l : List Pt) : List PV := [.sl l.length (cPts l)]
theorem reads_pts : Reads Try.prog 56 cL := reads_slice Try.underlying56 cells_pt (by decide) (fun _ => rfl) reads_pt
abbrev cD4 (y : List Pt × Unit) : List PV := cL y.1 ++ cU y.2
abbrev cD3 (y : Int × List Pt × Unit) : List PV := cI y.1 ++ cD4 y.2
abbrev cD2 (y : Int × Int × List Pt × Unit) : List PV := cI y.1 ++ cD3 y.2
abbrev cD1 (y : Int × Int × Int × List Pt × Unit) : List PV := cI y.1 ++ cD2 y.2
abbrev cD0 (y : ByteArray × Int × Int × Int × List Pt × Unit) : List PV := cS y.1 ++ cD1 y.2
theorem reads_road0 : Reads Try.prog 58 cD0 := by
  refine reads_struct Try.underlying58 cells_road ?_
  exact readsR_cons (s := 1) (S := 4) (c := cS) (c' := cD1) rfl cells_str rS (readsR_cons (s := 1) (S := 3) (c := cI) (c' := cD2) rfl cells_int rI (readsR_cons (s := 1) (S := 2) (c := cI) (c' := cD3) rfl cells_int rI
    (readsR_cons (s := 1) (S := 1) (c := cI) (c' := cD4) rfl cells_int rI (readsR_cons (s := 1) (S := 0) (c := cL) (c' := cU) rfl cells_pts reads_pts readsR_nil))))
theorem reads_road : Reads Try.prog 58 cRoad := reads_map (c := cD0) (fun y => ⟨y.1, y.2.1, y.2.2.1, y.2.2.2.1, y.2.2.2.2.1⟩) (fun _ => rfl) reads_road0
theorem strs_flatMap : ∀ l : List ByteArray, l.flatMap cS = strs l
  | [] => rfl
  | x :: r => by rw [List.flatMap_cons, strs_flatMap r]; rfl
abbrev cT (l : List ByteArray) : List PV := [.sl l.length (strs l)]
theorem reads_places : Reads Try.prog 22 cT := reads_map (c := fun l : List ByteArray => [.sl l.length (l.flatMap cS)]) id (fun l => by simp only [id, cT]; rw [strs_flatMap]) (reads_slice Try.underlying22 cells_str (by decide) (fun _ => rfl) rS)
abbrev cQ (l : List Road) : List PV := [.sl l.length (cRoads l)]
theorem reads_roads : Reads Try.prog 23 cQ := reads_slice Try.underlying23 cells_road (by decide) (fun _ => rfl) reads_road
abbrev cN1 (y : List Road × Unit) : List PV := cQ y.1 ++ cU y.2
abbrev cN0 (y : List ByteArray × List Road × Unit) : List PV := cT y.1 ++ cN1 y.2
theorem reads_net0 : Reads Try.prog 25 cN0 := by
  refine reads_struct Try.underlying25 cells_net ?_
  exact readsR_cons (s := 1) (S := 1) (c := cT) (c' := cN1) rfl cells_places reads_places (readsR_cons (s := 1) (S := 0) (c := cQ) (c' := cU) rfl cells_roads reads_roads readsR_nil)
theorem reads_net : Reads Try.prog 25 cNet := reads_map (c := cN0) (fun y => ⟨y.1, y.2.1⟩) (fun _ => rfl) reads_net0
theorem reads_trip0 : Reads Try.prog 27 cR3 := by
  refine reads_struct Try.underlying27 cells_trip ?_
  exact readsR_cons (s := 1) (S := 2) (c := cI) (c' := cR2) rfl cells_int rI (readsR_cons (s := 1) (S := 1) (c := cI) (c' := cR1) rfl cells_int rI (readsR_cons (s := 1) (S := 0) (c := cI) (c' := cU) rfl cells_int rI readsR_nil))
abbrev cTripL (t : Trip) : List PV := [.int .i64 t.frm, .int .i64 t.to, .int .i64 t.at_]
theorem reads_trip : Reads Try.prog 27 cTripL := reads_map (c := cR3) (fun y => ⟨y.1, y.2.1, y.2.2.1⟩) (fun _ => rfl) reads_trip0

end Go.Proofs.Ytgoemokfpfnlkaa
