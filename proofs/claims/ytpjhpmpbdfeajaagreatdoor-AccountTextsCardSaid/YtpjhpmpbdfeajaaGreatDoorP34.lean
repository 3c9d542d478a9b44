/- Contracts of functions for this claim: lemmas alone. -/
import Derived.Test.YtpjhpmpbdfeajaaGreatDoorP2
import Derived.Test.YtpjhpmpbdfeajaaGreatDoorLg
import Derived.Test.YtpjhpmpbdfeajaaGreatDoorLi
set_option linter.unusedSimpArgs false
set_option linter.unusedVariables false
namespace Go.Proofs.YtpjhpmpbdfeajaaGreatDoor
open Go Go.Fi Go.RowKit Go.ChangeShapes Go.WideShapes Go.ChangeAt

/-! ### what the data look like -/
theorem Tryz.own : ownKnob Tryz.prog.godebug = none := by kernel_rfl
theorem Tryz.laidOut : laidOutB Tryz.prog = true := by kernel_rfl
theorem cells_int : Tryz.prog.cellsOf 3 = 1 := by kernel_rfl
theorem cells_str : Tryz.prog.cellsOf 9 = 1 := by kernel_rfl
theorem cells_acc : Tryz.prog.cellsOf 87 = 2 := by kernel_rfl
theorem cells_line : Tryz.prog.cellsOf 89 = 2 := by kernel_rfl
theorem cells_lines : Tryz.prog.cellsOf 38 = 1 := by kernel_rfl
theorem cells_entry : Tryz.prog.cellsOf 40 = 3 := by kernel_rfl
abbrev cI (n : Int) : List PV := [.int .i64 n]
abbrev cS (s : ByteArray) : List PV := [.str s]
abbrev cU (_ : Unit) : List PV := []
theorem rI : Reads Tryz.prog 3 cI := reads_int Tryz.underlying3
theorem rS : Reads Tryz.prog 9 cS := reads_str Tryz.underlying9
abbrev cI1 (y : Int × Unit) : List PV := cI y.1 ++ cU y.2
theorem rI1 {o : Nat} {f : Field} (h1 : f.offset = o) (h2 : f.type = 3) : ReadsR Tryz.prog [f] o cI1 1 := readsR_cons (s := 1) (S := 0) (c := cI) (c' := cU) h1 (by rw [h2]; exact cells_int) (by rw [h2]; exact rI) readsR_nil
abbrev cSI (y : ByteArray × Int × Unit) : List PV := cS y.1 ++ cI1 y.2
theorem reads_acc : Reads Tryz.prog 87 cAcc := by
  refine reads_map (c := cSI) (fun y => ⟨y.1, y.2.1⟩) (fun _ => rfl) (reads_struct Tryz.underlying87 cells_acc ?_)
  exact readsR_cons (s := 1) (S := 1) (c := cS) (c' := cI1) rfl cells_str rS (rI1 rfl rfl)
theorem reads_accs : Reads Tryz.prog 37 (fun l : List Acc => [.sl l.length (cAccs l)]) := reads_slice Tryz.underlying37 cells_acc (by decide) (fun _ => rfl) reads_acc
end Go.Proofs.YtpjhpmpbdfeajaaGreatDoor
namespace Go.Proofs.YtpjhpmpbdfeajaaGreatDoor
open Go Go.Fi Go.RowKit Go.ChangeShapes Go.WideShapes Go.ChangeAt

/-! ### numbers are in the range of their type -/
abbrev WI := {n : Int // -9223372036854775808 ≤ n ∧ n ≤ 9223372036854775807}
abbrev cW (n : WI) : List PV := [.int .i64 n.1]
theorem rW : Reads Tryz.prog 3 cW := by
  intro H enc w held fuel cs x h
  obtain ⟨n, rfl, _, hw⟩ := DataW.trod_int Tryz.underlying3 h
  have hr : -9223372036854775808 ≤ n ∧ n ≤ 9223372036854775807 := by
    simp [Lit.wf, IntKind.min, IntKind.max, IntKind.signed, IntKind.bits] at hw
    omega
  exact ⟨⟨n, hr⟩, Match.one (.int _ _)⟩
abbrev LineW := {y : Line // -9223372036854775808 ≤ y.amt ∧ y.amt ≤ 9223372036854775807}
abbrev cW1 (y : WI × Unit) : List PV := cW y.1 ++ cU y.2
abbrev cSW (y : ByteArray × WI × Unit) : List PV := cS y.1 ++ cW1 y.2
theorem rW1 {o : Nat} {f : Field} (h1 : f.offset = o) (h2 : f.type = 3) : ReadsR Tryz.prog [f] o cW1 1 := readsR_cons (s := 1) (S := 0) (c := cW) (c' := cU) h1 (by rw [h2]; exact cells_int) (by rw [h2]; exact rW) readsR_nil
theorem reads_lineW : Reads Tryz.prog 89 (fun y : LineW => cLine y.1) := by
  refine reads_map (c := cSW) (fun y => ⟨⟨y.1, y.2.1.1⟩, y.2.1.2⟩) (fun _ => rfl) (reads_struct Tryz.underlying89 cells_line ?_)
  exact readsR_cons (s := 1) (S := 1) (c := cS) (c' := cW1) rfl cells_str rS (rW1 rfl rfl)
abbrev LinesX := {l : List Line // ∀ y ∈ l, -9223372036854775808 ≤ y.amt ∧ y.amt ≤ 9223372036854775807}
theorem cLines_map (l : List LineW) : (l.flatMap fun y : LineW => cLine y.1) = cLines (l.map (·.1)) := by
  unfold cLines; rw [List.flatMap_map]
theorem reads_linesX : Reads Tryz.prog 38 (fun l : LinesX => [.sl l.1.length (cLines l.1)]) :=
  reads_map (c := fun l : List LineW => [.sl l.length (l.flatMap fun y : LineW => cLine y.1)]) (fun l => ⟨l.map (·.1), fun y hy => by obtain ⟨z, _, rfl⟩ := List.mem_map.1 hy; exact z.2⟩)
    (fun l => by rw [cLines_map]; simp) (reads_slice Tryz.underlying38 cells_line (by decide) (fun _ => rfl) reads_lineW)
abbrev EntX := {e : Entry // (-9223372036854775808 ≤ e.date ∧ e.date ≤ 9223372036854775807) ∧ ∀ y ∈ e.lines, -9223372036854775808 ≤ y.amt ∧ y.amt ≤ 9223372036854775807}
abbrev cLX1 (y : LinesX × Unit) : List PV := [.sl y.1.1.length (cLines y.1.1)] ++ cU y.2
abbrev cLX2 (y : ByteArray × LinesX × Unit) : List PV := cS y.1 ++ cLX1 y.2
abbrev cLX3 (y : WI × ByteArray × LinesX × Unit) : List PV := cW y.1 ++ cLX2 y.2
theorem reads_entryX : Reads Tryz.prog 40 (fun e : EntX => cEntry e.1) := by
  refine reads_map (c := cLX3) (fun y => ⟨⟨y.1.1, y.2.1, y.2.2.1.1⟩, y.1.2, y.2.2.1.2⟩) (fun _ => rfl) (reads_struct Tryz.underlying40 cells_entry ?_)
  exact readsR_cons (s := 1) (S := 2) (c := cW) (c' := cLX2) rfl cells_int rW (readsR_cons (s := 1) (S := 1) (c := cS) (c' := cLX1) rfl cells_str rS
    (readsR_cons (s := 1) (S := 0) (c := fun l : LinesX => [.sl l.1.length (cLines l.1)]) (c' := cU) rfl cells_lines reads_linesX readsR_nil))
end Go.Proofs.YtpjhpmpbdfeajaaGreatDoor

