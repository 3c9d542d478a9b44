/- Contracts of functions for this claim: lemmas alone. -/
import Derived.Test.YtdgbfbgnbgfmjaaGreatDoorP2
import Derived.Test.YtdgbfbgnbgfmjaaGreatDoorLg
import Derived.Test.YtdgbfbgnbgfmjaaGreatDoorLi
set_option linter.unusedSimpArgs false
set_option linter.unusedVariables false
namespace Go.Proofs.YtdgbfbgnbgfmjaaGreatDoor
open Go Go.Fi Go.RowKit Go.ChangeShapes Go.WideShapes Go.ChangeAt

/-! ### what the data look like -/
theorem Tryz.own : ownKnob Tryz.prog.godebug = none := by kernel_rfl
theorem Tryz.laidOut : laidOutB Tryz.prog = true := by kernel_rfl
theorem cells_int : Tryz.prog.cellsOf 3 = 1 := by kernel_rfl
theorem cells_str : Tryz.prog.cellsOf 9 = 1 := by kernel_rfl
theorem cells_acc : Tryz.prog.cellsOf 132 = 2 := by kernel_rfl
theorem cells_accs : Tryz.prog.cellsOf 37 = 1 := by kernel_rfl
theorem cells_line : Tryz.prog.cellsOf 70 = 2 := by kernel_rfl
theorem cells_lines : Tryz.prog.cellsOf 38 = 1 := by kernel_rfl
theorem cells_entry : Tryz.prog.cellsOf 40 = 3 := by kernel_rfl
theorem cells_entries : Tryz.prog.cellsOf 72 = 1 := by kernel_rfl
theorem cells_book : Tryz.prog.cellsOf 74 = 3 := by kernel_rfl
abbrev cI (n : Int) : List PV := [.int .i64 n]
abbrev cS (s : ByteArray) : List PV := [.str s]
abbrev cU (_ : Unit) : List PV := []
theorem rI : Reads Tryz.prog 3 cI := reads_int Tryz.underlying3
theorem rS : Reads Tryz.prog 9 cS := reads_str Tryz.underlying9
abbrev cI1 (y : Int × Unit) : List PV := cI y.1 ++ cU y.2
theorem rI1 {o : Nat} {f : Field} (h1 : f.offset = o) (h2 : f.type = 3) : ReadsR Tryz.prog [f] o cI1 1 := readsR_cons (s := 1) (S := 0) (c := cI) (c' := cU) h1 (by rw [h2]; exact cells_int) (by rw [h2]; exact rI) readsR_nil
abbrev cSI (y : ByteArray × Int × Unit) : List PV := cS y.1 ++ cI1 y.2
theorem reads_acc : Reads Tryz.prog 132 cAcc := by
  refine reads_map (c := cSI) (fun y => ⟨y.1, y.2.1⟩) (fun _ => rfl) (reads_struct Tryz.underlying132 cells_acc ?_)
  exact readsR_cons (s := 1) (S := 1) (c := cS) (c' := cI1) rfl cells_str rS (rI1 rfl rfl)
theorem reads_accs : Reads Tryz.prog 37 (fun l : List Acc => [.sl l.length (cAccs l)]) := reads_slice Tryz.underlying37 cells_acc (by decide) (fun _ => rfl) reads_acc
theorem reads_line : Reads Tryz.prog 70 cLine := by
  refine reads_map (c := cSI) (fun y => ⟨y.1, y.2.1⟩) (fun _ => rfl) (reads_struct Tryz.underlying70 cells_line ?_)
  exact readsR_cons (s := 1) (S := 1) (c := cS) (c' := cI1) rfl cells_str rS (rI1 rfl rfl)
theorem reads_lines : Reads Tryz.prog 38 (fun l : List Line => [.sl l.length (cLines l)]) := reads_slice Tryz.underlying38 cells_line (by decide) (fun _ => rfl) reads_line
abbrev cL1 (y : List Line × Unit) : List PV := [.sl y.1.length (cLines y.1)] ++ cU y.2
abbrev cE2 (y : ByteArray × List Line × Unit) : List PV := cS y.1 ++ cL1 y.2
abbrev cE3 (y : Int × ByteArray × List Line × Unit) : List PV := cI y.1 ++ cE2 y.2
theorem reads_entry : Reads Tryz.prog 40 cEntry := by
  refine reads_map (c := cE3) (fun y => ⟨y.1, y.2.1, y.2.2.1⟩) (fun _ => rfl) (reads_struct Tryz.underlying40 cells_entry ?_)
  exact readsR_cons (s := 1) (S := 2) (c := cI) (c' := cE2) rfl cells_int rI (readsR_cons (s := 1) (S := 1) (c := cS) (c' := cL1) rfl cells_str rS
    (readsR_cons (s := 1) (S := 0) (c := fun l : List Line => [.sl l.length (cLines l)]) (c' := cU) rfl cells_lines reads_lines readsR_nil))
theorem reads_entries : Reads Tryz.prog 72 (fun l : List Entry => [.sl l.length (cEntries l)]) := reads_slice Tryz.underlying72 cells_entry (by decide) (fun _ => rfl) reads_entry
abbrev cB2 (y : List Entry × Int × Unit) : List PV := [.sl y.1.length (cEntries y.1)] ++ cI1 y.2
abbrev cB3 (y : List Acc × List Entry × Int × Unit) : List PV := [.sl y.1.length (cAccs y.1)] ++ cB2 y.2
theorem reads_book : Reads Tryz.prog 74 cBook := by
  refine reads_map (c := cB3) (fun y => ⟨y.1, y.2.1, y.2.2.1⟩) (fun _ => rfl) (reads_struct Tryz.underlying74 cells_book ?_)
  exact readsR_cons (s := 1) (S := 2) (c := fun l : List Acc => [.sl l.length (cAccs l)]) (c' := cB2) rfl cells_accs reads_accs
    (readsR_cons (s := 1) (S := 1) (c := fun l : List Entry => [.sl l.length (cEntries l)]) (c' := cI1) rfl cells_entries reads_entries (rI1 rfl rfl))
end Go.Proofs.YtdgbfbgnbgfmjaaGreatDoor
namespace Go.Proofs.YtdgbfbgnbgfmjaaGreatDoor
open Go Go.Fi Go.RowKit Go.ChangeShapes Go.WideShapes Go.ChangeAt

/-! ### rules and complaints: what the data look like -/
end Go.Proofs.YtdgbfbgnbgfmjaaGreatDoor
namespace Go.Proofs.YtdgbfbgnbgfmjaaGreatDoor
open Go Go.Fi Go.RowKit Go.ChangeShapes Go.WideShapes Go.ChangeAt

/-! ### an entry whose date is in the range of its type -/
abbrev WI := {n : Int // -9223372036854775808 ≤ n ∧ n ≤ 9223372036854775807}
abbrev cW (n : WI) : List PV := [.int .i64 n.1]
theorem rW : Reads Tryz.prog 3 cW := by
  intro H enc w held fuel cs x h
  obtain ⟨n, rfl, _, hw⟩ := DataW.trod_int Tryz.underlying3 h
  have hr : -9223372036854775808 ≤ n ∧ n ≤ 9223372036854775807 := by
    simp [Lit.wf, IntKind.min, IntKind.max, IntKind.signed, IntKind.bits] at hw
    omega
  exact ⟨⟨n, hr⟩, Match.one (.int _ _)⟩
abbrev EntW := {e : Entry // -9223372036854775808 ≤ e.date ∧ e.date ≤ 9223372036854775807}
abbrev cEW (y : WI × ByteArray × List Line × Unit) : List PV := cW y.1 ++ cE2 y.2
theorem reads_entryW : Reads Tryz.prog 40 (fun e : EntW => cEntry e.1) := by
  refine reads_map (c := cEW) (fun y => ⟨⟨y.1.1, y.2.1, y.2.2.1⟩, y.1.2⟩) (fun _ => rfl) (reads_struct Tryz.underlying40 cells_entry ?_)
  exact readsR_cons (s := 1) (S := 2) (c := cW) (c' := cE2) rfl cells_int rW (readsR_cons (s := 1) (S := 1) (c := cS) (c' := cL1) rfl cells_str rS
    (readsR_cons (s := 1) (S := 0) (c := fun l : List Line => [.sl l.length (cLines l)]) (c' := cU) rfl cells_lines reads_lines readsR_nil))
end Go.Proofs.YtdgbfbgnbgfmjaaGreatDoor

