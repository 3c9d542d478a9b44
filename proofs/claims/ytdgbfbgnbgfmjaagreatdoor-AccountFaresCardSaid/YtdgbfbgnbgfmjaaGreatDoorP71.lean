/- Contracts of functions for this claim: lemmas alone. -/
import Derived.Test.YtdgbfbgnbgfmjaaGreatDoorP34
set_option linter.unusedSimpArgs false
set_option linter.unusedVariables false
namespace Go.Proofs.YtdgbfbgnbgfmjaaGreatDoor
open Go Go.Fi Go.RowKit Go.ChangeShapes Go.WideShapes Go.ChangeAt

/-! ### rules and complaints: what the data look like -/
theorem reads_array3 {P : Program} {t e : TypeId} {s : Nat} {α : Type} {c : α → List PV} (ht : P.underlying t = some (.array 3 e)) (hs : P.cellsOf e = s) (hss : P.cellsOf t = s + s + s) (h : Reads P e c) : Reads P t (fun y : α × α × α => c y.1 ++ (c y.2.1 ++ c y.2.2)) := by
  intro H enc w held fuel cs x hx
  obtain ⟨xs, n, _, _, hl, hxl, hf⟩ := DataW.trod_array ht hx
  have f0 := hf 0 (by omega)
  have f1 := hf 1 (by omega)
  have f2 := hf 2 (by omega)
  rw [List.getElem?_eq_getElem (by omega), hs] at f0 f1 f2
  obtain ⟨y, hy⟩ := h H enc w held n _ _ f0
  obtain ⟨z, hz⟩ := h H enc w held n _ _ f1
  obtain ⟨u, hu⟩ := h H enc w held n _ _ f2
  refine ⟨(y, z, u), ?_⟩
  rw [Nat.zero_mul, List.drop_zero] at hy
  rw [Nat.one_mul] at hz
  rw [Nat.two_mul] at hu
  have e : cs = cs.take s ++ ((cs.drop s).take s ++ (cs.drop (s + s)).take s) := by
    rw [List.take_of_length_le (l := cs.drop (s + s)) (by rw [List.length_drop, hl, hss]; omega), ← List.drop_drop, List.take_append_drop, List.take_append_drop]
  rw [e]
  exact hy.append (hz.append hu)
theorem cells_three : Tryz.prog.cellsOf 60 = 1 + 1 + 1 := by kernel_rfl
theorem cells_rule : Tryz.prog.cellsOf 62 = 8 := by kernel_rfl
abbrev cA3 (y : Int × Int × Int) : List PV := cI y.1 ++ (cI y.2.1 ++ cI y.2.2)
theorem reads_three : Reads Tryz.prog 60 cA3 := reads_array3 Tryz.underlying60 cells_int cells_three rI
abbrev cR1 (y : ByteArray × Unit) : List PV := cS y.1 ++ cU y.2
abbrev cR2 (y : ByteArray × ByteArray × Unit) : List PV := cS y.1 ++ cR1 y.2
abbrev cR3 (y : (Int × Int × Int) × ByteArray × ByteArray × Unit) : List PV := cA3 y.1 ++ cR2 y.2
abbrev cR4 (y : ByteArray × (Int × Int × Int) × ByteArray × ByteArray × Unit) : List PV := cS y.1 ++ cR3 y.2
abbrev cR5 (y : ByteArray × ByteArray × (Int × Int × Int) × ByteArray × ByteArray × Unit) : List PV := cS y.1 ++ cR4 y.2
abbrev cR6 (y : ByteArray × ByteArray × ByteArray × (Int × Int × Int) × ByteArray × ByteArray × Unit) : List PV := cS y.1 ++ cR5 y.2
theorem reads_rule : Reads Tryz.prog 62 cRule := by
  refine reads_map (c := cR6) (fun y => ⟨y.1, y.2.1, y.2.2.1, y.2.2.2.1.1, y.2.2.2.1.2.1, y.2.2.2.1.2.2, y.2.2.2.2.1, y.2.2.2.2.2.1⟩) (fun _ => rfl) (reads_struct Tryz.underlying62 cells_rule ?_)
  exact readsR_cons (s := 1) (S := 7) (c := cS) (c' := cR5) rfl cells_str rS (readsR_cons (s := 1) (S := 6) (c := cS) (c' := cR4) rfl cells_str rS (readsR_cons (s := 1) (S := 5) (c := cS) (c' := cR3) rfl cells_str rS
    (readsR_cons (s := 3) (S := 2) (c := cA3) (c' := cR2) rfl cells_three reads_three (readsR_cons (s := 1) (S := 1) (c := cS) (c' := cR1) rfl cells_str rS (readsR_cons (s := 1) (S := 0) (c := cS) (c' := cU) rfl cells_str rS readsR_nil)))))
theorem reads_law : Reads Tryz.prog 95 cI2 := reads_struct Tryz.underlying95 cells_pair (rI2 rfl rfl rfl rfl)
abbrev cC2 (y : (Int × Int × Unit) × Int × Unit) : List PV := cI2 y.1 ++ cI1 y.2
abbrev cC3 (y : Int × (Int × Int × Unit) × Int × Unit) : List PV := cI y.1 ++ cC2 y.2
abbrev cC4 (y : ByteArray × Int × (Int × Int × Unit) × Int × Unit) : List PV := cS y.1 ++ cC3 y.2
abbrev cC5 (y : Int × ByteArray × Int × (Int × Int × Unit) × Int × Unit) : List PV := cI y.1 ++ cC4 y.2
theorem reads_compl : Reads Tryz.prog 97 cCompl := by
  refine reads_map (c := cC5) (fun y => ⟨y.1, y.2.1, y.2.2.1, y.2.2.2.1.1, y.2.2.2.1.2.1, y.2.2.2.2.1⟩) (fun _ => rfl) (reads_struct Tryz.underlying97 cells_compl ?_)
  exact readsR_cons (s := 1) (S := 5) (c := cI) (c' := cC4) rfl cells_int rI (readsR_cons (s := 1) (S := 4) (c := cS) (c' := cC3) rfl cells_str rS (readsR_cons (s := 1) (S := 3) (c := cI) (c' := cC2) rfl cells_int rI
    (readsR_cons (s := 2) (S := 1) (c := cI2) (c' := cI1) rfl cells_pair reads_law (rI1 rfl rfl))))
end Go.Proofs.YtdgbfbgnbgfmjaaGreatDoor
