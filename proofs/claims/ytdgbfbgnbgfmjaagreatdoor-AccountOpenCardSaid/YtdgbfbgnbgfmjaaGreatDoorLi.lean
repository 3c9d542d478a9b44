/- A logic of abstract states for this claim (part Li): lemmas alone. -/
import Derived.Test.YtdgbfbgnbgfmjaaGreatDoorLg
import Derived.OpenShut
set_option linter.unusedSimpArgs false
set_option linter.unusedVariables false

namespace Go.Fi
open Go Go.RowKit Go.ChangeShapes Go.WideShapes
variable [LaidW]

section
variable {P : Program} {t e : TypeId} {W : World}
omit [LaidW] in
/-- a pair of two of one kind -/
theorem reads_array2 {s : Nat} {α : Type} {c : α → List PV} (ht : P.underlying t = some (.array 2 e)) (hs : P.cellsOf e = s) (hss : P.cellsOf t = s + s) (h : Reads P e c) : Reads P t (fun y : α × α => c y.1 ++ c y.2) := by
  intro H enc w held fuel cs x hx
  obtain ⟨xs, n, _, _, hl, hxl, hf⟩ := DataW.trod_array ht hx
  have f0 := hf 0 (by omega)
  have f1 := hf 1 (by omega)
  rw [List.getElem?_eq_getElem (by omega), hs] at f0 f1
  obtain ⟨y, hy⟩ := h H enc w held n _ _ f0
  obtain ⟨z, hz⟩ := h H enc w held n _ _ f1
  refine ⟨(y, z), ?_⟩
  rw [Nat.zero_mul, List.drop_zero] at hy
  rw [Nat.one_mul] at hz
  have e : cs = cs.take s ++ (cs.drop s).take s := by
    rw [List.take_of_length_le (l := cs.drop s) (by rw [List.length_drop, hl, hss]; omega), List.take_append_drop]
  rw [e]
  exact hy.append hz
omit [LaidW] in
theorem rep_array {α : Type} {c : α → List PV} (h : Reads P t c) {m : Nat} (ht : P.underlying t = some (.array m e)) {r : Reach} {base : Nat} {v : Value} (hval : Value.okWide P W r base t v) {H : Type} {enc : TypeId × Value → H} {held : Bool} {d : DataW H} {ps : List MemPlace}
    (hd : DataW.Trod enc P W 0 (fun _ => true) held t v d ps) : ∃ y : α, Rep (fun _ => True) W (.agg (c y)) v := by
  simp only [Value.okWide, ht] at hval
  obtain ⟨cs, rfl, _, _⟩ := hval
  obtain ⟨fuel, hd⟩ := hd
  obtain ⟨y, hy⟩ := h H enc W held fuel _ _ hd
  simp only [Value.cells] at hy
  exact ⟨y, .agg (by simpa using hy.1) (fun j p u hp hu => hy.2 j p u hp (by rw [Array.getElem?_toList]; exact hu))⟩
omit [LaidW] in
/-- an argument that is one cell -/
theorem rep_one {α : Type} {p : α → PV} (h : Reads P t (fun y => [p y])) {v : Value} (hv : v.cells = #[v]) {H : Type} {enc : TypeId × Value → H} {held : Bool} {d : DataW H} {ps : List MemPlace}
    (hd : DataW.Trod enc P W 0 (fun _ => true) held t v d ps) : ∃ y : α, Rep (fun _ => True) W (p y) v := by
  obtain ⟨fuel, hd⟩ := hd
  obtain ⟨y, hy⟩ := h H enc W held fuel _ _ hd
  rw [hv] at hy
  exact ⟨y, hy.2 0 _ v rfl rfl⟩
omit [LaidW] in
theorem rep_slice {α : Type} {p : α → PV} (h : Reads P t (fun y => [p y])) (ht : P.underlying t = some (.slice e)) {r : Reach} {base : Nat} {v : Value} (hval : Value.okWide P W r base t v) {H : Type} {enc : TypeId × Value → H} {held : Bool} {d : DataW H} {ps : List MemPlace}
    (hd : DataW.Trod enc P W 0 (fun _ => true) held t v d ps) : ∃ y : α, Rep (fun _ => True) W (p y) v := by
  obtain ⟨a, len, cap, rfl⟩ := okWide_slice ht hval
  exact rep_one h rfl hd
end
end Go.Fi
