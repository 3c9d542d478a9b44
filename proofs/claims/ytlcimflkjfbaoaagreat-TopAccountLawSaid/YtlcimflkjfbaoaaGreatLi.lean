/- A logic of abstract states for this claim (part Li): lemmas alone. -/
import Derived.Test.YtlcimflkjfbaoaaGreatLg
import Derived.OpenShut
set_option linter.unusedSimpArgs false
set_option linter.unusedVariables false

namespace Go.Fi
open Go Go.RowKit Go.ChangeShapes Go.WideShapes
variable [LaidW]

section
variable {P : Program} {t e : TypeId} {W : World}
omit [LaidW] in
/-- an argument that is one cell -/
theorem rep_one {α : Type} {p : α → PV} (h : Reads P t (fun y => [p y])) {v : Value} (hv : v.cells = #[v]) {H : Type} {enc : TypeId × Value → H} {held : Bool} {d : DataW H} {ps : List MemPlace}
    (hd : DataW.Trod enc P W 0 (fun _ => true) held t v d ps) : ∃ y : α, Rep (fun _ => True) W (p y) v := by
  obtain ⟨fuel, hd⟩ := hd
  obtain ⟨y, hy⟩ := h H enc W held fuel _ _ hd
  rw [hv] at hy
  exact ⟨y, hy.2 0 _ v rfl rfl⟩
omit [LaidW] in
theorem rep_slice {α : Type} {p : α → PV} (h : Reads P t (fun y => [p y])) (ht : P.underlying t = some (.slice e)) {r : Reach} {base : Nat} {v : Value} (hval : Value.okWide P W r base t v) {H : Type} {enc : TypeId × Value → H} {held : Bool} {d : DataW H} {ps : List MemPlace}
    (hd : DataW.Trod enc P W 0 (fun _ => true) held t v d ps) : ∃ y : α, Rep (fun _ => True) W (p y) v := by
  obtain ⟨a, len, cap, rfl⟩ := okWide_slice ht hval
  exact rep_one h rfl hd
end
end Go.Fi

