/- Contracts of functions for this claim: lemmas alone. -/
import Derived.Test.YtdgbfbgnbgfmjaaGreatDoorP17
import Derived.Sort.LotA
import Derived.Test.YtdgbfbgnbgfmjaaGreatDoorP18
set_option linter.unusedSimpArgs false
set_option linter.unusedVariables false
namespace Go.Proofs.YtdgbfbgnbgfmjaaGreatDoor
open Go Go.Fi
set_option maxRecDepth 20000

/-! ### the order by rests: ties by their numbers -/
/-! ### one after the other: the greatest rest first -/
def bestK (l : List Int) : Nat → Nat
  | 0 => 0
  | k + 1 => if nth l (bestK l k) < nth l k then k else bestK l k
@[simp] theorem bestK_one (l : List Int) : bestK l 1 = 0 := by
  unfold bestK bestK; split <;> rfl
def mark (l : List Int) : List Nat → List Int
  | [] => l
  | i :: r => mark (l.set i (-1)) r
@[simp] theorem mark_nil (l : List Int) : mark l [] = l := rfl
@[simp] theorem mark_len : ∀ (r : List Nat) (l : List Int), (mark l r).length = l.length
  | [], l => rfl
  | x :: r, l => by simp only [mark]; rw [mark_len r]; simp
end Go.Proofs.YtdgbfbgnbgfmjaaGreatDoor
namespace Go.Proofs.YtdgbfbgnbgfmjaaGreatDoor
open Go Go.Fi
set_option maxRecDepth 20000

/-! ### any rule -/
def apart (r : Rule) : Prop := ∀ k, k < 5 → Lib.containsS ((five r).take k) (nth (five r) k) = false
end Go.Proofs.YtdgbfbgnbgfmjaaGreatDoor
namespace Go.Proofs.YtdgbfbgnbgfmjaaGreatDoor
open Go Go.Fi
set_option maxRecDepth 20000

/-! ### the parts come to the amount -/
def sumI : List Int → Int
  | [] => 0
  | x :: r => x + sumI r
@[simp] theorem sumI_nil : sumI [] = 0 := rfl
@[simp] theorem splitS_len (a : Nat) (ns : List Nat) : (splitS a ns).length = ns.length := by
  unfold splitS; rw [bump_len, qs_len]
end Go.Proofs.YtdgbfbgnbgfmjaaGreatDoor

