/- Contracts of functions for this claim: lemmas alone. -/
import Derived.Test.YtfpamehamllndaaGreatDoorP25
set_option linter.unusedSimpArgs false
set_option linter.unusedVariables false
namespace Go.Proofs.YtfpamehamllndaaGreatDoor
open Go Go.Fi

/-- a right way: its roads, and that each one begins where the one before ends -/
structure WayOk (n : Net) (w : List Int) : Prop where
  idx : ∀ i, i < w.length → 0 ≤ nth w i ∧ nth w i < n.roads.length
  join : ∀ i, 0 < i → i < w.length → (nth n.roads (nth w i).toNat).frm = (nth n.roads (nth w (i - 1)).toNat).to
section
variable {n : Net} {f : Road → Int → Int}
/-- a way that leads from a place to another one -/
structure WayTo (n : Net) (w : List Int) (a b : Nat) : Prop where
  ok : WayOk n w
  j0 : w.length ≠ 0 → (nth n.roads (nth w 0).toNat).frm.toNat = a
  j1 : if w.length = 0 then a = b else (nth n.roads (nth w (w.length - 1)).toNat).to.toNat = b
/-- the tree: by which road each place has its number -/
structure Tr (n : Net) (f : Road → Int → Int) (a : Nat) (st : Int) (s : GS) : Prop where
  by_ : ∀ v, v < n.places.length → nth s.b v ≠ -1 → 0 ≤ nth s.b v ∧ nth s.b v < n.roads.length ∧ (nth n.roads (nth s.b v).toNat).to.toNat = v ∧ 0 ≤ nth s.l (nth n.roads (nth s.b v).toNat).frm.toNat ∧ f (nth n.roads (nth s.b v).toNat) (nth s.l (nth n.roads (nth s.b v).toNat).frm.toNat) ≤ nth s.l v
  root : ∀ v, v < n.places.length → nth s.l v ≠ -1 → nth s.b v = -1 → v = a
  la : nth s.l a = st
  ba : nth s.b a = -1
  ge : ∀ v, v < n.places.length → nth s.l v ≠ -1 → st ≤ nth s.l v
  ch : ∀ v, v < n.places.length → nth s.l v ≠ -1 → ∃ m R, backF n s.b m v = some R
end
end Go.Proofs.YtfpamehamllndaaGreatDoor

