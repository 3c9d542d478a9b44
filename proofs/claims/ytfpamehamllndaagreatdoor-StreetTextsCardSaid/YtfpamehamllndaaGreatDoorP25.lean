/- Contracts of functions for this claim: lemmas alone. -/
import Derived.Test.YtfpamehamllndaaGreatDoorP21
set_option linter.unusedSimpArgs false
set_option linter.unusedVariables false
namespace Go.Proofs.YtfpamehamllndaaGreatDoor
open Go Go.Fi

end Go.Proofs.YtfpamehamllndaaGreatDoor
namespace Go.Proofs.YtfpamehamllndaaGreatDoor
open Go Go.Fi

end Go.Proofs.YtfpamehamllndaaGreatDoor
namespace Go.Proofs.YtfpamehamllndaaGreatDoor
open Go Go.Fi

/-- what a walk along roads arrives with -/
inductive Reach (n : Net) (f : Road → Int → Int) (a : Nat) (st : Int) : Nat → Int → Prop
  | here : Reach n f a st a st
  | road {v : Int} (k : Nat) (hk : k < n.roads.length) (h : Reach n f a st (nth n.roads k).frm.toNat v) : Reach n f a st (nth n.roads k).to.toNat (f (nth n.roads k) v)
section
variable {n : Net} {f : Road → Int → Int}
structure Fixed (n : Net) (f : Road → Int → Int) (a : Nat) (st : Int) (s : GS) : Prop where
  inv : Inv n s
  la : 0 ≤ nth s.l a ∧ nth s.l a ≤ st
  road : ∀ k, k < n.roads.length → 0 ≤ nth s.l (nth n.roads k).frm.toNat → 0 ≤ nth s.l (nth n.roads k).to.toNat ∧ nth s.l (nth n.roads k).to.toNat ≤ f (nth n.roads k) (nth s.l (nth n.roads k).frm.toNat)
  reach : ∀ i, i < n.places.length → nth s.l i = -1 ∨ Reach n f a st i (nth s.l i)
end
end Go.Proofs.YtfpamehamllndaaGreatDoor
namespace Go.Proofs.YtfpamehamllndaaGreatDoor
open Go Go.Fi

end Go.Proofs.YtfpamehamllndaaGreatDoor

