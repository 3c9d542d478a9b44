/- Contracts of functions for this claim: lemmas alone. -/
import Derived.Test.YtmkahgnfoefnjaaP33
set_option linter.unusedSimpArgs false
set_option linter.unusedVariables false
namespace Go.Proofs.Ytmkahgnfoefnjaa
open Go Go.Fi

theorem fWay_bad {n : Net} {w : List Int} {k : Nat} (h : winB (nth w k) 0 (n.roads.length - 1) = false) : fWay n w k = some ((k : Int), 0, 6) := if_pos h
theorem fWay_zero {n : Net} {w : List Int} (h : winB (nth w 0) 0 (n.roads.length - 1) = true) : fWay n w 0 = none := by
  unfold fWay; rw [h, if_neg (by decide), if_neg (by simp)]
theorem fWay_join {n : Net} {w : List Int} {k : Nat} (h : winB (nth w k) 0 (n.roads.length - 1) = true) (he : (nth n.roads (nth w k).toNat).frm = (nth n.roads (nth w (k - 1)).toNat).to) : fWay n w k = none := by
  unfold fWay; rw [h, if_neg (by decide), if_neg (by simp [he])]
theorem fWay_open {n : Net} {w : List Int} {k : Nat} (h : winB (nth w k) 0 (n.roads.length - 1) = true) (hk : 0 < k) (he : (nth n.roads (nth w k).toNat).frm ≠ (nth n.roads (nth w (k - 1)).toNat).to) : fWay n w k = some ((k : Int), 0, 23) := by
  unfold fWay; rw [h, if_neg (by decide), if_pos ⟨hk, he⟩]
def okW (n : Net) (w : List Int) (k : Nat) : Prop := ∀ i, i < k → 0 ≤ nth w i ∧ nth w i < n.roads.length
@[simp] theorem ints_one (l : List Int) : (ints l).all oneP = true := by simp [ints, oneP]
end Go.Proofs.Ytmkahgnfoefnjaa
