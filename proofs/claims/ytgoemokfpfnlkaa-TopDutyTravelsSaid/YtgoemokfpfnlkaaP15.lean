/- Contracts of functions for this claim: lemmas alone. -/
import Derived.Test.YtgoemokfpfnlkaaP13
set_option linter.unusedSimpArgs false
set_option linter.unusedVariables false
namespace Go.Proofs.Ytgoemokfpfnlkaa
open Go Go.Fi

theorem ceilS_zero (b : Int) : ceilS 0 b = 0 := by simp [ceilS]
/-- the two ways to say how long a road takes -/
theorem takes_same {l : List Pt} (hl : PtsOk l) (hi : PtsInc l) (at_ : Int) (late : Bool) : rTakesS l at_ late = takesS l at_ late := by
  unfold rTakesS takesS
  dsimp only
  have hx : 0 ≤ at_ % 86400 ∧ at_ % 86400 < 86400 := by omega
  generalize at_ % 86400 = x at *
  have h1 := lastI_lt l x hl.pos l.length (Nat.le_refl _)
  generalize lastI l x l.length = i at *
  have hj : (i + 1) % l.length < l.length := Nat.mod_lt _ hl.pos
  have b1 := hl.at_ i h1
  have b2 := hl.at_ _ hj
  have hlt1 : i < (i + 1) % l.length → (nth l i).at_ < (nth l ((i + 1) % l.length)).at_ := fun h => hi.lt h hj
  have hlt2 : (i + 1) % l.length < i → (nth l ((i + 1) % l.length)).at_ < (nth l i).at_ := fun h => hi.lt h h1
  have hg : goneS x (nth l i).at_ = (x - (nth l i).at_) % 86400 := by unfold goneS; split <;> omega
  rw [hg]
  by_cases he : (i + 1) % l.length = i
  · rw [he]
    simp only [Int.sub_self, show (0 : Int) % 86400 = 0 from rfl, if_true, Int.zero_mul, ceilS_zero, Int.add_zero]
  · generalize (i + 1) % l.length = j at *
    have hne : (nth l j).at_ ≠ (nth l i).at_ := by
      rcases Nat.lt_trichotomy i j with h | h | h
      · have := hlt1 h; omega
      · omega
      · have := hlt2 h; omega
    have hd : ((nth l j).at_ - (nth l i).at_) % 86400 = gapS (nth l i).at_ (nth l j).at_ := by unfold gapS; split <;> omega
    have hd0 : gapS (nth l i).at_ (nth l j).at_ ≠ 0 := by have := gapS_bd b1 b2; omega
    rw [hd, if_neg hd0]
theorem takesR_bad {n : Net} {road at_ c : Int} (h : firstS [(netS n).2.2, errUnless (winB road 0 (n.roads.length - 1)) 6, errUnless (winB at_ 0 604800) 2] = c) (hc : c ≠ 0) : takesR n road at_ = (0, 0, c) := by
  unfold takesR; rw [if_neg (by rw [h]; exact hc), h]
end Go.Proofs.Ytgoemokfpfnlkaa
