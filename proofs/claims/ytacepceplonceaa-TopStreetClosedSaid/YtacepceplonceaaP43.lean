/- Contracts of functions for this claim: lemmas alone. -/
import Derived.Test.YtacepceplonceaaP39
import Derived.Test.YtacepceplonceaaP30
set_option linter.unusedSimpArgs false
set_option linter.unusedVariables false
namespace Go.Proofs.Ytacepceplonceaa
open Go Go.Fi

abbrev aPr (x y : Int) : PV := .agg [.int .i64 x, .int .i64 y]
theorem badL_one (n : Net) (l : List Int) : anyD (badL n) [l] 0 = badL n l := by simp [anyD]
theorem badA_one (l : List Int) : anyD badA [l] 0 = badA l := by simp [anyD]
theorem lbl_one (n : Net) (l : List Int) : lblE n [l] = if l.length ≠ n.places.length then 10 else if badA l = true then 2 else 0 := by
  unfold lblE
  rw [badL_one, badA_one]
  unfold badL
  by_cases h : l.length = n.places.length
  · simp [h]
  · simp [h]
theorem not_no {b : Bool} (h : (!b) = false) : b = true := by
  cases b
  · cases h
  · rfl
theorem one_hyp {l : List Int} {B : Nat} (h : l.length < B) : ∀ k, k < [l].length → (nth [l] k).length < B := fun k hk => by
  have e : k = 0 := by simpa using hk
  subst e; exact h
theorem badA_no {l : List Int} (h : badA l = false) : ∀ k, k < l.length → -1 ≤ nth l k ∧ nth l k ≤ 1000000000000000 := fun k hk => by
  have := anyD_no h k hk
  unfold badN at this
  exact win_of (not_no this)
/-- what heights prove -/
def chkS (f : Road → Int → Int) (n : Net) (a b : Nat) (l : List Int) : Int × Int :=
  if nth l a ≠ 0 then (0, 20) else if anyD (badR f l) n.roads 0 = true then (0, 20) else if nth l b = -1 then (0, 12) else (nth l b, 0)
def chS (n : Net) (x y : Int) (l : List Int) : Int × Int :=
  if pE n x y ≠ 0 then (0, pE n x y) else if lblE n [l] ≠ 0 then (0, lblE n [l]) else chkS fLen n x.toNat y.toNat l
theorem first4 (a b c d : Int) : firstS [a, b, c, d] = if firstS [a, b, c] ≠ 0 then firstS [a, b, c] else d := by
  simp only [firstS]
  by_cases ha : a = 0
  · by_cases hb : b = 0
    · by_cases hc : c = 0
      · by_cases hd : d = 0 <;> simp [ha, hb, hc, hd]
      · simp [ha, hb, hc]
    · simp [ha, hb]
  · simp [ha]
end Go.Proofs.Ytacepceplonceaa
