/- Contracts of functions for this claim: lemmas alone. -/
import Derived.Test.YtlcimflkjfbaoaaGreatP38
set_option linter.unusedSimpArgs false
set_option linter.unusedVariables false
namespace Go.Proofs.YtlcimflkjfbaoaaGreat
open Go Go.Fi
set_option maxRecDepth 20000
attribute [-simp] cEntries_drop2

/-! ### statements -/
def runK (n : ByteArray) (l : List Entry) : Nat → Int
  | 0 => 0
  | k + 1 => runK n l k + putS n (nth l k).lines
@[simp] theorem runK_zero (n : ByteArray) (l : List Entry) : runK n l 0 = 0 := rfl
def stK (n : ByteArray) (lo hi : Int) (l : List Entry) : Nat → List Row
  | 0 => []
  | k + 1 => if (hasL n (nth l k).lines && winB (nth l k).date lo hi) = true then stK n lo hi l k ++ [⟨(k : Int), putS n (nth l k).lines, runK n l (k + 1)⟩] else stK n lo hi l k
@[simp] theorem stK_zero (n : ByteArray) (lo hi : Int) (l : List Entry) : stK n lo hi l 0 = [] := rfl
end Go.Proofs.YtlcimflkjfbaoaaGreat
namespace Go.Proofs.YtlcimflkjfbaoaaGreat
open Go Go.Fi
set_option maxRecDepth 20000

/-! ### the last row of a statement holds the balance -/
theorem bookF_sorted {a : List Acc} {c : Int} : ∀ (l : List Entry) (i : Nat) (s : Int), (bookF a c l i s).2 = 0 → (∀ k, k < l.length → s ≤ (nth l k).date) ∧ ∀ j k, j ≤ k → k < l.length → (nth l j).date ≤ (nth l k).date
  | [], _, _, _ => ⟨fun k hk => absurd hk (Nat.not_lt_zero _), fun j k _ hk => absurd hk (Nat.not_lt_zero _)⟩
  | y :: r, i, s, h => by
    unfold bookF at h
    by_cases hy : entE a s y = 0
    · rw [if_pos hy] at h
      obtain ⟨h1, h2⟩ := bookF_sorted r _ _ h
      have hs := (entE_zero hy).2
      refine ⟨fun k hk => ?_, fun j k hjk hk => ?_⟩
      · cases k with
        | zero => exact hs
        | succ k => exact Int.le_trans hs (h1 k (by simpa using hk))
      · cases k with
        | zero =>
          have hj : j = 0 := by omega
          subst hj
          exact Int.le_refl _
        | succ k =>
          cases j with
          | zero => exact h1 k (by simpa using hk)
          | succ j => exact h2 j k (by omega) (by simpa using hk)
    · rw [if_neg hy] at h; exact absurd h hy
theorem bookS_sorted {b : Book} (h : (bookS b).2 = 0) : ∀ j k, j ≤ k → k < b.entries.length → (nth b.entries j).date ≤ (nth b.entries k).date := by
  unfold bookS at h
  by_cases hh : bookH b = 0
  · rw [if_pos hh] at h
    exact (bookF_sorted _ _ _ h).2
  · rw [if_neg hh] at h; exact absurd h hh
end Go.Proofs.YtlcimflkjfbaoaaGreat

