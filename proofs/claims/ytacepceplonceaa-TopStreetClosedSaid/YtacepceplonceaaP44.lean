/- Contracts of functions for this claim: lemmas alone. -/
import Derived.Test.YtacepceplonceaaP43
set_option linter.unusedSimpArgs false
set_option linter.unusedVariables false
namespace Go.Proofs.Ytacepceplonceaa
open Go Go.Fi

theorem first3 (a b c : Int) : firstS [a, b, c] = if a ≠ 0 then a else if b ≠ 0 then b else c := by
  simp only [firstS]
  by_cases ha : a = 0
  · by_cases hb : b = 0
    · by_cases hc : c = 0 <;> simp [ha, hb, hc]
    · simp [ha, hb]
  · simp [ha]
def rchS (n : Net) (a b : Nat) (l : List Int) : Int × Int :=
  if l.length ≠ n.places.length then (0, 10) else if badA l = true then (0, 2) else chkS fLen n a b l
theorem ch_rch {n : Net} {a b : Nat} {l : List Int} (hp : pE n a b = 0) : chS n a b l = rchS n a b l := by
  unfold chS rchS
  rw [if_neg (by simp [hp]), lbl_one, Int.toNat_natCast, Int.toNat_natCast]
  by_cases h : l.length = n.places.length
  · cases hb : badA l <;> simp [h]
  · simp [h]
theorem badR_no {f : Road → Int → Int} {l : List Int} {r : Road} (h : nth l r.frm.toNat = -1) : badR f l r = false := by unfold badR; rw [decide_eq_true h]; rfl
theorem badR_win {f : Road → Int → Int} {l : List Int} {r : Road} (h : 0 ≤ nth l r.frm.toNat) (h2 : -1 ≤ nth l r.to.toNat) : badR f l r = !winB (nth l r.to.toNat) 0 (f r (nth l r.frm.toNat)) := by
  unfold badR winB
  rw [decide_eq_false (show ¬ nth l r.frm.toNat = -1 by omega)]
  by_cases h1 : nth l r.to.toNat = -1
  · rw [decide_eq_true h1, decide_eq_false (show ¬ 0 ≤ nth l r.to.toNat by omega)]; rfl
  · rw [decide_eq_false h1, decide_eq_true (show 0 ≤ nth l r.to.toNat by omega)]
    by_cases h3 : f r (nth l r.frm.toNat) < nth l r.to.toNat
    · rw [decide_eq_true h3, decide_eq_false (by omega)]; rfl
    · rw [decide_eq_false h3, decide_eq_true (by omega)]; rfl
end Go.Proofs.Ytacepceplonceaa
