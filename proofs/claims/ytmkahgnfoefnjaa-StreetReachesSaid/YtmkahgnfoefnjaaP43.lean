/- Contracts of functions for this claim: lemmas alone. -/
import Derived.Test.YtmkahgnfoefnjaaP38
import Derived.Test.YtmkahgnfoefnjaaP30
set_option linter.unusedSimpArgs false
set_option linter.unusedVariables false
namespace Go.Proofs.Ytmkahgnfoefnjaa
open Go Go.Fi

abbrev aPr (x y : Int) : PV := .agg [.int .i64 x, .int .i64 y]
theorem badL_one (n : Net) (l : List Int) : anyD (badL n) [l] 0 = badL n l := by simp [anyD]
theorem badA_one (l : List Int) : anyD badA [l] 0 = badA l := by simp [anyD]
theorem lbl_one (n : Net) (l : List Int) : lblE n [l] = if l.length ≠ n.places.length then 10 else if badA l = true then 2 else 0 := by
  unfold lblE
  rw [badL_one, badA_one]
  unfold badL
  by_cases h : l.length = n.places.length
  · simp [h]
  · simp [h]
theorem not_no {b : Bool} (h : (!b) = false) : b = true := by
  cases b
  · cases h
  · rfl
theorem one_hyp {l : List Int} {B : Nat} (h : l.length < B) : ∀ k, k < [l].length → (nth [l] k).length < B := fun k hk => by
  have e : k = 0 := by simpa using hk
  subst e; exact h
theorem badA_no {l : List Int} (h : badA l = false) : ∀ k, k < l.length → -1 ≤ nth l k ∧ nth l k ≤ 1000000000000000 := fun k hk => by
  have := anyD_no h k hk
  unfold badN at this
  exact win_of (not_no this)
/-- what heights prove -/
def chkS (f : Road → Int → Int) (n : Net) (a b : Nat) (l : List Int) : Int × Int :=
  if nth l a ≠ 0 then (0, 20) else if anyD (badR f l) n.roads 0 = true then (0, 20) else if nth l b = -1 then (0, 12) else (nth l b, 0)
def chS (n : Net) (x y : Int) (l : List Int) : Int × Int :=
  if pE n x y ≠ 0 then (0, pE n x y) else if lblE n [l] ≠ 0 then (0, lblE n [l]) else chkS fLen n x.toNat y.toNat l
theorem first4 (a b c d : Int) : firstS [a, b, c, d] = if firstS [a, b, c] ≠ 0 then firstS [a, b, c] else d := by
  simp only [firstS]
  by_cases ha : a = 0
  · by_cases hb : b = 0
    · by_cases hc : c = 0
      · by_cases hd : d = 0 <;> simp [ha, hb, hc, hd]
      · simp [ha, hb, hc]
    · simp [ha, hb]
  · simp [ha]
end Go.Proofs.Ytmkahgnfoefnjaa
namespace Go.Proofs.Ytmkahgnfoefnjaa
open Go Go.Fi

theorem first3 (a b c : Int) : firstS [a, b, c] = if a ≠ 0 then a else if b ≠ 0 then b else c := by
  simp only [firstS]
  by_cases ha : a = 0
  · by_cases hb : b = 0
    · by_cases hc : c = 0 <;> simp [ha, hb, hc]
    · simp [ha, hb]
  · simp [ha]
def rchS (n : Net) (a b : Nat) (l : List Int) : Int × Int :=
  if l.length ≠ n.places.length then (0, 10) else if badA l = true then (0, 2) else chkS fLen n a b l
theorem ch_rch {n : Net} {a b : Nat} {l : List Int} (hp : pE n a b = 0) : chS n a b l = rchS n a b l := by
  unfold chS rchS
  rw [if_neg (by simp [hp]), lbl_one, Int.toNat_natCast, Int.toNat_natCast]
  by_cases h : l.length = n.places.length
  · cases hb : badA l <;> simp [h]
  · simp [h]
theorem badR_no {f : Road → Int → Int} {l : List Int} {r : Road} (h : nth l r.frm.toNat = -1) : badR f l r = false := by unfold badR; rw [decide_eq_true h]; rfl
theorem badR_win {f : Road → Int → Int} {l : List Int} {r : Road} (h : 0 ≤ nth l r.frm.toNat) (h2 : -1 ≤ nth l r.to.toNat) : badR f l r = !winB (nth l r.to.toNat) 0 (f r (nth l r.frm.toNat)) := by
  unfold badR winB
  rw [decide_eq_false (show ¬ nth l r.frm.toNat = -1 by omega)]
  by_cases h1 : nth l r.to.toNat = -1
  · rw [decide_eq_true h1, decide_eq_false (show ¬ 0 ≤ nth l r.to.toNat by omega)]; rfl
  · rw [decide_eq_false h1, decide_eq_true (show 0 ≤ nth l r.to.toNat by omega)]
    by_cases h3 : f r (nth l r.frm.toNat) < nth l r.to.toNat
    · rw [decide_eq_true h3, decide_eq_false (by omega)]; rfl
    · rw [decide_eq_false h3, decide_eq_true (by omega)]; rfl
end Go.Proofs.Ytmkahgnfoefnjaa
