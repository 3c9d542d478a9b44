/- Contracts of functions for this claim: lemmas alone. -/
import Derived.Test.YtacepceplonceaaP38
set_option linter.unusedSimpArgs false
set_option linter.unusedVariables false
namespace Go.Proofs.Ytacepceplonceaa
open Go Go.Fi

/-- whether something is so of one from a number on -/
def anyD {α : Type} (p : α → Bool) (l : List α) (k : Nat) : Bool := (l.drop k).any p
theorem anyD_step {α : Type} [Inhabited α] (p : α → Bool) (l : List α) (k : Nat) (h : k < l.length) : anyD p l k = (p (nth l k) || anyD p l (k + 1)) := by
  unfold anyD
  rw [List.drop_eq_getElem_cons h, List.any_cons]
  congr 2
  simp [nth, List.getD_eq_getElem?_getD, List.getElem?_eq_getElem h]
theorem anyD_end {α : Type} (p : α → Bool) (l : List α) : anyD p l l.length = false := by unfold anyD; rw [List.drop_length]; rfl
theorem anyD_no {α : Type} [Inhabited α] {p : α → Bool} {l : List α} (h : anyD p l 0 = false) : ∀ k, k < l.length → p (nth l k) = false := by
  intro k hk
  have h : l.any p = false := h
  rw [List.any_eq_false] at h
  have := h l[k] (List.getElem_mem hk)
  have e : nth l k = l[k] := by simp [nth, List.getD_eq_getElem?_getD, List.getElem?_eq_getElem hk]
  rw [e]
  cases hp : p l[k] with
  | false => rfl
  | true => exact absurd hp this
theorem anyD_all {α : Type} [Inhabited α] {p : α → Bool} {l : List α} (h : ∀ k, k < l.length → p (nth l k) = false) : ∀ m k, l.length - k = m → k ≤ l.length → anyD p l k = false
  | 0, k, hm, hk => by have : k = l.length := by omega
                       subst this; exact anyD_end p l
  | m + 1, k, hm, hk => by
    rw [anyD_step p l k (by omega), h k (by omega), Bool.false_or]
    exact anyD_all h m (k + 1) (by omega) (by omega)
def badN (t : Int) : Bool := !winB t (-1) 1000000000000000
def cLs (ls : List (List Int)) : List PV := ls.map fun l => .sl l.length (ints l)
@[simp] theorem cLs_len (l : List (List Int)) : (cLs l).length = l.length := by simp [cLs]
@[simp] theorem cLs_get (l : List (List Int)) (k : Nat) (h : k < l.length) : nthP (cLs l) k = .sl (nth l k).length (ints (nth l k)) := nthP_map _ l k h
def badL (n : Net) (l : List Int) : Bool := decide (l.length ≠ n.places.length)
def badA (l : List Int) : Bool := anyD badN l 0
def lblE (n : Net) (ls : List (List Int)) : Int := if anyD (badL n) ls 0 = true then 10 else if anyD badA ls 0 = true then 2 else 0
def badR (f : Road → Int → Int) (l : List Int) (r : Road) : Bool := !decide (nth l r.frm.toNat = -1) && (decide (nth l r.to.toNat = -1) || decide (f r (nth l r.frm.toNat) < nth l r.to.toNat))
end Go.Proofs.Ytacepceplonceaa
