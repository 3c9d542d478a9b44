/- Contracts of functions for this claim: lemmas alone. -/
import Derived.Test.YtfjpgnacofkipaaDoorP27
set_option linter.unusedSimpArgs false
set_option linter.unusedVariables false
namespace Go.Proofs.YtfjpgnacofkipaaDoor
open Go Go.Fi

/-- what is wrong with a way -/
def fWay (n : Net) (w : List Int) (i : Nat) : Option Tri :=
  if winB (nth w i) 0 (n.roads.length - 1) = false then some (i, 0, 6)
  else if 0 < i ∧ (nth n.roads (nth w i).toNat).frm ≠ (nth n.roads (nth w (i - 1)).toNat).to then some (i, 0, 23) else none
def wayS (n : Net) (w : List Int) : Tri := if 200 < w.length then (0, 0, 8) else fin (scan (fWay n w) w.length 0) (0, 0, 0)
/-- a right way: its roads, and that each one begins where the one before ends -/
structure WayOk (n : Net) (w : List Int) : Prop where
  idx : ∀ i, i < w.length → 0 ≤ nth w i ∧ nth w i < n.roads.length
  join : ∀ i, 0 < i → i < w.length → (nth n.roads (nth w i).toNat).frm = (nth n.roads (nth w (i - 1)).toNat).to
theorem fWay_ne {n : Net} {w : List Int} {i : Nat} {r : Tri} (h : fWay n w i = some r) : r.2.2 ≠ 0 ∧ r.2.1 = 0 := by
  unfold fWay at h
  split at h
  · injection h with h; subst h; exact ⟨(by decide : (6 : Int) ≠ 0), rfl⟩
  · split at h
    · injection h with h; subst h; exact ⟨(by decide : (23 : Int) ≠ 0), rfl⟩
    · cases h
theorem way_len {n : Net} {w : List Int} (h : (wayS n w).2.2 = 0) : w.length ≤ 200 := by
  unfold wayS at h
  split at h
  · exact absurd h (by decide)
  · omega
theorem way_ok {n : Net} {w : List Int} (h : (wayS n w).2.2 = 0) : WayOk n w := by
  have hl := way_len h
  unfold wayS at h
  rw [if_neg (by omega)] at h
  have hs : scan (fWay n w) w.length 0 = none := by
    cases hs : scan (fWay n w) w.length 0 with
    | none => rfl
    | some r =>
      rw [hs] at h
      obtain ⟨j, _, _, hj⟩ := scan_some hs
      exact absurd h (fWay_ne hj).1
  have hk := scan_none hs
  refine ⟨fun i hi => ?_, fun i h0 hi => ?_⟩
  · have := hk i hi
    unfold fWay at this
    split at this
    · cases this
    · rename_i hw
      have := win_of (by cases hx : winB (nth w i) 0 (n.roads.length - 1) with | true => rfl | false => exact absurd hx hw : winB (nth w i) 0 (n.roads.length - 1) = true)
      omega
  · have := hk i hi
    unfold fWay at this
    split at this
    · cases this
    · split at this
      · cases this
      · rename_i hc
        by_cases he : (nth n.roads (nth w i).toNat).frm = (nth n.roads (nth w (i - 1)).toNat).to
        · exact he
        · exact absurd ⟨h0, he⟩ hc
section
variable {n : Net} {f : Road → Int → Int}
/-- a way that leads from a place to another one -/
structure WayTo (n : Net) (w : List Int) (a b : Nat) : Prop where
  ok : WayOk n w
  j0 : w.length ≠ 0 → (nth n.roads (nth w 0).toNat).frm.toNat = a
  j1 : if w.length = 0 then a = b else (nth n.roads (nth w (w.length - 1)).toNat).to.toNat = b
/-- the tree: by which road each place has its number -/
structure Tr (n : Net) (f : Road → Int → Int) (a : Nat) (st : Int) (s : GS) : Prop where
  by_ : ∀ v, v < n.places.length → nth s.b v ≠ -1 → 0 ≤ nth s.b v ∧ nth s.b v < n.roads.length ∧ (nth n.roads (nth s.b v).toNat).to.toNat = v ∧ 0 ≤ nth s.l (nth n.roads (nth s.b v).toNat).frm.toNat ∧ f (nth n.roads (nth s.b v).toNat) (nth s.l (nth n.roads (nth s.b v).toNat).frm.toNat) ≤ nth s.l v
  root : ∀ v, v < n.places.length → nth s.l v ≠ -1 → nth s.b v = -1 → v = a
  la : nth s.l a = st
  ba : nth s.b a = -1
  ge : ∀ v, v < n.places.length → nth s.l v ≠ -1 → st ≤ nth s.l v
  ch : ∀ v, v < n.places.length → nth s.l v ≠ -1 → ∃ m R, backF n s.b m v = some R
end
end Go.Proofs.YtfjpgnacofkipaaDoor
namespace Go.Proofs.YtfjpgnacofkipaaDoor
open Go Go.Fi

section
variable {n : Net}
end
end Go.Proofs.YtfjpgnacofkipaaDoor

