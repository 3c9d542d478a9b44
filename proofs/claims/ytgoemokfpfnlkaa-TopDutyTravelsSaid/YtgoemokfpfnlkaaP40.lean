/- Contracts of functions for this claim: lemmas alone. -/
import Derived.Test.YtgoemokfpfnlkaaP36
import Derived.Test.YtgoemokfpfnlkaaP30
set_option linter.unusedSimpArgs false
set_option linter.unusedVariables false
namespace Go.Proofs.Ytgoemokfpfnlkaa
open Go Go.Fi

/-- whether a time is right, as an error -/
theorem arr_bad {n : Net} {w : List Int} {at_ : Int} (h : owE n w ≠ 0) : arrS n w at_ = (0, 0, owE n w) := by
  unfold arrS owE at *
  by_cases he : (netS n).2.2 = 0
  · rw [if_neg (by simp [he])] at h ⊢
    rw [if_pos h, if_neg (by simp [he])]
  · rw [if_pos he, if_pos he]
theorem arr_time {n : Net} {w : List Int} {at_ : Int} (h : owE n w = 0) (ht : winB at_ 0 604800 = false) : arrS n w at_ = (0, 0, 2) := by
  unfold arrS owE at *
  by_cases he : (netS n).2.2 = 0
  · rw [if_neg (by simp [he])] at h ⊢
    rw [if_neg (by simp [h]), if_pos ht]
  · rw [if_pos he] at h; exact absurd h he
theorem arr_good {n : Net} {w : List Int} {at_ : Int} (h : owE n w = 0) (ht : winB at_ 0 604800 = true) : arrS n w at_ = (evalW n (fTime false) w at_, evalW n (fTime true) w at_, 0) := by
  unfold arrS owE at *
  by_cases he : (netS n).2.2 = 0
  · rw [if_neg (by simp [he])] at h ⊢
    rw [if_neg (by simp [h]), ht, if_neg (by decide)]
  · rw [if_pos he] at h; exact absurd h he
theorem ow_ok {n : Net} (hi : NetIn n) {w : List Int} (h : owE n w = 0) : NetOk n ∧ WayOk n w ∧ w.length ≤ 200 ∧ (netS n).2.2 = 0 ∧ wayS n w = (0, 0, 0) := by
  unfold owE at h
  by_cases he : (netS n).2.2 = 0
  · rw [if_neg (by simp [he])] at h
    exact ⟨net_ok hi he, way_ok h, way_len h, he, way_zero h⟩
  · rw [if_pos he] at h; exact absurd h he
theorem ow_net {n : Net} {w : List Int} (h : (netS n).2.2 = 0) : owE n w = (wayS n w).2.2 := if_neg (by simp [h])
theorem ow_bad {n : Net} {w : List Int} (h : (netS n).2.2 ≠ 0) : owE n w = (netS n).2.2 := if_pos h
theorem met_bad {n : Net} {w : List Int} (h : owE n w ≠ 0) : metE n w = (0, owE n w) := by
  unfold metE owE at *
  by_cases he : (netS n).2.2 = 0
  · rw [if_neg (by simp [he])] at h ⊢
    rw [if_pos h, if_neg (by simp [he])]
  · rw [if_pos he, if_pos he]
theorem met_good {n : Net} {w : List Int} (h : owE n w = 0) : metE n w = (metS n w, 0) := by
  unfold metE owE at *
  by_cases he : (netS n).2.2 = 0
  · rw [if_neg (by simp [he])] at h ⊢
    rw [if_neg (by simp [h])]
  · rw [if_pos he] at h; exact absurd h he
end Go.Proofs.Ytgoemokfpfnlkaa
