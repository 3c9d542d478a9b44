/- Contracts of functions for this claim: lemmas alone. -/
import Derived.Test.YtceimmohnniebaaP43
import Derived.Test.YtceimmohnniebaaP26
set_option linter.unusedSimpArgs false
set_option linter.unusedVariables false
namespace Go.Proofs.Ytceimmohnniebaa
open Go Go.Fi
set_option maxRecDepth 20000

/-! ### late, but in time -/
section
variable {m : Grid} {p : Plan} {s : Int}
theorem rideX_nat {ts : List Int} {j : Nat} {o : Bool} : rideX m p ts ⟨(j : Int), o⟩ = rideS m p ts j := by
  unfold rideX; rw [show (⟨(j : Int), o⟩ : Stop).rider.toNat = j from Int.toNat_natCast j]
theorem tooL_keeps (po : PlanOk m p) (h0 : keepsD m p s 0 = true) (d : Int) : tooL m p (timesS m p ⟨s, d⟩) = !keepsD m p s d := by
  unfold keepsD at *
  rw [Bool.not_not]
  have h0 : (brokenS m p (timesS m p ⟨s, 0⟩) (seatsS p)).2 = false := by simpa using h0
  rw [brokenS_iff] at h0
  cases hb : (brokenS m p (timesS m p ⟨s, d⟩) (seatsS p)).2 with
  | false =>
    rw [brokenS_iff] at hb
    refine tooL_false (fun k hk => ?_)
    obtain ⟨c, hc, hce⟩ := nth_of_mem (elemB_iff.1 (po.gaps k hk))
    have h1 := (hb c hc).2
    rw [hce, rideX_nat] at h1
    unfold longB
    exact decide_eq_false (by have := h1 rfl; omega)
  | true =>
    have hn : ¬ (brokenS m p (timesS m p ⟨s, d⟩) (seatsS p)).2 = false := by rw [hb]; decide
    rw [brokenS_iff] at hn
    by_cases hex : ∃ k, k < p.riders.length ∧ longB m p (timesS m p ⟨s, d⟩) k = true
    · obtain ⟨k, hk, hl⟩ := hex
      exact tooL_true hk hl
    · exact absurd (fun j hj => ⟨(h0 j hj).1, fun ho => by
        have hr := (stopE_ok.1 (po.stops j hj)).1
        have hlt : (nth p.stops j).rider.toNat < p.riders.length := by omega
        have h2 : ¬ longB m p (timesS m p ⟨s, d⟩) (nth p.stops j).rider.toNat = true := fun h => hex ⟨_, hlt, h⟩
        unfold longB at h2
        have h3 := mt decide_eq_true h2
        show (rideS m p (timesS m p ⟨s, d⟩) (nth p.stops j).rider.toNat).1 ≤ (rideS m p (timesS m p ⟨s, d⟩) (nth p.stops j).rider.toNat).2
        omega⟩) hn
theorem late_bd {b : Int} (hb : 0 ≤ b) {i : Nat} (h : i < p.stops.length) : 0 ≤ nth (timesS m p ⟨s, b⟩) i - nth (timesS m p noDelay) i ∧ nth (timesS m p ⟨s, b⟩) i - nth (timesS m p noDelay) i ≤ b := by
  unfold timesS
  rw [timesK_nth _ _ _ _ _ h, timesK_nth _ _ _ _ _ h, ← clock_none m p s]
  have := clock_diff m p s hb (i + 1)
  omega
theorem late_before {b : Int} {i : Nat} (h : i < p.stops.length) (hs : (i : Int) < s) : nth (timesS m p ⟨s, b⟩) i = nth (timesS m p noDelay) i := by
  unfold timesS
  rw [timesK_nth _ _ _ _ _ h, timesK_nth _ _ _ _ _ h, ← clock_none m p s]
  exact clock_before m p s 0 b (i + 1) (by omega)
theorem delE_ok {d : Delay} (h1 : winB d.stop 0 ((p.stops.length : Int) - 1) = true) (h2 : winB d.by_ 0 20000 = true) : delE p d = 0 := by
  unfold delE
  rw [h1, h2]; rfl
theorem delayedS_ok {d : Delay} (h1 : winB d.stop 0 ((p.stops.length : Int) - 1) = true) (h2 : winB d.by_ 0 20000 = true) : delayedS m p d = (timesS m p d, 0) := by
  unfold delayedS; rw [if_pos (delE_ok h1 h2)]
end
end Go.Proofs.Ytceimmohnniebaa
