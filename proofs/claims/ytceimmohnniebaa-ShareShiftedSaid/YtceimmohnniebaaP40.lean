/- Contracts of functions for this claim: lemmas alone. -/
import Derived.Test.YtceimmohnniebaaP16
import Derived.Test.YtceimmohnniebaaP18
set_option linter.unusedSimpArgs false
set_option linter.unusedVariables false
namespace Go.Proofs.Ytceimmohnniebaa
open Go Go.Fi
set_option maxRecDepth 20000

/-! ### the clock does not matter -/
def shR (b : Int) (r : Rider) : Rider := if r.aboard = true then r else { r with ready := r.ready + b }
def shP (b : Int) (p : Plan) : Plan := ⟨⟨p.car.at_, p.car.time + b, p.car.seats⟩, p.riders.map (shR b), p.stops⟩
section
variable {b : Int} {m : Grid} {p : Plan}
theorem shR_frm (r : Rider) : (shR b r).frm = r.frm := by unfold shR; split <;> rfl
theorem shR_to (r : Rider) : (shR b r).to = r.to := by unfold shR; split <;> rfl
theorem shR_seats (r : Rider) : (shR b r).seats = r.seats := by unfold shR; split <;> rfl
theorem shR_detour (r : Rider) : (shR b r).detour = r.detour := by unfold shR; split <;> rfl
theorem shR_aboard (r : Rider) : (shR b r).aboard = r.aboard := by unfold shR; split <;> rfl
theorem shR_ridden (r : Rider) : (shR b r).ridden = r.ridden := by unfold shR; split <;> rfl
theorem shP_len : (shP b p).riders.length = p.riders.length := by simp [shP]
theorem shP_nth {j : Nat} (h : j < p.riders.length) : nth (shP b p).riders j = shR b (nth p.riders j) := by
  simp [shP, nth, List.getD_eq_getElem?_getD, List.getElem?_map, List.getElem?_eq_getElem h]
theorem shP_riderOf {s : Stop} (h : s.rider.toNat < p.riders.length) : riderOf (shP b p) s = shR b (riderOf p s) := shP_nth h
theorem shP_place {s : Stop} (h : s.rider.toNat < p.riders.length) : placeOf (shP b p) s = placeOf p s := by
  unfold placeOf; rw [shP_riderOf h, shR_frm, shR_to]
theorem shP_seatsOf {s : Stop} (h : s.rider.toNat < p.riders.length) : seatsOf (shP b p) s = seatsOf p s := by
  unfold seatsOf; rw [shP_riderOf h, shR_seats]
theorem shP_aboard : ∀ l : List Rider, aboardS (l.map (shR b)) = aboardS l
  | [] => rfl
  | r :: l => by
    simp only [List.map_cons, aboardS, seatsAb]
    rw [shR_aboard, shR_seats, shP_aboard l]
theorem shP_atK (ok : TourOk m p) : ∀ {k : Nat}, k ≤ p.stops.length → atK (shP b p) k = atK p k
  | 0, _ => rfl
  | k + 1, h => by
    have := ok.go.stops k (by omega)
    exact shP_place (s := nth p.stops k) (by omega)
theorem shP_takenK (ok : TourOk m p) : ∀ {k : Nat}, k ≤ p.stops.length → takenK (shP b p) k = takenK p k
  | 0, _ => shP_aboard _
  | k + 1, h => by
    show takenK (shP b p) k + seatsOf (shP b p) (nth p.stops k) = takenK p k + seatsOf p (nth p.stops k)
    rw [shP_takenK ok (by omega), shP_seatsOf (by have := ok.go.stops k (by omega); omega)]
theorem noDelay_bd' : 0 ≤ noDelay.by_ ∧ noDelay.by_ ≤ 30000 := ⟨by decide, by decide⟩
theorem shP_clockK (ok : TourOk m p) (po : PlanOk m p) (hb : 0 ≤ b) : ∀ {k : Nat}, k ≤ p.stops.length → clockK m (shP b p) noDelay k = clockK m p noDelay k + b
  | 0, _ => rfl
  | k + 1, h => by
    have hr := ok.go.stops k (by omega)
    have hlt : (nth p.stops k).rider.toNat < p.riders.length := by omega
    have ih := shP_clockK ok po hb (k := k) (by omega)
    have h1 := ok.go.clock noDelay_bd' (k := k) (by omega)
    have hz : (if (k : Int) = noDelay.stop then noDelay.by_ else 0) = 0 := by
      show (if (k : Int) = 0 then (0 : Int) else 0) = 0
      split <;> rfl
    show mxI (clockK m (shP b p) noDelay k + cellM m (atK (shP b p) k) (placeOf (shP b p) (nth p.stops k)) + (if (k : Int) = noDelay.stop then noDelay.by_ else 0)) (leastOf (shP b p) (nth p.stops k)) =
      mxI (clockK m p noDelay k + cellM m (atK p k) (placeOf p (nth p.stops k)) + (if (k : Int) = noDelay.stop then noDelay.by_ else 0)) (leastOf p (nth p.stops k)) + b
    rw [hz, ih, shP_atK ok (by omega), shP_place hlt]
    have hc : 0 ≤ cellM m (atK p k) (placeOf p (nth p.stops k)) := (ok.go.go (k := k) (by omega)).1
    generalize cellM m (atK p k) (placeOf p (nth p.stops k)) = c at *
    generalize clockK m p noDelay k = t at *
    have hl : leastOf (shP b p) (nth p.stops k) = leastOf p (nth p.stops k) + b ∨ leastOf (shP b p) (nth p.stops k) = 0 ∧ leastOf p (nth p.stops k) = 0 := by
      have hs := (stopE_ok.1 (po.stops k (by omega))).2.2.1
      unfold leastOf
      cases ho : (nth p.stops k).out with
      | true => exact Or.inr ⟨by simp, by simp⟩
      | false =>
        left
        rw [shP_riderOf hlt]
        have hna : (riderOf p (nth p.stops k)).aboard = false := by
          rcases hs with h | h
          · rw [ho] at h; cases h
          · exact h
        unfold shR
        simp [hna]
    rcases hl with hl | ⟨h2, h3⟩
    · rw [hl]
      unfold mxI
      split <;> split <;> omega
    · rw [h2, h3]
      unfold mxI
      rw [if_neg (by omega), if_neg (by omega)]; omega
theorem shP_times (ok : TourOk m p) (po : PlanOk m p) (hb : 0 ≤ b) {i : Nat} (h : i < p.stops.length) : nth (timesS m (shP b p) noDelay) i = nth (timesS m p noDelay) i + b := by
  unfold timesS
  have : (shP b p).stops = p.stops := rfl
  rw [this, timesK_nth _ _ _ _ _ h, timesK_nth _ _ _ _ _ h, shP_clockK ok po hb (by omega)]
theorem shP_seats (ok : TourOk m p) : seatsS (shP b p) = seatsS p := by
  have : ∀ k, k ≤ p.stops.length → seatsK (shP b p) k = seatsK p k := by
    intro k
    induction k with
    | zero => intro _; rfl
    | succ k ih =>
      intro h
      simp only [seatsK]
      rw [ih (by omega), shP_takenK ok h]
  exact this _ (Nat.le_refl _)
theorem shP_costP (ok : TourOk m p) (po : PlanOk m p) (hb : 0 ≤ b) : costP m (shP b p) = costP m p := by
  unfold costP costS
  rw [timesS_len, timesS_len]
  show (if p.stops.length = 0 then 0 else nth (timesS m (shP b p) noDelay) (p.stops.length - 1) - (p.car.time + b)) = _
  by_cases h : p.stops.length = 0
  · rw [if_pos h, if_pos h]
  · rw [if_neg h, if_neg h, shP_times ok po hb (by omega)]; omega
theorem shP_timeAt (ok : TourOk m p) (po : PlanOk m p) (hb : 0 ≤ b) {s : Stop} (he : elemB p.stops s = true) : timeAt (shP b p) (timesS m (shP b p) noDelay) s = timeAt p (timesS m p noDelay) s + b := by
  obtain ⟨i, hi, hil⟩ := stopAt_bd he
  show nth (timesS m (shP b p) noDelay) (stopAt p.stops s).toNat = nth (timesS m p noDelay) (stopAt p.stops s).toNat + b
  rw [hi, Int.toNat_natCast, shP_times ok po hb hil]
theorem shP_ride (ok : TourOk m p) (po : PlanOk m p) (hb : 0 ≤ b) {j : Nat} (h : Rides p j) : rideS m (shP b p) (timesS m (shP b p) noDelay) j = rideS m p (timesS m p noDelay) j := by
  unfold rideS beginS
  rw [shP_nth h.lt, shR_frm, shR_to, shR_detour, shR_aboard, shR_ridden, shP_timeAt ok po hb h.out]
  cases ha : (nth p.riders j).aboard with
  | true =>
    rw [if_pos rfl, if_pos rfl]
    have : (shP b p).car.time = p.car.time + b := rfl
    rw [this]
    exact Prod.ext (by show _ + b - (_ + b - _) = _ - (_ - _); omega) rfl
  | false =>
    have hi : elemB p.stops ⟨(j : Int), false⟩ = true := h.ins.resolve_left (by rw [ha]; decide)
    rw [if_neg (by decide), if_neg (by decide), shP_timeAt ok po hb hi]
    exact Prod.ext (by show _ + b - (_ + b) = _ - _; omega) rfl
theorem shP_brokF (ok : TourOk m p) (po : PlanOk m p) (hb : 0 ≤ b) (ss : List Int) : ∀ n k, k + n ≤ p.stops.length → brokF m (shP b p) (timesS m (shP b p) noDelay) ss n k = brokF m p (timesS m p noDelay) ss n k
  | 0, _, _ => rfl
  | n + 1, k, h => by
    have hr := ok.go.stops k (by omega)
    have e : rideX m (shP b p) (timesS m (shP b p) noDelay) (nth p.stops k) = rideX m p (timesS m p noDelay) (nth p.stops k) := shP_ride ok po hb (po.rides (by omega))
    have ih := shP_brokF ok po hb ss n (k + 1) (by omega)
    show (if p.car.seats < nth ss k then some (0, (k : Int)) else if (nth p.stops k).out = true ∧ (rideX m (shP b p) (timesS m (shP b p) noDelay) (nth p.stops k)).2 < (rideX m (shP b p) (timesS m (shP b p) noDelay) (nth p.stops k)).1 then some (1, (nth p.stops k).rider) else brokF m (shP b p) (timesS m (shP b p) noDelay) ss n (k + 1)) = _
    rw [e, ih]; rfl
theorem shP_broken (ok : TourOk m p) (po : PlanOk m p) (hb : 0 ≤ b) : brokenS m (shP b p) (timesS m (shP b p) noDelay) (seatsS (shP b p)) = brokenS m p (timesS m p noDelay) (seatsS p) := by
  unfold brokenS
  rw [shP_seats ok]
  exact congrArg brokR (shP_brokF ok po hb _ p.stops.length 0 (by omega))
end
end Go.Proofs.Ytceimmohnniebaa
