/- Contracts of functions for this claim: lemmas alone. -/
import Derived.Test.YtchpdgojiibjcaaP77
import Derived.Test.YtchpdgojiibjcaaP43
set_option linter.unusedSimpArgs false
set_option linter.unusedVariables false
namespace Go.Proofs.Ytchpdgojiibjcaa
open Go Go.Fi

/-! ### a rider taken out and taken again (no program in sight) -/
theorem woF_app (j : Int) : ∀ a b : List Stop, woF j (a ++ b) = woF j a ++ woF j b
  | [], b => rfl
  | s :: a, b => by
    have ih := woF_app j a b
    simp only [List.cons_append, woF]
    split
    · exact ih
    · rw [ih]; rfl
theorem nth_mid {α : Type} [Inhabited α] (a b : List α) (x : α) : nth (a ++ x :: b) a.length = x := by
  simp [nth, List.getD_eq_getElem?_getD]
theorem ext_nth {α : Type} [Inhabited α] {a b : List α} (h : a.length = b.length) (h2 : ∀ k, k < a.length → nth a k = nth b k) : a = b := by
  refine List.ext_getElem h (fun k h3 h4 => ?_)
  have := h2 k h3
  simpa [nth, List.getD_eq_getElem?_getD, List.getElem?_eq_getElem h3, List.getElem?_eq_getElem h4] using this
def inAt (p : Plan) (j : Nat) : Nat := (stopAt p.stops ⟨(j : Int), false⟩).toNat
def outAt (p : Plan) (j : Nat) : Nat := (stopAt p.stops ⟨(j : Int), true⟩).toNat
def sigS (p : Plan) (j : Nat) (s : Stop) : Stop := if s.rider = (j : Int) then ⟨((p.riders.length - 1 : Nat) : Int), s.out⟩ else decS (j : Int) s
def again (p : Plan) (j : Nat) : Plan := insS (woS p j) (nth p.riders j) (inAt p j) (outAt p j)
section
variable {m : Grid} {p : Plan} {j : Nat}
theorem again_pos (po : PlanOk m p) (hj : j < p.riders.length) (hab : (nth p.riders j).aboard = false) :
    inAt p j < outAt p j ∧ outAt p j < p.stops.length ∧ nth p.stops (inAt p j) = ⟨(j : Int), false⟩ ∧ nth p.stops (outAt p j) = ⟨(j : Int), true⟩ := by
  have he := po.gaps j hj
  obtain ⟨o, ho, hol⟩ := stopAt_bd he
  have ho2 := stopAt_nth he
  rw [ho, Int.toNat_natCast] at ho2
  have h3 := (stopE_ok.1 (po.stops o hol)).2.2.2
  rw [ho2] at h3
  have h4 : elemB (p.stops.take o) ⟨(j : Int), false⟩ = true := by
    rcases h3 with h | h | h
    · cases h
    · have h : (nth p.riders ((j : Int)).toNat).aboard = true := h
      rw [Int.toNat_natCast, hab] at h; cases h
    · exact h
  obtain ⟨a, ha, hae⟩ := nth_of_mem (elemB_iff.1 h4)
  rw [take_len _ _ (by omega)] at ha
  rw [nth_take _ _ _ ha] at hae
  have h5 := stop_once po (i := a) (by omega) hae
  have e1 : inAt p j = a := by unfold inAt; rw [h5, Int.toNat_natCast]
  have e2 : outAt p j = o := by unfold outAt; rw [ho, Int.toNat_natCast]
  rw [e1, e2]
  exact ⟨ha, hol, hae, ho2⟩
theorem again_rider (po : PlanOk m p) {k : Nat} (hk : k < p.stops.length) (h : (nth p.stops k).rider = (j : Int)) : k = inAt p j ∨ k = outAt p j := by
  cases ho : (nth p.stops k).out with
  | false =>
    have := stop_once po hk (stop_is h ho)
    left; unfold inAt; rw [this, Int.toNat_natCast]
  | true =>
    have := stop_once po hk (stop_is h ho)
    right; unfold outAt; rw [this, Int.toNat_natCast]
theorem wo_take (po : PlanOk m p) (hj : j < p.riders.length) (hab : (nth p.riders j).aboard = false) : ∀ k, k ≤ p.stops.length → (woF (j : Int) (p.stops.take k)).length = cntK (inAt p j) (outAt p j) k
  | 0, _ => by simp [cntK]
  | k + 1, hk => by
    have ih := wo_take po hj hab k (by omega)
    obtain ⟨h1, h2, h3, h4⟩ := again_pos po hj hab
    rw [take_succ_nth p.stops k (by omega), woF_snoc, List.length_append, ih]
    by_cases e : (nth p.stops k).rider = (j : Int)
    · rw [if_pos e]
      rcases again_rider po (by omega) e with h | h
      · rw [h, cntK_i h1]; rfl
      · rw [h, cntK_o h1]; rfl
    · rw [if_neg e]
      have n1 : k ≠ inAt p j := fun h => e (by rw [h, h3])
      have n2 : k ≠ outAt p j := fun h => e (by rw [h, h4])
      rw [cntK_r h1 n1 n2]; rfl
theorem wo_len (po : PlanOk m p) (hj : j < p.riders.length) (hab : (nth p.riders j).aboard = false) : (woS p j).stops.length + 2 = p.stops.length := by
  obtain ⟨h1, h2, _, _⟩ := again_pos po hj hab
  have := wo_take po hj hab p.stops.length (Nat.le_refl _)
  rw [List.take_length] at this
  show (woF (j : Int) p.stops).length + 2 = _
  rw [this]
  unfold cntK
  rw [if_pos (by omega), if_pos h2]
  omega
theorem wo_nth (po : PlanOk m p) (hj : j < p.riders.length) (hab : (nth p.riders j).aboard = false) {k : Nat} (hk : k < p.stops.length) (h : (nth p.stops k).rider ≠ (j : Int)) :
    nth (woS p j).stops (cntK (inAt p j) (outAt p j) k) = decS (j : Int) (nth p.stops k) := by
  have e : p.stops = p.stops.take k ++ nth p.stops k :: p.stops.drop (k + 1) := by
    rw [← drop_nth p.stops k hk, List.take_append_drop]
  have h2 : (woS p j).stops = woF (j : Int) (p.stops.take k) ++ decS (j : Int) (nth p.stops k) :: woF (j : Int) (p.stops.drop (k + 1)) := by
    show woF (j : Int) p.stops = _
    conv => lhs; rw [e]
    rw [woF_app]
    congr 1
    exact if_neg h
  rw [h2, ← wo_take po hj hab k (by omega), nth_mid]
theorem again_stops (po : PlanOk m p) (hj : j < p.riders.length) (hab : (nth p.riders j).aboard = false) : (again p j).stops.length = p.stops.length ∧ ∀ k, k < p.stops.length → nth (again p j).stops k = sigS p j (nth p.stops k) := by
  have hl := wo_len po hj hab
  obtain ⟨h1, h2, h3, h4⟩ := again_pos po hj hab
  have hrl : (woS p j).riders.length = p.riders.length - 1 := cut_len _ _ hj
  refine ⟨by unfold again; rw [insS_stops_len]; exact hl, fun k hk => ?_⟩
  unfold again
  rw [insS_nth _ _ _ _ (by omega)]
  unfold insAt sigS
  by_cases e : (nth p.stops k).rider = (j : Int)
  · rw [if_pos e]
    rcases again_rider po hk e with h | h
    · rw [if_pos h, hrl, h, h3]
    · rw [if_neg (by omega), if_pos h, hrl, h, h4]
  · rw [if_neg e]
    have n1 : k ≠ inAt p j := fun h => e (by rw [h, h3])
    have n2 : k ≠ outAt p j := fun h => e (by rw [h, h4])
    rw [if_neg n1, if_neg n2]
    exact wo_nth po hj hab hk e
theorem sig_rider (hj : j < p.riders.length) {s : Stop} (h0 : 0 ≤ s.rider) (h1 : s.rider < p.riders.length) : riderOf (again p j) (sigS p j s) = riderOf p s := by
  have hrl : (woS p j).riders.length = p.riders.length - 1 := cut_len _ _ hj
  have hR : (again p j).riders = (woS p j).riders ++ [nth p.riders j] := rfl
  unfold sigS
  by_cases e : s.rider = (j : Int)
  · rw [if_pos e]
    unfold riderOf
    rw [hR]
    dsimp only
    rw [Int.toNat_natCast, ← hrl, nth_app_one, e, Int.toNat_natCast]
  · rw [if_neg e, ← dec_rider hj h0 e]
    unfold riderOf
    rw [hR, nth_app_left _ _ _ (by rw [hrl]; unfold decS; dsimp only; split <;> omega)]
@[simp] theorem sig_out (s : Stop) : (sigS p j s).out = s.out := by unfold sigS decS; split <;> rfl
theorem sig_mk (r : Int) (o : Bool) : sigS p j ⟨r, o⟩ = ⟨(sigS p j ⟨r, true⟩).rider, o⟩ := by
  unfold sigS decS
  by_cases e : r = (j : Int)
  · rw [if_pos e, if_pos e]
  · rw [if_neg e, if_neg e]
theorem again_legs (po : PlanOk m p) (hj : j < p.riders.length) (hab : (nth p.riders j).aboard = false) : (again p j).stops.map (legOf (again p j)) = p.stops.map (legOf p) := by
  obtain ⟨h1, h2⟩ := again_stops po hj hab
  refine ext_nth (by rw [List.length_map, List.length_map, h1]) (fun k hk => ?_)
  rw [List.length_map, h1] at hk
  rw [show nth ((again p j).stops.map (legOf (again p j))) k = legOf (again p j) (nth (again p j).stops k) from by simp [nth, List.getD_eq_getElem?_getD, List.getElem?_eq_getElem (show k < (again p j).stops.length by omega)],
    show nth (p.stops.map (legOf p)) k = legOf p (nth p.stops k) from by simp [nth, List.getD_eq_getElem?_getD, List.getElem?_eq_getElem hk], h2 k hk]
  have hr := (stopE_ok.1 (po.stops k hk)).1
  unfold legOf placeOf leastOf
  rw [sig_rider hj hr.1 hr.2, sig_out]
theorem again_cost (po : PlanOk m p) (hj : j < p.riders.length) (hab : (nth p.riders j).aboard = false) : costP m (again p j) = costP m p := by
  rw [costP_run, costP_run, again_legs po hj hab]; rfl
theorem again_clock (po : PlanOk m p) (hj : j < p.riders.length) (hab : (nth p.riders j).aboard = false) {k : Nat} (hk : k ≤ p.stops.length) : clockK m (again p j) noDelay k = clockK m p noDelay k := by
  have h1 := run_clock m p k hk
  have h2 := run_clock m (again p j) k (by rw [(again_stops po hj hab).1]; exact hk)
  rw [List.map_take, again_legs po hj hab, ← List.map_take] at h2
  have h3 : runL m ((again p j).car.at_, (again p j).car.time) ((p.stops.take k).map (legOf p)) = runL m (p.car.at_, p.car.time) ((p.stops.take k).map (legOf p)) := rfl
  rw [h3, h1] at h2
  injection h2 with _ h2
  exact h2.symm
theorem again_taken (po : PlanOk m p) (hj : j < p.riders.length) (hab : (nth p.riders j).aboard = false) : ∀ {k : Nat}, k ≤ p.stops.length → takenK (again p j) k = takenK p k
  | 0, _ => by
    have hs : seatsAb (nth p.riders j) = 0 := by unfold seatsAb; rw [hab]; rfl
    have e : p.riders = p.riders.take j ++ nth p.riders j :: p.riders.drop (j + 1) := by
      rw [← drop_nth p.riders j hj, List.take_append_drop]
    have h1 : aboardS p.riders = aboardS (p.riders.take j) + (seatsAb (nth p.riders j) + aboardS (p.riders.drop (j + 1))) := by
      conv => lhs; rw [e]
      rw [aboardS_app]; rfl
    show aboardS ((p.riders.take j ++ p.riders.drop (j + 1)) ++ [nth p.riders j]) = aboardS p.riders
    rw [aboardS_snoc, aboardS_app]
    omega
  | k + 1, hk => by
    have ih := again_taken po hj hab (k := k) (by omega)
    have hr := (stopE_ok.1 (po.stops k (by omega))).1
    show takenK (again p j) k + seatsOf (again p j) (nth (again p j).stops k) = takenK p k + seatsOf p (nth p.stops k)
    rw [ih, (again_stops po hj hab).2 k (by omega)]
    unfold seatsOf
    rw [sig_rider hj hr.1 hr.2, sig_out]
theorem again_new (po : PlanOk m p) (hj : j < p.riders.length) (hab : (nth p.riders j).aboard = false) : newE m (woS p j) (nth p.riders j) = 0 := by
  have hrl : (woS p j).riders.length = p.riders.length - 1 := cut_len _ _ hj
  have h6 := po.rl
  have hE := po.riders j hj
  have hk := (riderE_ok hE).2
  have hk' : knownB (woS p j).riders (nth p.riders j).name = false := by
    unfold knownB at *
    rw [List.any_eq_false] at *
    intro x hx
    obtain ⟨i, hi, rfl⟩ := nth_of_mem hx
    rw [hrl] at hi
    show ¬ decide ((nth (p.riders.take j ++ p.riders.drop (j + 1)) i).name = _) = true
    rw [nth_cut _ _ _ hj]
    by_cases e : i < j
    · rw [if_pos e]
      exact hk _ (mem_of_nth (k := i) (by rw [take_len _ _ (by omega)]; exact e) (nth_take _ _ _ e))
    · rw [if_neg e]
      have h2 := (riderE_ok (po.riders (i + 1) (by omega))).2
      unfold knownB at h2
      rw [List.any_eq_false] at h2
      have h3 := h2 (nth p.riders j) (mem_of_nth (k := j) (by rw [take_len _ _ (by omega)]; omega) (nth_take _ _ _ (by omega)))
      rw [decide_eq_true_eq] at h3 ⊢
      exact fun h => h3 h.symm
  have hE' : riderE m (woS p j).riders (nth p.riders j) = 0 := by
    unfold riderE at *
    rw [hk] at hE
    rw [hk']; exact hE
  unfold newE
  rw [hE', hrl, hab, decide_eq_true (show ((p.riders.length - 1 : Nat) : Int) < 6 by omega)]
  rfl
theorem again_keeps (po : PlanOk m p) (hj : j < p.riders.length) (hab : (nth p.riders j).aboard = false) (h : keepsS m p = true) : keepsS m (again p j) = true := by
  obtain ⟨a1, a2, a3, a4⟩ := again_pos po hj hab
  have hl := wo_len po hj hab
  have po2 : PlanOk m (again p j) := insS_ok (woS_ok po hj hab) (again_new po hj hab) a1 (by omega)
  obtain ⟨h1, h2⟩ := again_stops po hj hab
  unfold keepsS at *
  rw [Bool.not_eq_true'] at *
  rw [brokenS_iff] at *
  intro k hk
  rw [h1] at hk
  obtain ⟨g1, g2⟩ := h k hk
  have hs := stopE_ok.1 (po.stops k hk)
  refine ⟨?_, fun ho => ?_⟩
  · unfold seatsS at *
    rw [seatsK_nth _ _ _ (by rw [h1]; exact hk), again_taken po hj hab (by omega)]
    rw [seatsK_nth _ _ _ hk] at g1
    exact g1
  · rw [h2 k hk] at ho ⊢
    rw [sig_out] at ho
    have g3 := g2 ho
    -- the same ride
    have hsig : nth p.stops k = ⟨(nth p.stops k).rider, true⟩ := stop_is rfl ho
    generalize hst : nth p.stops k = s at *
    obtain ⟨a, ha⟩ := Int.eq_ofNat_of_zero_le hs.1.1
    have hal : a < p.riders.length := by have := hs.1.2; omega
    have hsr : (sigS p j s).rider = (sigS p j ⟨s.rider, true⟩).rider := by rw [← hsig]
    have hq0 : 0 ≤ (sigS p j s).rider := by
      unfold sigS decS
      split
      · show (0 : Int) ≤ ((p.riders.length - 1 : Nat) : Int); omega
      · rename_i hne
        dsimp only
        split <;> omega
    obtain ⟨b, hb⟩ := Int.eq_ofNat_of_zero_le hq0
    have e1 : rideX m (again p j) (timesS m (again p j) noDelay) (sigS p j s) = rideS m (again p j) (timesS m (again p j) noDelay) b := by unfold rideX; rw [hb]; rfl
    have e2 : rideX m p (timesS m p noDelay) s = rideS m p (timesS m p noDelay) a := by unfold rideX; rw [ha]; rfl
    rw [e1]
    rw [e2] at g3
    have hrid : nth (again p j).riders b = nth p.riders a := by
      have := sig_rider (p := p) hj hs.1.1 hs.1.2
      unfold riderOf at this
      rw [hb, ha] at this
      exact this
    have t1 : timeAt (again p j) (timesS m (again p j) noDelay) ⟨(b : Int), true⟩ = timeAt p (timesS m p noDelay) ⟨(a : Int), true⟩ := by
      have q1 : nth (again p j).stops k = ⟨(b : Int), true⟩ := by rw [h2 k hk, hst]; exact stop_is hb (by rw [sig_out]; exact ho)
      have q2 : nth p.stops k = ⟨(a : Int), true⟩ := by rw [hst]; exact stop_is ha ho
      rw [timeAt_clock (elemB_iff.2 (mem_of_nth (by rw [h1]; exact hk) q1)), timeAt_clock (elemB_iff.2 (mem_of_nth hk q2)), stop_once po2 (by rw [h1]; exact hk) q1, stop_once po hk q2, Int.toNat_natCast, again_clock po hj hab (by omega)]
    have t2 : beginS (again p j) (timesS m (again p j) noDelay) b = beginS p (timesS m p noDelay) a := by
      unfold beginS
      rw [hrid]
      by_cases hA : (nth p.riders a).aboard = true
      · rw [if_pos hA, if_pos hA]; rfl
      · rw [if_neg hA, if_neg hA]
        have h5 : elemB (p.stops.take k) ⟨(a : Int), false⟩ = true := by
          rcases hs.2.2.2 with h | h | h
          · rw [ho] at h; cases h
          · unfold abB at h; rw [ha] at h; exact absurd h hA
          · rw [ha] at h; exact h
        obtain ⟨c, hc, hce⟩ := nth_of_mem (elemB_iff.1 h5)
        rw [take_len _ _ (by omega)] at hc
        rw [nth_take _ _ _ hc] at hce
        have q1 : nth (again p j).stops c = ⟨(b : Int), false⟩ := by
          rw [h2 c (by omega), hce, ← ha, sig_mk, ← hsr, hb]
        rw [timeAt_clock (elemB_iff.2 (mem_of_nth (by rw [h1]; omega) q1)), timeAt_clock (elemB_iff.2 (mem_of_nth (by omega) hce)), stop_once po2 (by rw [h1]; omega) q1, stop_once po (by omega) hce, Int.toNat_natCast, again_clock po hj hab (by omega)]
    unfold rideS at *
    rw [t1, t2, hrid]
    exact g3
theorem again_best (po : PlanOk m p) (hj : j < p.riders.length) (hab : (nth p.riders j).aboard = false) (h : keepsS m p = true) : ∃ x, bestS m (woS p j) (nth p.riders j) = some x ∧ x.2.2 ≤ costP m p := by
  obtain ⟨a1, a2, a3, a4⟩ := again_pos po hj hab
  have hl := wo_len po hj hab
  have hmem : (((inAt p j : Nat) : Int), ((outAt p j : Nat) : Int), costP m (again p j)) ∈ offersS m (woS p j) (nth p.riders j) :=
    mem_offers.2 ⟨inAt p j, outAt p j, a1, by omega, again_keeps po hj hab h, rfl⟩
  rcases bestS_cases (m := m) (p := woS p j) (r := nth p.riders j) with ⟨_, h2⟩ | ⟨x, h1, _, h3⟩
  · rw [h2] at hmem; cases hmem
  · refine ⟨x, h1, ?_⟩
    have := h3 _ hmem
    rw [again_cost po hj hab] at this
    exact this
end
end Go.Proofs.Ytchpdgojiibjcaa
