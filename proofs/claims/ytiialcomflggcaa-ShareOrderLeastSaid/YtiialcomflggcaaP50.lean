/- Contracts of functions for this claim: lemmas alone. -/
import Derived.Test.YtiialcomflggcaaP35
import Derived.Test.YtiialcomflggcaaP23
set_option linter.unusedSimpArgs false
set_option linter.unusedVariables false
namespace Go.Proofs.Ytiialcomflggcaa
open Go Go.Fi
set_option maxRecDepth 20000

/-! ### a plan with a rider more is right -/
theorem elemB_no {l : List Stop} {s : Stop} (h : s ∈ l → False) : elemB l s = false := by
  cases e : elemB l s with
  | false => rfl
  | true => exact (h (elemB_iff.1 e)).elim
section
variable {m : Grid} {p : Plan} {r : Rider} {i o : Nat}
theorem ins_take {k : Nat} (hk : k ≤ p.stops.length + 2) {s : Stop} (h : s ∈ (insS p r i o).stops.take k) : ∃ j, j < k ∧ insAt p i o j = s := by
  obtain ⟨j, hj, e⟩ := nth_of_mem h
  rw [take_len _ _ (by rw [insS_stops_len]; exact hk)] at hj
  rw [nth_take _ _ _ hj, insS_nth _ _ _ _ (by omega)] at e
  exact ⟨j, hj, e⟩
theorem take_ins {k j : Nat} (hk : k ≤ p.stops.length + 2) (hj : j < k) : insAt p i o j ∈ (insS p r i o).stops.take k :=
  mem_of_nth (k := j) (by rw [take_len _ _ (by rw [insS_stops_len]; exact hk)]; exact hj) (by rw [nth_take _ _ _ hj, insS_nth _ _ _ _ (by omega)])
theorem cntK_mono {j k : Nat} (hio : i < o) (h1 : j ≠ i) (h2 : j ≠ o) (h3 : k ≠ i) (h4 : k ≠ o) (h : j < k) : cntK i o j < cntK i o k := by
  unfold cntK
  repeat' split
  all_goals omega
theorem cntK_inv {c k : Nat} (hio : i < o) (h3 : k ≠ i) (h4 : k ≠ o) (hc : c < cntK i o k) : ∃ j, j < k ∧ j ≠ i ∧ j ≠ o ∧ cntK i o j = c := by
  by_cases h1 : c < i
  · refine ⟨c, ?_, by omega, by omega, ?_⟩
    · unfold cntK at hc; omega
    · unfold cntK; rw [if_neg (by omega), if_neg (by omega)]; omega
  · by_cases h2 : c + 1 < o
    · refine ⟨c + 1, ?_, by omega, by omega, ?_⟩
      · unfold cntK at hc
        split at hc
        all_goals split at hc
        all_goals omega
      · unfold cntK; rw [if_pos (by omega), if_neg (by omega)]; omega
    · refine ⟨c + 2, ?_, by omega, by omega, ?_⟩
      · unfold cntK at hc
        split at hc
        all_goals split at hc
        all_goals omega
      · unfold cntK; rw [if_pos (by omega), if_pos (by omega)]; omega
theorem insS_ok (po : PlanOk m p) (hn : newE m p r = 0) (hio : i < o) (ho : o ≤ p.stops.length + 1) : PlanOk m (insS p r i o) := by
  obtain ⟨n1, n2, n3⟩ := newE_ok hn
  have hrl : (insS p r i o).riders.length = p.riders.length + 1 := by simp [insS]
  have hR : (insS p r i o).riders = p.riders ++ [r] := rfl
  have hold : ∀ c, c < p.stops.length → (0 ≤ (nth p.stops c).rider ∧ (nth p.stops c).rider < p.riders.length) := fun c hc => (stopE_ok.1 (po.stops c hc)).1
  have hab : ∀ s : Stop, 0 ≤ s.rider → s.rider < p.riders.length → abB (insS p r i o) s = abB p s := fun s h0 h1 => by
    unfold abB
    rw [hR, riders_app p r (by omega)]
  refine ⟨po.at0, po.at1, po.t0, po.t1, po.s0, po.s1, by rw [hrl]; omega, fun k hk => ?_, ?_, fun k hk => ?_, fun j hj => ?_⟩
  · rw [hrl] at hk
    rw [hR]
    by_cases e : k < p.riders.length
    · rw [List.take_append_of_le_length (by omega), riders_app p r e]
      exact po.riders k e
    · have e : k = p.riders.length := by omega
      subst e
      rw [List.take_append_of_le_length (Nat.le_refl _), List.take_length, nth_app_one]
      exact n2
  · rw [hR, aboardS_snoc]
    have : seatsAb r = 0 := by unfold seatsAb; rw [n3]; rfl
    rw [this, Int.add_zero]
    exact po.ab
  · rw [insS_stops_len] at hk
    rw [insS_nth _ _ _ _ hk]
    rw [stopE_ok, hrl]
    rcases insAt_cases p hio ho hk with ⟨hki, e⟩ | ⟨hko, e⟩ | ⟨hki, hko, hc, e⟩
    · rw [e]
      refine ⟨⟨by show (0 : Int) ≤ (p.riders.length : Int); omega, by show (p.riders.length : Int) < ((p.riders.length + 1 : Nat) : Int); omega⟩, elemB_no (fun h => ?_), .inr ?_, .inl rfl⟩
      · obtain ⟨j, hj, hje⟩ := ins_take (by omega) h
        rcases insAt_cases p hio ho (k := j) (by omega) with ⟨h1, _⟩ | ⟨h1, _⟩ | ⟨_, _, h3, h4⟩
        · omega
        · omega
        · have := hold _ h3
          rw [← h4, hje] at this
          have h5 : (p.riders.length : Int) < (p.riders.length : Int) := this.2
          omega
      · unfold abB
        show (nth (p.riders ++ [r]) ((p.riders.length : Nat) : Int).toNat).aboard = false
        rw [Int.toNat_natCast, nth_app_one]; exact n3
    · rw [e]
      refine ⟨⟨by show (0 : Int) ≤ (p.riders.length : Int); omega, by show (p.riders.length : Int) < ((p.riders.length + 1 : Nat) : Int); omega⟩, elemB_no (fun h => ?_), .inl rfl, .inr (.inr ?_)⟩
      · obtain ⟨j, hj, hje⟩ := ins_take (by omega) h
        rcases insAt_cases p hio ho (k := j) (by omega) with ⟨h1, h2⟩ | ⟨h1, _⟩ | ⟨_, _, h3, h4⟩
        · rw [hje] at h2; cases h2
        · omega
        · have := hold _ h3
          rw [← h4, hje] at this
          have h5 : (p.riders.length : Int) < (p.riders.length : Int) := this.2
          omega
      · rw [elemB_iff]
        have := take_ins (p := p) (r := r) (i := i) (o := o) (k := k) (j := i) (by omega) (by omega)
        have h6 : insAt p i o i = ⟨(p.riders.length : Int), false⟩ := if_pos rfl
        rwa [h6] at this
    · have hs := stopE_ok.1 (po.stops _ hc)
      rw [e]
      refine ⟨⟨hs.1.1, by have := hs.1.2; omega⟩, elemB_no (fun h => ?_), ?_, ?_⟩
      · obtain ⟨j, hj, hje⟩ := ins_take (by omega) h
        rcases insAt_cases p hio ho (k := j) (by omega) with ⟨_, h2⟩ | ⟨_, h2⟩ | ⟨h1, h2, h3, h4⟩
        · rw [hje] at h2
          have := hs.1.2
          rw [h2] at this
          have h5 : (p.riders.length : Int) < (p.riders.length : Int) := this
          omega
        · rw [hje] at h2
          have := hs.1.2
          rw [h2] at this
          have h5 : (p.riders.length : Int) < (p.riders.length : Int) := this
          omega
        · have hlt := cntK_mono hio h1 h2 hki hko hj
          have h5 : elemB (p.stops.take (cntK i o k)) (nth p.stops (cntK i o k)) = true := elemB_iff.2 (mem_of_nth (k := cntK i o j) (by rw [take_len _ _ (by omega)]; exact hlt) (by rw [nth_take _ _ _ hlt, ← h4, hje]))
          rw [hs.2.1] at h5; cases h5
      · rw [hab _ hs.1.1 hs.1.2]; exact hs.2.2.1
      · rw [hab _ hs.1.1 hs.1.2]
        rcases hs.2.2.2 with h | h | h
        · exact .inl h
        · exact .inr (.inl h)
        · refine .inr (.inr ?_)
          obtain ⟨d, hd, hde⟩ := nth_of_mem (elemB_iff.1 h)
          rw [take_len _ _ (by omega)] at hd
          rw [nth_take _ _ _ hd] at hde
          obtain ⟨j, hj, h1, h2, h3⟩ := cntK_inv hio hki hko hd
          have h4 := take_ins (p := p) (r := r) (i := i) (o := o) (k := k) (j := j) (by omega) hj
          have h5 : insAt p i o j = nth p.stops (cntK i o j) := by unfold insAt; rw [if_neg h1, if_neg h2]
          rw [h5, h3, hde] at h4
          exact elemB_iff.2 h4
  · rw [hrl] at hj
    rw [elemB_iff]
    by_cases e : j < p.riders.length
    · exact ins_old p r hio ho (elemB_iff.1 (po.gaps j e))
    · have e : j = p.riders.length := by omega
      subst e
      exact ins_out p r hio ho
end
end Go.Proofs.Ytiialcomflggcaa

