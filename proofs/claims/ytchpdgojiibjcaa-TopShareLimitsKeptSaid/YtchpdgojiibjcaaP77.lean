/- Contracts of functions for this claim: lemmas alone. -/
import Derived.Test.YtchpdgojiibjcaaP76
import Derived.Test.YtchpdgojiibjcaaP50
set_option linter.unusedSimpArgs false
set_option linter.unusedVariables false
namespace Go.Proofs.Ytchpdgojiibjcaa
open Go Go.Fi

/-! ### the plan without a rider is right -/
theorem woF_split (j : Int) : ∀ (l : List Stop) (k : Nat), k < (woF j l).length → ∃ i, i < l.length ∧ (nth l i).rider ≠ j ∧ nth (woF j l) k = decS j (nth l i) ∧ (woF j l).take k = woF j (l.take i)
  | [], k, h => by simp at h
  | s :: l, k, h => by
    by_cases e : s.rider = j
    · have e2 : woF j (s :: l) = woF j l := if_pos e
      rw [e2] at h ⊢
      obtain ⟨i, h1, h2, h3, h4⟩ := woF_split j l k h
      refine ⟨i + 1, by simpa using h1, by simpa using h2, by simpa using h3, ?_⟩
      rw [h4, List.take_succ_cons]
      exact (if_pos e).symm
    · have e2 : woF j (s :: l) = decS j s :: woF j l := if_neg e
      rw [e2] at h ⊢
      cases k with
      | zero => exact ⟨0, by simp, by simpa using e, by simp, by simp⟩
      | succ k =>
        obtain ⟨i, h1, h2, h3, h4⟩ := woF_split j l k (by simpa using h)
        refine ⟨i + 1, by simpa using h1, by simpa using h2, by simpa using h3, ?_⟩
        rw [List.take_succ_cons, h4, List.take_succ_cons]
        exact (if_neg e).symm
theorem mem_woF {j : Int} {x : Stop} : ∀ {l : List Stop}, x ∈ woF j l ↔ ∃ s ∈ l, s.rider ≠ j ∧ x = decS j s
  | [] => by simp
  | s :: l => by
    have ih := mem_woF (j := j) (x := x) (l := l)
    unfold woF
    by_cases e : s.rider = j
    · rw [if_pos e, ih]
      constructor
      · rintro ⟨t, h1, h2, h3⟩; exact ⟨t, List.mem_cons_of_mem _ h1, h2, h3⟩
      · rintro ⟨t, h1, h2, h3⟩
        rcases List.mem_cons.1 h1 with h | h
        · subst h; exact absurd e h2
        · exact ⟨t, h, h2, h3⟩
    · rw [if_neg e, List.mem_cons, ih]
      constructor
      · rintro (h | ⟨t, h1, h2, h3⟩)
        · exact ⟨s, List.mem_cons_self, e, h⟩
        · exact ⟨t, List.mem_cons_of_mem _ h1, h2, h3⟩
      · rintro ⟨t, h1, h2, h3⟩
        rcases List.mem_cons.1 h1 with h | h
        · subst h; exact .inl h3
        · exact .inr ⟨t, h, h2, h3⟩
theorem decS_inj {j : Int} {s t : Stop} (h1 : s.rider ≠ j) (h2 : t.rider ≠ j) (h : decS j s = decS j t) : s = t := by
  unfold decS at h
  injection h with h3 h4
  obtain ⟨sr, so⟩ := s
  obtain ⟨tr, to⟩ := t
  dsimp only at *
  subst h4
  have : sr = tr := by
    split at h3 <;> split at h3 <;> omega
  subst this; rfl
theorem aboardS_app : ∀ a b : List Rider, aboardS (a ++ b) = aboardS a + aboardS b
  | [], b => by simp [aboardS]
  | x :: a, b => by
    have ih := aboardS_app a b
    simp only [List.cons_append, aboardS, ih]
    omega
theorem riderE_sub {m : Grid} {l l' : List Rider} {r : Rider} (h : riderE m l r = 0) (hs : ∀ x ∈ l', x ∈ l) : riderE m l' r = 0 := by
  have hk := (riderE_ok h).2
  have hk' : knownB l' r.name = false := by
    unfold knownB at *
    rw [List.any_eq_false] at *
    exact fun x hx => hk x (hs x hx)
  unfold riderE at *
  rw [hk] at h
  rw [hk']; exact h
theorem woS_ok {m : Grid} {p : Plan} (po : PlanOk m p) {j : Nat} (hj : j < p.riders.length) (hab : (nth p.riders j).aboard = false) : PlanOk m (woS p j) := by
  have hR : (woS p j).riders = p.riders.take j ++ p.riders.drop (j + 1) := rfl
  have hS : (woS p j).stops = woF (j : Int) p.stops := rfl
  have hrl : (woS p j).riders.length = p.riders.length - 1 := cut_len _ _ hj
  have hold : ∀ c, c < p.stops.length → (0 ≤ (nth p.stops c).rider ∧ (nth p.stops c).rider < p.riders.length) := fun c hc => (stopE_ok.1 (po.stops c hc)).1
  have habB : ∀ s : Stop, 0 ≤ s.rider → s.rider ≠ (j : Int) → abB (woS p j) (decS (j : Int) s) = abB p s := fun s h0 hne => by
    have := dec_rider (p := p) hj h0 hne
    unfold riderOf at this
    unfold abB
    rw [this]
  refine ⟨po.at0, po.at1, po.t0, po.t1, po.s0, po.s1, by have := po.rl; omega, fun k hk => ?_, ?_, fun k hk => ?_, fun k hk => ?_⟩
  · rw [hrl] at hk
    rw [hR, nth_cut _ _ _ hj]
    by_cases h : k < j
    · rw [if_pos h]
      refine riderE_sub (po.riders k (by omega)) (fun x hx => ?_)
      obtain ⟨i, hi, rfl⟩ := nth_of_mem hx
      rw [List.length_take, cut_len _ _ hj] at hi
      rw [nth_take _ _ _ (by omega), nth_cut _ _ _ hj, if_pos (by omega)]
      exact mem_of_nth (k := i) (by rw [List.length_take]; omega) (nth_take _ _ _ (by omega))
    · rw [if_neg h]
      refine riderE_sub (po.riders (k + 1) (by omega)) (fun x hx => ?_)
      obtain ⟨i, hi, rfl⟩ := nth_of_mem hx
      rw [List.length_take, cut_len _ _ hj] at hi
      rw [nth_take _ _ _ (by omega), nth_cut _ _ _ hj]
      by_cases h2 : i < j
      · rw [if_pos h2]
        exact mem_of_nth (k := i) (by rw [List.length_take]; omega) (nth_take _ _ _ (by omega))
      · rw [if_neg h2]
        exact mem_of_nth (k := i + 1) (by rw [List.length_take]; omega) (nth_take _ _ _ (by omega))
  · have e : p.riders = p.riders.take j ++ nth p.riders j :: p.riders.drop (j + 1) := by
      rw [← drop_nth p.riders j hj, List.take_append_drop]
    have h1 : aboardS p.riders = aboardS (p.riders.take j) + (seatsAb (nth p.riders j) + aboardS (p.riders.drop (j + 1))) := by
      conv => lhs; rw [e]
      rw [aboardS_app]; rfl
    have h2 : seatsAb (nth p.riders j) = 0 := by unfold seatsAb; rw [hab]; rfl
    have h3 := po.ab
    rw [hR, aboardS_app]
    show _ ≤ p.car.seats
    omega
  · rw [hS] at hk
    obtain ⟨i, h1, h2, h3, h4⟩ := woF_split (j : Int) p.stops k hk
    have hs := stopE_ok.1 (po.stops i h1)
    have hr := hold i h1
    rw [hS, h3, stopE_ok, hrl]
    rw [hS, h4]
    generalize hst : nth p.stops i = s at *
    refine ⟨?_, elemB_no (fun h => ?_), ?_, ?_⟩
    · unfold decS
      dsimp only
      split <;> omega
    · obtain ⟨t, g1, g2, g3⟩ := mem_woF.1 h
      have := decS_inj h2 g2 g3
      subst this
      have := elemB_iff.2 g1
      rw [hs.2.1] at this; cases this
    · rcases hs.2.2.1 with h | h
      · exact .inl h
      · exact .inr (by rw [habB s hr.1 h2]; exact h)
    · rcases hs.2.2.2 with h | h | h
      · exact .inl h
      · exact .inr (.inl (by rw [habB s hr.1 h2]; exact h))
      · refine .inr (.inr ?_)
        rw [elemB_iff] at h ⊢
        exact mem_woF.2 ⟨⟨s.rider, false⟩, h, h2, rfl⟩
  · rw [hrl] at hk
    rw [hS, elemB_iff]
    by_cases h : k < j
    · have := elemB_iff.1 (po.gaps k (by omega))
      refine mem_woF.2 ⟨_, this, by show (k : Int) ≠ (j : Int); omega, ?_⟩
      unfold decS
      dsimp only
      rw [if_neg (by omega)]
    · have := elemB_iff.1 (po.gaps (k + 1) (by omega))
      refine mem_woF.2 ⟨_, this, by show ((k + 1 : Nat) : Int) ≠ (j : Int); omega, ?_⟩
      unfold decS
      dsimp only
      rw [if_pos (by omega)]
      congr 1
      omega
end Go.Proofs.Ytchpdgojiibjcaa
