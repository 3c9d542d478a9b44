/- Contracts of functions for this claim: lemmas alone. -/
import Derived.Test.YtiialcomflggcaaP50
import Derived.Test.YtiialcomflggcaaP31
import Derived.Test.YtiialcomflggcaaP23
set_option linter.unusedSimpArgs false
set_option linter.unusedVariables false
namespace Go.Proofs.Ytiialcomflggcaa
open Go Go.Fi
set_option maxRecDepth 20000

/-! ### what is among the offers -/
section
variable {m : Grid} {p : Plan} {r : Rider}
theorem mem_offAt {x : Offer} {i o : Nat} : x ∈ offAt m p r i o ↔ keepsS m (insS p r i o) = true ∧ x = ((i : Int), (o : Int), costP m (insS p r i o)) := by
  unfold offAt
  by_cases h : keepsS m (insS p r i o) = true
  · rw [if_pos h]; simp [h]
  · rw [if_neg h]; simp [h]
theorem mem_offI {x : Offer} {i : Nat} : ∀ c, x ∈ offI m p r i c ↔ ∃ d, d < c ∧ x ∈ offAt m p r i (i + 1 + d)
  | 0 => by simp [offI]
  | c + 1 => by
    simp only [offI, List.mem_append]
    rw [mem_offI c]
    constructor
    · rintro (⟨d, hd, h⟩ | h)
      · exact ⟨d, by omega, h⟩
      · exact ⟨c, by omega, h⟩
    · rintro ⟨d, hd, h⟩
      rcases Nat.lt_or_ge d c with h1 | h1
      · exact .inl ⟨d, h1, h⟩
      · have : d = c := by omega
        subst this; exact .inr h
theorem mem_offO {x : Offer} : ∀ k, x ∈ offO m p r k ↔ ∃ i, i < k ∧ x ∈ offI m p r i (p.stops.length + 1 - i)
  | 0 => by simp [offO]
  | k + 1 => by
    simp only [offO, List.mem_append]
    rw [mem_offO k]
    constructor
    · rintro (⟨d, hd, h⟩ | h)
      · exact ⟨d, by omega, h⟩
      · exact ⟨k, by omega, h⟩
    · rintro ⟨d, hd, h⟩
      rcases Nat.lt_or_ge d k with h1 | h1
      · exact .inl ⟨d, h1, h⟩
      · have : d = k := by omega
        subst this; exact .inr h
theorem mem_offers {x : Offer} : x ∈ offersS m p r ↔ ∃ i o : Nat, i < o ∧ o ≤ p.stops.length + 1 ∧ keepsS m (insS p r i o) = true ∧ x = ((i : Int), (o : Int), costP m (insS p r i o)) := by
  unfold offersS
  rw [mem_offO]
  constructor
  · rintro ⟨i, hi, h⟩
    rw [mem_offI] at h
    obtain ⟨d, hd, h⟩ := h
    rw [mem_offAt] at h
    exact ⟨i, i + 1 + d, by omega, by omega, h.1, h.2⟩
  · rintro ⟨i, o, hio, ho, h1, h2⟩
    refine ⟨i, by omega, (mem_offI _).2 ⟨o - (i + 1), by omega, ?_⟩⟩
    rw [show i + 1 + (o - (i + 1)) = o by omega]
    exact mem_offAt.2 ⟨h1, h2⟩
theorem bestF_some : ∀ (l : List Offer) (b : Offer), ∃ x, bestF l (some b) = some x ∧ (x = b ∨ x ∈ l) ∧ x.2.2 ≤ b.2.2 ∧ ∀ y ∈ l, x.2.2 ≤ y.2.2
  | [], b => ⟨b, rfl, .inl rfl, Int.le_refl _, by simp⟩
  | y :: l, b => by
    unfold bestF
    by_cases h : y.2.2 < b.2.2
    · rw [if_pos h]
      obtain ⟨x, h1, h2, h3, h4⟩ := bestF_some l y
      refine ⟨x, h1, .inr ?_, by omega, fun z hz => ?_⟩
      · rcases h2 with h2 | h2
        · rw [h2]; exact List.mem_cons_self
        · exact List.mem_cons_of_mem _ h2
      · rcases List.mem_cons.1 hz with hz | hz
        · rw [hz]; exact h3
        · exact h4 z hz
    · rw [if_neg h]
      obtain ⟨x, h1, h2, h3, h4⟩ := bestF_some l b
      refine ⟨x, h1, ?_, h3, fun z hz => ?_⟩
      · rcases h2 with h2 | h2
        · exact .inl h2
        · exact .inr (List.mem_cons_of_mem _ h2)
      · rcases List.mem_cons.1 hz with hz | hz
        · rw [hz]; omega
        · exact h4 z hz
theorem bestS_cases : (bestS m p r = none ∧ offersS m p r = []) ∨ ∃ x, bestS m p r = some x ∧ x ∈ offersS m p r ∧ ∀ y ∈ offersS m p r, x.2.2 ≤ y.2.2 := by
  unfold bestS
  cases h : offersS m p r with
  | nil => exact .inl ⟨rfl, rfl⟩
  | cons y l =>
    right
    obtain ⟨x, h1, h2, h3, h4⟩ := bestF_some l y
    refine ⟨x, h1, ?_, fun z hz => ?_⟩
    · rcases h2 with h2 | h2
      · rw [h2]; exact List.mem_cons_self
      · exact List.mem_cons_of_mem _ h2
    · rcases List.mem_cons.1 hz with hz | hz
      · rw [hz]; exact h3
      · exact h4 z hz
end
/-- is it among the first of them -/
def foundK (l : List Offer) (t : Offer) (k : Nat) : Bool := (l.take k).any (fun x => decide (x = t))
@[simp] theorem foundK_zero (l : List Offer) (t : Offer) : foundK l t 0 = false := rfl
end Go.Proofs.Ytiialcomflggcaa

