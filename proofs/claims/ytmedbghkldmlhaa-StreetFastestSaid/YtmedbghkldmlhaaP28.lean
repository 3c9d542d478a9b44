/- Contracts of functions for this claim: lemmas alone. -/
import Derived.Test.YtmedbghkldmlhaaP27
set_option linter.unusedSimpArgs false
set_option linter.unusedVariables false
namespace Go.Proofs.Ytmedbghkldmlhaa
open Go Go.Fi

theorem ceil_seg (A g d : Int) (hd : 0 < d) (hA : -d ≤ A) : ceilS (A * g) d ≤ ceilS (A * (g + 1)) d + 1 := by
  have h1 := (ceilS_ge (A * (g + 1)) d hd).1
  have h2 := (ceilS_ge (A * g) d hd).2
  generalize ceilS (A * (g + 1)) d = c at *
  generalize ceilS (A * g) d = b at *
  have e : A * (g + 1) = A * g + A := by rw [Int.mul_add, Int.mul_one]
  have e2 : (c + 1) * d = c * d + d := by rw [Int.add_mul, Int.one_mul]
  have h3 : (b - 1) * d < (c + 1) * d := by omega
  have := Int.lt_of_mul_lt_mul_right h3 (Int.le_of_lt hd)
  omega
theorem ceil_full (A d : Int) (hd : 0 < d) : ceilS (A * d) d ≤ A := by
  have h2 := (ceilS_ge (A * d) d hd).2
  have := Int.lt_of_mul_lt_mul_right h2 (Int.le_of_lt hd)
  omega
theorem ceil_zero (A d : Int) : ceilS (A * 0) d = 0 := by
  rw [Int.mul_zero]; simp [ceilS]
theorem next_seg {l : List Pt} (hl : PtsOk l) (hi : PtsInc l) {x y : Int} (h0 : 0 ≤ x) (h1 : x < 86400) (hy : y = if x = 86399 then 0 else x + 1) :
    (lastI l y l.length = lastI l x l.length ∧ goneS y (nth l (lastI l x l.length)).at_ = goneS x (nth l (lastI l x l.length)).at_ + 1) ∨
    (lastI l y l.length = (lastI l x l.length + 1) % l.length ∧ goneS y (nth l ((lastI l x l.length + 1) % l.length)).at_ = 0 ∧ goneS x (nth l (lastI l x l.length)).at_ + 1 = gapS (nth l (lastI l x l.length)).at_ (nth l ((lastI l x l.length + 1) % l.length)).at_) := by
  have hs := lastI_spec l x l.length (Nat.le_refl _)
  have hs' := lastI_spec l y l.length (Nat.le_refl _)
  have hlt := lastI_lt l x hl.pos l.length (Nat.le_refl _)
  have hlt' := lastI_lt l y hl.pos l.length (Nat.le_refl _)
  have hpos := hl.pos
  generalize lastI l x l.length = i at *
  generalize lastI l y l.length = i' at *
  have b1 := hl.at_ i hlt
  have b1' := hl.at_ i' hlt'
  have b0 := hl.at_ 0 hpos
  have hj : (i + 1) % l.length < l.length := Nat.mod_lt _ hpos
  have b2 := hl.at_ _ hj
  have hjj : (i + 1 < l.length ∧ (i + 1) % l.length = i + 1) ∨ (i = l.length - 1 ∧ (i + 1) % l.length = 0) := by
    by_cases h : i + 1 < l.length
    · exact .inl ⟨h, Nat.mod_eq_of_lt h⟩
    · exact .inr ⟨by omega, by rw [show i + 1 = l.length by omega]; exact Nat.mod_self _⟩
  generalize (i + 1) % l.length = j at *
  have L1 : i < i' → (nth l i).at_ < (nth l i').at_ := fun h => hi.lt h hlt'
  have L2 : i' < i → (nth l i').at_ < (nth l i).at_ := fun h => hi.lt h hlt
  have L3 : j < i' → (nth l j).at_ < (nth l i').at_ := fun h => hi.lt h hlt'
  have L4 : i' < j → (nth l i').at_ < (nth l j).at_ := fun h => hi.lt h hj
  have L5 : 0 < i → (nth l 0).at_ < (nth l i).at_ := fun h => hi.lt h hlt
  have L6 : 0 < i' → (nth l 0).at_ < (nth l i').at_ := fun h => hi.lt h hlt'
  by_cases hc : (nth l j).at_ = y
  · refine .inr ⟨?_, by unfold goneS; split <;> omega, ?_⟩
    · rcases hs' with ⟨_, g2, g3⟩ | ⟨_, g2⟩
      · have := g3 j
        by_cases h : i' = j
        · exact h
        · rcases Nat.lt_or_gt_of_ne h with h | h
          · have := this h hj; omega
          · have := L3 h; omega
      · have := g2 j hj; omega
    · unfold goneS gapS
      split at hy <;> split <;> split <;> omega
  · refine .inl ?_
    have hii : i' = i ∧ (nth l i).at_ ≠ y + (if y = 0 then 0 else 86400) ∧ ((x < (nth l i).at_ → y < (nth l i).at_)) ∧ (y = 0 → 0 < (nth l i).at_) := by
      rcases hs with ⟨_, g2, g3⟩ | ⟨g1, g2⟩
      · split at hy
        · have hlast : i = l.length - 1 := by
            rcases hjj with ⟨q1, q2⟩ | ⟨q1, q2⟩
            · have := g3 (i + 1) (by omega) q1
              have := hl.at_ (i + 1) q1
              omega
            · exact q1
          rcases hjj with ⟨q1, q2⟩ | ⟨q1, q2⟩
          · omega
          · subst q2
            have hp : 0 < (nth l i).at_ := by
              by_cases h : 0 < i
              · have := L5 h; omega
              · have : i = 0 := by omega
                subst this; omega
            rcases hs' with ⟨_, k2, k3⟩ | ⟨k1, k2⟩
            · by_cases h : 0 < i'
              · have := L6 h; omega
              · have : i' = 0 := by omega
                subst this; omega
            · exact ⟨by omega, by split <;> omega, by omega, fun _ => hp⟩
        · rcases hs' with ⟨_, k2, k3⟩ | ⟨k1, k2⟩
          · refine ⟨?_, by split <;> omega, by omega, by omega⟩
            by_cases h : i' = i
            · exact h
            · rcases Nat.lt_or_gt_of_ne h with h | h
              · have := k3 i h hlt; omega
              · rcases hjj with ⟨q1, q2⟩ | ⟨q1, q2⟩
                · subst q2
                  have := g3 (i + 1) (by omega) q1
                  by_cases h' : i + 1 < i'
                  · have := L3 h'; omega
                  · have : i' = i + 1 := by omega
                    subst this; omega
                · omega
          · have := k2 i hlt; omega
      · have hx : ¬ x = 86399 := by have := g2 i hlt; omega
        rw [if_neg hx] at hy
        rcases hjj with ⟨q1, q2⟩ | ⟨q1, q2⟩
        · omega
        · subst q2
          have c0 := g2 0 hpos
          have ci := g2 i hlt
          have hyi : y < (nth l i).at_ := by
            by_cases h : 0 < i
            · have := L5 h; omega
            · have : i = 0 := by omega
              subst this; omega
          rcases hs' with ⟨_, k2, k3⟩ | ⟨k1, k2⟩
          · by_cases h : 0 < i'
            · have := L6 h; omega
            · have : i' = 0 := by omega
              subst this; omega
          · exact ⟨by omega, by split <;> omega, fun _ => hyi, by omega⟩
    obtain ⟨h2, _, h4, h5⟩ := hii
    refine ⟨h2, ?_⟩
    unfold goneS
    split at hy <;> split <;> split <;> omega
theorem takes_step {l : List Pt} (hl : PtsOk l) (hi : PtsInc l) (ho : ∀ k, k < l.length → inOrderB l k = true) (m : Int) (late : Bool) : takesS l m late ≤ takesS l (m + 1) late + 1 := by
  unfold takesS
  dsimp only
  have hx0 : 0 ≤ m % 86400 := by omega
  have hx1 : m % 86400 < 86400 := by omega
  have hy : (m + 1) % 86400 = if m % 86400 = 86399 then 0 else m % 86400 + 1 := by split <;> omega
  have hn := next_seg hl hi hx0 hx1 hy
  have hlt := lastI_lt l (m % 86400) hl.pos l.length (Nat.le_refl _)
  generalize m % 86400 = x at *
  generalize (m + 1) % 86400 = y at *
  generalize lastI l x l.length = i at *
  generalize lastI l y l.length = i' at *
  have hj : (i + 1) % l.length < l.length := Nat.mod_lt _ hl.pos
  have hd := gapS_bd (hl.at_ i hlt) (hl.at_ _ hj)
  have hor : ptv late (nth l i) - gapS (nth l i).at_ (nth l ((i + 1) % l.length)).at_ ≤ ptv late (nth l ((i + 1) % l.length)) := by
    have := ho i hlt
    unfold inOrderB at this
    simp only [Bool.and_eq_true, decide_eq_true_eq] at this
    cases late
    · exact this.1
    · exact this.2
  rcases hn with ⟨rfl, h2⟩ | ⟨rfl, h2, h3⟩
  · rw [h2]
    generalize (i' + 1) % l.length = j at *
    have := ceil_seg (ptv late (nth l j) - ptv late (nth l i')) (goneS x (nth l i').at_) _ hd (by omega)
    omega
  · rw [h2, ceil_zero]
    generalize (i + 1) % l.length = j at *
    have c1 := ceil_seg (ptv late (nth l j) - ptv late (nth l i)) (goneS x (nth l i).at_) _ hd (by omega)
    rw [h3] at c1
    have c2 := ceil_full (ptv late (nth l j) - ptv late (nth l i)) _ hd
    omega
theorem takes_mono {l : List Pt} (hl : PtsOk l) (hi : PtsInc l) (ho : ∀ k, k < l.length → inOrderB l k = true) (late : Bool) (m : Int) : ∀ d : Nat, m + takesS l m late ≤ m + d + takesS l (m + d) late
  | 0 => by simp
  | d + 1 => by
    have h1 := takes_mono hl hi ho late m d
    have h2 := takes_step hl hi ho (m + d) late
    rw [show m + ((d + 1 : Nat) : Int) = m + d + 1 by omega]
    omega
theorem time_mono {n : Net} (h : NetOk n) (late : Bool) : Mono n (fTime late) := fun k m m' hk _ hm => by
  have hr := h.road k hk
  have := takes_mono hr.pts hr.inc hr.ord late m (m' - m).toNat
  rw [show m + ((m' - m).toNat : Int) = m' by omega] at this
  exact this
theorem len_mono {n : Net} : Mono n fLen := fun k m m' _ _ hm => by unfold fLen; omega
end Go.Proofs.Ytmedbghkldmlhaa
