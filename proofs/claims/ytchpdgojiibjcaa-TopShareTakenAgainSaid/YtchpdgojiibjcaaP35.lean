/- Contracts of functions for this claim: lemmas alone. -/
import Derived.Test.YtchpdgojiibjcaaP34
set_option linter.unusedSimpArgs false
set_option linter.unusedVariables false
namespace Go.Proofs.Ytchpdgojiibjcaa
open Go Go.Fi
set_option maxRecDepth 20000

/-! ### behind the last stop nobody is in the car -/
def sumI (g : Nat → Int) : Nat → Int
  | 0 => 0
  | n + 1 => sumI g n + g n
theorem sumI_congr {g g' : Nat → Int} : ∀ (n : Nat), (∀ j, j < n → g j = g' j) → sumI g n = sumI g' n
  | 0, _ => rfl
  | n + 1, h => by simp only [sumI]; rw [sumI_congr n (fun j hj => h j (by omega)), h n (by omega)]
theorem sumI_one {g g' : Nat → Int} {i : Nat} : ∀ (n : Nat), i < n → (∀ j, j < n → j ≠ i → g' j = g j) → sumI g' n = sumI g n + (g' i - g i)
  | 0, h, _ => by omega
  | n + 1, h, hg => by
    simp only [sumI]
    by_cases e : i = n
    · subst e
      rw [sumI_congr (g := g') (g' := g) i (fun j hj => hg j (by omega) (by omega))]
      omega
    · rw [sumI_one n (by omega) (fun j hj => hg j (by omega)), hg n (by omega) (by omega)]
      omega
theorem sumI_zero {g : Nat → Int} : ∀ (n : Nat), (∀ j, j < n → g j = 0) → sumI g n = 0
  | 0, _ => rfl
  | n + 1, h => by simp only [sumI]; rw [sumI_zero n (fun j hj => h j (by omega)), h n (by omega)]; rfl
def onB (p : Plan) (k j : Nat) : Bool := ((nth p.riders j).aboard || elemB (p.stops.take k) ⟨(j : Int), false⟩) && !elemB (p.stops.take k) ⟨(j : Int), true⟩
def onS (p : Plan) (k j : Nat) : Int := if onB p k j = true then (nth p.riders j).seats else 0
theorem elemB_succ {l : List Stop} {k : Nat} (h : k < l.length) (s : Stop) : elemB (l.take (k + 1)) s = (elemB (l.take k) s || stopEq s (nth l k)) := by
  rw [take_succ_nth l k h]; unfold elemB; simp [List.any_append]
theorem stopEq_self (s : Stop) : stopEq s s = true := (stopEq_iff _ _).2 rfl
theorem stopEq_ne {a b : Stop} (h : a ≠ b) : stopEq a b = false := by
  cases e : stopEq a b with
  | false => rfl
  | true => exact absurd ((stopEq_iff _ _).1 e) h
theorem taken_on {m : Grid} {p : Plan} (ok : PlanOk m p) : ∀ k, k ≤ p.stops.length → takenK p k = sumI (onS p k) p.riders.length
  | 0, _ => by
    have key : ∀ n, n ≤ p.riders.length → sumI (onS p 0) n = aboardS (p.riders.take n) := by
      intro n
      induction n with
      | zero => intro _; rfl
      | succ n ih =>
        intro hn
        simp only [sumI]
        rw [ih (by omega), aboardS_succ _ _ (by omega)]
        have : onS p 0 n = seatsAb (nth p.riders n) := by unfold onS onB seatsAb; simp [elemB]
        rw [this]
    rw [key _ (Nat.le_refl _), List.take_length]
    rfl
  | k + 1, hk => by
    have ih := taken_on ok k (by omega)
    have hs := stopE_ok.1 (ok.stops k (by omega))
    have e1 : takenK p (k + 1) = takenK p k + seatsOf p (nth p.stops k) := rfl
    have hsucc := fun s => elemB_succ (l := p.stops) (k := k) (by omega) s
    generalize hst : nth p.stops k = st at *
    obtain ⟨sr, so⟩ := st
    obtain ⟨j, rfl⟩ := Int.eq_ofNat_of_zero_le hs.1.1
    have hj : j < p.riders.length := by have : (j : Int) < (p.riders.length : Int) := hs.1.2; omega
    have hother : ∀ i, i < p.riders.length → i ≠ j → onS p (k + 1) i = onS p k i := by
      intro i _ hne
      have hne' : ¬ (i : Int) = (j : Int) := by omega
      unfold onS onB
      rw [hsucc, hsucc, stopEq_ne (show (⟨(i : Int), false⟩ : Stop) ≠ ⟨(j : Int), so⟩ by intro e; injection e; contradiction), stopEq_ne (show (⟨(i : Int), true⟩ : Stop) ≠ ⟨(j : Int), so⟩ by intro e; injection e; contradiction), Bool.or_false, Bool.or_false]
    rw [e1, ih, sumI_one p.riders.length hj hother]
    have hr : (riderOf p ⟨(j : Int), so⟩) = nth p.riders j := rfl
    have hab : abB p ⟨(j : Int), so⟩ = (nth p.riders j).aboard := rfl
    -- the out of j is not ahead of its in
    have hout : so = false → elemB (p.stops.take k) ⟨(j : Int), true⟩ = false := by
      intro hso
      subst hso
      cases he : elemB (p.stops.take k) ⟨(j : Int), true⟩ with
      | false => rfl
      | true =>
        obtain ⟨c, hc, hce⟩ := nth_of_mem (elemB_iff.1 he)
        rw [take_len _ _ (by omega)] at hc
        rw [nth_take _ _ _ hc] at hce
        have h2 := ok.stops c (by omega)
        rw [hce] at h2
        have h3 := (stopE_ok.1 h2).2.2.2
        have hna : (nth p.riders j).aboard = false := hs.2.2.1.resolve_left (by intro h; cases h)
        rcases h3 with h | h | h
        · cases h
        · have : (nth p.riders j).aboard = true := by simpa [abB] using h
          rw [this] at hna; cases hna
        · have h4 := elemB_iff.1 h
          have h5 : (⟨(j : Int), false⟩ : Stop) ∈ p.stops.take k := by
            obtain ⟨d, hd, hde⟩ := nth_of_mem h4
            rw [take_len _ _ (by omega)] at hd
            rw [nth_take _ _ _ hd] at hde
            exact mem_of_nth (k := d) (by rw [take_len _ _ (by omega)]; omega) (by rw [nth_take _ _ _ (by omega)]; exact hde)
          have h6 := hs.2.1
          rw [elemB_iff.2 h5] at h6; cases h6
    cases so with
    | false =>
      have ho := hout rfl
      have hna : (nth p.riders j).aboard = false := hs.2.2.1.resolve_left (by intro h; cases h)
      have hni := hs.2.1
      have a1 : onS p k j = 0 := by unfold onS onB; rw [hna, hni]; rfl
      have a2 : onS p (k + 1) j = (nth p.riders j).seats := by
        unfold onS onB
        rw [hsucc, hsucc, stopEq_self, ho, stopEq_ne (show (⟨(j : Int), true⟩ : Stop) ≠ ⟨(j : Int), false⟩ by intro e; injection e; contradiction), hna, hni]; rfl
      rw [a1, a2]
      show _ + (if (false : Bool) = true then _ else _) = _
      rw [if_neg (by decide), hr]; omega
    | true =>
      have hno := hs.2.1
      have hin : ((nth p.riders j).aboard || elemB (p.stops.take k) ⟨(j : Int), false⟩) = true := by
        rcases hs.2.2.2 with h | h | h
        · cases h
        · have : (nth p.riders j).aboard = true := h
          rw [this]; rfl
        · have : elemB (p.stops.take k) ⟨(j : Int), false⟩ = true := h
          rw [this, Bool.or_true]
      have a1 : onS p k j = (nth p.riders j).seats := by unfold onS onB; rw [hin, hno]; rfl
      have a2 : onS p (k + 1) j = 0 := by
        unfold onS onB
        rw [hsucc ⟨(j : Int), true⟩, stopEq_self, Bool.or_true]; simp
      rw [a1, a2]
      show _ + (if (true : Bool) = true then _ else _) = _
      rw [if_pos rfl, hr]; omega
theorem taken_end {m : Grid} {p : Plan} (ok : PlanOk m p) : takenK p p.stops.length = 0 := by
  rw [taken_on ok _ (Nat.le_refl _)]
  refine sumI_zero _ (fun j hj => ?_)
  unfold onS onB
  rw [List.take_length, ok.gaps j hj]
  simp
end Go.Proofs.Ytchpdgojiibjcaa
