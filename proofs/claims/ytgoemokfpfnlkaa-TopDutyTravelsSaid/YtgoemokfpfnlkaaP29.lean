/- Contracts of functions for this claim: lemmas alone. -/
import Derived.Test.YtgoemokfpfnlkaaP27
set_option linter.unusedSimpArgs false
set_option linter.unusedVariables false
namespace Go.Proofs.Ytgoemokfpfnlkaa
open Go Go.Fi

theorem searchF_spec (p : Nat → Bool) (hm : ∀ k k', k ≤ k' → k' < 604801 → p k = true → p k' = true) : ∀ m i j, i ≤ j → j ≤ 604801 → j - i ≤ m →
    i ≤ searchF p m i j ∧ searchF p m i j ≤ j ∧ (∀ k, i ≤ k → k < searchF p m i j → p k = false) ∧ (searchF p m i j < j → p (searchF p m i j) = true)
  | 0, i, j, h1, _, h2 => by
    have : i = j := by omega
    subst this
    exact ⟨Nat.le_refl _, Nat.le_refl _, fun k h h' => absurd h' (by simp only [searchF]; omega), fun h => absurd h (by simp only [searchF]; omega)⟩
  | m + 1, i, j, h1, hj, h2 => by
    simp only [searchF]
    split
    · rename_i hlt
      generalize hq : (i + j) / 2 = q
      have hq1 : i ≤ q ∧ q < j := by omega
      split
      · rename_i hp
        obtain ⟨a1, a2, a3, a4⟩ := searchF_spec p hm m i q hq1.1 (by omega) (by omega)
        refine ⟨a1, by omega, a3, fun _ => ?_⟩
        by_cases h : searchF p m i q < q
        · exact a4 h
        · have : searchF p m i q = q := by omega
          rw [this]; exact hp
      · rename_i hp
        obtain ⟨a1, a2, a3, a4⟩ := searchF_spec p hm m (q + 1) j (by omega) hj (by omega)
        refine ⟨by omega, a2, fun k h h' => ?_, a4⟩
        by_cases hk : q + 1 ≤ k
        · exact a3 k hk h'
        · cases hpk : p k with
          | false => rfl
          | true => exact absurd (hm k q (by omega) (by omega) hpk) hp
    · have : i = j := by omega
      exact ⟨Nat.le_refl _, h1, fun k h h' => by omega, fun h => by omega⟩
theorem bsF_spec (q : Int → Bool) (hm : ∀ k k', 0 ≤ k → k ≤ k' → k' ≤ 604800 → q k' = true → q k = true) : ∀ (m : Nat) (i j : Int), 0 ≤ i → i ≤ j → j ≤ 604800 → j - i ≤ m → q i = true →
    i ≤ bsF q m i j ∧ bsF q m i j ≤ j ∧ q (bsF q m i j) = true ∧ ∀ k, bsF q m i j < k → k ≤ j → q k = false
  | 0, i, j, h0, h1, hj, h2, hi => by
    have : i = j := by omega
    subst this
    exact ⟨Int.le_refl _, Int.le_refl _, hi, fun k h h' => absurd h (by simp only [bsF]; omega)⟩
  | m + 1, i, j, h0, h1, hj, h2, hi => by
    simp only [bsF]
    split
    · rename_i hlt
      obtain ⟨g1, g2⟩ := ceil2 i j hlt
      generalize ceilS (i + j) 2 = c at *
      split
      · rename_i hp
        obtain ⟨a1, a2, a3, a4⟩ := bsF_spec q hm m c j (by omega) (by omega) hj (by omega) hp
        exact ⟨by omega, a2, a3, a4⟩
      · rename_i hp
        obtain ⟨a1, a2, a3, a4⟩ := bsF_spec q hm m i (c - 1) h0 (by omega) (by omega) (by omega) hi
        refine ⟨a1, by omega, a3, fun k h h' => ?_⟩
        by_cases hk : k ≤ c - 1
        · exact a4 k h hk
        · cases hpk : q k with
          | false => rfl
          | true => exact absurd (hm c k (by omega) (by omega) (by omega) hpk) hp
    · have : i = j := by omega
      subst this
      exact ⟨Int.le_refl _, Int.le_refl _, hi, fun k h h' => by omega⟩
/-- late and soon arrivals of a trip -/
abbrev lateA (n : Net) (a b : Nat) (k : Int) : Int := nth (growS (fTime true) n a k).l b
abbrev soonA (n : Net) (a b : Nat) (k : Int) : Int := nth (growS (fTime false) n a k).l b
inductive LatR (n : Net) (t : Trip) (a b : Nat) : Prop
  | no (h1 : rLatS n t.at_ a b = -1) (h2 : latestS n t = (0, 12))
  | yes (r : Int) (h0 : 0 ≤ r) (hr : r ≤ 604800) (h1 : rLatS n t.at_ a b = r) (h2 : latestS n t = (r, 0)) (h3 : lateA n a b r ≤ t.at_) (h4 : r < 604800 → t.at_ < lateA n a b (r + 1)) (h5 : ∀ k, 0 ≤ k → k ≤ 604800 → 0 ≤ soonA n a b k)
theorem lat_law (n : Net) (t : Trip) (a b : Nat) (ok : TripOk n t a b) (he : otE n t = 0) : LatR n t a b := by
  have hmono : ∀ k k' : Int, 0 ≤ k → k ≤ k' → k' ≤ 604801 → lateA n a b k ≤ lateA n a b k' := fun k k' h1 h2 h3 => grow_mono ok.ok (along_time ok.ok true) (time_mono ok.ok true) ok.la h1 h2 (by omega) ok.lb
  have hb0 := (growS_inv ok.ok (along_time ok.ok false) ok.la (start := 0) (by omega) (by omega)).small ok.ok ok.lb
  have hb1 := (growS_inv ok.ok (along_time ok.ok true) ok.la (start := 0) (by omega) (by omega)).small ok.ok ok.lb
  have hsl : 0 ≤ soonA n a b 0 → 0 ≤ lateA n a b 0 := fun h => grow_some ok.ok (along_time ok.ok false) (along_time ok.ok true) (time_mono ok.ok true) ok.la (by omega) (by omega) (by omega) (by omega) ok.lb h
  have hls : 0 ≤ lateA n a b 0 → ∀ k, 0 ≤ k → k ≤ 604800 → 0 ≤ soonA n a b k := fun h k h1 h2 => grow_some ok.ok (along_time ok.ok true) (along_time ok.ok false) (time_mono ok.ok false) ok.la (by omega) (by omega) h1 (by omega) ok.lb h
  have hp : ∀ k : Nat, lateB n t a b k = decide (t.at_ < lateA n a b k) := fun k => rfl
  have hq : ∀ k : Int, inT n t.at_ a b k = decide (lateA n a b k ≤ t.at_) := fun k => rfl
  have hS := searchF_spec (lateB n t a b) (fun k k' h1 h2 h => by
    rw [hp, decide_eq_true_eq] at h ⊢
    have := hmono k k' (by omega) (by omega) (by omega); omega) 604801 0 604801 (by omega) (by omega) (by omega)
  have hl : latestS n t = if lateA n a b 0 = -1 then (0, 12) else if searchF (lateB n t a b) 604801 0 604801 = 0 then (0, 12) else ((searchF (lateB n t a b) 604801 0 604801 : Int) - 1, 0) := by
    unfold latestS
    rw [if_neg (by simp [he]), show t.frm.toNat = a by have := ok.fa; omega, show t.to.toNat = b by have := ok.fb; omega]
  have hr : rLatS n t.at_ a b = if soonA n a b 0 < 0 then -1 else if t.at_ < lateA n a b 0 then -1 else bsF (inT n t.at_ a b) 604800 0 604800 := rfl
  generalize searchF (lateB n t a b) 604801 0 604801 = s at *
  obtain ⟨_, s2, s3, s4⟩ := hS
  by_cases h1 : soonA n a b 0 < 0
  · refine .no (by rw [hr, if_pos h1]) ?_
    have : lateA n a b 0 = -1 := by
      rcases hb1 with h | h
      · exact h
      · have := hls h.1 0 (by omega) (by omega); omega
    rw [hl, if_pos this]
  · rw [if_neg h1] at hr
    have hl0 := hsl (by omega)
    rw [if_neg (by omega)] at hl
    by_cases h2 : t.at_ < lateA n a b 0
    · refine .no (by rw [hr, if_pos h2]) ?_
      rw [hl, if_pos]
      by_cases h : 0 < s
      · have := s3 0 (by omega) h
        rw [hp] at this
        simp only [decide_eq_false_iff_not] at this
        exact absurd h2 this
      · omega
    · rw [if_neg h2] at hr
      have hB := bsF_spec (inT n t.at_ a b) (fun k k' h1 h2 h3 h => by
        rw [hq, decide_eq_true_eq] at h ⊢
        have := hmono k k' h1 h2 (by omega); omega) 604800 0 604800 (by omega) (by omega) (by omega) (by omega) (by rw [hq]; exact decide_eq_true (by omega))
      generalize bsF (inT n t.at_ a b) 604800 0 604800 = r at *
      obtain ⟨r1, r2, r3, r4⟩ := hB
      rw [hq, decide_eq_true_eq] at r3
      have hs0 : s ≠ 0 := fun h => by
        subst h
        have := s4 (by omega)
        rw [hp, decide_eq_true_eq] at this
        exact h2 this
      rw [if_neg hs0] at hl
      have hs1 := s3 (s - 1) (by omega) (by omega)
      rw [hp] at hs1
      simp only [decide_eq_false_iff_not] at hs1
      have e1 : ((s - 1 : Nat) : Int) = (s : Int) - 1 := by omega
      rw [e1] at hs1
      have hge : ¬ r < (s : Int) - 1 := fun h => by
        have := r4 _ h (by omega)
        rw [hq] at this
        simp only [decide_eq_false_iff_not] at this
        omega
      have hle : ¬ (s : Int) ≤ r := fun h => by
        have h6 := s4 (by omega)
        rw [hp, decide_eq_true_eq] at h6
        have := hmono s r (by omega) h (by omega)
        omega
      have hrs : (s : Int) - 1 = r := by omega
      rw [hrs] at hl
      refine .yes r r1 r2 hr hl r3 (fun h => ?_) (hls hl0)
      have := r4 (r + 1) (by omega) (by omega)
      rw [hq] at this
      simp only [decide_eq_false_iff_not] at this
      omega
theorem estS_at (n : Net) (t : Trip) (a b : Nat) (ok : TripOk n t a b) (he : otE n t = 0) (k : Int) (h0 : 0 ≤ k) (h1 : k ≤ 604800) (hs : 0 ≤ soonA n a b k) : estS n ⟨a, b, k⟩ = (soonA n a b k, lateA n a b k, 0) := by
  have e : otE n ⟨a, b, k⟩ = 0 := by
    have e1 : otE n ⟨t.frm, t.to, k⟩ = otE n t := by
      unfold otE tE
      dsimp only
      have w1 : winB k 0 604800 = true := by unfold winB; simp [h0, h1]
      have w2 : winB t.at_ 0 604800 = true := by have := ok.lo; have := ok.hi; unfold winB; simp; omega
      rw [w1, w2]
    rw [ok.fa, ok.fb] at e1
    rw [e1, he]
  unfold estS
  rw [if_neg (by simp [e])]
  dsimp only
  rw [Int.toNat_natCast, Int.toNat_natCast, if_neg (by show ¬ soonA n a b k = -1; omega)]
end Go.Proofs.Ytgoemokfpfnlkaa
