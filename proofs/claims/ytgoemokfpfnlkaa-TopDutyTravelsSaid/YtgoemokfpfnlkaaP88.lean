/- Contracts of functions for this claim: lemmas alone. -/
import Derived.Test.YtgoemokfpfnlkaaP83
set_option linter.unusedSimpArgs false
set_option linter.unusedVariables false
namespace Go.Proofs.Ytgoemokfpfnlkaa
open Go Go.Fi
set_option maxRecDepth 20000

theorem searchN_spec (N : Nat) (p : Nat → Bool) (hm : ∀ k k', k ≤ k' → k' < N → p k = true → p k' = true) : ∀ m i j, i ≤ j → j ≤ N → j - i ≤ m →
    i ≤ searchF p m i j ∧ searchF p m i j ≤ j ∧ (∀ k, i ≤ k → k < searchF p m i j → p k = false) ∧ (searchF p m i j < j → p (searchF p m i j) = true)
  | 0, i, j, h1, _, h2 => by
    have : i = j := by omega
    subst this
    exact ⟨Nat.le_refl _, Nat.le_refl _, fun k h h' => absurd h' (by simp only [searchF]; omega), fun h => absurd h (by simp only [searchF]; omega)⟩
  | m + 1, i, j, h1, hj, h2 => by
    simp only [searchF]
    split
    · rename_i hlt
      generalize hq : (i + j) / 2 = q
      have hq1 : i ≤ q ∧ q < j := by omega
      split
      · rename_i hp
        obtain ⟨a1, a2, a3, a4⟩ := searchN_spec N p hm m i q hq1.1 (by omega) (by omega)
        refine ⟨a1, by omega, a3, fun _ => ?_⟩
        by_cases h : searchF p m i q < q
        · exact a4 h
        · have : searchF p m i q = q := by omega
          rw [this]; exact hp
      · rename_i hp
        obtain ⟨a1, a2, a3, a4⟩ := searchN_spec N p hm m (q + 1) j (by omega) hj (by omega)
        refine ⟨by omega, a2, fun k h h' => ?_, a4⟩
        by_cases hk : q + 1 ≤ k
        · exact a3 k hk h'
        · cases hpk : p k with
          | false => rfl
          | true => exact absurd (hm k q (by omega) (by omega) hpk) hp
    · have : i = j := by omega
      exact ⟨Nat.le_refl _, h1, fun k h h' => by omega, fun h => by omega⟩
/-- a search for the least number beyond a bound -/
theorem search_thr (p : Nat → Bool) (N : Nat) (K : Int) (h0 : 0 ≤ K) (hp : ∀ k : Nat, k < N → p k = !decide ((k : Int) ≤ K)) : ((searchF p N 0 N : Nat) : Int) = if K + 1 < N then K + 1 else (N : Int) := by
  have hm : ∀ k k', k ≤ k' → k' < N → p k = true → p k' = true := fun k k' h1 h2 h3 => by
    rw [hp k (by omega)] at h3
    rw [hp k' h2]
    simp at h3 ⊢
    omega
  obtain ⟨_, a2, a3, a4⟩ := searchN_spec N p hm N 0 N (Nat.zero_le _) (Nat.le_refl _) (by omega)
  generalize searchF p N 0 N = s at *
  have b1 : (s : Int) ≤ K + 1 := by
    rcases Nat.eq_zero_or_pos s with h | h
    · omega
    · have := a3 (s - 1) (Nat.zero_le _) (by omega)
      rw [hp (s - 1) (by omega)] at this
      simp at this
      omega
  by_cases h : s < N
  · have := a4 h
    rw [hp s h] at this
    simp at this
    rw [if_pos (by omega)]
    omega
  · rw [if_neg (by omega)]
    omega
/-- a trip behind no records -/
theorem brs_none (r : Rul) (s n : Int) (hn : n ≤ 604800) (h : RulOk r) : (brsS r [] s n = 0) ↔ (n ≤ (if r.stint ≤ (if r.shift ≤ r.week then r.shift else r.week) then r.stint else (if r.shift ≤ r.week then r.shift else r.week))) := by
  have h1 := h.c
  have h2 := h.d
  have h3 := h.e
  unfold brsS
  by_cases hp : 0 < n
  · rw [if_pos hp]
    have e1 : lP [(⟨ByteArray.empty, s, s + n⟩ : Rec)] r.brk 1 = 0 := rfl
    have e2 : lP [(⟨ByteArray.empty, s, s + n⟩ : Rec)] r.rest 1 = 0 := rfl
    simp only [brkS, List.nil_append, List.length_singleton, e1, e2, List.drop_zero, Nat.sub_self, Nat.sub_zero]
    simp only [wrkS, nth, List.getD_cons_zero, wT, mxI, mnI]
    repeat' split
    all_goals first | omega | (constructor <;> intro <;> omega)
  · rw [if_neg hp]
    simp only [true_iff]
    repeat' split
    all_goals omega
def annB : ByteArray := ⟨#[97, 110, 110]⟩
def exR : Rul := ⟨900, 36000, 16200, 43200, 200000⟩
def ann : List Rec := [⟨annB, 0, 10000⟩, ⟨annB, 10500, 15000⟩, ⟨annB, 16000, 20000⟩]
theorem wT_full {x : Rec} {f t : Int} (h1 : f ≤ x.frm) (h2 : x.to ≤ t) (h3 : x.frm < x.to) : wT x f t = x.to - x.frm := by
  unfold wT
  have e1 : mxI x.frm f = x.frm := by unfold mxI; rw [if_neg (by omega)]
  have e2 : mnI x.to t = x.to := by unfold mnI; rw [if_neg (by omega)]
  rw [e1, e2, if_pos h3]
theorem brs_ann (n : Int) (h0 : 0 ≤ n) (h1 : n ≤ 500000) : (brsS exR ann 20000 n = 0) ↔ n ≤ 12200 := by
  unfold brsS
  by_cases hp : 0 < n
  · rw [if_pos hp]
    have e1 : lP (ann ++ [(⟨ByteArray.empty, 20000, 20000 + n⟩ : Rec)]) 900 4 = 2 := by simp [lP, newB, ann, nth]
    have e2 : lP (ann ++ [(⟨ByteArray.empty, 20000, 20000 + n⟩ : Rec)]) 36000 4 = 0 := by simp [lP, newB, ann, nth]
    have e3 : (ann ++ [(⟨ByteArray.empty, 20000, 20000 + n⟩ : Rec)]).length = 4 := rfl
    simp only [brkS, e3]
    simp only [exR, e1, e2]
    simp only [ann, List.cons_append, List.nil_append, List.drop_succ_cons, List.drop_zero, wrkS, nth, List.getD_cons_zero, List.getD_cons_succ]
    rw [wT_full (by dsimp only; omega) (by dsimp only; omega) (by dsimp only; omega), wT_full (by dsimp only; omega) (by dsimp only; omega) (by dsimp only; omega), wT_full (by dsimp only; omega) (by dsimp only; omega) (by dsimp only; omega),
      wT_full (by dsimp only; omega) (by dsimp only; omega) (by dsimp only; omega), wT_full (by dsimp only; omega) (by dsimp only; omega) (by dsimp only; omega), wT_full (by dsimp only; omega) (by dsimp only; omega) (by dsimp only; omega)]
    dsimp only
    repeat' split
    all_goals first | omega | (constructor <;> intro <;> omega)
  · rw [if_neg hp]
    simp only [true_iff]
    omega
end Go.Proofs.Ytgoemokfpfnlkaa
