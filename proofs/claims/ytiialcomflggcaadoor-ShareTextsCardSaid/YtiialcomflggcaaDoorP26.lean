/- Contracts of functions for this claim: lemmas alone. -/
import Derived.Test.YtiialcomflggcaaDoorP23
set_option linter.unusedSimpArgs false
set_option linter.unusedVariables false
namespace Go.Proofs.YtiialcomflggcaaDoor
open Go Go.Fi
set_option maxRecDepth 20000

/-! ### delays -/
@[simp] theorem ints_nil : ints [] = [] := rfl
theorem stopErr_c (m : Grid) (p : Plan) (ts ss : List Int) (hl : p.stops.length < 10000) (r : Int) : RealCall Tryd.prog 45 [.ip (cTour m p ts ss) 0, .int .i64 r] (.int .i64 (errUnless (winB r 0 ((p.stops.length : Int) - 1)) 6)) true := by
  unfold cTour
  refine realcall_intro Tryd.func45 (by kernel_rfl) rfl (Nat.le_of_ble_eq_true (by kernel_rfl)) ?_
  simp only [Tryd.results45, Tryd.ntmps45]
  repeat' (first | (with_reducible first | refine awp_seq ?_ | refine awp_blockS ?_ | refine awp_blockC ?_ | refine awp_blockR ?_ | refine awp_skip ?_ | refine awp_ret ?_ | refine awp_exit ?_ | refine awp_region ?_ | refine awp_condM ?_ | refine And.intro ?_ ?_ | apply gQ_merge | apply gE_merge | exact EqV_w | exact EqE_w | exact EqV_ptr | exact EqE_ptr | exact EqV_msl | exact EqE_msl | exact EqV_agg | exact EqE_agg | exact EqV_fn | exact EqE_fn | exact EqV_gd | exact EqE_gd | refine gM_splitN ?_ ?_ | refine gM_split ?_ ?_ |  refine condM_splitDN ?_ ?_ | refine condM_splitD ?_ ?_ | refine condM_splitN ?_ ?_ | refine condM_split ?_ ?_ | refine condM_any ?_ ?_ | refine cw (within_c _ _ _) ?_ | refine cw (unless_c _ _) ?_ | intro _) | (simp [*]) | (refine cw_eq (within_c _ _ _) ?_ ?_; (· (simp [*]; done))) | (refine cw_eq (unless_c _ _) ?_ ?_; (· (simp [*]; done))))
  all_goals exact inI64 (by omega) (by omega)
end Go.Proofs.YtiialcomflggcaaDoor
namespace Go.Proofs.YtiialcomflggcaaDoor
open Go Go.Fi
set_option maxRecDepth 20000

/-! ### what is kept with a delay is kept with a lesser one -/
theorem mxI_mono {a b l : Int} (h : a ≤ b) : mxI a l ≤ mxI b l ∧ mxI b l - mxI a l ≤ b - a := by unfold mxI; split <;> split <;> omega
section
variable (m : Grid) (p : Plan) (s : Int)
theorem clock_before (d d' : Int) : ∀ k : Nat, (k : Int) ≤ s → clockK m p ⟨s, d'⟩ k = clockK m p ⟨s, d⟩ k
  | 0, _ => rfl
  | k + 1, h => by
    have ih := clock_before d d' k (by omega)
    have hk : ¬ (k : Int) = s := by omega
    show mxI (clockK m p ⟨s, d'⟩ k + _ + (if (k : Int) = s then d' else 0)) _ = mxI (clockK m p ⟨s, d⟩ k + _ + (if (k : Int) = s then d else 0)) _
    rw [ih, if_neg hk, if_neg hk]
theorem clock_diff {d d' : Int} (h : d ≤ d') : ∀ k : Nat, clockK m p ⟨s, d⟩ k ≤ clockK m p ⟨s, d'⟩ k ∧ clockK m p ⟨s, d'⟩ k - clockK m p ⟨s, d⟩ k ≤ d' - d
  | 0 => by simp only [clockK]; omega
  | k + 1 => by
    have ih := clock_diff h k
    by_cases hk : (k : Int) = s
    · have e := clock_before m p s d d' k (by omega)
      have := mxI_mono (l := leastOf p (nth p.stops k)) (show clockK m p ⟨s, d⟩ k + cellM m (atK p k) (placeOf p (nth p.stops k)) + d ≤ clockK m p ⟨s, d'⟩ k + cellM m (atK p k) (placeOf p (nth p.stops k)) + d' by omega)
      show mxI (clockK m p ⟨s, d⟩ k + _ + (if (k : Int) = s then d else 0)) _ ≤ mxI (clockK m p ⟨s, d'⟩ k + _ + (if (k : Int) = s then d' else 0)) _ ∧ mxI (clockK m p ⟨s, d'⟩ k + _ + (if (k : Int) = s then d' else 0)) _ - mxI (clockK m p ⟨s, d⟩ k + _ + (if (k : Int) = s then d else 0)) _ ≤ _
      rw [if_pos hk, if_pos hk]
      omega
    · have := mxI_mono (l := leastOf p (nth p.stops k)) (show clockK m p ⟨s, d⟩ k + cellM m (atK p k) (placeOf p (nth p.stops k)) + 0 ≤ clockK m p ⟨s, d'⟩ k + cellM m (atK p k) (placeOf p (nth p.stops k)) + 0 by omega)
      show mxI (clockK m p ⟨s, d⟩ k + _ + (if (k : Int) = s then d else 0)) _ ≤ mxI (clockK m p ⟨s, d'⟩ k + _ + (if (k : Int) = s then d' else 0)) _ ∧ mxI (clockK m p ⟨s, d'⟩ k + _ + (if (k : Int) = s then d' else 0)) _ - mxI (clockK m p ⟨s, d⟩ k + _ + (if (k : Int) = s then d else 0)) _ ≤ _
      rw [if_neg hk, if_neg hk]
      omega
theorem clock_step {d d' : Int} (h : d ≤ d') {k : Nat} (hk : ¬ (k : Int) = s) : clockK m p ⟨s, d'⟩ (k + 1) - clockK m p ⟨s, d⟩ (k + 1) ≤ clockK m p ⟨s, d'⟩ k - clockK m p ⟨s, d⟩ k := by
  have ih := clock_diff m p s h k
  have := mxI_mono (l := leastOf p (nth p.stops k)) (show clockK m p ⟨s, d⟩ k + cellM m (atK p k) (placeOf p (nth p.stops k)) + 0 ≤ clockK m p ⟨s, d'⟩ k + cellM m (atK p k) (placeOf p (nth p.stops k)) + 0 by omega)
  show mxI (clockK m p ⟨s, d'⟩ k + _ + (if (k : Int) = s then d' else 0)) _ - mxI (clockK m p ⟨s, d⟩ k + _ + (if (k : Int) = s then d else 0)) _ ≤ _
  rw [if_neg hk, if_neg hk]
  omega
theorem clock_fade {d d' : Int} (h : d ≤ d') {a : Nat} (ha : s < (a : Int)) : ∀ b : Nat, clockK m p ⟨s, d'⟩ (a + b) - clockK m p ⟨s, d⟩ (a + b) ≤ clockK m p ⟨s, d'⟩ a - clockK m p ⟨s, d⟩ a
  | 0 => by simp
  | b + 1 => by
    have ih := clock_fade h ha b
    have := clock_step m p s h (k := a + b) (by omega)
    rw [← Nat.add_assoc]
    omega
end
theorem idxF_nth {α : Type} [Inhabited α] (f : α → Bool) : ∀ (l : List α) (i : Nat), l.any f = true → f (nth l (idxF f l i - i).toNat) = true
  | [], i, h => by simp at h
  | x :: r, i, h => by
    unfold idxF
    by_cases hx : f x = true
    · rw [if_pos hx]; simp [hx]
    · rw [if_neg hx]
      have hr : r.any f = true := by simpa [hx] using h
      have h1 := idxF_nth f r (i + 1) hr
      have h2 := idxF_lt f r (i + 1) hr
      obtain ⟨n, hn⟩ : ∃ n : Nat, idxF f r (i + 1) - i = ((n + 1 : Nat) : Int) := ⟨(idxF f r (i + 1) - i - 1).toNat, by omega⟩
      have e : (idxF f r (i + 1) - ((i + 1 : Nat) : Int)).toNat = n := by omega
      rw [e] at h1
      rw [hn, Int.toNat_natCast, nth_succ]
      exact h1
theorem idxF_first {α : Type} [Inhabited α] (f : α → Bool) : ∀ (l : List α) (i j : Nat), j < l.length → f (nth l j) = true → idxF f l i ≤ (i : Int) + j
  | [], i, j, h, _ => by simp at h
  | x :: r, i, j, h, hf => by
    unfold idxF
    by_cases hx : f x = true
    · rw [if_pos hx]; omega
    · rw [if_neg hx]
      cases j with
      | zero => exact absurd hf hx
      | succ j => have := idxF_first f r (i + 1) j (by simpa using h) (by simpa using hf); omega
theorem stopAt_nth {l : List Stop} {s : Stop} (h : elemB l s = true) : nth l (stopAt l s).toNat = s := by
  have := idxF_nth (stopEq s) l 0 h
  rw [stopEq_iff] at this
  simpa [stopAt, idxOf] using this.symm
theorem stopAt_first {l : List Stop} {s : Stop} {j : Nat} (h : j < l.length) (e : nth l j = s) : stopAt l s ≤ j := by
  have := idxF_first (stopEq s) l 0 j h ((stopEq_iff _ _).2 e.symm)
  simpa [stopAt, idxOf] using this
theorem brokF_none {m : Grid} {p : Plan} {ts ss : List Int} : ∀ (n k : Nat), n + k = p.stops.length → (brokF m p ts ss n k = none ↔ ∀ j, k ≤ j → j < p.stops.length → nth ss j ≤ p.car.seats ∧ ((nth p.stops j).out = true → (rideX m p ts (nth p.stops j)).1 ≤ (rideX m p ts (nth p.stops j)).2))
  | 0, k, h => by unfold brokF; simp; intros; omega
  | n + 1, k, h => by
    unfold brokF
    by_cases h1 : p.car.seats < nth ss k
    · rw [if_pos h1]
      constructor
      · intro h; cases h
      · intro hj; have := (hj k (Nat.le_refl _) (by omega)).1; omega
    · rw [if_neg h1]
      by_cases h2 : (nth p.stops k).out = true ∧ (rideX m p ts (nth p.stops k)).2 < (rideX m p ts (nth p.stops k)).1
      · rw [if_pos h2]
        constructor
        · intro h; cases h
        · intro hj; have := (hj k (Nat.le_refl _) (by omega)).2 h2.1; omega
      · rw [if_neg h2, brokF_none n (k + 1) (by omega)]
        constructor
        · intro hj j h3 h4
          rcases Nat.eq_or_lt_of_le h3 with rfl | h5
          · refine ⟨by omega, fun ho => ?_⟩
            by_cases h6 : (rideX m p ts (nth p.stops k)).2 < (rideX m p ts (nth p.stops k)).1
            · exact absurd ⟨ho, h6⟩ h2
            · omega
          · exact hj j h5 h4
        · intro hj j h3 h4; exact hj j (by omega) h4
theorem brokenS_iff {m : Grid} {p : Plan} {ts ss : List Int} : (brokenS m p ts ss).2 = false ↔ ∀ j, j < p.stops.length → nth ss j ≤ p.car.seats ∧ ((nth p.stops j).out = true → (rideX m p ts (nth p.stops j)).1 ≤ (rideX m p ts (nth p.stops j)).2) := by
  have h := brokF_none (m := m) (p := p) (ts := ts) (ss := ss) p.stops.length 0 (by omega)
  unfold brokenS
  cases hb : brokF m p ts ss p.stops.length 0 with
  | none =>
    rw [hb] at h
    simp only [brokR, true_iff]
    exact fun j hj => h.1 rfl j (Nat.zero_le _) hj
  | some x =>
    rw [hb] at h
    simp only [brokR]
    constructor
    · intro h; cases h
    · intro hj; have := h.2 (fun j _ h => hj j h); cases this
def keepsD (m : Grid) (p : Plan) (s d : Int) : Bool := !(brokenS m p (timesS m p ⟨s, d⟩) (seatsS p)).2
theorem timeAt_clock {m : Grid} {p : Plan} {d : Delay} {s : Stop} (h : elemB p.stops s = true) : timeAt p (timesS m p d) s = clockK m p d ((stopAt p.stops s).toNat + 1) := by
  obtain ⟨i, hi, hil⟩ := stopAt_bd h
  unfold timeAt timesS
  rw [hi, Int.toNat_natCast, timesK_nth _ _ _ _ _ hil]
theorem keepsD_mono {m : Grid} {p : Plan} (ok : PlanOk m p) {s d d' : Int} (h0 : keepsD m p s 0 = true) (hd : 0 ≤ d) (hdd : d ≤ d') (h : keepsD m p s d' = true) : keepsD m p s d = true := by
  unfold keepsD at *
  simp only [Bool.not_eq_true'] at *
  rw [brokenS_iff] at *
  intro k hk
  refine ⟨(h k hk).1, fun ho => ?_⟩
  have r0 := (h0 k hk).2 ho
  have r1 := (h k hk).2 ho
  have hst := stopE_ok.1 (ok.stops k hk)
  generalize nth p.stops k = st at *
  obtain ⟨sr, so⟩ := st
  have ho : so = true := ho
  subst ho
  obtain ⟨j, rfl⟩ := Int.eq_ofNat_of_zero_le hst.1.1
  have hj : j < p.riders.length := by have : (j : Int) < (p.riders.length : Int) := hst.1.2; omega
  have hr := ok.rides hj
  have e : ∀ d : Int, rideX m p (timesS m p ⟨s, d⟩) ⟨(j : Int), true⟩ = rideS m p (timesS m p ⟨s, d⟩) j := fun d => rfl
  rw [e] at r0 r1 ⊢
  unfold rideS at *
  simp only at r0 r1 ⊢
  unfold beginS at *
  rw [timeAt_clock hr.out] at r0 r1 ⊢
  have hb := clock_diff m p s hdd ((stopAt p.stops ⟨(j : Int), true⟩).toNat + 1)
  by_cases hab : (nth p.riders j).aboard = true
  · rw [if_pos hab] at r0 r1 ⊢; omega
  · rw [if_neg hab] at r0 r1 ⊢
    have hin : elemB p.stops ⟨(j : Int), false⟩ = true := by rcases hr.ins with h1 | h1; exact absurd h1 hab; exact h1
    rw [timeAt_clock hin] at r0 r1 ⊢
    obtain ⟨b, hb1, hb2⟩ := stopAt_bd hr.out
    obtain ⟨a, ha1, ha2⟩ := stopAt_bd hin
    have hlt : a < b := by
      have h1 := stopAt_nth hr.out
      rw [hb1, Int.toNat_natCast] at h1
      have h2 := ok.stops b hb2
      rw [h1] at h2
      rcases (stopE_ok.1 h2).2.2.2 with h3 | h3 | h3
      · cases h3
      · exact absurd (by simpa [abB] using h3) hab
      · obtain ⟨c, hc, hce⟩ := nth_of_mem (elemB_iff.1 h3)
        rw [take_len _ _ (by omega)] at hc
        rw [nth_take _ _ _ hc] at hce
        have h4 := stopAt_first (show c < p.stops.length by omega) hce
        have h5 : stopAt p.stops ⟨(j : Int), false⟩ = (a : Int) := ha1
        have h6 : (⟨(⟨(j : Int), true⟩ : Stop).rider, false⟩ : Stop) = ⟨(j : Int), false⟩ := rfl
        rw [h6, h5] at h4
        omega
    rw [ha1, hb1, Int.toNat_natCast, Int.toNat_natCast] at r0 r1 ⊢
    rw [hb1, Int.toNat_natCast] at hb
    by_cases hs : ((a + 1 : Nat) : Int) ≤ s
    · have e1 := clock_before m p s d d' (a + 1) hs
      omega
    · have e2 := clock_fade m p s hd (a := a + 1) (by omega) (b - a)
      rw [show a + 1 + (b - a) = b + 1 by omega] at e2
      omega
/-- the greatest delay: one second after the other -/
def gdF (m : Grid) (p : Plan) (s : Int) : Nat → Nat → Nat
  | 0, k => k
  | n + 1, k => if keepsD m p s ((k : Int) + 1) = true then gdF m p s n (k + 1) else k
def gdN (m : Grid) (p : Plan) (s : Int) : Nat := gdF m p s 20000 0
theorem gdF_spec {m : Grid} {p : Plan} {s : Int} : ∀ (n k : Nat), k ≤ gdF m p s n k ∧ gdF m p s n k ≤ k + n ∧ (∀ j, k ≤ j → j < gdF m p s n k → keepsD m p s ((j : Int) + 1) = true) ∧ (gdF m p s n k < k + n → keepsD m p s ((gdF m p s n k : Int) + 1) = false)
  | 0, k => by unfold gdF; exact ⟨Nat.le_refl _, by omega, fun j h1 h2 => by omega, fun h => by omega⟩
  | n + 1, k => by
    unfold gdF
    by_cases h : keepsD m p s ((k : Int) + 1) = true
    · rw [if_pos h]
      obtain ⟨h1, h2, h3, h4⟩ := gdF_spec (m := m) (p := p) (s := s) n (k + 1)
      refine ⟨by omega, by omega, fun j h5 h6 => ?_, fun h5 => h4 (by omega)⟩
      rcases Nat.eq_or_lt_of_le h5 with rfl | h7
      · exact h
      · exact h3 j h7 h6
    · rw [if_neg h]
      exact ⟨Nat.le_refl _, by omega, fun j h1 h2 => by omega, fun _ => by simpa using h⟩
theorem gdN_le (m : Grid) (p : Plan) (s : Int) : gdN m p s ≤ 20000 := by have := (gdF_spec (m := m) (p := p) (s := s) 20000 0).2.1; unfold gdN; omega
theorem gdN_keeps {m : Grid} {p : Plan} {s : Int} (h0 : keepsD m p s 0 = true) {j : Nat} (h : j ≤ gdN m p s) : keepsD m p s (j : Int) = true := by
  cases j with
  | zero => exact h0
  | succ j => have := (gdF_spec (m := m) (p := p) (s := s) 20000 0).2.2.1 j (Nat.zero_le _) h; rw [show ((j + 1 : Nat) : Int) = (j : Int) + 1 by omega]; exact this
theorem gdN_over {m : Grid} {p : Plan} (ok : PlanOk m p) {s : Int} (h0 : keepsD m p s 0 = true) {j : Nat} (h : gdN m p s < j) (h2 : j ≤ 20000) : keepsD m p s (j : Int) = false := by
  have h3 := (gdF_spec (m := m) (p := p) (s := s) 20000 0).2.2.2 (by unfold gdN at h; omega)
  cases hk : keepsD m p s (j : Int) with
  | false => rfl
  | true =>
    have := keepsD_mono ok (d := ((gdN m p s : Nat) : Int) + 1) (d' := (j : Int)) h0 (by omega) (by omega) hk
    unfold gdN at this
    rw [this] at h3; cases h3
end Go.Proofs.YtiialcomflggcaaDoor
namespace Go.Proofs.YtiialcomflggcaaDoor
open Go Go.Fi
set_option maxRecDepth 20000

theorem search_c (R : Nat) (hR : R ≤ 20000) (g : FuncId) (caps : List PV) (h : ∀ j : Nat, j < 20000 → RealCall Tryd.prog g (.int .i64 j :: caps) (.bool (decide (R ≤ j))) true) : RealCall Tryd.prog 47 [.int .i64 20000, .fn g caps] (.int .i64 R) true := by
  have kh := keep h
  clear h
  refine realcall_intro Tryd.func47 (by kernel_rfl) rfl (Nat.le_of_ble_eq_true (by kernel_rfl)) ?_
  simp only [Tryd.results47, Tryd.ntmps47]
  repeat' (first | (with_reducible first | refine awp_seq ?_ | refine awp_blockS ?_ | refine awp_blockC ?_ | refine awp_blockR ?_ | refine awp_skip ?_ | refine awp_ret ?_ | refine awp_exit ?_ | refine awp_region ?_ | refine awp_condM ?_ | refine And.intro ?_ ?_ | apply gQ_merge | apply gE_merge | exact EqV_w | exact EqE_w | exact EqV_ptr | exact EqE_ptr | exact EqV_msl | exact EqE_msl | exact EqV_agg | exact EqE_agg | exact EqV_fn | exact EqE_fn | exact EqV_gd | exact EqE_gd | refine gM_splitN ?_ ?_ | refine gM_split ?_ ?_ |  refine condM_splitDN ?_ ?_ | refine condM_splitD ?_ ?_ | refine condM_splitN ?_ ?_ | refine condM_split ?_ ?_ | refine condM_any ?_ ?_ | intro _) | (simp [*]))
  refine awp_for3 (fun (x : Nat × Nat) => x.1 ≤ R ∧ R ≤ x.2 ∧ x.2 ≤ 20000) [1] (fun (x : Nat × Nat) => [(5, .w false false (.int .i64 x.1)), (6, .w false false (.int .i64 x.2))]) [] (fun (x : Nat × Nat) => []) (fun (x : Nat × Nat) => x.2 - x.1) (fun (_u : Unit) => True) [] (fun (_u : Unit) => [(5, .w false false (.int .i64 R))]) [] (fun (_u : Unit) => []) (((0 : Nat), (20000 : Nat))) ⟨Nat.zero_le _, hR, Nat.le_refl _⟩ (by simp) (by simp) (fun x hk => ?_) (fun _u hf => ?_)
  · obtain ⟨i, j⟩ := x
    obtain ⟨h1, h2, h3⟩ := hk
    have h1 : i ≤ R := h1
    have h2 : R ≤ j := h2
    have h3 : j ≤ 20000 := h3
    by_cases hlt : i < j
    · obtain ⟨c, hc⟩ : ∃ c, c = (i + j) / 2 := ⟨_, rfl⟩
      have hc2 : ((i : Int) + (j : Int)) / 2 = (c : Int) := by omega
      have c1 := kh c (by omega)
      have kc := keep hc
      by_cases hcr : R ≤ c
      · rw [decide_eq_true hcr] at c1
        have k1 : Keep (c < j ∧ i ≤ c) := keep (by omega)
        clear hc
        repeat' (first | (with_reducible first | refine awp_seq ?_ | refine awp_blockS ?_ | refine awp_blockC ?_ | refine awp_blockR ?_ | refine awp_skip ?_ | refine awp_ret ?_ | refine awp_exit ?_ | refine awp_region ?_ | refine awp_condM ?_ | refine And.intro ?_ ?_ | apply gQ_merge | apply gE_merge | exact EqV_w | exact EqE_w | exact EqV_ptr | exact EqE_ptr | exact EqV_msl | exact EqE_msl | exact EqV_agg | exact EqE_agg | exact EqV_fn | exact EqE_fn | exact EqV_gd | exact EqE_gd | refine gM_splitN ?_ ?_ | refine gM_split ?_ ?_ |  refine condM_splitDN ?_ ?_ | refine condM_splitD ?_ ?_ | refine condM_splitN ?_ ?_ | refine condM_split ?_ ?_ | refine condM_any ?_ ?_ | refine cw (c1) ?_ | intro _) | (simp [*, hlt, hc2]) | (refine cw_eq (c1) ?_ ?_; (· (simp [*]; done))))
        all_goals first
          | exact inI64 (by omega) (by omega)
          | exact inU64 (by omega) (by omega)
          | omega
          | (have k2 : c < j ∧ i ≤ c := k1; (refine loopK_normal _ _ _ _ _ (i, c) _ ?_ (by first | omega | (dsimp only; omega) | (simp; omega)) ?_; (· exact ⟨h1, hcr, by dsimp only; omega⟩); (refine le_of ?_ ?_ <;> first | trivial | (simp [*]; done))))
          | skip
      · rw [decide_eq_false hcr] at c1
        have k1 : Keep (c < j ∧ i ≤ c) := keep (by omega)
        clear hc
        repeat' (first | (with_reducible first | refine awp_seq ?_ | refine awp_blockS ?_ | refine awp_blockC ?_ | refine awp_blockR ?_ | refine awp_skip ?_ | refine awp_ret ?_ | refine awp_exit ?_ | refine awp_region ?_ | refine awp_condM ?_ | refine And.intro ?_ ?_ | apply gQ_merge | apply gE_merge | exact EqV_w | exact EqE_w | exact EqV_ptr | exact EqE_ptr | exact EqV_msl | exact EqE_msl | exact EqV_agg | exact EqE_agg | exact EqV_fn | exact EqE_fn | exact EqV_gd | exact EqE_gd | refine gM_splitN ?_ ?_ | refine gM_split ?_ ?_ |  refine condM_splitDN ?_ ?_ | refine condM_splitD ?_ ?_ | refine condM_splitN ?_ ?_ | refine condM_split ?_ ?_ | refine condM_any ?_ ?_ | refine cw (c1) ?_ | intro _) | (simp [*, hlt, hc2]) | (refine cw_eq (c1) ?_ ?_; (· (simp [*]; done))))
        all_goals first
          | exact inI64 (by omega) (by omega)
          | exact inU64 (by omega) (by omega)
          | omega
          | (have k2 : c < j ∧ i ≤ c := k1; (refine loopK_normal _ _ _ _ _ (c + 1, j) _ ?_ (by first | omega | (dsimp only; omega) | (simp; omega)) ?_; (· exact ⟨by dsimp only; omega, h2, h3⟩); (refine le_of ?_ ?_ <;> first | trivial | (simp [*]; done))))
          | skip
    · have e : i = R := by omega
      subst e
      repeat' (first | (with_reducible first | refine awp_seq ?_ | refine awp_blockS ?_ | refine awp_blockC ?_ | refine awp_blockR ?_ | refine awp_skip ?_ | refine awp_ret ?_ | refine awp_exit ?_ | refine awp_region ?_ | refine awp_condM ?_ | refine And.intro ?_ ?_ | apply gQ_merge | apply gE_merge | exact EqV_w | exact EqE_w | exact EqV_ptr | exact EqE_ptr | exact EqV_msl | exact EqE_msl | exact EqV_agg | exact EqE_agg | exact EqV_fn | exact EqE_fn | exact EqV_gd | exact EqE_gd | refine gM_splitN ?_ ?_ | refine gM_split ?_ ?_ |  refine condM_splitDN ?_ ?_ | refine condM_splitD ?_ ?_ | refine condM_splitN ?_ ?_ | refine condM_split ?_ ?_ | refine condM_any ?_ ?_ | intro _) | (simp [*, hlt]))
      all_goals (refine finW_intro () ?_ ?_; (· trivial); (refine le_of ?_ ?_ <;> first | trivial | (simp [*]; done)))
  · repeat' (first | (with_reducible first | refine awp_seq ?_ | refine awp_blockS ?_ | refine awp_blockC ?_ | refine awp_blockR ?_ | refine awp_skip ?_ | refine awp_ret ?_ | refine awp_exit ?_ | refine awp_region ?_ | refine awp_condM ?_ | refine And.intro ?_ ?_ | apply gQ_merge | apply gE_merge | exact EqV_w | exact EqE_w | exact EqV_ptr | exact EqE_ptr | exact EqV_msl | exact EqE_msl | exact EqV_agg | exact EqE_agg | exact EqV_fn | exact EqE_fn | exact EqV_gd | exact EqE_gd | refine gM_splitN ?_ ?_ | refine gM_split ?_ ?_ |  refine condM_splitDN ?_ ?_ | refine condM_splitD ?_ ?_ | refine condM_splitN ?_ ?_ | refine condM_split ?_ ?_ | refine condM_any ?_ ?_ | intro _) | (simp [*]))
theorem clock_none (m : Grid) (p : Plan) (s : Int) : ∀ k, clockK m p ⟨s, 0⟩ k = clockK m p noDelay k
  | 0 => rfl
  | k + 1 => by
    show mxI (clockK m p ⟨s, 0⟩ k + _ + (if (k : Int) = s then (0 : Int) else 0)) _ = mxI (clockK m p noDelay k + _ + (if (k : Int) = (0 : Int) then (0 : Int) else 0)) _
    rw [clock_none m p s k, ite_self, ite_self]
theorem times_none (m : Grid) (p : Plan) (s : Int) : timesS m p ⟨s, 0⟩ = timesS m p noDelay := by
  have : ∀ k, timesK m p ⟨s, 0⟩ k = timesK m p noDelay k := by
    intro k
    induction k with
    | zero => rfl
    | succ k ih => simp only [timesK, ih, clock_none]
  exact this _
theorem keepsD_zero (m : Grid) (p : Plan) (s : Int) : keepsD m p s 0 = keepsS m p := by unfold keepsD keepsS; rw [times_none]
/-- the greatest delay, or the error -/
def greatE (m : Grid) (p : Plan) (s : Int) : Int := firstS [errUnless (winB s 0 ((p.stops.length : Int) - 1)) 6, errUnless (keepsS m p) 24]
def greatS (m : Grid) (p : Plan) (s : Int) : Int × Int := if greatE m p s = 0 then ((gdN m p s : Int), 0) else (0, greatE m p s)
theorem probe_c (m : Grid) (p : Plan) (ok : TourOk m p) (s : Int) (j : Nat) (hj : j < 20000) : RealCall Tryd.prog 48 [.int .i64 j, .ip (cMap m) 0, .ip (cPlan p) 0, .ip [.int .i64 s] 0] (.bool (!keepsD m p s ((j : Int) + 1))) true := by
  have c1 := drive_c m p ok.go ⟨s, (j : Int) + 1⟩ ⟨by show (0 : Int) ≤ (j : Int) + 1; omega, by show (j : Int) + 1 ≤ 30000; omega⟩
  have c2 := keeps_c m p ok (timesS m p ⟨s, (j : Int) + 1⟩) (seatsS p) (timesS_len _ _ _) (seatsS_len _) (ok.go.times ⟨by show (0 : Int) ≤ (j : Int) + 1; omega, by show (j : Int) + 1 ≤ 30000; omega⟩)
  have e : (!(brokenS m p (timesS m p ⟨s, (j : Int) + 1⟩) (seatsS p)).2) = keepsD m p s ((j : Int) + 1) := rfl
  rw [e] at c2
  unfold aTour at c1
  generalize cTour m p (timesS m p ⟨s, (j : Int) + 1⟩) (seatsS p) = T at *
  generalize keepsD m p s ((j : Int) + 1) = b at *
  clear ok e
  dsimp only at c1
  unfold aMap aPlan cMap cPlan at *
  refine realcall_intro Tryd.func48 (by kernel_rfl) rfl (Nat.le_of_ble_eq_true (by kernel_rfl)) ?_
  simp only [Tryd.results48, Tryd.ntmps48]
  repeat' (first | (with_reducible first | refine awp_seq ?_ | refine awp_blockS ?_ | refine awp_blockC ?_ | refine awp_blockR ?_ | refine awp_skip ?_ | refine awp_ret ?_ | refine awp_exit ?_ | refine awp_region ?_ | refine awp_condM ?_ | refine And.intro ?_ ?_ | apply gQ_merge | apply gE_merge | exact EqV_w | exact EqE_w | exact EqV_ptr | exact EqE_ptr | exact EqV_msl | exact EqE_msl | exact EqV_agg | exact EqE_agg | exact EqV_fn | exact EqE_fn | exact EqV_gd | exact EqE_gd | refine gM_splitN ?_ ?_ | refine gM_split ?_ ?_ |  refine condM_splitDN ?_ ?_ | refine condM_splitD ?_ ?_ | refine condM_splitN ?_ ?_ | refine condM_split ?_ ?_ | refine condM_any ?_ ?_ | refine cw (c1) ?_ | refine cw (c2) ?_ | intro _) | (simp [*]) | (refine cw_eq (c1) ?_ ?_; (· (simp [*]; done))) | (refine cw_eq (c2) ?_ ?_; (· (simp [*]; done))))
  all_goals exact inI64 (by omega) (by omega)
theorem great1_c (m : Grid) (p : Plan) (pok : PlanOk m p) (ok : TourOk m p) (s : Int) : RealCall Tryd.prog 44 [aTour m p noDelay, .ip [.int .i64 s] 0, .ip (cMap m) 0, .ip (cPlan p) 0] (pairI (greatS m p s)) true := by
  have c0 := stopErr_c m p (timesS m p noDelay) (seatsS p) ok.go.sl s
  have c1 := keeps_c m p ok (timesS m p noDelay) (seatsS p) (timesS_len _ _ _) (seatsS_len _) (ok.go.times noDelay_bd)
  have e : (!(brokenS m p (timesS m p noDelay) (seatsS p)).2) = keepsS m p := rfl
  rw [e] at c1
  have c2 := first2_c (errUnless (winB s 0 ((p.stops.length : Int) - 1)) 6) (errUnless (keepsS m p) 24)
  have hE : firstS [errUnless (winB s 0 ((p.stops.length : Int) - 1)) 6, errUnless (keepsS m p) 24] = greatE m p s := rfl
  rw [hE] at c2
  unfold greatS
  by_cases h : greatE m p s = 0
  · rw [if_pos h]
    have h0 : keepsS m p = true := (errU_zero (by decide)).1 (firstS_zero h (errUnless (keepsS m p) 24) (by simp))
    have h1 : keepsD m p s 0 = true := by rw [keepsD_zero]; exact h0
    have c3 := search_c (gdN m p s) (gdN_le m p s) 48 [.ip (cMap m) 0, .ip (cPlan p) 0, .ip [.int .i64 s] 0] (fun j hj => by
      have := probe_c m p ok s j hj
      have e2 : (!keepsD m p s ((j : Int) + 1)) = decide (gdN m p s ≤ j) := by
        by_cases hle : gdN m p s ≤ j
        · rw [decide_eq_true hle]
          have := gdN_over pok h1 (j := j + 1) (by omega) (by omega)
          rw [show ((j + 1 : Nat) : Int) = (j : Int) + 1 by omega] at this
          rw [this]; rfl
        · rw [decide_eq_false hle]
          have := gdN_keeps h1 (j := j + 1) (by omega)
          rw [show ((j + 1 : Nat) : Int) = (j : Int) + 1 by omega] at this
          rw [this]; rfl
      rw [e2] at this
      exact this)
    rw [h] at c2
    clear hE e h h0 h1
    generalize gdN m p s = R at *
    generalize keepsS m p = b at *
    unfold aTour pairI
    generalize cTour m p (timesS m p noDelay) (seatsS p) = T at *
    clear ok pok
    generalize cMap m = M at *
    generalize cPlan p = Q at *
    refine realcall_intro Tryd.func44 (by kernel_rfl) rfl (Nat.le_of_ble_eq_true (by kernel_rfl)) ?_
    simp only [Tryd.results44, Tryd.ntmps44]
    repeat' (first | (with_reducible first | refine awp_seq ?_ | refine awp_blockS ?_ | refine awp_blockC ?_ | refine awp_blockR ?_ | refine awp_skip ?_ | refine awp_ret ?_ | refine awp_exit ?_ | refine awp_region ?_ | refine awp_condM ?_ | refine And.intro ?_ ?_ | apply gQ_merge | apply gE_merge | exact EqV_w | exact EqE_w | exact EqV_ptr | exact EqE_ptr | exact EqV_msl | exact EqE_msl | exact EqV_agg | exact EqE_agg | exact EqV_fn | exact EqE_fn | exact EqV_gd | exact EqE_gd | refine gM_splitN ?_ ?_ | refine gM_split ?_ ?_ |  refine condM_splitDN ?_ ?_ | refine condM_splitD ?_ ?_ | refine condM_splitN ?_ ?_ | refine condM_split ?_ ?_ | refine condM_any ?_ ?_ | refine cw (c0) ?_ | refine cw (c1) ?_ | refine cw (c2) ?_ | refine cw (c3) ?_ | refine cw (unless_c _ _) ?_ | intro _) | (simp [*]) | (refine cw_eq (c0) ?_ ?_; (· (simp [*]; done))) | (refine cw_eq (c1) ?_ ?_; (· (simp [*]; done))) | (refine cw_eq (c2) ?_ ?_; (· (simp [*]; done))) | (refine cw_eq (c3) ?_ ?_; (· (simp [*]; done))) | (refine cw_eq (unless_c _ _) ?_ ?_; (· (simp [*]; done))))
  · rw [if_neg h]
    generalize greatE m p s = E at *
    generalize keepsS m p = b at *
    unfold aTour pairI
    generalize cTour m p (timesS m p noDelay) (seatsS p) = T at *
    clear ok pok
    refine realcall_intro Tryd.func44 (by kernel_rfl) rfl (Nat.le_of_ble_eq_true (by kernel_rfl)) ?_
    simp only [Tryd.results44, Tryd.ntmps44]
    repeat' (first | (with_reducible first | refine awp_seq ?_ | refine awp_blockS ?_ | refine awp_blockC ?_ | refine awp_blockR ?_ | refine awp_skip ?_ | refine awp_ret ?_ | refine awp_exit ?_ | refine awp_region ?_ | refine awp_condM ?_ | refine And.intro ?_ ?_ | apply gQ_merge | apply gE_merge | exact EqV_w | exact EqE_w | exact EqV_ptr | exact EqE_ptr | exact EqV_msl | exact EqE_msl | exact EqV_agg | exact EqE_agg | exact EqV_fn | exact EqE_fn | exact EqV_gd | exact EqE_gd | refine gM_splitN ?_ ?_ | refine gM_split ?_ ?_ |  refine condM_splitDN ?_ ?_ | refine condM_splitD ?_ ?_ | refine condM_splitN ?_ ?_ | refine condM_split ?_ ?_ | refine condM_any ?_ ?_ | refine cw (c0) ?_ | refine cw (c1) ?_ | refine cw (c2) ?_ | refine cw (unless_c _ _) ?_ | intro _) | (simp [*, h]) | (refine cw_eq (c0) ?_ ?_; (· (simp [*]; done))) | (refine cw_eq (c1) ?_ ?_; (· (simp [*]; done))) | (refine cw_eq (c2) ?_ ?_; (· (simp [*]; done))) | (refine cw_eq (unless_c _ _) ?_ ?_; (· (simp [*]; done))))
theorem great_ok (m : Grid) (hm : GridIn m) (p : Plan) (hp : PlanIn p) (h : (checkS m p).2 = 0) (s : Int) : RealCall Tryd.prog 19 [aMap m, aPlan p, .int .i64 s] (pairI (greatS m p s)) true := by
  have hf := great1_c m p (checkS_ok.1 h).2 ((checkS_ok.1 h).2.tour (checkS_ok.1 h).1 hp.stops) s
  unfold pairI at *
  have c1 := of74_ok m hm p hp h 44 [.ip [.int .i64 s] 0, .ip (cMap m) 0, .ip (cPlan p) 0] _ _ _ hf
  clear hf h
  generalize greatS m p s = X at *
  unfold aMap aPlan cMap cPlan at *
  refine realcall_intro Tryd.func19 (by kernel_rfl) rfl (Nat.le_of_ble_eq_true (by kernel_rfl)) ?_
  simp only [Tryd.results19, Tryd.ntmps19]
  repeat' (first | (with_reducible first | refine awp_seq ?_ | refine awp_blockS ?_ | refine awp_blockC ?_ | refine awp_blockR ?_ | refine awp_skip ?_ | refine awp_ret ?_ | refine awp_exit ?_ | refine awp_region ?_ | refine awp_condM ?_ | refine And.intro ?_ ?_ | apply gQ_merge | apply gE_merge | exact EqV_w | exact EqE_w | exact EqV_ptr | exact EqE_ptr | exact EqV_msl | exact EqE_msl | exact EqV_agg | exact EqE_agg | exact EqV_fn | exact EqE_fn | exact EqV_gd | exact EqE_gd | refine gM_splitN ?_ ?_ | refine gM_split ?_ ?_ |  refine condM_splitDN ?_ ?_ | refine condM_splitD ?_ ?_ | refine condM_splitN ?_ ?_ | refine condM_split ?_ ?_ | refine condM_any ?_ ?_ | refine cw (c1) ?_ | intro _) | (simp [*]) | (refine cw_eq (c1) ?_ ?_; (· (simp [*]; done))))
end Go.Proofs.YtiialcomflggcaaDoor

