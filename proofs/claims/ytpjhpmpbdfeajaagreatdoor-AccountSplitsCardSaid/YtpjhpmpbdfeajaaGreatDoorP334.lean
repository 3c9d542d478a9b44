/- Contracts of functions for this claim: lemmas alone. -/
import Derived.Test.YtpjhpmpbdfeajaaGreatDoorP330
import Derived.Test.YtpjhpmpbdfeajaaGreatDoorP29
set_option linter.unusedSimpArgs false
set_option linter.unusedVariables false
namespace Go.Proofs.YtpjhpmpbdfeajaaGreatDoor
open Go Go.Fi
set_option maxRecDepth 20000

theorem sgZ_of_neg {z : Int} (h : z < 0) : sgZ z = -1 := by unfold sgZ; split <;> (try split) <;> omega
theorem sgZ_of_pos {z : Int} (h : 0 < z) : sgZ z = 1 := by unfold sgZ; split <;> (try split) <;> omega
theorem digs_mul {x y : Int} (hx : -1000000000000000 ≤ x ∧ x ≤ 1000000000000000) (hy : -1000000000 ≤ y ∧ y ≤ 1000000000) : (digs (x * y).natAbs).length < 9000 := by
  have h1 : (x * y).natAbs = x.natAbs * y.natAbs := Int.natAbs_mul x y
  have h2 : x.natAbs * y.natAbs ≤ 1000000000000000 * 1000000000 := Nat.mul_le_mul (by omega) (by omega)
  have h3 : (digs (x * y).natAbs).length ≤ 3 := digs_len (by rw [h1]; exact Nat.lt_of_le_of_lt h2 (by decide))
  omega
theorem parts_read {a : Int} {l W : List Int} (ha : -1000000000000000 ≤ a ∧ a ≤ 1000000000000000) (kq : Keep (∀ k, k < l.length → -(sumI l) < nth W k * sumI l - a * nth l k ∧ nth W k * sumI l - a * nth l k < sumI l))
    (kb : Keep (∀ k, k < W.length → -1000000000000000 ≤ nth W k ∧ nth W k ≤ 1000000000000000)) (ks : Keep (∀ k, k < l.length → 0 ≤ nth l k ∧ nth l k ≤ 1000000)) (hW : W.length = l.length)
    (k2 : Keep (∀ k, k ≤ l.length → -(1000000 * (k : Int)) ≤ sumI (l.take k) ∧ sumI (l.take k) ≤ 1000000 * (k : Int))) (hl : l.length ≤ 14) (k : Nat) (hk : k < l.length) :
    (-1000000000000000 ≤ nth W k ∧ nth W k ≤ 1000000000000000) ∧ (0 ≤ nth l k ∧ nth l k ≤ 1000000) ∧ (-(sumI l) < nth W k * sumI l - a * nth l k ∧ nth W k * sumI l - a * nth l k < sumI l) ∧
      (-14000000 ≤ sumI l ∧ sumI l ≤ 14000000) ∧ (digs (nth W k * sumI l).natAbs).length < 9000 ∧ (digs (a * nth l k).natAbs).length < 9000 := by
  have b1 := kb k (by omega)
  have b2 := ks k hk
  have b3 := k2 l.length (Nat.le_refl _)
  rw [List.take_length] at b3
  exact ⟨b1, b2, kq k hk, ⟨by omega, by omega⟩, digs_mul b1 ⟨by omega, by omega⟩, digs_mul ha ⟨by omega, by omega⟩⟩

/-! ### AccountSplits -/
set_option maxHeartbeats 8000000 in
theorem accountSplits_c (a : Int) (l : List Int) : RealCall Tryz.prog 3 [.int .i64 a, .sl l.length (ints l)] (.bool true) true := by
  have c0 := awake_c
  by_cases h14 : 14 < l.length
  · have hI : (14 : Int) < (l.length : Int) := by omega
    refine realcall_intro Tryz.func3 (by kernel_rfl) rfl (Nat.le_of_ble_eq_true (by kernel_rfl)) ?_
    simp only [Tryz.results3, Tryz.ntmps3]
    repeat' (first | (with_reducible first | refine awp_seq ?_ | refine awp_blockS ?_ | refine awp_blockC ?_ | refine awp_blockR ?_ | refine awp_skip ?_ | refine awp_ret ?_ | refine awp_exit ?_ | refine awp_region ?_ | refine awp_regionS (id := 15) [0, 1, 2, 3, 4, 5, 6, 7, 8, 9, 10, 11, 12, 13] [] [[], [], [], [], [], [], [], [], [], [], [], [], [], []] [] mixed (by decide +kernel) ?_ | refine awp_regionD (id := 19) 18 mixed (by decide +kernel) ?_ | refine awp_regionD (id := 20) 13 mixed (by decide +kernel) ?_ | refine awp_condM ?_ | refine And.intro ?_ ?_ | apply gQ_merge | apply gE_merge | exact EqV_w | exact EqE_w | exact EqV_ptr | exact EqE_ptr | exact EqV_msl | exact EqE_msl | exact EqV_agg | exact EqE_agg | exact EqV_fn | exact EqE_fn | exact EqV_gd | exact EqE_gd | refine gM_splitN ?_ ?_ | refine gM_split ?_ ?_ |  refine condM_splitDN ?_ ?_ | refine condM_splitD ?_ ?_ | refine condM_splitN ?_ ?_ | refine condM_split ?_ ?_ | refine condM_any ?_ ?_ | refine cw (c0) ?_ | intro _) | (simp [*, hI]) | (refine cw_eq (c0) ?_ ?_; (· (simp [*]; done))))
  · have hI : ¬ (14 : Int) < (l.length : Int) := by omega
    have c1 := copyInts_c l (by omega)
    have c2 := splitF_c a l (by omega)
    have c3 := rSplit_c a l (by omega)
    by_cases h : splitE a l = 0
    · rw [if_pos h] at c2 c3
      obtain ⟨q1, q2⟩ := parts_law h
      have hb := parts_bd h
      obtain ⟨⟨ha0, ha1⟩, h2, h3, h4⟩ := split_facts h
      have hs := (share_facts h4).1
      have hW := partsA_len a l
      rw [h] at c2 c3
      clear h h4
      have c4 := ints_eq (partsA a l) (by omega)
      generalize partsA a l = W at *
      have k1 := keep (sumI_bd 1000000000000000 W hb)
      have k2 := keep (sumI_bd 1000000 l (fun k hk => by have := hs k hk; omega))
      have kq := keep q2
      have kb := keep hb
      have ks := keep hs
      clear q2 hb hs
      have hw := keep (parts_read ⟨ha0, ha1⟩ kq kb ks hW k2 (by omega))
      clear kq kb ks
      refine realcall_intro Tryz.func3 (by kernel_rfl) rfl (Nat.le_of_ble_eq_true (by kernel_rfl)) ?_
      simp only [Tryz.results3, Tryz.ntmps3]
      repeat' (first | (with_reducible first | refine awp_seq ?_ | refine awp_blockS ?_ | refine awp_blockC ?_ | refine awp_blockR ?_ | refine awp_skip ?_ | refine awp_ret ?_ | refine awp_exit ?_ | refine awp_region ?_ | refine awp_regionS (id := 15) [0, 1, 2, 3, 4, 5, 6, 7, 8, 9, 10, 11, 12, 13] [] [[], [], [], [], [], [], [], [], [], [], [], [], [], []] [] mixed (by decide +kernel) ?_ | refine awp_regionD (id := 19) 18 mixed (by decide +kernel) ?_ | refine awp_regionD (id := 20) 13 mixed (by decide +kernel) ?_ | refine awp_condM ?_ | refine And.intro ?_ ?_ | apply gQ_merge | apply gE_merge | exact EqV_w | exact EqE_w | exact EqV_ptr | exact EqE_ptr | exact EqV_msl | exact EqE_msl | exact EqV_agg | exact EqE_agg | exact EqV_fn | exact EqE_fn | exact EqV_gd | exact EqE_gd | refine gM_splitN ?_ ?_ | refine gM_split ?_ ?_ |  refine condM_splitDN ?_ ?_ | refine condM_splitD ?_ ?_ | refine condM_splitN ?_ ?_ | refine condM_split ?_ ?_ | refine condM_any ?_ ?_ | refine cw (c0) ?_ | refine cw (c1) ?_ | refine cw (c2) ?_ | refine cw (c3) ?_ | refine cw (c4) ?_ | intro _) | (simp [*, hI]) | (refine cw_eq (c0) ?_ ?_; (· (simp [*]; done))) | (refine cw_eq (c1) ?_ ?_; (· (simp [*]; done))) | (refine cw_eq (c2) ?_ ?_; (· (simp [*]; done))) | (refine cw_eq (c3) ?_ ?_; (· (simp [*]; done))) | (refine cw_eq (c4) ?_ ?_; (· (simp [*]; done))))
      clear c0 c1 c2 c3 c4
      refine awp_for3 (fun (k : Nat) => k ≤ l.length) [0, 1, 7] (fun (k : Nat) => [(11, .w false false (.int .i64 k)), (9, .w false false (.int .i64 (sumI (W.take k)))), (10, .w false false (.int .i64 (sumI (l.take k))))]) [] (fun (k : Nat) => []) (fun (k : Nat) => l.length - k) (fun (_u : Unit) => True) [0, 1, 7] (fun (_u : Unit) => [(9, .w false false (.int .i64 a)), (10, .w false false (.int .i64 (sumI l)))]) [] (fun (_u : Unit) => []) (0) (Nat.zero_le _) (by simp) (by simp) (fun k hk => ?_) (fun _u hf => ?_)
      · by_cases hlt : k < l.length
        · have e1 := keep (sumI_succ W k (by omega))
          have e2 := keep (sumI_succ l k hlt)
          have b1 := k1 k (by omega)
          have b2 := k2 k (by omega)
          have b3 := k1 (k + 1) (by omega)
          have b4 := k2 (k + 1) (by omega)
          rw [sumI_succ W k (by omega)] at b3
          rw [sumI_succ l k hlt] at b4
          have hltW : k < W.length := by omega
          repeat' (first | (with_reducible first | refine awp_seq ?_ | refine awp_blockS ?_ | refine awp_blockC ?_ | refine awp_blockR ?_ | refine awp_skip ?_ | refine awp_ret ?_ | refine awp_exit ?_ | refine awp_region ?_ | refine awp_regionS (id := 15) [0, 1, 2, 3, 4, 5, 6, 7, 8, 9, 10, 11, 12, 13] [] [[], [], [], [], [], [], [], [], [], [], [], [], [], []] [] mixed (by decide +kernel) ?_ | refine awp_regionD (id := 19) 18 mixed (by decide +kernel) ?_ | refine awp_regionD (id := 20) 13 mixed (by decide +kernel) ?_ | refine awp_condM ?_ | refine And.intro ?_ ?_ | apply gQ_merge | apply gE_merge | exact EqV_w | exact EqE_w | exact EqV_ptr | exact EqE_ptr | exact EqV_msl | exact EqE_msl | exact EqV_agg | exact EqE_agg | exact EqV_fn | exact EqE_fn | exact EqV_gd | exact EqE_gd | refine gM_splitN ?_ ?_ | refine gM_split ?_ ?_ |  refine condM_splitDN ?_ ?_ | refine condM_splitD ?_ ?_ | refine condM_splitN ?_ ?_ | refine condM_split ?_ ?_ | refine condM_any ?_ ?_ | intro _) | (simp [*, hlt, hltW]))
          all_goals try first | exact inI64 (by omega) (by omega) | omega
          all_goals (refine loopK_normal _ _ _ _ _ (k + 1) _ ?_ (by first | omega | (dsimp only; omega) | (simp; omega)) ?_; (· omega); (refine le_of ?_ ?_ <;> first | trivial | (simp [*, (show sumI (W.take (k + 1)) = _ from e1), (show sumI (l.take (k + 1)) = _ from e2)]; done)))
        · have hke : k = l.length := by omega
          have e1 : W.take l.length = W := List.take_of_length_le (by omega)
          have e2 : l.take l.length = l := List.take_length
          have e3 := keep q1
          repeat' (first | (with_reducible first | refine awp_seq ?_ | refine awp_blockS ?_ | refine awp_blockC ?_ | refine awp_blockR ?_ | refine awp_skip ?_ | refine awp_ret ?_ | refine awp_exit ?_ | refine awp_region ?_ | refine awp_regionS (id := 15) [0, 1, 2, 3, 4, 5, 6, 7, 8, 9, 10, 11, 12, 13] [] [[], [], [], [], [], [], [], [], [], [], [], [], [], []] [] mixed (by decide +kernel) ?_ | refine awp_regionD (id := 19) 18 mixed (by decide +kernel) ?_ | refine awp_regionD (id := 20) 13 mixed (by decide +kernel) ?_ | refine awp_condM ?_ | refine And.intro ?_ ?_ | apply gQ_merge | apply gE_merge | exact EqV_w | exact EqE_w | exact EqV_ptr | exact EqE_ptr | exact EqV_msl | exact EqE_msl | exact EqV_agg | exact EqE_agg | exact EqV_fn | exact EqE_fn | exact EqV_gd | exact EqE_gd | refine gM_splitN ?_ ?_ | refine gM_split ?_ ?_ |  refine condM_splitDN ?_ ?_ | refine condM_splitD ?_ ?_ | refine condM_splitN ?_ ?_ | refine condM_split ?_ ?_ | refine condM_any ?_ ?_ | intro _) | (simp [*, hke]))
          all_goals (refine finW_intro () ?_ ?_; (· trivial); (refine le_of ?_ ?_ <;> first | trivial | (simp [*, e1, e2, (show sumI W = a from e3)]; done)))
      repeat' (first | (with_reducible first | refine awp_seq ?_ | refine awp_blockS ?_ | refine awp_blockC ?_ | refine awp_blockR ?_ | refine awp_skip ?_ | refine awp_ret ?_ | refine awp_exit ?_ | refine awp_region ?_ | refine awp_regionS (id := 15) [0, 1, 2, 3, 4, 5, 6, 7, 8, 9, 10, 11, 12, 13] [] [[], [], [], [], [], [], [], [], [], [], [], [], [], []] [] mixed (by decide +kernel) ?_ | refine awp_regionD (id := 19) 18 mixed (by decide +kernel) ?_ | refine awp_regionD (id := 20) 13 mixed (by decide +kernel) ?_ | refine awp_condM ?_ | refine And.intro ?_ ?_ | apply gQ_merge | apply gE_merge | exact EqV_w | exact EqE_w | exact EqV_ptr | exact EqE_ptr | exact EqV_msl | exact EqE_msl | exact EqV_agg | exact EqE_agg | exact EqV_fn | exact EqE_fn | exact EqV_gd | exact EqE_gd | refine gM_splitN ?_ ?_ | refine gM_split ?_ ?_ |  refine condM_splitDN ?_ ?_ | refine condM_splitD ?_ ?_ | refine condM_splitN ?_ ?_ | refine condM_split ?_ ?_ | refine condM_any ?_ ?_ | intro _) | (simp [*]))
      refine awp_for3 (fun (k : Nat) => k ≤ l.length) [0, 1, 7, 9, 10] (fun (k : Nat) => [(12, .w false false (.int .i64 k))]) [] (fun (k : Nat) => []) (fun (k : Nat) => l.length - k) (fun (_u : Unit) => True) [0, 9] (fun (_u : Unit) => []) [] (fun (_u : Unit) => []) (0) (Nat.zero_le _) (by simp) (by simp) (fun k hk => ?_) (fun _u hf => ?_)
      · by_cases hlt : k < l.length
        · obtain ⟨x1, x2, x3, x4, x5, x6⟩ := hw k hlt
          have hltW : k < W.length := by omega
          have d1 := wideInt_c (nth W k) (by omega) (by omega)
          have d2 := wideInt_c (sumI l) (by omega) (by omega)
          have d3 := wideInt_c a (by omega) (by omega)
          have d4 := wideInt_c (nth l k) (by omega) (by omega)
          have d5 := wideInt_c (-(sumI l)) (by omega) (by omega)
          have d6 := wideMul_c (nth W k) (sumI l) (by have := digs_short (n := (nth W k).natAbs) (by omega); omega) (by have := digs_short (n := (sumI l).natAbs) (by omega); omega)
          have d7 := wideMul_c a (nth l k) (by have := digs_short (n := a.natAbs) (by omega); omega) (by have := digs_short (n := (nth l k).natAbs) (by omega); omega)
          have d8 := wideSub_c (nth W k * sumI l) (a * nth l k) x5 x6
          have s1 := sgZ_of_neg (show nth W k * sumI l - a * nth l k - sumI l < 0 by omega)
          have s2 := sgZ_of_pos (show 0 < nth W k * sumI l - a * nth l k - -(sumI l) by omega)
          have d9 := wideCmp_c (nth W k * sumI l - a * nth l k) (sumI l) (by have := digs_short (n := (nth W k * sumI l - a * nth l k).natAbs) (by omega); omega) (by have := digs_short (n := (sumI l).natAbs) (by omega); omega)
          have d10 := wideCmp_c (nth W k * sumI l - a * nth l k) (-(sumI l)) (by have := digs_short (n := (nth W k * sumI l - a * nth l k).natAbs) (by omega); omega) (by have := digs_short (n := (-(sumI l)).natAbs) (by omega); omega)
          rw [s1] at d9
          rw [s2] at d10
          clear s1 s2 x5 x6 hw
          have hneg : Keep (-9223372036854775808 ≤ -(sumI l) ∧ -(sumI l) ≤ 9223372036854775807) := ⟨by omega, by omega⟩
          generalize nth W k * sumI l - a * nth l k = D at *
          generalize nth W k * sumI l = X at *
          generalize a * nth l k = Y at *
          unfold wideP at *
          repeat' (first | (with_reducible first | refine awp_seq ?_ | refine awp_blockS ?_ | refine awp_blockC ?_ | refine awp_blockR ?_ | refine awp_skip ?_ | refine awp_ret ?_ | refine awp_exit ?_ | refine awp_region ?_ | refine awp_regionS (id := 15) [0, 1, 2, 3, 4, 5, 6, 7, 8, 9, 10, 11, 12, 13] [] [[], [], [], [], [], [], [], [], [], [], [], [], [], []] [] mixed (by decide +kernel) ?_ | refine awp_regionD (id := 19) 18 mixed (by decide +kernel) ?_ | refine awp_regionD (id := 20) 13 mixed (by decide +kernel) ?_ | refine awp_condM ?_ | refine And.intro ?_ ?_ | apply gQ_merge | apply gE_merge | exact EqV_w | exact EqE_w | exact EqV_ptr | exact EqE_ptr | exact EqV_msl | exact EqE_msl | exact EqV_agg | exact EqE_agg | exact EqV_fn | exact EqE_fn | exact EqV_gd | exact EqE_gd | refine gM_splitN ?_ ?_ | refine gM_split ?_ ?_ |  refine condM_splitDN ?_ ?_ | refine condM_splitD ?_ ?_ | refine condM_splitN ?_ ?_ | refine condM_split ?_ ?_ | refine condM_any ?_ ?_ | refine cw (d1) ?_ | refine cw (d2) ?_ | refine cw (d3) ?_ | refine cw (d4) ?_ | refine cw (d5) ?_ | refine cw (d6) ?_ | refine cw (d7) ?_ | refine cw (d8) ?_ | refine cw (d9) ?_ | refine cw (d10) ?_ | intro _) | (simp [*, hlt, hltW]) | (refine cw_eq (d1) ?_ ?_; (· (simp [*]; done))) | (refine cw_eq (d2) ?_ ?_; (· (simp [*]; done))) | (refine cw_eq (d3) ?_ ?_; (· (simp [*]; done))) | (refine cw_eq (d4) ?_ ?_; (· (simp [*]; done))) | (refine cw_eq (d5) ?_ ?_; (· (simp [*]; done))) | (refine cw_eq (d6) ?_ ?_; (· (simp [*]; done))) | (refine cw_eq (d7) ?_ ?_; (· (simp [*]; done))) | (refine cw_eq (d8) ?_ ?_; (· (simp [*]; done))) | (refine cw_eq (d9) ?_ ?_; (· (simp [*]; done))) | (refine cw_eq (d10) ?_ ?_; (· (simp [*]; done))))
          all_goals try first | exact inI64 (by omega) (by omega) | omega
          all_goals (refine loopK_normal _ _ _ _ _ (k + 1) _ ?_ (by first | omega | (dsimp only; omega) | (simp; omega)) ?_; (· omega); (refine le_of ?_ ?_ <;> first | trivial | (simp [*]; done)))
        · have hke : k = l.length := by omega
          repeat' (first | (with_reducible first | refine awp_seq ?_ | refine awp_blockS ?_ | refine awp_blockC ?_ | refine awp_blockR ?_ | refine awp_skip ?_ | refine awp_ret ?_ | refine awp_exit ?_ | refine awp_region ?_ | refine awp_regionS (id := 15) [0, 1, 2, 3, 4, 5, 6, 7, 8, 9, 10, 11, 12, 13] [] [[], [], [], [], [], [], [], [], [], [], [], [], [], []] [] mixed (by decide +kernel) ?_ | refine awp_regionD (id := 19) 18 mixed (by decide +kernel) ?_ | refine awp_regionD (id := 20) 13 mixed (by decide +kernel) ?_ | refine awp_condM ?_ | refine And.intro ?_ ?_ | apply gQ_merge | apply gE_merge | exact EqV_w | exact EqE_w | exact EqV_ptr | exact EqE_ptr | exact EqV_msl | exact EqE_msl | exact EqV_agg | exact EqE_agg | exact EqV_fn | exact EqE_fn | exact EqV_gd | exact EqE_gd | refine gM_splitN ?_ ?_ | refine gM_split ?_ ?_ |  refine condM_splitDN ?_ ?_ | refine condM_splitD ?_ ?_ | refine condM_splitN ?_ ?_ | refine condM_split ?_ ?_ | refine condM_any ?_ ?_ | intro _) | (simp [*, hke]))
          all_goals (refine finW_intro () ?_ ?_; (· trivial); (refine le_of ?_ ?_ <;> first | trivial | (simp [*]; done)))
      repeat' (first | (with_reducible first | refine awp_seq ?_ | refine awp_blockS ?_ | refine awp_blockC ?_ | refine awp_blockR ?_ | refine awp_skip ?_ | refine awp_ret ?_ | refine awp_exit ?_ | refine awp_region ?_ | refine awp_regionS (id := 15) [0, 1, 2, 3, 4, 5, 6, 7, 8, 9, 10, 11, 12, 13] [] [[], [], [], [], [], [], [], [], [], [], [], [], [], []] [] mixed (by decide +kernel) ?_ | refine awp_regionD (id := 19) 18 mixed (by decide +kernel) ?_ | refine awp_regionD (id := 20) 13 mixed (by decide +kernel) ?_ | refine awp_condM ?_ | refine And.intro ?_ ?_ | apply gQ_merge | apply gE_merge | exact EqV_w | exact EqE_w | exact EqV_ptr | exact EqE_ptr | exact EqV_msl | exact EqE_msl | exact EqV_agg | exact EqE_agg | exact EqV_fn | exact EqE_fn | exact EqV_gd | exact EqE_gd | refine gM_splitN ?_ ?_ | refine gM_split ?_ ?_ |  refine condM_splitDN ?_ ?_ | refine condM_splitD ?_ ?_ | refine condM_splitN ?_ ?_ | refine condM_split ?_ ?_ | refine condM_any ?_ ?_ | intro _) | (simp [*]))
    · rw [if_neg h] at c2 c3
      have c4 := ints_eq [] (by decide)
      generalize splitE a l = E at *
      refine realcall_intro Tryz.func3 (by kernel_rfl) rfl (Nat.le_of_ble_eq_true (by kernel_rfl)) ?_
      simp only [Tryz.results3, Tryz.ntmps3]
      repeat' (first | (with_reducible first | refine awp_seq ?_ | refine awp_blockS ?_ | refine awp_blockC ?_ | refine awp_blockR ?_ | refine awp_skip ?_ | refine awp_ret ?_ | refine awp_exit ?_ | refine awp_region ?_ | refine awp_regionS (id := 15) [0, 1, 2, 3, 4, 5, 6, 7, 8, 9, 10, 11, 12, 13] [] [[], [], [], [], [], [], [], [], [], [], [], [], [], []] [] mixed (by decide +kernel) ?_ | refine awp_regionD (id := 19) 18 mixed (by decide +kernel) ?_ | refine awp_regionD (id := 20) 13 mixed (by decide +kernel) ?_ | refine awp_condM ?_ | refine And.intro ?_ ?_ | apply gQ_merge | apply gE_merge | exact EqV_w | exact EqE_w | exact EqV_ptr | exact EqE_ptr | exact EqV_msl | exact EqE_msl | exact EqV_agg | exact EqE_agg | exact EqV_fn | exact EqE_fn | exact EqV_gd | exact EqE_gd | refine gM_splitN ?_ ?_ | refine gM_split ?_ ?_ |  refine condM_splitDN ?_ ?_ | refine condM_splitD ?_ ?_ | refine condM_splitN ?_ ?_ | refine condM_split ?_ ?_ | refine condM_any ?_ ?_ | refine cw (c0) ?_ | refine cw (c1) ?_ | refine cw (c2) ?_ | refine cw (c3) ?_ | refine cw (c4) ?_ | intro _) | (simp [*, hI, h]) | (refine cw_eq (c0) ?_ ?_; (· (simp [*]; done))) | (refine cw_eq (c1) ?_ ?_; (· (simp [*]; done))) | (refine cw_eq (c2) ?_ ?_; (· (simp [*]; done))) | (refine cw_eq (c3) ?_ ?_; (· (simp [*]; done))) | (refine cw_eq (c4) ?_ ?_; (· (simp [*]; done))))
end Go.Proofs.YtpjhpmpbdfeajaaGreatDoor

