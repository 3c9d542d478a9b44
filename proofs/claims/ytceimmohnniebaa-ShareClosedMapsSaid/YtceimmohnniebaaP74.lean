/- Contracts of functions for this claim: lemmas alone. -/
import Derived.Test.YtceimmohnniebaaP71
set_option linter.unusedSimpArgs false
set_option linter.unusedVariables false
namespace Go.Proofs.Ytceimmohnniebaa
open Go Go.Fi
set_option maxRecDepth 20000

set_option maxHeartbeats 16000000 in
theorem shareClosedMaps_c (m : Grid) : RealCall Try.prog 13 [aMap m] (.bool true) true := by
  have c0 := awake_c
  have c1 := few_c m
  cases hf : fewB m with
  | false =>
    rw [hf] at c1
    unfold aMap at *
    refine realcall_intro Try.func13 (by kernel_rfl) rfl (Nat.le_of_ble_eq_true (by kernel_rfl)) ?_
    simp only [Try.results13, Try.ntmps13]
    repeat' (first | (with_reducible first | refine awp_seq ?_ | refine awp_blockS ?_ | refine awp_blockC ?_ | refine awp_blockR ?_ | refine awp_skip ?_ | refine awp_ret ?_ | refine awp_exit ?_ | refine awp_region ?_ | refine awp_regionD (id := 16) 17 mixed (by decide +kernel) ?_ | refine awp_condM ?_ | refine And.intro ?_ ?_ | apply gQ_merge | apply gE_merge | exact EqV_w | exact EqE_w | exact EqV_ptr | exact EqE_ptr | exact EqV_msl | exact EqE_msl | exact EqV_agg | exact EqE_agg | exact EqV_fn | exact EqE_fn | exact EqV_gd | exact EqE_gd | refine gM_splitN ?_ ?_ | refine gM_split ?_ ?_ |  refine condM_splitDN ?_ ?_ | refine condM_splitD ?_ ?_ | refine condM_splitN ?_ ?_ | refine condM_split ?_ ?_ | refine condM_any ?_ ?_ | refine cw (c0) ?_ | refine cw (c1) ?_ | intro _) | (simp [*]) | (refine cw_eq (c0) ?_ ?_; (· (simp [*]; done))) | (refine cw_eq (c1) ?_ ?_; (· (simp [*]; done))))
  | true =>
    rw [hf] at c1
    have hm := few_in hf
    have c2 := copyMap_c m hm
    have c3 := rMapErr_c m hm
    by_cases h : (mapS m).2.2 = 0
    · have ok := mapS_ok.1 h
      have hl1 := ok.l1
      have hsq := closed_sq ok.sq_
      have htri := closed_tri ok.sq_
      have ok2 := hsq.ok ok.l0 ok.l1
      have hm2 : GridIn (closedS m) := ⟨by rw [hsq.len]; omega, fun k hk => by rw [hsq.row k (by rw [hsq.len] at hk; exact hk)]; omega⟩
      have c4 := closed_c m ok
      have c5 := rMapErr_c (closedS m) hm2
      have c6 := copyMap_c (closedS m) hm2
      have c7 := firstShort_c (closedS m) ok2
      have c8 := closed_c (closedS m) ok2
      have c9 := lists_c (closedS m) (closedS m) (by rw [hsq.len]; omega) (fun k hk => by
        rw [hsq.len] at hk
        rw [hsq.row k hk]; omega)
      rw [decide_eq_true rfl] at c9
      rw [mapS_ok.2 ok2] at c5
      rw [closed_same hsq htri] at c8
      rw [shortS_none hsq htri] at c7
      have hle := keep (fun a b (ha : a < m.length) (hb : b < m.length) => closed_le ok.sq_ ha hb)
      have hcl := hsq.len
      have hrow := fun a (ha : a < m.length) => hsq.row a ha
      have hmrow := fun a (ha : a < m.length) => ok.sq a ha
      have krow := keep hrow
      have kmrow := keep hmrow
      rw [h] at c3
      clear hm hf h ok hsq htri ok2 hm2 hrow hmrow
      unfold shP aMap at *
      rw [hcl] at c5 c6 c7 c8 c9
      generalize closedS m = C at *
      refine realcall_intro Try.func13 (by kernel_rfl) rfl (Nat.le_of_ble_eq_true (by kernel_rfl)) ?_
      simp only [Try.results13, Try.ntmps13]
      repeat' (first | (with_reducible first | refine awp_seq ?_ | refine awp_blockS ?_ | refine awp_blockC ?_ | refine awp_blockR ?_ | refine awp_skip ?_ | refine awp_ret ?_ | refine awp_exit ?_ | refine awp_region ?_ | refine awp_regionD (id := 16) 17 mixed (by decide +kernel) ?_ | refine awp_condM ?_ | refine And.intro ?_ ?_ | apply gQ_merge | apply gE_merge | exact EqV_w | exact EqE_w | exact EqV_ptr | exact EqE_ptr | exact EqV_msl | exact EqE_msl | exact EqV_agg | exact EqE_agg | exact EqV_fn | exact EqE_fn | exact EqV_gd | exact EqE_gd | refine gM_splitN ?_ ?_ | refine gM_split ?_ ?_ |  refine condM_splitDN ?_ ?_ | refine condM_splitD ?_ ?_ | refine condM_splitN ?_ ?_ | refine condM_split ?_ ?_ | refine condM_any ?_ ?_ | refine cw (c0) ?_ | refine cw (c1) ?_ | refine cw (c2) ?_ | refine cw (c3) ?_ | refine cw (c4) ?_ | refine cw (c5) ?_ | refine cw (c6) ?_ | refine cw (c7) ?_ | refine cw (c8) ?_ | refine cw (c9) ?_ | intro _) | (simp [*, hcl]) | (refine cw_eq (c0) ?_ ?_; (· (simp [*]; done))) | (refine cw_eq (c1) ?_ ?_; (· (simp [*]; done))) | (refine cw_eq (c2) ?_ ?_; (· (simp [*]; done))) | (refine cw_eq (c3) ?_ ?_; (· (simp [*]; done))) | (refine cw_eq (c4) ?_ ?_; (· (simp [*]; done))) | (refine cw_eq (c5) ?_ ?_; (· (simp [*]; done))) | (refine cw_eq (c6) ?_ ?_; (· (simp [*]; done))) | (refine cw_eq (c7) ?_ ?_; (· (simp [*]; done))) | (refine cw_eq (c8) ?_ ?_; (· (simp [*]; done))) | (refine cw_eq (c9) ?_ ?_; (· (simp [*]; done))))
      all_goals try first | exact inI64 (by omega) (by omega) | omega
      refine awp_for3 (fun (i : Nat) => i ≤ m.length) [1, 3, 6, 7, 8] (fun (i : Nat) => [(9, .w false false (.int .i64 i))]) [0, 1, 3] (fun (i : Nat) => []) (fun (i : Nat) => m.length - i) (fun (_u : Unit) => True) [3, 6, 7, 8] (fun (_u : Unit) => []) [0, 1, 3] (fun (_u : Unit) => []) (0) (Nat.zero_le _) (by simp) (by simp) (fun i hk => ?_) (fun _u hf => ?_)
      · by_cases hlt : i < m.length
        · have hlI : (i : Int) < (m.length : Int) := by omega
          repeat' (first | (with_reducible first | refine awp_seq ?_ | refine awp_blockS ?_ | refine awp_blockC ?_ | refine awp_blockR ?_ | refine awp_skip ?_ | refine awp_ret ?_ | refine awp_exit ?_ | refine awp_region ?_ | refine awp_regionD (id := 16) 17 mixed (by decide +kernel) ?_ | refine awp_condM ?_ | refine And.intro ?_ ?_ | apply gQ_merge | apply gE_merge | exact EqV_w | exact EqE_w | exact EqV_ptr | exact EqE_ptr | exact EqV_msl | exact EqE_msl | exact EqV_agg | exact EqE_agg | exact EqV_fn | exact EqE_fn | exact EqV_gd | exact EqE_gd | refine gM_splitN ?_ ?_ | refine gM_split ?_ ?_ |  refine condM_splitDN ?_ ?_ | refine condM_splitD ?_ ?_ | refine condM_splitN ?_ ?_ | refine condM_split ?_ ?_ | refine condM_any ?_ ?_ | intro _) | (simp [*, hlt, hlI]))
          refine awp_for3 (fun (j : Nat) => j ≤ m.length) [1, 3, 6, 7, 8, 9] (fun (j : Nat) => [(10, .w false false (.int .i64 j))]) [0, 1, 3] (fun (j : Nat) => []) (fun (j : Nat) => m.length - j) (fun (_u : Unit) => True) [1, 3, 6, 7, 8, 9] (fun (_u : Unit) => []) [0, 1, 3] (fun (_u : Unit) => []) (0) (Nat.zero_le _) (by simp) (by simp) (fun j hk => ?_) (fun _u hf => ?_)
          · by_cases hlt2 : j < m.length
            · have hlI2 : (j : Int) < (m.length : Int) := by omega
              have h1 : ¬ nth (nth m i) j < nth (nth C i) j := by have : nth (nth C i) j ≤ nth (nth m i) j := hle i j hlt hlt2; omega
              have l1 := krow i hlt
              have l2 := kmrow i hlt
              repeat' (first | (with_reducible first | refine awp_seq ?_ | refine awp_blockS ?_ | refine awp_blockC ?_ | refine awp_blockR ?_ | refine awp_skip ?_ | refine awp_ret ?_ | refine awp_exit ?_ | refine awp_region ?_ | refine awp_regionD (id := 16) 17 mixed (by decide +kernel) ?_ | refine awp_condM ?_ | refine And.intro ?_ ?_ | apply gQ_merge | apply gE_merge | exact EqV_w | exact EqE_w | exact EqV_ptr | exact EqE_ptr | exact EqV_msl | exact EqE_msl | exact EqV_agg | exact EqE_agg | exact EqV_fn | exact EqE_fn | exact EqV_gd | exact EqE_gd | refine gM_splitN ?_ ?_ | refine gM_split ?_ ?_ |  refine condM_splitDN ?_ ?_ | refine condM_splitD ?_ ?_ | refine condM_splitN ?_ ?_ | refine condM_split ?_ ?_ | refine condM_any ?_ ?_ | intro _) | (simp [*, hlt, hlI, hlt2, hlI2, h1, l1, l2, hcl]))
              all_goals try first | exact inI64 (by omega) (by omega) | omega
              all_goals (refine loopK_normal _ _ _ _ _ (j + 1) _ ?_ (by first | omega | (dsimp only; omega) | (simp; omega)) ?_; (· omega); (refine le_of ?_ ?_ <;> first | trivial | (simp [*]; done)))
            · have hke : j = m.length := by omega
              subst hke
              repeat' (first | (with_reducible first | refine awp_seq ?_ | refine awp_blockS ?_ | refine awp_blockC ?_ | refine awp_blockR ?_ | refine awp_skip ?_ | refine awp_ret ?_ | refine awp_exit ?_ | refine awp_region ?_ | refine awp_regionD (id := 16) 17 mixed (by decide +kernel) ?_ | refine awp_condM ?_ | refine And.intro ?_ ?_ | apply gQ_merge | apply gE_merge | exact EqV_w | exact EqE_w | exact EqV_ptr | exact EqE_ptr | exact EqV_msl | exact EqE_msl | exact EqV_agg | exact EqE_agg | exact EqV_fn | exact EqE_fn | exact EqV_gd | exact EqE_gd | refine gM_splitN ?_ ?_ | refine gM_split ?_ ?_ |  refine condM_splitDN ?_ ?_ | refine condM_splitD ?_ ?_ | refine condM_splitN ?_ ?_ | refine condM_split ?_ ?_ | refine condM_any ?_ ?_ | intro _) | (simp [*]))
              all_goals (refine finW_intro () ?_ ?_; (· trivial); (refine le_of ?_ ?_ <;> first | trivial | (simp [*]; done)))
          · repeat' (first | (with_reducible first | refine awp_seq ?_ | refine awp_blockS ?_ | refine awp_blockC ?_ | refine awp_blockR ?_ | refine awp_skip ?_ | refine awp_ret ?_ | refine awp_exit ?_ | refine awp_region ?_ | refine awp_regionD (id := 16) 17 mixed (by decide +kernel) ?_ | refine awp_condM ?_ | refine And.intro ?_ ?_ | apply gQ_merge | apply gE_merge | exact EqV_w | exact EqE_w | exact EqV_ptr | exact EqE_ptr | exact EqV_msl | exact EqE_msl | exact EqV_agg | exact EqE_agg | exact EqV_fn | exact EqE_fn | exact EqV_gd | exact EqE_gd | refine gM_splitN ?_ ?_ | refine gM_split ?_ ?_ |  refine condM_splitDN ?_ ?_ | refine condM_splitD ?_ ?_ | refine condM_splitN ?_ ?_ | refine condM_split ?_ ?_ | refine condM_any ?_ ?_ | intro _) | (simp [*]))
            all_goals try first | exact inI64 (by omega) (by omega) | omega
            all_goals (refine loopK_normal _ _ _ _ _ (i + 1) _ ?_ (by first | omega | (dsimp only; omega) | (simp; omega)) ?_; (· omega); (refine le_of ?_ ?_ <;> first | trivial | (simp [*]; done)))
        · have hke : i = m.length := by omega
          subst hke
          repeat' (first | (with_reducible first | refine awp_seq ?_ | refine awp_blockS ?_ | refine awp_blockC ?_ | refine awp_blockR ?_ | refine awp_skip ?_ | refine awp_ret ?_ | refine awp_exit ?_ | refine awp_region ?_ | refine awp_regionD (id := 16) 17 mixed (by decide +kernel) ?_ | refine awp_condM ?_ | refine And.intro ?_ ?_ | apply gQ_merge | apply gE_merge | exact EqV_w | exact EqE_w | exact EqV_ptr | exact EqE_ptr | exact EqV_msl | exact EqE_msl | exact EqV_agg | exact EqE_agg | exact EqV_fn | exact EqE_fn | exact EqV_gd | exact EqE_gd | refine gM_splitN ?_ ?_ | refine gM_split ?_ ?_ |  refine condM_splitDN ?_ ?_ | refine condM_splitD ?_ ?_ | refine condM_splitN ?_ ?_ | refine condM_split ?_ ?_ | refine condM_any ?_ ?_ | intro _) | (simp [*]))
          all_goals (refine finW_intro () ?_ ?_; (· trivial); (refine le_of ?_ ?_ <;> first | trivial | (simp [*]; done)))
      · repeat' (first | (with_reducible first | refine awp_seq ?_ | refine awp_blockS ?_ | refine awp_blockC ?_ | refine awp_blockR ?_ | refine awp_skip ?_ | refine awp_ret ?_ | refine awp_exit ?_ | refine awp_region ?_ | refine awp_regionD (id := 16) 17 mixed (by decide +kernel) ?_ | refine awp_condM ?_ | refine And.intro ?_ ?_ | apply gQ_merge | apply gE_merge | exact EqV_w | exact EqE_w | exact EqV_ptr | exact EqE_ptr | exact EqV_msl | exact EqE_msl | exact EqV_agg | exact EqE_agg | exact EqV_fn | exact EqE_fn | exact EqV_gd | exact EqE_gd | refine gM_splitN ?_ ?_ | refine gM_split ?_ ?_ |  refine condM_splitDN ?_ ?_ | refine condM_splitD ?_ ?_ | refine condM_splitN ?_ ?_ | refine condM_split ?_ ?_ | refine condM_any ?_ ?_ | refine cw (c9) ?_ | intro _) | (simp [*]) | (refine cw_eq (c9) ?_ ?_; (· (simp [*]; done))))
    · generalize mapS m = X at *
      clear hm hf
      unfold aMap at *
      refine realcall_intro Try.func13 (by kernel_rfl) rfl (Nat.le_of_ble_eq_true (by kernel_rfl)) ?_
      simp only [Try.results13, Try.ntmps13]
      repeat' (first | (with_reducible first | refine awp_seq ?_ | refine awp_blockS ?_ | refine awp_blockC ?_ | refine awp_blockR ?_ | refine awp_skip ?_ | refine awp_ret ?_ | refine awp_exit ?_ | refine awp_region ?_ | refine awp_regionD (id := 16) 17 mixed (by decide +kernel) ?_ | refine awp_condM ?_ | refine And.intro ?_ ?_ | apply gQ_merge | apply gE_merge | exact EqV_w | exact EqE_w | exact EqV_ptr | exact EqE_ptr | exact EqV_msl | exact EqE_msl | exact EqV_agg | exact EqE_agg | exact EqV_fn | exact EqE_fn | exact EqV_gd | exact EqE_gd | refine gM_splitN ?_ ?_ | refine gM_split ?_ ?_ |  refine condM_splitDN ?_ ?_ | refine condM_splitD ?_ ?_ | refine condM_splitN ?_ ?_ | refine condM_split ?_ ?_ | refine condM_any ?_ ?_ | refine cw (c0) ?_ | refine cw (c1) ?_ | refine cw (c2) ?_ | refine cw (c3) ?_ | intro _) | (simp [*, h]) | (refine cw_eq (c0) ?_ ?_; (· (simp [*]; done))) | (refine cw_eq (c1) ?_ ?_; (· (simp [*]; done))) | (refine cw_eq (c2) ?_ ?_; (· (simp [*]; done))) | (refine cw_eq (c3) ?_ ?_; (· (simp [*]; done))))
end Go.Proofs.Ytceimmohnniebaa
