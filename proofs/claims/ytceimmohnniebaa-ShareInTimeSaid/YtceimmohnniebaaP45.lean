/- Contracts of functions for this claim: lemmas alone. -/
import Derived.Test.YtceimmohnniebaaP44
import Derived.Test.YtceimmohnniebaaP38
set_option linter.unusedSimpArgs false
set_option linter.unusedVariables false
namespace Go.Proofs.Ytceimmohnniebaa
open Go Go.Fi
set_option maxRecDepth 20000

set_option maxHeartbeats 16000000 in
theorem shareInTime_c (m : Grid) (p : Plan) (x : Delay) : RealCall Try.prog 5 [aMap m, aPlan p, .agg (cDelay x)] (.bool true) true := by
  have c0 := awake_c
  have c1 := small_c m p
  obtain ⟨s, b⟩ := x
  cases hs : smallB m p with
  | false =>
    rw [hs] at c1
    unfold aMap aPlan cPlan cDelay at *
    refine realcall_intro Try.func5 (by kernel_rfl) rfl (Nat.le_of_ble_eq_true (by kernel_rfl)) ?_
    simp only [Try.results5, Try.ntmps5]
    repeat' (first | (with_reducible first | refine awp_seq ?_ | refine awp_blockS ?_ | refine awp_blockC ?_ | refine awp_blockR ?_ | refine awp_skip ?_ | refine awp_ret ?_ | refine awp_exit ?_ | refine awp_region ?_ | refine awp_regionD (id := 5) 12 mixed (by decide +kernel) ?_ | refine awp_regionD (id := 6) 10 mixed (by decide +kernel) ?_ | refine awp_regionD (id := 7) 11 mixed (by decide +kernel) ?_ | refine awp_regionD (id := 13) 30 mixed (by decide +kernel) ?_ | refine awp_regionD (id := 19) 17 mixed (by decide +kernel) ?_ | refine awp_regionD (id := 24) 15 mixed (by decide +kernel) ?_ | refine awp_condM ?_ | refine And.intro ?_ ?_ | apply gQ_merge | apply gE_merge | exact EqV_w | exact EqE_w | exact EqV_ptr | exact EqE_ptr | exact EqV_msl | exact EqE_msl | exact EqV_agg | exact EqE_agg | exact EqV_fn | exact EqE_fn | exact EqV_gd | exact EqE_gd | refine gM_splitN ?_ ?_ | refine gM_split ?_ ?_ |  refine condM_splitDN ?_ ?_ | refine condM_splitD ?_ ?_ | refine condM_splitN ?_ ?_ | refine condM_split ?_ ?_ | refine condM_any ?_ ?_ | refine cw (c0) ?_ | refine cw (c1) ?_ | intro _) | (simp [*]) | (refine cw_eq (c0) ?_ ?_; (· (simp [*]; done))) | (refine cw_eq (c1) ?_ ?_; (· (simp [*]; done))))
  | true =>
    rw [hs] at c1
    obtain ⟨hm, hp, _⟩ := small_in hs
    have c2 := copyMap_c m hm
    have c3 := copyPlan_c p hp
    have c4 := rPlanErr_c m hm p hp
    have hsl := hp.stops
    by_cases h : (checkS m p).2 = 0
    · have h1 := checkS_ok.1 h
      have ok := h1.2.tour h1.1 hp.stops
      have c5 := rWithin_c s 0 ((p.stops.length : Int) - 1)
      have c6 := rWithin_c b 0 20000
      rw [h] at c4
      cases hw : winB s 0 ((p.stops.length : Int) - 1) with
      | false =>
        rw [hw] at c5
        clear h h1 ok hm hp hs hw
        unfold aMap aPlan cPlan cDelay at *
        refine realcall_intro Try.func5 (by kernel_rfl) rfl (Nat.le_of_ble_eq_true (by kernel_rfl)) ?_
        simp only [Try.results5, Try.ntmps5]
        repeat' (first | (with_reducible first | refine awp_seq ?_ | refine awp_blockS ?_ | refine awp_blockC ?_ | refine awp_blockR ?_ | refine awp_skip ?_ | refine awp_ret ?_ | refine awp_exit ?_ | refine awp_region ?_ | refine awp_regionD (id := 5) 12 mixed (by decide +kernel) ?_ | refine awp_regionD (id := 6) 10 mixed (by decide +kernel) ?_ | refine awp_regionD (id := 7) 11 mixed (by decide +kernel) ?_ | refine awp_regionD (id := 13) 30 mixed (by decide +kernel) ?_ | refine awp_regionD (id := 19) 17 mixed (by decide +kernel) ?_ | refine awp_regionD (id := 24) 15 mixed (by decide +kernel) ?_ | refine awp_condM ?_ | refine And.intro ?_ ?_ | apply gQ_merge | apply gE_merge | exact EqV_w | exact EqE_w | exact EqV_ptr | exact EqE_ptr | exact EqV_msl | exact EqE_msl | exact EqV_agg | exact EqE_agg | exact EqV_fn | exact EqE_fn | exact EqV_gd | exact EqE_gd | refine gM_splitN ?_ ?_ | refine gM_split ?_ ?_ |  refine condM_splitDN ?_ ?_ | refine condM_splitD ?_ ?_ | refine condM_splitN ?_ ?_ | refine condM_split ?_ ?_ | refine condM_any ?_ ?_ | refine cw (c0) ?_ | refine cw (c1) ?_ | refine cw (c4) ?_ | refine cw (c5) ?_ | intro _) | (simp [*]) | (refine cw_eq (c0) ?_ ?_; (· (simp [*]; done))) | (refine cw_eq (c1) ?_ ?_; (· (simp [*]; done))) | (refine cw_eq (c4) ?_ ?_; (· (simp [*]; done))) | (refine cw_eq (c5) ?_ ?_; (· (simp [*]; done))))
        all_goals exact inI64 (by omega) (by omega)
      | true =>
        cases hw2 : winB b 0 20000 with
        | false =>
          rw [hw] at c5
          rw [hw2] at c6
          clear h h1 ok hm hp hs hw hw2
          unfold aMap aPlan cPlan cDelay at *
          refine realcall_intro Try.func5 (by kernel_rfl) rfl (Nat.le_of_ble_eq_true (by kernel_rfl)) ?_
          simp only [Try.results5, Try.ntmps5]
          repeat' (first | (with_reducible first | refine awp_seq ?_ | refine awp_blockS ?_ | refine awp_blockC ?_ | refine awp_blockR ?_ | refine awp_skip ?_ | refine awp_ret ?_ | refine awp_exit ?_ | refine awp_region ?_ | refine awp_regionD (id := 5) 12 mixed (by decide +kernel) ?_ | refine awp_regionD (id := 6) 10 mixed (by decide +kernel) ?_ | refine awp_regionD (id := 7) 11 mixed (by decide +kernel) ?_ | refine awp_regionD (id := 13) 30 mixed (by decide +kernel) ?_ | refine awp_regionD (id := 19) 17 mixed (by decide +kernel) ?_ | refine awp_regionD (id := 24) 15 mixed (by decide +kernel) ?_ | refine awp_condM ?_ | refine And.intro ?_ ?_ | apply gQ_merge | apply gE_merge | exact EqV_w | exact EqE_w | exact EqV_ptr | exact EqE_ptr | exact EqV_msl | exact EqE_msl | exact EqV_agg | exact EqE_agg | exact EqV_fn | exact EqE_fn | exact EqV_gd | exact EqE_gd | refine gM_splitN ?_ ?_ | refine gM_split ?_ ?_ |  refine condM_splitDN ?_ ?_ | refine condM_splitD ?_ ?_ | refine condM_splitN ?_ ?_ | refine condM_split ?_ ?_ | refine condM_any ?_ ?_ | refine cw (c0) ?_ | refine cw (c1) ?_ | refine cw (c4) ?_ | refine cw (c5) ?_ | refine cw (c6) ?_ | intro _) | (simp [*]) | (refine cw_eq (c0) ?_ ?_; (· (simp [*]; done))) | (refine cw_eq (c1) ?_ ?_; (· (simp [*]; done))) | (refine cw_eq (c4) ?_ ?_; (· (simp [*]; done))) | (refine cw_eq (c5) ?_ ?_; (· (simp [*]; done))) | (refine cw_eq (c6) ?_ ?_; (· (simp [*]; done))))
          all_goals exact inI64 (by omega) (by omega)
        | true =>
          rw [hw] at c5
          rw [hw2] at c6
          have c7 := great_ok m hm p hp h s
          have c8 := timesOf_ok m hm p hp h
          have c9 := delayed_ok m hm p hp h ⟨s, b⟩
          rw [delayedS_ok hw hw2] at c9
          have hb : 0 ≤ b ∧ b ≤ 20000 := winB_iff.1 hw2
          have hT := fun i (hi : i < p.stops.length) => late_bd (m := m) (p := p) (s := s) hb.1 hi
          have hT2 := fun i (hi : i < p.stops.length) => late_before (m := m) (p := p) (s := s) (b := b) hi
          have cW : ∀ v : Int, 0 ≤ v ∧ v ≤ b → RealCall Try.prog 32 [.int .i64 v, .int .i64 0, .int .i64 b] (.bool true) true := fun v hv => by
            have := rWithin_c v 0 b
            rwa [winB_iff.2 hv] at this
          have hTi := ok.go.times noDelay_bd
          have hTl := ok.go.times (d := ⟨s, b⟩) ⟨hb.1, by show b ≤ 30000; omega⟩
          have l1 := timesS_len m p noDelay
          have l2 := timesS_len m p ⟨s, b⟩
          have cD : ∀ q : Int, 0 ≤ q ∧ q ≤ 20000 → RealCall Try.prog 28 [aMap m, aPlan p, .agg [.int .i64 s, .int .i64 q]] (.tup [.sl p.stops.length (ints (timesS m p ⟨s, q⟩)), .int .i64 0]) false := fun q hq => by
            have := delayed_ok m hm p hp h ⟨s, q⟩
            rw [delayedS_ok hw (winB_iff.2 hq)] at this
            have e := timesS_len m p ⟨s, q⟩
            unfold timesP at this
            dsimp only at this
            rwa [e] at this
          have cL : ∀ q : Int, 0 ≤ q ∧ q ≤ 20000 → RealCall Try.prog 34 [aMap m, aPlan p, .sl p.stops.length (ints (timesS m p ⟨s, q⟩))] (.bool (tooL m p (timesS m p ⟨s, q⟩))) true := fun q hq => by
            have := tooLong_c m p h1.2 ok (timesS m p ⟨s, q⟩) (timesS_len _ _ _) (ok.go.times (d := ⟨s, q⟩) ⟨hq.1, by show q ≤ 30000; omega⟩)
            rwa [timesS_len] at this
          have hG : greatS m p s = (0, 24) ∨ ∃ N q : Nat, greatS m p s = ((N : Int), 0) ∧ N ≤ 20000 ∧ q ≤ 20000 ∧ (if b < (N : Int) then b else (N : Int)) = (q : Int) ∧ tooL m p (timesS m p ⟨s, (q : Int)⟩) = false ∧ (N < 20000 → tooL m p (timesS m p ⟨s, (N : Int) + 1⟩) = true) := by
            unfold greatS greatE
            rw [hw]
            cases hk : keepsS m p with
            | false => exact Or.inl rfl
            | true =>
              right
              have h0 : keepsD m p s 0 = true := by rw [keepsD_zero]; exact hk
              have hN := gdN_le m p s
              have hq : ∃ q : Nat, q ≤ gdN m p s ∧ (if b < (gdN m p s : Int) then b else (gdN m p s : Int)) = (q : Int) := by
                by_cases hlt : b < (gdN m p s : Int)
                · exact ⟨b.toNat, by omega, by rw [if_pos hlt]; omega⟩
                · exact ⟨gdN m p s, Nat.le_refl _, if_neg hlt⟩
              obtain ⟨q, hq1, hq2⟩ := hq
              refine ⟨gdN m p s, q, rfl, hN, by omega, hq2, ?_, fun hlt => ?_⟩
              · rw [tooL_keeps h1.2 h0, gdN_keeps h0 hq1]; rfl
              · have := gdN_over h1.2 h0 (j := gdN m p s + 1) (by omega) (by omega)
                rw [tooL_keeps h1.2 h0, show ((gdN m p s : Int) + 1) = ((gdN m p s + 1 : Nat) : Int) by omega, this]; rfl
          have cN : ∀ N : Nat, N ≤ 20000 → RealCall Try.prog 32 [.int .i64 N, .int .i64 0, .int .i64 20000] (.bool true) true := fun N hN => by
            have := rWithin_c (N : Int) 0 20000
            rwa [winB_iff.2 ⟨by omega, by omega⟩] at this
          unfold timesP pairI at *
          clear h h1 ok hm hp hs hw hw2
          have kk := keep (And.intro hT (And.intro hT2 (And.intro cW (And.intro hTi hTl))))
          have kd := keep (And.intro cD (And.intro cL (And.intro cN hG)))
          clear hT hT2 cW hTi hTl cD cL cN hG
          generalize timesS m p noDelay = L at *
          generalize hLe : timesS m p ⟨s, b⟩ = L' at *
          clear hLe
          generalize hXe : greatS m p s = X at *
          clear hXe
          obtain ⟨xn, xe⟩ := X
          unfold aMap aPlan cPlan cDelay at *
          refine realcall_intro Try.func5 (by kernel_rfl) rfl (Nat.le_of_ble_eq_true (by kernel_rfl)) ?_
          simp only [Try.results5, Try.ntmps5]
          repeat' (first | (with_reducible first | refine awp_seq ?_ | refine awp_blockS ?_ | refine awp_blockC ?_ | refine awp_blockR ?_ | refine awp_skip ?_ | refine awp_ret ?_ | refine awp_exit ?_ | refine awp_region ?_ | refine awp_regionD (id := 5) 12 mixed (by decide +kernel) ?_ | refine awp_regionD (id := 6) 10 mixed (by decide +kernel) ?_ | refine awp_regionD (id := 7) 11 mixed (by decide +kernel) ?_ | refine awp_regionD (id := 13) 30 mixed (by decide +kernel) ?_ | refine awp_regionD (id := 19) 17 mixed (by decide +kernel) ?_ | refine awp_regionD (id := 24) 15 mixed (by decide +kernel) ?_ | refine awp_condM ?_ | refine And.intro ?_ ?_ | apply gQ_merge | apply gE_merge | exact EqV_w | exact EqE_w | exact EqV_ptr | exact EqE_ptr | exact EqV_msl | exact EqE_msl | exact EqV_agg | exact EqE_agg | exact EqV_fn | exact EqE_fn | exact EqV_gd | exact EqE_gd | refine gM_splitN ?_ ?_ | refine gM_split ?_ ?_ |  refine condM_splitDN ?_ ?_ | refine condM_splitD ?_ ?_ | refine condM_splitN ?_ ?_ | refine condM_split ?_ ?_ | refine condM_any ?_ ?_ | refine cw (c0) ?_ | refine cw (c1) ?_ | refine cw (c2) ?_ | refine cw (c3) ?_ | refine cw (c4) ?_ | refine cw (c5) ?_ | refine cw (c6) ?_ | refine cw (c7) ?_ | refine cw (c8) ?_ | refine cw (c9) ?_ | intro _) | (simp [*, l1, l2]) | (refine cw_eq (c0) ?_ ?_; (· (simp [*]; done))) | (refine cw_eq (c1) ?_ ?_; (· (simp [*]; done))) | (refine cw_eq (c2) ?_ ?_; (· (simp [*]; done))) | (refine cw_eq (c3) ?_ ?_; (· (simp [*]; done))) | (refine cw_eq (c4) ?_ ?_; (· (simp [*]; done))) | (refine cw_eq (c5) ?_ ?_; (· (simp [*]; done))) | (refine cw_eq (c6) ?_ ?_; (· (simp [*]; done))) | (refine cw_eq (c7) ?_ ?_; (· (simp [*]; done))) | (refine cw_eq (c8) ?_ ?_; (· (simp [*]; done))) | (refine cw_eq (c9) ?_ ?_; (· (simp [*]; done))))
          · exact inI64 (by omega) (by omega)
          refine awp_for3 (fun (k : Nat) => k ≤ p.stops.length) [3, 4, 5, 7, 8, 9, 11] (fun (k : Nat) => [(13, .w false false (.int .i64 k))]) [0, 1, 2] (fun (k : Nat) => []) (fun (k : Nat) => p.stops.length - k) (fun (_u : Unit) => True) [3, 4, 5, 7, 8] (fun (_u : Unit) => []) [0, 1, 2] (fun (_u : Unit) => []) (0) (Nat.zero_le _) (by simp) (by simp) (fun k hk => ?_) (fun _u hf => ?_)
          · by_cases hlt : k < p.stops.length
            · have hlI : (k : Int) < (p.stops.length : Int) := by omega
              have hkL : k < L.length := by omega
              have hkL' : k < L'.length := by omega
              obtain ⟨a1, a2, a3, a4, a5⟩ := (show (∀ i, i < p.stops.length → _) ∧ (∀ i, i < p.stops.length → _ → _) ∧ (∀ v : Int, _ → _) ∧ (∀ i, i < L.length → _) ∧ (∀ i, i < L'.length → _) from kk)
              have a1 := a1 k hlt
              have a2 := a2 k hlt
              have a3 := a3 (nth L' k - nth L k) a1
              have a4 := a4 k hkL
              have a5 := a5 k hkL'
              generalize hv : nth L k = v at *
              generalize hv' : nth L' k = v' at *
              by_cases hks : (k : Int) < s
              · have hvv := a2 hks
                subst hvv
                clear a2
                rw [Int.sub_self] at a3
                repeat' (first | (with_reducible first | refine awp_seq ?_ | refine awp_blockS ?_ | refine awp_blockC ?_ | refine awp_blockR ?_ | refine awp_skip ?_ | refine awp_ret ?_ | refine awp_exit ?_ | refine awp_region ?_ | refine awp_regionD (id := 5) 12 mixed (by decide +kernel) ?_ | refine awp_regionD (id := 6) 10 mixed (by decide +kernel) ?_ | refine awp_regionD (id := 7) 11 mixed (by decide +kernel) ?_ | refine awp_regionD (id := 13) 30 mixed (by decide +kernel) ?_ | refine awp_regionD (id := 19) 17 mixed (by decide +kernel) ?_ | refine awp_regionD (id := 24) 15 mixed (by decide +kernel) ?_ | refine awp_condM ?_ | refine And.intro ?_ ?_ | apply gQ_merge | apply gE_merge | exact EqV_w | exact EqE_w | exact EqV_ptr | exact EqE_ptr | exact EqV_msl | exact EqE_msl | exact EqV_agg | exact EqE_agg | exact EqV_fn | exact EqE_fn | exact EqV_gd | exact EqE_gd | refine gM_splitN ?_ ?_ | refine gM_split ?_ ?_ |  refine condM_splitDN ?_ ?_ | refine condM_splitD ?_ ?_ | refine condM_splitN ?_ ?_ | refine condM_split ?_ ?_ | refine condM_any ?_ ?_ | refine cw (a3) ?_ | intro _) | (simp [*, hlt, hkL, hkL', hks, hv, hv']) | (refine cw_eq (a3) ?_ ?_; (· (simp [*]; done))))
                all_goals first
                  | exact inI64 (by omega) (by omega)
                  | omega
                  | (refine loopK_normal _ _ _ _ _ (k + 1) _ ?_ (by first | omega | (dsimp only; omega) | (simp; omega)) ?_; (· omega); (refine le_of ?_ ?_ <;> first | trivial | (simp [*]; done)))
                  | skip
              · clear a2
                repeat' (first | (with_reducible first | refine awp_seq ?_ | refine awp_blockS ?_ | refine awp_blockC ?_ | refine awp_blockR ?_ | refine awp_skip ?_ | refine awp_ret ?_ | refine awp_exit ?_ | refine awp_region ?_ | refine awp_regionD (id := 5) 12 mixed (by decide +kernel) ?_ | refine awp_regionD (id := 6) 10 mixed (by decide +kernel) ?_ | refine awp_regionD (id := 7) 11 mixed (by decide +kernel) ?_ | refine awp_regionD (id := 13) 30 mixed (by decide +kernel) ?_ | refine awp_regionD (id := 19) 17 mixed (by decide +kernel) ?_ | refine awp_regionD (id := 24) 15 mixed (by decide +kernel) ?_ | refine awp_condM ?_ | refine And.intro ?_ ?_ | apply gQ_merge | apply gE_merge | exact EqV_w | exact EqE_w | exact EqV_ptr | exact EqE_ptr | exact EqV_msl | exact EqE_msl | exact EqV_agg | exact EqE_agg | exact EqV_fn | exact EqE_fn | exact EqV_gd | exact EqE_gd | refine gM_splitN ?_ ?_ | refine gM_split ?_ ?_ |  refine condM_splitDN ?_ ?_ | refine condM_splitD ?_ ?_ | refine condM_splitN ?_ ?_ | refine condM_split ?_ ?_ | refine condM_any ?_ ?_ | refine cw (a3) ?_ | intro _) | (simp [*, hlt, hkL, hkL', hks, hv, hv']) | (refine cw_eq (a3) ?_ ?_; (· (simp [*]; done))))
                all_goals first
                  | exact inI64 (by omega) (by omega)
                  | omega
                  | (refine loopK_normal _ _ _ _ _ (k + 1) _ ?_ (by first | omega | (dsimp only; omega) | (simp; omega)) ?_; (· omega); (refine le_of ?_ ?_ <;> first | trivial | (simp [*]; done)))
                  | skip
            · have hke : k = p.stops.length := by omega
              subst hke
              repeat' (first | (with_reducible first | refine awp_seq ?_ | refine awp_blockS ?_ | refine awp_blockC ?_ | refine awp_blockR ?_ | refine awp_skip ?_ | refine awp_ret ?_ | refine awp_exit ?_ | refine awp_region ?_ | refine awp_regionD (id := 5) 12 mixed (by decide +kernel) ?_ | refine awp_regionD (id := 6) 10 mixed (by decide +kernel) ?_ | refine awp_regionD (id := 7) 11 mixed (by decide +kernel) ?_ | refine awp_regionD (id := 13) 30 mixed (by decide +kernel) ?_ | refine awp_regionD (id := 19) 17 mixed (by decide +kernel) ?_ | refine awp_regionD (id := 24) 15 mixed (by decide +kernel) ?_ | refine awp_condM ?_ | refine And.intro ?_ ?_ | apply gQ_merge | apply gE_merge | exact EqV_w | exact EqE_w | exact EqV_ptr | exact EqE_ptr | exact EqV_msl | exact EqE_msl | exact EqV_agg | exact EqE_agg | exact EqV_fn | exact EqE_fn | exact EqV_gd | exact EqE_gd | refine gM_splitN ?_ ?_ | refine gM_split ?_ ?_ |  refine condM_splitDN ?_ ?_ | refine condM_splitD ?_ ?_ | refine condM_splitN ?_ ?_ | refine condM_split ?_ ?_ | refine condM_any ?_ ?_ | intro _) | (simp [*]))
              all_goals (refine finW_intro () ?_ ?_; (· trivial); (refine le_of ?_ ?_ <;> first | trivial | (simp [*]; done)))
          · obtain ⟨cD, cL, cN, hG⟩ := (show (∀ q : Int, _ → RealCall _ _ _ _ _) ∧ (∀ q : Int, _ → RealCall _ _ _ _ _) ∧ (∀ N : Nat, _ → RealCall _ _ _ _ _) ∧ (_ ∨ _) from kd)
            clear kd kk
            rcases hG with hG | ⟨N, q, hG, hN, hq, hmin, hl1, hl2⟩
            · injection hG with g1 g2
              subst g1
              subst g2
              clear cD cL cN
              repeat' (first | (with_reducible first | refine awp_seq ?_ | refine awp_blockS ?_ | refine awp_blockC ?_ | refine awp_blockR ?_ | refine awp_skip ?_ | refine awp_ret ?_ | refine awp_exit ?_ | refine awp_region ?_ | refine awp_regionD (id := 5) 12 mixed (by decide +kernel) ?_ | refine awp_regionD (id := 6) 10 mixed (by decide +kernel) ?_ | refine awp_regionD (id := 7) 11 mixed (by decide +kernel) ?_ | refine awp_regionD (id := 13) 30 mixed (by decide +kernel) ?_ | refine awp_regionD (id := 19) 17 mixed (by decide +kernel) ?_ | refine awp_regionD (id := 24) 15 mixed (by decide +kernel) ?_ | refine awp_condM ?_ | refine And.intro ?_ ?_ | apply gQ_merge | apply gE_merge | exact EqV_w | exact EqE_w | exact EqV_ptr | exact EqE_ptr | exact EqV_msl | exact EqE_msl | exact EqV_agg | exact EqE_agg | exact EqV_fn | exact EqE_fn | exact EqV_gd | exact EqE_gd | refine gM_splitN ?_ ?_ | refine gM_split ?_ ?_ |  refine condM_splitDN ?_ ?_ | refine condM_splitD ?_ ?_ | refine condM_splitN ?_ ?_ | refine condM_split ?_ ?_ | refine condM_any ?_ ?_ | intro _) | (simp [*]))
            · injection hG with g1 g2
              subst g1
              subst g2
              have d1 := cD (q : Int) ⟨by omega, by omega⟩
              have d2 := cL (q : Int) ⟨by omega, by omega⟩
              have d3 := cN N hN
              rw [hl1] at d2
              have lq := timesS_len m p ⟨s, (q : Int)⟩
              generalize timesS m p ⟨s, (q : Int)⟩ = MO at *
              clear hl1
              rcases Nat.lt_or_ge N 20000 with hN2 | hN2
              · have e1 := cD ((N : Int) + 1) ⟨by omega, by omega⟩
                have e2 := cL ((N : Int) + 1) ⟨by omega, by omega⟩
                rw [hl2 hN2] at e2
                have lo := timesS_len m p ⟨s, (N : Int) + 1⟩
                generalize timesS m p ⟨s, (N : Int) + 1⟩ = OV at *
                clear cD cL cN hl2
                have hN3 : ¬ (N : Int) = 20000 := by omega
                repeat' (first | (with_reducible first | refine awp_seq ?_ | refine awp_blockS ?_ | refine awp_blockC ?_ | refine awp_blockR ?_ | refine awp_skip ?_ | refine awp_ret ?_ | refine awp_exit ?_ | refine awp_region ?_ | refine awp_regionD (id := 5) 12 mixed (by decide +kernel) ?_ | refine awp_regionD (id := 6) 10 mixed (by decide +kernel) ?_ | refine awp_regionD (id := 7) 11 mixed (by decide +kernel) ?_ | refine awp_regionD (id := 13) 30 mixed (by decide +kernel) ?_ | refine awp_regionD (id := 19) 17 mixed (by decide +kernel) ?_ | refine awp_regionD (id := 24) 15 mixed (by decide +kernel) ?_ | refine awp_condM ?_ | refine And.intro ?_ ?_ | apply gQ_merge | apply gE_merge | exact EqV_w | exact EqE_w | exact EqV_ptr | exact EqE_ptr | exact EqV_msl | exact EqE_msl | exact EqV_agg | exact EqE_agg | exact EqV_fn | exact EqE_fn | exact EqV_gd | exact EqE_gd | refine gM_splitN ?_ ?_ | refine gM_split ?_ ?_ |  refine condM_splitDN ?_ ?_ | refine condM_splitD ?_ ?_ | refine condM_splitN ?_ ?_ | refine condM_split ?_ ?_ | refine condM_any ?_ ?_ | refine cw (c2) ?_ | refine cw (c3) ?_ | refine cw (d1) ?_ | refine cw (d2) ?_ | refine cw (d3) ?_ | refine cw (e1) ?_ | refine cw (e2) ?_ | intro _) | (simp [*, hmin, hN3]) | (refine cw_eq (c2) ?_ ?_; (· (simp [*]; done))) | (refine cw_eq (c3) ?_ ?_; (· (simp [*]; done))) | (refine cw_eq (d1) ?_ ?_; (· (simp [*]; done))) | (refine cw_eq (d2) ?_ ?_; (· (simp [*]; done))) | (refine cw_eq (d3) ?_ ?_; (· (simp [*]; done))) | (refine cw_eq (e1) ?_ ?_; (· (simp [*]; done))) | (refine cw_eq (e2) ?_ ?_; (· (simp [*]; done))))
                all_goals first
                  | exact inI64 (by omega) (by omega)
                  | omega
                  | skip
              · have hN4 : N = 20000 := by omega
                have hN5 : (N : Int) = 20000 := by omega
                rw [hN5] at hmin d3
                clear cD cL cN hl2 hN4 hN2 hN
                repeat' (first | (with_reducible first | refine awp_seq ?_ | refine awp_blockS ?_ | refine awp_blockC ?_ | refine awp_blockR ?_ | refine awp_skip ?_ | refine awp_ret ?_ | refine awp_exit ?_ | refine awp_region ?_ | refine awp_regionD (id := 5) 12 mixed (by decide +kernel) ?_ | refine awp_regionD (id := 6) 10 mixed (by decide +kernel) ?_ | refine awp_regionD (id := 7) 11 mixed (by decide +kernel) ?_ | refine awp_regionD (id := 13) 30 mixed (by decide +kernel) ?_ | refine awp_regionD (id := 19) 17 mixed (by decide +kernel) ?_ | refine awp_regionD (id := 24) 15 mixed (by decide +kernel) ?_ | refine awp_condM ?_ | refine And.intro ?_ ?_ | apply gQ_merge | apply gE_merge | exact EqV_w | exact EqE_w | exact EqV_ptr | exact EqE_ptr | exact EqV_msl | exact EqE_msl | exact EqV_agg | exact EqE_agg | exact EqV_fn | exact EqE_fn | exact EqV_gd | exact EqE_gd | refine gM_splitN ?_ ?_ | refine gM_split ?_ ?_ |  refine condM_splitDN ?_ ?_ | refine condM_splitD ?_ ?_ | refine condM_splitN ?_ ?_ | refine condM_split ?_ ?_ | refine condM_any ?_ ?_ | refine cw (c2) ?_ | refine cw (c3) ?_ | refine cw (d1) ?_ | refine cw (d2) ?_ | refine cw (d3) ?_ | intro _) | (simp [*, hmin, hN5]) | (refine cw_eq (c2) ?_ ?_; (· (simp [*]; done))) | (refine cw_eq (c3) ?_ ?_; (· (simp [*]; done))) | (refine cw_eq (d1) ?_ ?_; (· (simp [*]; done))) | (refine cw_eq (d2) ?_ ?_; (· (simp [*]; done))) | (refine cw_eq (d3) ?_ ?_; (· (simp [*]; done))))
                all_goals first
                  | exact inI64 (by omega) (by omega)
                  | omega
                  | skip
    · generalize (checkS m p).2 = e at *
      have h : ¬ e = 0 := h
      clear hm hp hs
      unfold aMap aPlan cPlan cDelay at *
      refine realcall_intro Try.func5 (by kernel_rfl) rfl (Nat.le_of_ble_eq_true (by kernel_rfl)) ?_
      simp only [Try.results5, Try.ntmps5]
      repeat' (first | (with_reducible first | refine awp_seq ?_ | refine awp_blockS ?_ | refine awp_blockC ?_ | refine awp_blockR ?_ | refine awp_skip ?_ | refine awp_ret ?_ | refine awp_exit ?_ | refine awp_region ?_ | refine awp_regionD (id := 5) 12 mixed (by decide +kernel) ?_ | refine awp_regionD (id := 6) 10 mixed (by decide +kernel) ?_ | refine awp_regionD (id := 7) 11 mixed (by decide +kernel) ?_ | refine awp_regionD (id := 13) 30 mixed (by decide +kernel) ?_ | refine awp_regionD (id := 19) 17 mixed (by decide +kernel) ?_ | refine awp_regionD (id := 24) 15 mixed (by decide +kernel) ?_ | refine awp_condM ?_ | refine And.intro ?_ ?_ | apply gQ_merge | apply gE_merge | exact EqV_w | exact EqE_w | exact EqV_ptr | exact EqE_ptr | exact EqV_msl | exact EqE_msl | exact EqV_agg | exact EqE_agg | exact EqV_fn | exact EqE_fn | exact EqV_gd | exact EqE_gd | refine gM_splitN ?_ ?_ | refine gM_split ?_ ?_ |  refine condM_splitDN ?_ ?_ | refine condM_splitD ?_ ?_ | refine condM_splitN ?_ ?_ | refine condM_split ?_ ?_ | refine condM_any ?_ ?_ | refine cw (c0) ?_ | refine cw (c1) ?_ | refine cw (c4) ?_ | intro _) | (simp [*, h]) | (refine cw_eq (c0) ?_ ?_; (· (simp [*]; done))) | (refine cw_eq (c1) ?_ ?_; (· (simp [*]; done))) | (refine cw_eq (c4) ?_ ?_; (· (simp [*]; done))))
end Go.Proofs.Ytceimmohnniebaa
