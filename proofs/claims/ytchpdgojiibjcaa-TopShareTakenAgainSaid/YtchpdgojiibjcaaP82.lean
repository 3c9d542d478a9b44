/- Contracts of functions for this claim: lemmas alone. -/
import Derived.Test.YtchpdgojiibjcaaP81
import Derived.Test.YtchpdgojiibjcaaP80
import Derived.Test.YtchpdgojiibjcaaP38
import Derived.Test.YtchpdgojiibjcaaP34
import Derived.Test.YtchpdgojiibjcaaP23
set_option linter.unusedSimpArgs false
set_option linter.unusedVariables false
namespace Go.Proofs.Ytchpdgojiibjcaa
open Go Go.Fi
set_option maxRecDepth 20000

theorem woS_in {p : Plan} (hp : PlanIn p) {j : Nat} (hj : j < p.riders.length) : PlanIn (woS p j) := by
  have h1 := hp.riders
  have h2 := hp.stops
  have h3 := woF_len (j : Int) p.stops
  refine ⟨?_, ?_, fun k hk => ?_⟩
  · show (p.riders.take j ++ p.riders.drop (j + 1)).length < _; rw [cut_len _ _ hj]; omega
  · show (woF (j : Int) p.stops).length < _; omega
  · have hk : k < (p.riders.take j ++ p.riders.drop (j + 1)).length := hk
    rw [cut_len _ _ hj] at hk
    show (nth (p.riders.take j ++ p.riders.drop (j + 1)) k).name.size < _
    rw [nth_cut _ _ _ hj]
    split
    · exact hp.names _ (by omega)
    · exact hp.names _ (by omega)
set_option maxHeartbeats 16000000 in
theorem takenAgain_c (m : Grid) (p : Plan) (r : Int) : RealCall Try.prog 3 [aMap m, aPlan p, .int .i64 r] (.bool true) true := by
  have c0 := shareAwake_c
  have c1 := small_c m p
  cases hs : smallB m p with
  | false =>
    rw [hs] at c1
    unfold aMap aPlan cPlan at *
    refine realcall_intro Try.func3 (by kernel_rfl) rfl (Nat.le_of_ble_eq_true (by kernel_rfl)) ?_
    simp only [Try.results3, Try.ntmps3]
    repeat' (first | (with_reducible first | refine awp_seq ?_ | refine awp_blockS ?_ | refine awp_blockC ?_ | refine awp_blockR ?_ | refine awp_skip ?_ | refine awp_ret ?_ | refine awp_exit ?_ | refine awp_region ?_ | refine awp_regionS (id := 5) [0, 1, 2, 3, 4, 5, 6, 7, 8] [9, 10] [[], [], [], [], [], [], [], [.new 0], []] [[.new 0], []] mixed (by decide +kernel) ?_ | refine awp_regionD (id := 8) 10 mixed (by decide +kernel) ?_ | refine awp_regionS (id := 9) [0, 1, 2, 3, 4, 5, 6, 7, 8, 9] [10, 11] [[], [], [], [], [], [], [], [], [.new 0], []] [[.new 0], []] mixed (by decide +kernel) ?_ | refine awp_regionS (id := 12) [0, 1, 2, 3, 4, 5, 6, 7, 8, 9, 10, 11, 12] [13, 14] [[], [], [], [], [], [], [], [], [], [], [], [.new 0], []] [[.new 0], []] mixed (by decide +kernel) ?_ | refine awp_condM ?_ | refine And.intro ?_ ?_ | apply gQ_merge | apply gE_merge | exact EqV_w | exact EqE_w | exact EqV_ptr | exact EqE_ptr | exact EqV_msl | exact EqE_msl | exact EqV_agg | exact EqE_agg | exact EqV_fn | exact EqE_fn | exact EqV_gd | exact EqE_gd | refine gM_splitN ?_ ?_ | refine gM_split ?_ ?_ |  refine condM_splitDN ?_ ?_ | refine condM_splitD ?_ ?_ | refine condM_splitN ?_ ?_ | refine condM_split ?_ ?_ | refine condM_any ?_ ?_ | refine cw (c0) ?_ | refine cw (c1) ?_ | intro _) | (simp [*]) | (refine cw_eq (c0) ?_ ?_; (· (simp [*]; done))) | (refine cw_eq (c1) ?_ ?_; (· (simp [*]; done))))
  | true =>
    rw [hs] at c1
    obtain ⟨hm, hp, hs16⟩ := small_in hs
    have c2 := rPlanErr_c m hm p hp
    by_cases h : (checkS m p).2 = 0
    · have ok := checkS_ok.1 h
      have po := ok.2
      have hrl := po.rl
      rw [h] at c2
      have c3 := rWithin_c r 0 ((p.riders.length : Int) - 1)
      cases hw : winB r 0 ((p.riders.length : Int) - 1) with
      | false =>
        rw [hw] at c3
        clear hm hp hs hs16 h ok po hw
        unfold aMap aPlan cPlan at *
        refine realcall_intro Try.func3 (by kernel_rfl) rfl (Nat.le_of_ble_eq_true (by kernel_rfl)) ?_
        simp only [Try.results3, Try.ntmps3]
        repeat' (first | (with_reducible first | refine awp_seq ?_ | refine awp_blockS ?_ | refine awp_blockC ?_ | refine awp_blockR ?_ | refine awp_skip ?_ | refine awp_ret ?_ | refine awp_exit ?_ | refine awp_region ?_ | refine awp_regionS (id := 5) [0, 1, 2, 3, 4, 5, 6, 7, 8] [9, 10] [[], [], [], [], [], [], [], [.new 0], []] [[.new 0], []] mixed (by decide +kernel) ?_ | refine awp_regionD (id := 8) 10 mixed (by decide +kernel) ?_ | refine awp_regionS (id := 9) [0, 1, 2, 3, 4, 5, 6, 7, 8, 9] [10, 11] [[], [], [], [], [], [], [], [], [.new 0], []] [[.new 0], []] mixed (by decide +kernel) ?_ | refine awp_regionS (id := 12) [0, 1, 2, 3, 4, 5, 6, 7, 8, 9, 10, 11, 12] [13, 14] [[], [], [], [], [], [], [], [], [], [], [], [.new 0], []] [[.new 0], []] mixed (by decide +kernel) ?_ | refine awp_condM ?_ | refine And.intro ?_ ?_ | apply gQ_merge | apply gE_merge | exact EqV_w | exact EqE_w | exact EqV_ptr | exact EqE_ptr | exact EqV_msl | exact EqE_msl | exact EqV_agg | exact EqE_agg | exact EqV_fn | exact EqE_fn | exact EqV_gd | exact EqE_gd | refine gM_splitN ?_ ?_ | refine gM_split ?_ ?_ |  refine condM_splitDN ?_ ?_ | refine condM_splitD ?_ ?_ | refine condM_splitN ?_ ?_ | refine condM_split ?_ ?_ | refine condM_any ?_ ?_ | refine cw (c0) ?_ | refine cw (c1) ?_ | refine cw (c2) ?_ | refine cw (c3) ?_ | intro _) | (simp [*]) | (refine cw_eq (c0) ?_ ?_; (· (simp [*]; done))) | (refine cw_eq (c1) ?_ ?_; (· (simp [*]; done))) | (refine cw_eq (c2) ?_ ?_; (· (simp [*]; done))) | (refine cw_eq (c3) ?_ ?_; (· (simp [*]; done))))
        all_goals exact inI64 (by omega) (by omega)
      | true =>
        rw [hw] at c3
        obtain ⟨j, rfl, hj⟩ := winB_nat hw
        have hjI : (j : Int) < (p.riders.length : Int) := by omega
        clear hw
        cases hab : (nth p.riders j).aboard with
        | true =>
          clear hm hp hs hs16 h ok po
          unfold aMap aPlan cPlan at *
          refine realcall_intro Try.func3 (by kernel_rfl) rfl (Nat.le_of_ble_eq_true (by kernel_rfl)) ?_
          simp only [Try.results3, Try.ntmps3]
          repeat' (first | (with_reducible first | refine awp_seq ?_ | refine awp_blockS ?_ | refine awp_blockC ?_ | refine awp_blockR ?_ | refine awp_skip ?_ | refine awp_ret ?_ | refine awp_exit ?_ | refine awp_region ?_ | refine awp_regionS (id := 5) [0, 1, 2, 3, 4, 5, 6, 7, 8] [9, 10] [[], [], [], [], [], [], [], [.new 0], []] [[.new 0], []] mixed (by decide +kernel) ?_ | refine awp_regionD (id := 8) 10 mixed (by decide +kernel) ?_ | refine awp_regionS (id := 9) [0, 1, 2, 3, 4, 5, 6, 7, 8, 9] [10, 11] [[], [], [], [], [], [], [], [], [.new 0], []] [[.new 0], []] mixed (by decide +kernel) ?_ | refine awp_regionS (id := 12) [0, 1, 2, 3, 4, 5, 6, 7, 8, 9, 10, 11, 12] [13, 14] [[], [], [], [], [], [], [], [], [], [], [], [.new 0], []] [[.new 0], []] mixed (by decide +kernel) ?_ | refine awp_condM ?_ | refine And.intro ?_ ?_ | apply gQ_merge | apply gE_merge | exact EqV_w | exact EqE_w | exact EqV_ptr | exact EqE_ptr | exact EqV_msl | exact EqE_msl | exact EqV_agg | exact EqE_agg | exact EqV_fn | exact EqE_fn | exact EqV_gd | exact EqE_gd | refine gM_splitN ?_ ?_ | refine gM_split ?_ ?_ |  refine condM_splitDN ?_ ?_ | refine condM_splitD ?_ ?_ | refine condM_splitN ?_ ?_ | refine condM_split ?_ ?_ | refine condM_any ?_ ?_ | refine cw (c0) ?_ | refine cw (c1) ?_ | refine cw (c2) ?_ | refine cw (c3) ?_ | intro _) | (simp [*, hj, hjI, hab]) | (refine cw_eq (c0) ?_ ?_; (· (simp [*]; done))) | (refine cw_eq (c1) ?_ ?_; (· (simp [*]; done))) | (refine cw_eq (c2) ?_ ?_; (· (simp [*]; done))) | (refine cw_eq (c3) ?_ ?_; (· (simp [*]; done))))
          all_goals first | exact inI64 (by omega) (by omega) | omega | skip
        | false =>
          have c4 := copyMap_c m hm
          have c5 := copyPlan_c p hp
          have c6 := firstBroken_ok m hm p hp h
          unfold brokE at c6
          cases hk : keepsS m p with
          | false =>
            have hb : (brokenS m p (timesS m p noDelay) (seatsS p)).2 = true := by unfold keepsS at hk; simpa using hk
            rw [hb] at c6
            clear hm hp hs hs16 h ok po hk hb
            unfold aMap aPlan cPlan at *
            refine realcall_intro Try.func3 (by kernel_rfl) rfl (Nat.le_of_ble_eq_true (by kernel_rfl)) ?_
            simp only [Try.results3, Try.ntmps3]
            repeat' (first | (with_reducible first | refine awp_seq ?_ | refine awp_blockS ?_ | refine awp_blockC ?_ | refine awp_blockR ?_ | refine awp_skip ?_ | refine awp_ret ?_ | refine awp_exit ?_ | refine awp_region ?_ | refine awp_regionS (id := 5) [0, 1, 2, 3, 4, 5, 6, 7, 8] [9, 10] [[], [], [], [], [], [], [], [.new 0], []] [[.new 0], []] mixed (by decide +kernel) ?_ | refine awp_regionD (id := 8) 10 mixed (by decide +kernel) ?_ | refine awp_regionS (id := 9) [0, 1, 2, 3, 4, 5, 6, 7, 8, 9] [10, 11] [[], [], [], [], [], [], [], [], [.new 0], []] [[.new 0], []] mixed (by decide +kernel) ?_ | refine awp_regionS (id := 12) [0, 1, 2, 3, 4, 5, 6, 7, 8, 9, 10, 11, 12] [13, 14] [[], [], [], [], [], [], [], [], [], [], [], [.new 0], []] [[.new 0], []] mixed (by decide +kernel) ?_ | refine awp_condM ?_ | refine And.intro ?_ ?_ | apply gQ_merge | apply gE_merge | exact EqV_w | exact EqE_w | exact EqV_ptr | exact EqE_ptr | exact EqV_msl | exact EqE_msl | exact EqV_agg | exact EqE_agg | exact EqV_fn | exact EqE_fn | exact EqV_gd | exact EqE_gd | refine gM_splitN ?_ ?_ | refine gM_split ?_ ?_ |  refine condM_splitDN ?_ ?_ | refine condM_splitD ?_ ?_ | refine condM_splitN ?_ ?_ | refine condM_split ?_ ?_ | refine condM_any ?_ ?_ | refine cw (c0) ?_ | refine cw (c1) ?_ | refine cw (c2) ?_ | refine cw (c3) ?_ | refine cw (c4) ?_ | refine cw (c5) ?_ | refine cw (c6) ?_ | intro _) | (simp [*, hj, hjI, hab]) | (refine cw_eq (c0) ?_ ?_; (· (simp [*]; done))) | (refine cw_eq (c1) ?_ ?_; (· (simp [*]; done))) | (refine cw_eq (c2) ?_ ?_; (· (simp [*]; done))) | (refine cw_eq (c3) ?_ ?_; (· (simp [*]; done))) | (refine cw_eq (c4) ?_ ?_; (· (simp [*]; done))) | (refine cw_eq (c5) ?_ ?_; (· (simp [*]; done))) | (refine cw_eq (c6) ?_ ?_; (· (simp [*]; done))))
            all_goals first | exact inI64 (by omega) (by omega) | omega | skip
          | true =>
            have hb : (brokenS m p (timesS m p noDelay) (seatsS p)).2 = false := by unfold keepsS at hk; simpa using hk
            rw [hb] at c6
            have c7 := costOf_ok m hm p hp h
            have hC : costS p (timesS m p noDelay) = costP m p := rfl
            rw [hC] at c7
            have c8 := without_ok m hm p hp h (j : Int)
            have hW : withoutS p (j : Int) = (woS p j, 0) := by
              unfold withoutS
              rw [show winB (j : Int) 0 ((p.riders.length : Int) - 1) = true from winB_iff.2 ⟨by omega, by omega⟩, if_pos rfl, Int.toNat_natCast, hab, if_neg (by decide)]
            rw [hW] at c8
            have hq := woS_in hp hj
            have hqo : (checkS m (woS p j)).2 = 0 := by rw [checkS_zero ok.1 (woS_ok po hj hab)]
            have c9 := rPlanErr_c m hm (woS p j) hq
            rw [hqo] at c9
            have hql : (woS p j).stops.length < 5000 := by have h3 := woF_len (j : Int) p.stops; show (woF (j : Int) p.stops).length < 5000; omega
            have c10 := bestInsert_c m hm (woS p j) hq hql (nth p.riders j) (hp.names j hj)
            obtain ⟨x, hx, hxc⟩ := again_best po hj hab hk
            have hB : bestE m (woS p j) (nth p.riders j) = (x, 0) := by
              unfold bestE offE
              rw [if_pos hqo, again_new po hj hab, if_pos rfl, hx]; rfl
            rw [hB] at c10
            unfold planP bestEP at *
            clear hB hx hql hqo hq hW hC hb hk hm hp hs hs16 h ok po
            generalize woS p j = q at *
            generalize costP m p = C at *
            generalize brokenS m p (timesS m p noDelay) (seatsS p) = b at *
            have hr8 := cRiders_drop p.riders j hj
            generalize hR : nth p.riders j = R at *
            have hab' : R.aboard = false := hab
            unfold aMap aPlan cPlan cRider at *
            refine realcall_intro Try.func3 (by kernel_rfl) rfl (Nat.le_of_ble_eq_true (by kernel_rfl)) ?_
            simp only [Try.results3, Try.ntmps3]
            repeat' (first | (with_reducible first | refine awp_seq ?_ | refine awp_blockS ?_ | refine awp_blockC ?_ | refine awp_blockR ?_ | refine awp_skip ?_ | refine awp_ret ?_ | refine awp_exit ?_ | refine awp_region ?_ | refine awp_regionS (id := 5) [0, 1, 2, 3, 4, 5, 6, 7, 8] [9, 10] [[], [], [], [], [], [], [], [.new 0], []] [[.new 0], []] mixed (by decide +kernel) ?_ | refine awp_regionD (id := 8) 10 mixed (by decide +kernel) ?_ | refine awp_regionS (id := 9) [0, 1, 2, 3, 4, 5, 6, 7, 8, 9] [10, 11] [[], [], [], [], [], [], [], [], [.new 0], []] [[.new 0], []] mixed (by decide +kernel) ?_ | refine awp_regionS (id := 12) [0, 1, 2, 3, 4, 5, 6, 7, 8, 9, 10, 11, 12] [13, 14] [[], [], [], [], [], [], [], [], [], [], [], [.new 0], []] [[.new 0], []] mixed (by decide +kernel) ?_ | refine awp_condM ?_ | refine And.intro ?_ ?_ | apply gQ_merge | apply gE_merge | exact EqV_w | exact EqE_w | exact EqV_ptr | exact EqE_ptr | exact EqV_msl | exact EqE_msl | exact EqV_agg | exact EqE_agg | exact EqV_fn | exact EqE_fn | exact EqV_gd | exact EqE_gd | refine gM_splitN ?_ ?_ | refine gM_split ?_ ?_ |  refine condM_splitDN ?_ ?_ | refine condM_splitD ?_ ?_ | refine condM_splitN ?_ ?_ | refine condM_split ?_ ?_ | refine condM_any ?_ ?_ | refine cw (c0) ?_ | refine cw (c1) ?_ | refine cw (c2) ?_ | refine cw (c3) ?_ | refine cw (c4) ?_ | refine cw (c5) ?_ | refine cw (c6) ?_ | refine cw (c7) ?_ | refine cw (c8) ?_ | refine cw (c9) ?_ | refine cw (c10) ?_ | intro _) | (simp [*, hj, hjI, hR, hab', hxc, cRider]) | (refine cw_eq (c0) ?_ ?_; (· (simp [*]; done))) | (refine cw_eq (c1) ?_ ?_; (· (simp [*]; done))) | (refine cw_eq (c2) ?_ ?_; (· (simp [*]; done))) | (refine cw_eq (c3) ?_ ?_; (· (simp [*]; done))) | (refine cw_eq (c4) ?_ ?_; (· (simp [*]; done))) | (refine cw_eq (c5) ?_ ?_; (· (simp [*]; done))) | (refine cw_eq (c6) ?_ ?_; (· (simp [*]; done))) | (refine cw_eq (c7) ?_ ?_; (· (simp [*]; done))) | (refine cw_eq (c8) ?_ ?_; (· (simp [*]; done))) | (refine cw_eq (c9) ?_ ?_; (· (simp [*]; done))) | (refine cw_eq (c10) ?_ ?_; (· (simp [*]; done))))
            all_goals first | exact inI64 (by omega) (by omega) | omega | skip
    · generalize (checkS m p).2 = e at *
      have h : ¬ e = 0 := h
      clear hm hp hs hs16
      unfold aMap aPlan cPlan at *
      refine realcall_intro Try.func3 (by kernel_rfl) rfl (Nat.le_of_ble_eq_true (by kernel_rfl)) ?_
      simp only [Try.results3, Try.ntmps3]
      repeat' (first | (with_reducible first | refine awp_seq ?_ | refine awp_blockS ?_ | refine awp_blockC ?_ | refine awp_blockR ?_ | refine awp_skip ?_ | refine awp_ret ?_ | refine awp_exit ?_ | refine awp_region ?_ | refine awp_regionS (id := 5) [0, 1, 2, 3, 4, 5, 6, 7, 8] [9, 10] [[], [], [], [], [], [], [], [.new 0], []] [[.new 0], []] mixed (by decide +kernel) ?_ | refine awp_regionD (id := 8) 10 mixed (by decide +kernel) ?_ | refine awp_regionS (id := 9) [0, 1, 2, 3, 4, 5, 6, 7, 8, 9] [10, 11] [[], [], [], [], [], [], [], [], [.new 0], []] [[.new 0], []] mixed (by decide +kernel) ?_ | refine awp_regionS (id := 12) [0, 1, 2, 3, 4, 5, 6, 7, 8, 9, 10, 11, 12] [13, 14] [[], [], [], [], [], [], [], [], [], [], [], [.new 0], []] [[.new 0], []] mixed (by decide +kernel) ?_ | refine awp_condM ?_ | refine And.intro ?_ ?_ | apply gQ_merge | apply gE_merge | exact EqV_w | exact EqE_w | exact EqV_ptr | exact EqE_ptr | exact EqV_msl | exact EqE_msl | exact EqV_agg | exact EqE_agg | exact EqV_fn | exact EqE_fn | exact EqV_gd | exact EqE_gd | refine gM_splitN ?_ ?_ | refine gM_split ?_ ?_ |  refine condM_splitDN ?_ ?_ | refine condM_splitD ?_ ?_ | refine condM_splitN ?_ ?_ | refine condM_split ?_ ?_ | refine condM_any ?_ ?_ | refine cw (c0) ?_ | refine cw (c1) ?_ | refine cw (c2) ?_ | intro _) | (simp [*, h]) | (refine cw_eq (c0) ?_ ?_; (· (simp [*]; done))) | (refine cw_eq (c1) ?_ ?_; (· (simp [*]; done))) | (refine cw_eq (c2) ?_ ?_; (· (simp [*]; done))))
end Go.Proofs.Ytchpdgojiibjcaa
