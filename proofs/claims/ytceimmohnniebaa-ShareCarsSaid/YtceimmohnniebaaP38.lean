/- Contracts of functions for this claim: lemmas alone. -/
import Derived.Test.YtceimmohnniebaaP31
import Derived.Test.YtceimmohnniebaaP33
import Derived.Test.YtceimmohnniebaaP34
set_option linter.unusedSimpArgs false
set_option linter.unusedVariables false
namespace Go.Proofs.Ytceimmohnniebaa
open Go Go.Fi

theorem winB_true {r : Int} {n : Nat} (h : winB r 0 ((n : Int) - 1) = true) : ∃ j : Nat, r = (j : Int) ∧ j < n := by
  unfold winB at h
  simp only [Bool.and_eq_true, decide_eq_true_eq] at h
  exact ⟨r.toNat, by omega, by omega⟩
theorem brokR_false : ∀ o : Option (Int × Int), (brokR o).2 = false → (brokR o).1 = (0, 0)
  | none, _ => rfl
  | some _, h => by cases h
set_option maxHeartbeats 8000000 in
theorem shareRides_c (m : Grid) (p : Plan) (r : Int) : RealCall Try.prog 6 [aMap m, aPlan p, .int .i64 r] (.bool true) true := by
  have c0 := awake_c
  have c1 := small_c m p
  cases hs : smallB m p with
  | false =>
    rw [hs] at c1
    unfold aMap aPlan cPlan at *
    refine realcall_intro Try.func6 (by kernel_rfl) rfl (Nat.le_of_ble_eq_true (by kernel_rfl)) ?_
    simp only [Try.results6, Try.ntmps6]
    repeat' (first | (with_reducible first | refine awp_seq ?_ | refine awp_blockS ?_ | refine awp_blockC ?_ | refine awp_blockR ?_ | refine awp_skip ?_ | refine awp_ret ?_ | refine awp_exit ?_ | refine awp_region ?_ | refine awp_regionS (id := 5) [0, 1, 2, 3, 4, 5, 6, 7, 8, 9] [10, 11] [[], [], [], [], [], [], [], [], [.new 0], []] [[.new 0], []] mixed (by decide +kernel) ?_ | refine awp_regionS (id := 6) [0, 1, 2, 3, 4, 5, 6, 7, 8] [9, 10] [[], [], [], [], [], [], [], [.new 0], []] [[.new 0], []] mixed (by decide +kernel) ?_ | refine awp_regionD (id := 13) 10 mixed (by decide +kernel) ?_ | refine awp_condM ?_ | refine And.intro ?_ ?_ | apply gQ_merge | apply gE_merge | exact EqV_w | exact EqE_w | exact EqV_ptr | exact EqE_ptr | exact EqV_msl | exact EqE_msl | exact EqV_agg | exact EqE_agg | exact EqV_fn | exact EqE_fn | exact EqV_gd | exact EqE_gd | refine gM_splitN ?_ ?_ | refine gM_split ?_ ?_ |  refine condM_splitDN ?_ ?_ | refine condM_splitD ?_ ?_ | refine condM_splitN ?_ ?_ | refine condM_split ?_ ?_ | refine condM_any ?_ ?_ | refine cw (c0) ?_ | refine cw (c1) ?_ | intro _) | (simp [*]) | (refine cw_eq (c0) ?_ ?_; (· (simp [*]; done))) | (refine cw_eq (c1) ?_ ?_; (· (simp [*]; done))))
  | true =>
    rw [hs] at c1
    obtain ⟨hm, hp, _⟩ := small_in hs
    have c2 := copyMap_c m hm
    have c3 := copyPlan_c p hp
    have c4 := rPlanErr_c m hm p hp
    by_cases h : (checkS m p).2 = 0
    · have h1 := checkS_ok.1 h
      have ok := h1.2.tour h1.1 hp.stops
      have c5 := rideOf_ok m hm p hp h r
      have c6 := firstBroken_ok m hm p hp h
      have c7 := rWithin_c r 0 ((p.riders.length : Int) - 1)
      have c9 := rFirstBroken_c m p ok
      have hrl := hp.riders
      unfold brokE brokP brokQ rideP rideE at *
      rw [h] at c4
      have hB : (brokenS m p (timesS m p noDelay) (seatsS p)).2 = false → (brokenS m p (timesS m p noDelay) (seatsS p)).1 = (0, 0) := brokR_false _
      generalize brokenS m p (timesS m p noDelay) (seatsS p) = B at *
      cases hw : winB r 0 ((p.riders.length : Int) - 1) with
      | true =>
        obtain ⟨j, rfl, hj⟩ := winB_true hw
        have c8 := rRideOf_c m p ok j (h1.2.rides hj)
        rw [hw] at c5 c7
        rw [if_pos rfl, Int.toNat_natCast] at c5
        generalize rideS m p (timesS m p noDelay) j = R at *
        obtain ⟨⟨b1, b2⟩, b⟩ := B
        obtain ⟨r1, r2⟩ := R
        clear h h1 ok hm hp hs hw hj
        unfold aMap aPlan cPlan at *
        cases b
        · obtain ⟨rfl, rfl⟩ : b1 = 0 ∧ b2 = 0 := by
            have := hB rfl
            injection this with e1 e2
            exact ⟨e1, e2⟩
          clear hB
          refine realcall_intro Try.func6 (by kernel_rfl) rfl (Nat.le_of_ble_eq_true (by kernel_rfl)) ?_
          simp only [Try.results6, Try.ntmps6]
          repeat' (first | (with_reducible first | refine awp_seq ?_ | refine awp_blockS ?_ | refine awp_blockC ?_ | refine awp_blockR ?_ | refine awp_skip ?_ | refine awp_ret ?_ | refine awp_exit ?_ | refine awp_region ?_ | refine awp_regionS (id := 5) [0, 1, 2, 3, 4, 5, 6, 7, 8, 9] [10, 11] [[], [], [], [], [], [], [], [], [.new 0], []] [[.new 0], []] mixed (by decide +kernel) ?_ | refine awp_regionS (id := 6) [0, 1, 2, 3, 4, 5, 6, 7, 8] [9, 10] [[], [], [], [], [], [], [], [.new 0], []] [[.new 0], []] mixed (by decide +kernel) ?_ | refine awp_regionD (id := 13) 10 mixed (by decide +kernel) ?_ | refine awp_condM ?_ | refine And.intro ?_ ?_ | apply gQ_merge | apply gE_merge | exact EqV_w | exact EqE_w | exact EqV_ptr | exact EqE_ptr | exact EqV_msl | exact EqE_msl | exact EqV_agg | exact EqE_agg | exact EqV_fn | exact EqE_fn | exact EqV_gd | exact EqE_gd | refine gM_splitN ?_ ?_ | refine gM_split ?_ ?_ |  refine condM_splitDN ?_ ?_ | refine condM_splitD ?_ ?_ | refine condM_splitN ?_ ?_ | refine condM_split ?_ ?_ | refine condM_any ?_ ?_ | refine cw (c0) ?_ | refine cw (c1) ?_ | refine cw (c2) ?_ | refine cw (c3) ?_ | refine cw (c4) ?_ | refine cw (c5) ?_ | refine cw (c6) ?_ | refine cw (c7) ?_ | refine cw (c8) ?_ | refine cw (c9) ?_ | intro _) | (simp [*, errUnless]) | (refine cw_eq (c0) ?_ ?_; (· (simp [*]; done))) | (refine cw_eq (c1) ?_ ?_; (· (simp [*]; done))) | (refine cw_eq (c2) ?_ ?_; (· (simp [*]; done))) | (refine cw_eq (c3) ?_ ?_; (· (simp [*]; done))) | (refine cw_eq (c4) ?_ ?_; (· (simp [*]; done))) | (refine cw_eq (c5) ?_ ?_; (· (simp [*]; done))) | (refine cw_eq (c6) ?_ ?_; (· (simp [*]; done))) | (refine cw_eq (c7) ?_ ?_; (· (simp [*]; done))) | (refine cw_eq (c8) ?_ ?_; (· (simp [*]; done))) | (refine cw_eq (c9) ?_ ?_; (· (simp [*]; done))))
          all_goals exact inI64 (by omega) (by omega)
        · clear hB
          refine realcall_intro Try.func6 (by kernel_rfl) rfl (Nat.le_of_ble_eq_true (by kernel_rfl)) ?_
          simp only [Try.results6, Try.ntmps6]
          repeat' (first | (with_reducible first | refine awp_seq ?_ | refine awp_blockS ?_ | refine awp_blockC ?_ | refine awp_blockR ?_ | refine awp_skip ?_ | refine awp_ret ?_ | refine awp_exit ?_ | refine awp_region ?_ | refine awp_regionS (id := 5) [0, 1, 2, 3, 4, 5, 6, 7, 8, 9] [10, 11] [[], [], [], [], [], [], [], [], [.new 0], []] [[.new 0], []] mixed (by decide +kernel) ?_ | refine awp_regionS (id := 6) [0, 1, 2, 3, 4, 5, 6, 7, 8] [9, 10] [[], [], [], [], [], [], [], [.new 0], []] [[.new 0], []] mixed (by decide +kernel) ?_ | refine awp_regionD (id := 13) 10 mixed (by decide +kernel) ?_ | refine awp_condM ?_ | refine And.intro ?_ ?_ | apply gQ_merge | apply gE_merge | exact EqV_w | exact EqE_w | exact EqV_ptr | exact EqE_ptr | exact EqV_msl | exact EqE_msl | exact EqV_agg | exact EqE_agg | exact EqV_fn | exact EqE_fn | exact EqV_gd | exact EqE_gd | refine gM_splitN ?_ ?_ | refine gM_split ?_ ?_ |  refine condM_splitDN ?_ ?_ | refine condM_splitD ?_ ?_ | refine condM_splitN ?_ ?_ | refine condM_split ?_ ?_ | refine condM_any ?_ ?_ | refine cw (c0) ?_ | refine cw (c1) ?_ | refine cw (c2) ?_ | refine cw (c3) ?_ | refine cw (c4) ?_ | refine cw (c5) ?_ | refine cw (c6) ?_ | refine cw (c7) ?_ | refine cw (c8) ?_ | refine cw (c9) ?_ | intro _) | (simp [*, errUnless]) | (refine cw_eq (c0) ?_ ?_; (· (simp [*]; done))) | (refine cw_eq (c1) ?_ ?_; (· (simp [*]; done))) | (refine cw_eq (c2) ?_ ?_; (· (simp [*]; done))) | (refine cw_eq (c3) ?_ ?_; (· (simp [*]; done))) | (refine cw_eq (c4) ?_ ?_; (· (simp [*]; done))) | (refine cw_eq (c5) ?_ ?_; (· (simp [*]; done))) | (refine cw_eq (c6) ?_ ?_; (· (simp [*]; done))) | (refine cw_eq (c7) ?_ ?_; (· (simp [*]; done))) | (refine cw_eq (c8) ?_ ?_; (· (simp [*]; done))) | (refine cw_eq (c9) ?_ ?_; (· (simp [*]; done))))
          all_goals exact inI64 (by omega) (by omega)
      | false =>
        rw [hw] at c5 c7
        rw [if_neg (by decide)] at c5
        obtain ⟨⟨b1, b2⟩, b⟩ := B
        clear h h1 ok hm hp hs hw
        unfold aMap aPlan cPlan at *
        cases b
        · obtain ⟨rfl, rfl⟩ : b1 = 0 ∧ b2 = 0 := by
            have := hB rfl
            injection this with e1 e2
            exact ⟨e1, e2⟩
          clear hB
          refine realcall_intro Try.func6 (by kernel_rfl) rfl (Nat.le_of_ble_eq_true (by kernel_rfl)) ?_
          simp only [Try.results6, Try.ntmps6]
          repeat' (first | (with_reducible first | refine awp_seq ?_ | refine awp_blockS ?_ | refine awp_blockC ?_ | refine awp_blockR ?_ | refine awp_skip ?_ | refine awp_ret ?_ | refine awp_exit ?_ | refine awp_region ?_ | refine awp_regionS (id := 5) [0, 1, 2, 3, 4, 5, 6, 7, 8, 9] [10, 11] [[], [], [], [], [], [], [], [], [.new 0], []] [[.new 0], []] mixed (by decide +kernel) ?_ | refine awp_regionS (id := 6) [0, 1, 2, 3, 4, 5, 6, 7, 8] [9, 10] [[], [], [], [], [], [], [], [.new 0], []] [[.new 0], []] mixed (by decide +kernel) ?_ | refine awp_regionD (id := 13) 10 mixed (by decide +kernel) ?_ | refine awp_condM ?_ | refine And.intro ?_ ?_ | apply gQ_merge | apply gE_merge | exact EqV_w | exact EqE_w | exact EqV_ptr | exact EqE_ptr | exact EqV_msl | exact EqE_msl | exact EqV_agg | exact EqE_agg | exact EqV_fn | exact EqE_fn | exact EqV_gd | exact EqE_gd | refine gM_splitN ?_ ?_ | refine gM_split ?_ ?_ |  refine condM_splitDN ?_ ?_ | refine condM_splitD ?_ ?_ | refine condM_splitN ?_ ?_ | refine condM_split ?_ ?_ | refine condM_any ?_ ?_ | refine cw (c0) ?_ | refine cw (c1) ?_ | refine cw (c2) ?_ | refine cw (c3) ?_ | refine cw (c4) ?_ | refine cw (c5) ?_ | refine cw (c6) ?_ | refine cw (c7) ?_ | refine cw (c9) ?_ | intro _) | (simp [*, errUnless]) | (refine cw_eq (c0) ?_ ?_; (· (simp [*]; done))) | (refine cw_eq (c1) ?_ ?_; (· (simp [*]; done))) | (refine cw_eq (c2) ?_ ?_; (· (simp [*]; done))) | (refine cw_eq (c3) ?_ ?_; (· (simp [*]; done))) | (refine cw_eq (c4) ?_ ?_; (· (simp [*]; done))) | (refine cw_eq (c5) ?_ ?_; (· (simp [*]; done))) | (refine cw_eq (c6) ?_ ?_; (· (simp [*]; done))) | (refine cw_eq (c7) ?_ ?_; (· (simp [*]; done))) | (refine cw_eq (c9) ?_ ?_; (· (simp [*]; done))))
          all_goals exact inI64 (by omega) (by omega)
        · clear hB
          refine realcall_intro Try.func6 (by kernel_rfl) rfl (Nat.le_of_ble_eq_true (by kernel_rfl)) ?_
          simp only [Try.results6, Try.ntmps6]
          repeat' (first | (with_reducible first | refine awp_seq ?_ | refine awp_blockS ?_ | refine awp_blockC ?_ | refine awp_blockR ?_ | refine awp_skip ?_ | refine awp_ret ?_ | refine awp_exit ?_ | refine awp_region ?_ | refine awp_regionS (id := 5) [0, 1, 2, 3, 4, 5, 6, 7, 8, 9] [10, 11] [[], [], [], [], [], [], [], [], [.new 0], []] [[.new 0], []] mixed (by decide +kernel) ?_ | refine awp_regionS (id := 6) [0, 1, 2, 3, 4, 5, 6, 7, 8] [9, 10] [[], [], [], [], [], [], [], [.new 0], []] [[.new 0], []] mixed (by decide +kernel) ?_ | refine awp_regionD (id := 13) 10 mixed (by decide +kernel) ?_ | refine awp_condM ?_ | refine And.intro ?_ ?_ | apply gQ_merge | apply gE_merge | exact EqV_w | exact EqE_w | exact EqV_ptr | exact EqE_ptr | exact EqV_msl | exact EqE_msl | exact EqV_agg | exact EqE_agg | exact EqV_fn | exact EqE_fn | exact EqV_gd | exact EqE_gd | refine gM_splitN ?_ ?_ | refine gM_split ?_ ?_ |  refine condM_splitDN ?_ ?_ | refine condM_splitD ?_ ?_ | refine condM_splitN ?_ ?_ | refine condM_split ?_ ?_ | refine condM_any ?_ ?_ | refine cw (c0) ?_ | refine cw (c1) ?_ | refine cw (c2) ?_ | refine cw (c3) ?_ | refine cw (c4) ?_ | refine cw (c5) ?_ | refine cw (c6) ?_ | refine cw (c7) ?_ | refine cw (c9) ?_ | intro _) | (simp [*, errUnless]) | (refine cw_eq (c0) ?_ ?_; (· (simp [*]; done))) | (refine cw_eq (c1) ?_ ?_; (· (simp [*]; done))) | (refine cw_eq (c2) ?_ ?_; (· (simp [*]; done))) | (refine cw_eq (c3) ?_ ?_; (· (simp [*]; done))) | (refine cw_eq (c4) ?_ ?_; (· (simp [*]; done))) | (refine cw_eq (c5) ?_ ?_; (· (simp [*]; done))) | (refine cw_eq (c6) ?_ ?_; (· (simp [*]; done))) | (refine cw_eq (c7) ?_ ?_; (· (simp [*]; done))) | (refine cw_eq (c9) ?_ ?_; (· (simp [*]; done))))
          all_goals exact inI64 (by omega) (by omega)
    · have c5 := rideOf_bad m hm p hp h r
      have c6 := firstBroken_bad m hm p hp h
      unfold rideP at *
      generalize (checkS m p).2 = e at *
      clear hm hp hs
      unfold aMap aPlan cPlan at *
      have h : ¬ e = 0 := h
      refine realcall_intro Try.func6 (by kernel_rfl) rfl (Nat.le_of_ble_eq_true (by kernel_rfl)) ?_
      simp only [Try.results6, Try.ntmps6]
      repeat' (first | (with_reducible first | refine awp_seq ?_ | refine awp_blockS ?_ | refine awp_blockC ?_ | refine awp_blockR ?_ | refine awp_skip ?_ | refine awp_ret ?_ | refine awp_exit ?_ | refine awp_region ?_ | refine awp_regionS (id := 5) [0, 1, 2, 3, 4, 5, 6, 7, 8, 9] [10, 11] [[], [], [], [], [], [], [], [], [.new 0], []] [[.new 0], []] mixed (by decide +kernel) ?_ | refine awp_regionS (id := 6) [0, 1, 2, 3, 4, 5, 6, 7, 8] [9, 10] [[], [], [], [], [], [], [], [.new 0], []] [[.new 0], []] mixed (by decide +kernel) ?_ | refine awp_regionD (id := 13) 10 mixed (by decide +kernel) ?_ | refine awp_condM ?_ | refine And.intro ?_ ?_ | apply gQ_merge | apply gE_merge | exact EqV_w | exact EqE_w | exact EqV_ptr | exact EqE_ptr | exact EqV_msl | exact EqE_msl | exact EqV_agg | exact EqE_agg | exact EqV_fn | exact EqE_fn | exact EqV_gd | exact EqE_gd | refine gM_splitN ?_ ?_ | refine gM_split ?_ ?_ |  refine condM_splitDN ?_ ?_ | refine condM_splitD ?_ ?_ | refine condM_splitN ?_ ?_ | refine condM_split ?_ ?_ | refine condM_any ?_ ?_ | refine cw (c0) ?_ | refine cw (c1) ?_ | refine cw (c2) ?_ | refine cw (c3) ?_ | refine cw (c4) ?_ | refine cw (c5) ?_ | refine cw (c6) ?_ | intro _) | (simp [*, h]) | (refine cw_eq (c0) ?_ ?_; (· (simp [*]; done))) | (refine cw_eq (c1) ?_ ?_; (· (simp [*]; done))) | (refine cw_eq (c2) ?_ ?_; (· (simp [*]; done))) | (refine cw_eq (c3) ?_ ?_; (· (simp [*]; done))) | (refine cw_eq (c4) ?_ ?_; (· (simp [*]; done))) | (refine cw_eq (c5) ?_ ?_; (· (simp [*]; done))) | (refine cw_eq (c6) ?_ ?_; (· (simp [*]; done))))
end Go.Proofs.Ytceimmohnniebaa
