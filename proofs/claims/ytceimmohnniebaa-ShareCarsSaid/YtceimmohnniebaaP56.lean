/- Contracts of functions for this claim: lemmas alone. -/
import Derived.Test.YtceimmohnniebaaP55
import Derived.Test.YtceimmohnniebaaP38
import Derived.Test.YtceimmohnniebaaP36
set_option linter.unusedSimpArgs false
set_option linter.unusedVariables false
namespace Go.Proofs.Ytceimmohnniebaa
open Go Go.Fi
set_option maxRecDepth 20000

set_option maxHeartbeats 16000000 in
theorem shareChanges_c (m : Grid) (p : Plan) (x : Change) : RealCall Try.prog 10 [aMap m, aPlan p, .agg (cChange x)] (.bool true) true := by
  have c0 := awake_c
  have c1 := small_c m p
  obtain ⟨xr, x⟩ := x
  cases hs : smallB m p with
  | false =>
    rw [hs] at c1
    unfold aMap aPlan cPlan cChange cInsert at *
    refine realcall_intro Try.func10 (by kernel_rfl) rfl (Nat.le_of_ble_eq_true (by kernel_rfl)) ?_
    simp only [Try.results10, Try.ntmps10]
    repeat' (first | (with_reducible first | refine awp_seq ?_ | refine awp_blockS ?_ | refine awp_blockC ?_ | refine awp_blockR ?_ | refine awp_skip ?_ | refine awp_ret ?_ | refine awp_exit ?_ | refine awp_region ?_ | refine awp_regionS (id := 5) [0, 1, 2, 3, 4, 5, 6, 7, 8, 9, 10] [11, 12] [[], [], [], [], [], [], [], [], [], [.new 0], []] [[.new 0], []] mixed (by decide +kernel) ?_ | refine awp_regionS (id := 6) [0, 1, 2, 3, 4, 5, 6, 7, 8, 9, 10] [11, 12] [[], [], [], [], [], [], [], [], [], [.new 0], []] [[.new 0], []] mixed (by decide +kernel) ?_ | refine awp_regionD (id := 18) 11 mixed (by decide +kernel) ?_ | refine awp_condM ?_ | refine And.intro ?_ ?_ | apply gQ_merge | apply gE_merge | exact EqV_w | exact EqE_w | exact EqV_ptr | exact EqE_ptr | exact EqV_msl | exact EqE_msl | exact EqV_agg | exact EqE_agg | exact EqV_fn | exact EqE_fn | exact EqV_gd | exact EqE_gd | refine gM_splitN ?_ ?_ | refine gM_split ?_ ?_ |  refine condM_splitDN ?_ ?_ | refine condM_splitD ?_ ?_ | refine condM_splitN ?_ ?_ | refine condM_split ?_ ?_ | refine condM_any ?_ ?_ | refine cw (c0) ?_ | refine cw (c1) ?_ | intro _) | (simp [*]) | (refine cw_eq (c0) ?_ ?_; (· (simp [*]; done))) | (refine cw_eq (c1) ?_ ?_; (· (simp [*]; done))))
  | true =>
    rw [hs] at c1
    obtain ⟨hm, hp, hs16⟩ := small_in hs
    have c2 := copyMap_c m hm
    have c3 := copyPlan_c p hp
    have c4 := rPlanErr_c m hm p hp
    by_cases hname : (20 : Int) < (x.r.name.size : Int)
    · clear hm hp hs hs16
      unfold aMap aPlan cPlan cChange cInsert at *
      refine realcall_intro Try.func10 (by kernel_rfl) rfl (Nat.le_of_ble_eq_true (by kernel_rfl)) ?_
      simp only [Try.results10, Try.ntmps10]
      repeat' (first | (with_reducible first | refine awp_seq ?_ | refine awp_blockS ?_ | refine awp_blockC ?_ | refine awp_blockR ?_ | refine awp_skip ?_ | refine awp_ret ?_ | refine awp_exit ?_ | refine awp_region ?_ | refine awp_regionS (id := 5) [0, 1, 2, 3, 4, 5, 6, 7, 8, 9, 10] [11, 12] [[], [], [], [], [], [], [], [], [], [.new 0], []] [[.new 0], []] mixed (by decide +kernel) ?_ | refine awp_regionS (id := 6) [0, 1, 2, 3, 4, 5, 6, 7, 8, 9, 10] [11, 12] [[], [], [], [], [], [], [], [], [], [.new 0], []] [[.new 0], []] mixed (by decide +kernel) ?_ | refine awp_regionD (id := 18) 11 mixed (by decide +kernel) ?_ | refine awp_condM ?_ | refine And.intro ?_ ?_ | apply gQ_merge | apply gE_merge | exact EqV_w | exact EqE_w | exact EqV_ptr | exact EqE_ptr | exact EqV_msl | exact EqE_msl | exact EqV_agg | exact EqE_agg | exact EqV_fn | exact EqE_fn | exact EqV_gd | exact EqE_gd | refine gM_splitN ?_ ?_ | refine gM_split ?_ ?_ |  refine condM_splitDN ?_ ?_ | refine condM_splitD ?_ ?_ | refine condM_splitN ?_ ?_ | refine condM_split ?_ ?_ | refine condM_any ?_ ?_ | refine cw (c0) ?_ | refine cw (c1) ?_ | intro _) | (simp [*, hname]) | (refine cw_eq (c0) ?_ ?_; (· (simp [*]; done))) | (refine cw_eq (c1) ?_ ?_; (· (simp [*]; done))))
    have hnm : x.r.name.size < 1000000 := by omega
    by_cases h : (checkS m p).2 = 0
    · have h1 := checkS_ok.1 h
      have c5 := without_ok m hm p hp h xr
      have c6 := inserted_ok m hm p hp h x hnm
      have c8 := rWithout_c p hp (fun i hi => (stopE_ok.1 (h1.2.stops i hi)).1.2) xr
      have c9 := rNewErr_c m hm p hp x.r hnm
      have c10 := rInsErr_c p hp x
      have hwl : (withoutS p xr).1.riders.length < 10000 ∧ (withoutS p xr).1.stops.length < 10000 := by
        have := hp.riders
        have := hp.stops
        unfold withoutS
        split
        · split
          · exact ⟨by decide, by decide⟩
          · have := woF_len ((xr.toNat : Nat) : Int) p.stops
            exact ⟨by show (p.riders.take _ ++ p.riders.drop _).length < _; rw [List.length_append, List.length_take, List.length_drop]; omega, by show (woF _ _).length < _; omega⟩
        · exact ⟨by decide, by decide⟩
      have c11 := same_c (withoutS p xr).1 (withoutS p xr).1 hwl.1 hwl.2
      have c7 := same_c noPlan noPlan (by decide) (by decide)
      rw [decide_eq_true rfl] at c7 c11
      rw [h] at c4
      by_cases hn : newE m p x.r = 0
      · by_cases hi : insE p x = 0
        · obtain ⟨i, o, e1, e2, hio, ho⟩ := insE_zero hi
          have hrl := h1.2.rl
          have c12 := rInserted_c p hp x.r i o hio ho
          have hI : insertedS m p x = (insS p x.r i o, 0) := by
            unfold insertedS insPlan
            rw [hn, hi, show firstS [0, 0] = 0 from rfl, if_pos rfl, e1, e2, Int.toNat_natCast, Int.toNat_natCast]
          rw [hI] at c6
          have hX : (⟨x.r, (i : Int), (o : Int)⟩ : Insert) = x := by rw [← e1, ← e2]
          rw [hX] at c12
          have c13 := same_c (insS p x.r i o) (insS p x.r i o) (by show (p.riders ++ [x.r]).length < _; rw [List.length_append]; simp; omega) (by rw [insS_stops_len]; omega)
          rw [decide_eq_true rfl] at c13
          rw [hn] at c9
          rw [hi] at c10
          generalize insS p x.r i o = q at *
          generalize withoutS p xr = W at *
          clear hI hX e1 e2 hio ho hn hi h h1 hm hp hs hs16 hwl hrl
          unfold planP aMap aPlan cPlan cChange cInsert cRider at *
          refine realcall_intro Try.func10 (by kernel_rfl) rfl (Nat.le_of_ble_eq_true (by kernel_rfl)) ?_
          simp only [Try.results10, Try.ntmps10]
          repeat' (first | (with_reducible first | refine awp_seq ?_ | refine awp_blockS ?_ | refine awp_blockC ?_ | refine awp_blockR ?_ | refine awp_skip ?_ | refine awp_ret ?_ | refine awp_exit ?_ | refine awp_region ?_ | refine awp_regionS (id := 5) [0, 1, 2, 3, 4, 5, 6, 7, 8, 9, 10] [11, 12] [[], [], [], [], [], [], [], [], [], [.new 0], []] [[.new 0], []] mixed (by decide +kernel) ?_ | refine awp_regionS (id := 6) [0, 1, 2, 3, 4, 5, 6, 7, 8, 9, 10] [11, 12] [[], [], [], [], [], [], [], [], [], [.new 0], []] [[.new 0], []] mixed (by decide +kernel) ?_ | refine awp_regionD (id := 18) 11 mixed (by decide +kernel) ?_ | refine awp_condM ?_ | refine And.intro ?_ ?_ | apply gQ_merge | apply gE_merge | exact EqV_w | exact EqE_w | exact EqV_ptr | exact EqE_ptr | exact EqV_msl | exact EqE_msl | exact EqV_agg | exact EqE_agg | exact EqV_fn | exact EqE_fn | exact EqV_gd | exact EqE_gd | refine gM_splitN ?_ ?_ | refine gM_split ?_ ?_ |  refine condM_splitDN ?_ ?_ | refine condM_splitD ?_ ?_ | refine condM_splitN ?_ ?_ | refine condM_split ?_ ?_ | refine condM_any ?_ ?_ | refine cw (c0) ?_ | refine cw (c1) ?_ | refine cw (c2) ?_ | refine cw (c3) ?_ | refine cw (c4) ?_ | refine cw (c5) ?_ | refine cw (c6) ?_ | refine cw (c8) ?_ | refine cw (c9) ?_ | refine cw (c10) ?_ | refine cw (c11) ?_ | refine cw (c12) ?_ | refine cw (c13) ?_ | intro _) | (simp [*, hname]) | (refine cw_eq (c0) ?_ ?_; (· (simp [*]; done))) | (refine cw_eq (c1) ?_ ?_; (· (simp [*]; done))) | (refine cw_eq (c2) ?_ ?_; (· (simp [*]; done))) | (refine cw_eq (c3) ?_ ?_; (· (simp [*]; done))) | (refine cw_eq (c4) ?_ ?_; (· (simp [*]; done))) | (refine cw_eq (c5) ?_ ?_; (· (simp [*]; done))) | (refine cw_eq (c6) ?_ ?_; (· (simp [*]; done))) | (refine cw_eq (c8) ?_ ?_; (· (simp [*]; done))) | (refine cw_eq (c9) ?_ ?_; (· (simp [*]; done))) | (refine cw_eq (c10) ?_ ?_; (· (simp [*]; done))) | (refine cw_eq (c11) ?_ ?_; (· (simp [*]; done))) | (refine cw_eq (c12) ?_ ?_; (· (simp [*]; done))) | (refine cw_eq (c13) ?_ ?_; (· (simp [*]; done))))
        · have hI : insertedS m p x = (noPlan, insE p x) := by
            unfold insertedS
            rw [hn]
            have : firstS [0, insE p x] = insE p x := by simp only [firstS]; rw [if_pos trivial, if_neg hi]
            rw [this, if_neg hi]
          rw [hI] at c6
          rw [hn] at c9
          generalize withoutS p xr = W at *
          generalize insE p x = E at *
          clear hI hn h h1 hm hp hs hs16 hwl
          unfold planP noPlan aMap aPlan cPlan cChange cInsert cRider at *
          refine realcall_intro Try.func10 (by kernel_rfl) rfl (Nat.le_of_ble_eq_true (by kernel_rfl)) ?_
          simp only [Try.results10, Try.ntmps10]
          repeat' (first | (with_reducible first | refine awp_seq ?_ | refine awp_blockS ?_ | refine awp_blockC ?_ | refine awp_blockR ?_ | refine awp_skip ?_ | refine awp_ret ?_ | refine awp_exit ?_ | refine awp_region ?_ | refine awp_regionS (id := 5) [0, 1, 2, 3, 4, 5, 6, 7, 8, 9, 10] [11, 12] [[], [], [], [], [], [], [], [], [], [.new 0], []] [[.new 0], []] mixed (by decide +kernel) ?_ | refine awp_regionS (id := 6) [0, 1, 2, 3, 4, 5, 6, 7, 8, 9, 10] [11, 12] [[], [], [], [], [], [], [], [], [], [.new 0], []] [[.new 0], []] mixed (by decide +kernel) ?_ | refine awp_regionD (id := 18) 11 mixed (by decide +kernel) ?_ | refine awp_condM ?_ | refine And.intro ?_ ?_ | apply gQ_merge | apply gE_merge | exact EqV_w | exact EqE_w | exact EqV_ptr | exact EqE_ptr | exact EqV_msl | exact EqE_msl | exact EqV_agg | exact EqE_agg | exact EqV_fn | exact EqE_fn | exact EqV_gd | exact EqE_gd | refine gM_splitN ?_ ?_ | refine gM_split ?_ ?_ |  refine condM_splitDN ?_ ?_ | refine condM_splitD ?_ ?_ | refine condM_splitN ?_ ?_ | refine condM_split ?_ ?_ | refine condM_any ?_ ?_ | refine cw (c0) ?_ | refine cw (c1) ?_ | refine cw (c2) ?_ | refine cw (c3) ?_ | refine cw (c4) ?_ | refine cw (c5) ?_ | refine cw (c6) ?_ | refine cw (c7) ?_ | refine cw (c8) ?_ | refine cw (c9) ?_ | refine cw (c10) ?_ | refine cw (c11) ?_ | intro _) | (simp [*, hname, hi]) | (refine cw_eq (c0) ?_ ?_; (· (simp [*]; done))) | (refine cw_eq (c1) ?_ ?_; (· (simp [*]; done))) | (refine cw_eq (c2) ?_ ?_; (· (simp [*]; done))) | (refine cw_eq (c3) ?_ ?_; (· (simp [*]; done))) | (refine cw_eq (c4) ?_ ?_; (· (simp [*]; done))) | (refine cw_eq (c5) ?_ ?_; (· (simp [*]; done))) | (refine cw_eq (c6) ?_ ?_; (· (simp [*]; done))) | (refine cw_eq (c7) ?_ ?_; (· (simp [*]; done))) | (refine cw_eq (c8) ?_ ?_; (· (simp [*]; done))) | (refine cw_eq (c9) ?_ ?_; (· (simp [*]; done))) | (refine cw_eq (c10) ?_ ?_; (· (simp [*]; done))) | (refine cw_eq (c11) ?_ ?_; (· (simp [*]; done))))
      · have hI : insertedS m p x = (noPlan, newE m p x.r) := by
          unfold insertedS
          have : firstS [newE m p x.r, insE p x] = newE m p x.r := by simp only [firstS]; rw [if_neg hn]
          rw [this, if_neg hn]
        rw [hI] at c6
        generalize withoutS p xr = W at *
        generalize newE m p x.r = E at *
        clear hI h h1 hm hp hs hs16 hwl
        unfold planP noPlan aMap aPlan cPlan cChange cInsert cRider at *
        refine realcall_intro Try.func10 (by kernel_rfl) rfl (Nat.le_of_ble_eq_true (by kernel_rfl)) ?_
        simp only [Try.results10, Try.ntmps10]
        repeat' (first | (with_reducible first | refine awp_seq ?_ | refine awp_blockS ?_ | refine awp_blockC ?_ | refine awp_blockR ?_ | refine awp_skip ?_ | refine awp_ret ?_ | refine awp_exit ?_ | refine awp_region ?_ | refine awp_regionS (id := 5) [0, 1, 2, 3, 4, 5, 6, 7, 8, 9, 10] [11, 12] [[], [], [], [], [], [], [], [], [], [.new 0], []] [[.new 0], []] mixed (by decide +kernel) ?_ | refine awp_regionS (id := 6) [0, 1, 2, 3, 4, 5, 6, 7, 8, 9, 10] [11, 12] [[], [], [], [], [], [], [], [], [], [.new 0], []] [[.new 0], []] mixed (by decide +kernel) ?_ | refine awp_regionD (id := 18) 11 mixed (by decide +kernel) ?_ | refine awp_condM ?_ | refine And.intro ?_ ?_ | apply gQ_merge | apply gE_merge | exact EqV_w | exact EqE_w | exact EqV_ptr | exact EqE_ptr | exact EqV_msl | exact EqE_msl | exact EqV_agg | exact EqE_agg | exact EqV_fn | exact EqE_fn | exact EqV_gd | exact EqE_gd | refine gM_splitN ?_ ?_ | refine gM_split ?_ ?_ |  refine condM_splitDN ?_ ?_ | refine condM_splitD ?_ ?_ | refine condM_splitN ?_ ?_ | refine condM_split ?_ ?_ | refine condM_any ?_ ?_ | refine cw (c0) ?_ | refine cw (c1) ?_ | refine cw (c2) ?_ | refine cw (c3) ?_ | refine cw (c4) ?_ | refine cw (c5) ?_ | refine cw (c6) ?_ | refine cw (c7) ?_ | refine cw (c8) ?_ | refine cw (c9) ?_ | refine cw (c11) ?_ | intro _) | (simp [*, hname, hn]) | (refine cw_eq (c0) ?_ ?_; (· (simp [*]; done))) | (refine cw_eq (c1) ?_ ?_; (· (simp [*]; done))) | (refine cw_eq (c2) ?_ ?_; (· (simp [*]; done))) | (refine cw_eq (c3) ?_ ?_; (· (simp [*]; done))) | (refine cw_eq (c4) ?_ ?_; (· (simp [*]; done))) | (refine cw_eq (c5) ?_ ?_; (· (simp [*]; done))) | (refine cw_eq (c6) ?_ ?_; (· (simp [*]; done))) | (refine cw_eq (c7) ?_ ?_; (· (simp [*]; done))) | (refine cw_eq (c8) ?_ ?_; (· (simp [*]; done))) | (refine cw_eq (c9) ?_ ?_; (· (simp [*]; done))) | (refine cw_eq (c11) ?_ ?_; (· (simp [*]; done))))
    · have c5 := without_bad m hm p hp h xr
      have c6 := inserted_bad m hm p hp h x
      have c7 := same_c noPlan noPlan (by decide) (by decide)
      rw [decide_eq_true rfl] at c7
      generalize (checkS m p).2 = e at *
      have h : ¬ e = 0 := h
      clear hm hp hs
      unfold planP noPlan aMap aPlan cPlan cChange cInsert at *
      refine realcall_intro Try.func10 (by kernel_rfl) rfl (Nat.le_of_ble_eq_true (by kernel_rfl)) ?_
      simp only [Try.results10, Try.ntmps10]
      repeat' (first | (with_reducible first | refine awp_seq ?_ | refine awp_blockS ?_ | refine awp_blockC ?_ | refine awp_blockR ?_ | refine awp_skip ?_ | refine awp_ret ?_ | refine awp_exit ?_ | refine awp_region ?_ | refine awp_regionS (id := 5) [0, 1, 2, 3, 4, 5, 6, 7, 8, 9, 10] [11, 12] [[], [], [], [], [], [], [], [], [], [.new 0], []] [[.new 0], []] mixed (by decide +kernel) ?_ | refine awp_regionS (id := 6) [0, 1, 2, 3, 4, 5, 6, 7, 8, 9, 10] [11, 12] [[], [], [], [], [], [], [], [], [], [.new 0], []] [[.new 0], []] mixed (by decide +kernel) ?_ | refine awp_regionD (id := 18) 11 mixed (by decide +kernel) ?_ | refine awp_condM ?_ | refine And.intro ?_ ?_ | apply gQ_merge | apply gE_merge | exact EqV_w | exact EqE_w | exact EqV_ptr | exact EqE_ptr | exact EqV_msl | exact EqE_msl | exact EqV_agg | exact EqE_agg | exact EqV_fn | exact EqE_fn | exact EqV_gd | exact EqE_gd | refine gM_splitN ?_ ?_ | refine gM_split ?_ ?_ |  refine condM_splitDN ?_ ?_ | refine condM_splitD ?_ ?_ | refine condM_splitN ?_ ?_ | refine condM_split ?_ ?_ | refine condM_any ?_ ?_ | refine cw (c0) ?_ | refine cw (c1) ?_ | refine cw (c2) ?_ | refine cw (c3) ?_ | refine cw (c4) ?_ | refine cw (c5) ?_ | refine cw (c6) ?_ | refine cw (c7) ?_ | intro _) | (simp [*, hname, h]) | (refine cw_eq (c0) ?_ ?_; (· (simp [*]; done))) | (refine cw_eq (c1) ?_ ?_; (· (simp [*]; done))) | (refine cw_eq (c2) ?_ ?_; (· (simp [*]; done))) | (refine cw_eq (c3) ?_ ?_; (· (simp [*]; done))) | (refine cw_eq (c4) ?_ ?_; (· (simp [*]; done))) | (refine cw_eq (c5) ?_ ?_; (· (simp [*]; done))) | (refine cw_eq (c6) ?_ ?_; (· (simp [*]; done))) | (refine cw_eq (c7) ?_ ?_; (· (simp [*]; done))))
end Go.Proofs.Ytceimmohnniebaa
