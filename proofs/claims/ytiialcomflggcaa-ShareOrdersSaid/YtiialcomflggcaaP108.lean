/- Contracts of functions for this claim: lemmas alone. -/
import Derived.Test.YtiialcomflggcaaP107
import Derived.Test.YtiialcomflggcaaP33
set_option linter.unusedSimpArgs false
set_option linter.unusedVariables false
namespace Go.Proofs.Ytiialcomflggcaa
open Go Go.Fi
set_option maxRecDepth 20000

theorem rBestOrder_c (m : Grid) (hm : GridIn m) (mo : MapOk m) (p : Plan) (hp : PlanIn p) (ok : PlanOk m p) (x : Plan) (c : Int) (b : Bool) (e : docR m p p.stops.length [] = .tup [.agg (cPlan x), .int .i64 c, .bool b]) :
    RealCall Try.prog 12 [aMap m, aPlan p] (.tup [.agg (cPlan x), .int .i64 c, .bool b]) false := by
  have hsl := ok.slen
  have c0 : RealCall Try.prog 43 [aMap m, aPlan p, .sl 0 []] (docR m p p.stops.length []) false := order_c m hm mo p hp ok (by omega) p.stops.length [] (by simp) (fun q h => h)
  rw [e] at c0
  clear ok hp mo hm e
  unfold aMap aPlan cPlan at *
  refine realcall_intro Try.func12 (by kernel_rfl) rfl (Nat.le_of_ble_eq_true (by kernel_rfl)) ?_
  simp only [Try.results12, Try.ntmps12]
  repeat' (first | (with_reducible first | refine awp_seq ?_ | refine awp_blockS ?_ | refine awp_blockC ?_ | refine awp_blockR ?_ | refine awp_skip ?_ | refine awp_ret ?_ | refine awp_exit ?_ | refine awp_region ?_ | refine awp_condM ?_ | refine And.intro ?_ ?_ | apply gQ_merge | apply gE_merge | exact EqV_w | exact EqE_w | exact EqV_ptr | exact EqE_ptr | exact EqV_msl | exact EqE_msl | exact EqV_agg | exact EqE_agg | exact EqV_fn | exact EqE_fn | exact EqV_gd | exact EqE_gd | refine gM_splitN ?_ ?_ | refine gM_split ?_ ?_ |  refine condM_splitDN ?_ ?_ | refine condM_splitD ?_ ?_ | refine condM_splitN ?_ ?_ | refine condM_split ?_ ?_ | refine condM_any ?_ ?_ | refine cw (c0) ?_ | intro _) | (simp [*]) | (refine cw_eq (c0) ?_ ?_; (· (simp [*]; done))))
theorem best_le {m : Grid} {p : Plan} (ok : PlanOk m p) {q : List Stop} {c : Int} (h : bestOrd (KS m p) (CS m p) p.riders p.stops.length [] = some (q, c)) (hk : keepsS m p = true) : c ≤ costP m p := by
  have hb := bestOrd_best (KS m p) (CS m p) p.riders p.stops.length []
  rw [h] at hb
  have := hb.2.2.2 p.stops ok.in_orders hk
  have e : CS m p p.stops = costP m p := rfl
  rw [e] at this
  omega
set_option maxHeartbeats 8000000 in
theorem shareOrders_c (m : Grid) (p : Plan) : RealCall Try.prog 3 [aMap m, aPlan p] (.bool true) true := by
  have c0 := awake_c
  have c1 := small_c m p
  cases hs : smallB m p with
  | false =>
    rw [hs] at c1
    unfold aMap aPlan cPlan at *
    refine realcall_intro Try.func3 (by kernel_rfl) rfl (Nat.le_of_ble_eq_true (by kernel_rfl)) ?_
    simp only [Try.results3, Try.ntmps3]
    repeat' (first | (with_reducible first | refine awp_seq ?_ | refine awp_blockS ?_ | refine awp_blockC ?_ | refine awp_blockR ?_ | refine awp_skip ?_ | refine awp_ret ?_ | refine awp_exit ?_ | refine awp_region ?_ | refine awp_regionS (id := 5) [0, 1, 2, 3, 4, 5, 6, 7, 8, 9] [10, 11, 12] [[], [], [], [], [], [], [], [.new 0], [.new 0], []] [[.new 0], [], []] mixed (by decide +kernel) ?_ | refine awp_condM ?_ | refine And.intro ?_ ?_ | apply gQ_merge | apply gE_merge | exact EqV_w | exact EqE_w | exact EqV_ptr | exact EqE_ptr | exact EqV_msl | exact EqE_msl | exact EqV_agg | exact EqE_agg | exact EqV_fn | exact EqE_fn | exact EqV_gd | exact EqE_gd | refine gM_splitN ?_ ?_ | refine gM_split ?_ ?_ |  refine condM_splitDN ?_ ?_ | refine condM_splitD ?_ ?_ | refine condM_splitN ?_ ?_ | refine condM_split ?_ ?_ | refine condM_any ?_ ?_ | refine cw (c0) ?_ | refine cw (c1) ?_ | intro _) | (simp [*]) | (refine cw_eq (c0) ?_ ?_; (· (simp [*]; done))) | (refine cw_eq (c1) ?_ ?_; (· (simp [*]; done))))
  | true =>
    rw [hs] at c1
    obtain ⟨hm, hp, _⟩ := small_in hs
    clear hs
    have hrl := hp.riders
    have hsl := hp.stops
    by_cases h4 : p.riders.length = 4
    · clear hm hp
      unfold aMap aPlan cPlan at *
      refine realcall_intro Try.func3 (by kernel_rfl) rfl (Nat.le_of_ble_eq_true (by kernel_rfl)) ?_
      simp only [Try.results3, Try.ntmps3]
      repeat' (first | (with_reducible first | refine awp_seq ?_ | refine awp_blockS ?_ | refine awp_blockC ?_ | refine awp_blockR ?_ | refine awp_skip ?_ | refine awp_ret ?_ | refine awp_exit ?_ | refine awp_region ?_ | refine awp_regionS (id := 5) [0, 1, 2, 3, 4, 5, 6, 7, 8, 9] [10, 11, 12] [[], [], [], [], [], [], [], [.new 0], [.new 0], []] [[.new 0], [], []] mixed (by decide +kernel) ?_ | refine awp_condM ?_ | refine And.intro ?_ ?_ | apply gQ_merge | apply gE_merge | exact EqV_w | exact EqE_w | exact EqV_ptr | exact EqE_ptr | exact EqV_msl | exact EqE_msl | exact EqV_agg | exact EqE_agg | exact EqV_fn | exact EqE_fn | exact EqV_gd | exact EqE_gd | refine gM_splitN ?_ ?_ | refine gM_split ?_ ?_ |  refine condM_splitDN ?_ ?_ | refine condM_splitD ?_ ?_ | refine condM_splitN ?_ ?_ | refine condM_split ?_ ?_ | refine condM_any ?_ ?_ | refine cw (c0) ?_ | refine cw (c1) ?_ | intro _) | (simp [*, h4]) | (refine cw_eq (c0) ?_ ?_; (· (simp [*]; done))) | (refine cw_eq (c1) ?_ ?_; (· (simp [*]; done))))
    · have hI4 : ¬ (p.riders.length : Int) = 4 := by omega
      have c2 := copyMap_c m hm
      have c3 := copyPlan_c p hp
      have c4 := rPlanErr_c m hm p hp
      have c7 : RealCall Try.prog 11 [aPlan noPlan, aPlan noPlan] (.bool (decide (noPlan = noPlan))) true := same_c noPlan noPlan (by decide) (by decide)
      rw [decide_eq_true rfl] at c7
      by_cases h : (checkS m p).2 = 0
      · obtain ⟨mo, ok⟩ := checkS_ok.1 h
        by_cases hl : 4 < p.riders.length
        · have c5 := bestOrder_large m hm p hp h hl
          rw [h] at c4
          have hIl : (4 : Int) < (p.riders.length : Int) := by omega
          clear hm hp h mo ok
          unfold aMap aPlan cPlan noPlan at *
          refine realcall_intro Try.func3 (by kernel_rfl) rfl (Nat.le_of_ble_eq_true (by kernel_rfl)) ?_
          simp only [Try.results3, Try.ntmps3]
          repeat' (first | (with_reducible first | refine awp_seq ?_ | refine awp_blockS ?_ | refine awp_blockC ?_ | refine awp_blockR ?_ | refine awp_skip ?_ | refine awp_ret ?_ | refine awp_exit ?_ | refine awp_region ?_ | refine awp_regionS (id := 5) [0, 1, 2, 3, 4, 5, 6, 7, 8, 9] [10, 11, 12] [[], [], [], [], [], [], [], [.new 0], [.new 0], []] [[.new 0], [], []] mixed (by decide +kernel) ?_ | refine awp_condM ?_ | refine And.intro ?_ ?_ | apply gQ_merge | apply gE_merge | exact EqV_w | exact EqE_w | exact EqV_ptr | exact EqE_ptr | exact EqV_msl | exact EqE_msl | exact EqV_agg | exact EqE_agg | exact EqV_fn | exact EqE_fn | exact EqV_gd | exact EqE_gd | refine gM_splitN ?_ ?_ | refine gM_split ?_ ?_ |  refine condM_splitDN ?_ ?_ | refine condM_splitD ?_ ?_ | refine condM_splitN ?_ ?_ | refine condM_split ?_ ?_ | refine condM_any ?_ ?_ | refine cw (c0) ?_ | refine cw (c1) ?_ | refine cw (c2) ?_ | refine cw (c3) ?_ | refine cw (c4) ?_ | refine cw (c5) ?_ | refine cw (c7) ?_ | intro _) | (simp [*, hI4, hIl]) | (refine cw_eq (c0) ?_ ?_; (· (simp [*]; done))) | (refine cw_eq (c1) ?_ ?_; (· (simp [*]; done))) | (refine cw_eq (c2) ?_ ?_; (· (simp [*]; done))) | (refine cw_eq (c3) ?_ ?_; (· (simp [*]; done))) | (refine cw_eq (c4) ?_ ?_; (· (simp [*]; done))) | (refine cw_eq (c5) ?_ ?_; (· (simp [*]; done))) | (refine cw_eq (c7) ?_ ?_; (· (simp [*]; done))))
        · have hIl : ¬ (4 : Int) < (p.riders.length : Int) := by omega
          have c5 := bestOrder_ok m hm p hp h (by omega)
          have hD := ord_same (K := KS m p) (C := CS m p) ok.all p.stops.length []
          have to := ok.tour mo hsl
          have c8 := rKeeps_c m p to
          have c9 := rCostOf_c m p to.go
          rw [h] at c4
          have hle := fun (q : List Stop) (c : Int) => best_le (q := q) (c := c) ok
          cases hb : bestOrd (KS m p) (CS m p) p.riders p.stops.length [] with
          | none =>
            rw [hb] at c5 hD
            obtain ⟨x, c, e⟩ := docR_none hD
            have c6 := rBestOrder_c m hm mo p hp ok _ _ _ e
            clear hle to ok mo hm hp e h hD hb
            generalize keepsS m p = kk at *
            generalize costP m p = cc at *
            unfold bestP3 at *
            unfold aMap aPlan cPlan noPlan at *
            refine realcall_intro Try.func3 (by kernel_rfl) rfl (Nat.le_of_ble_eq_true (by kernel_rfl)) ?_
            simp only [Try.results3, Try.ntmps3]
            repeat' (first | (with_reducible first | refine awp_seq ?_ | refine awp_blockS ?_ | refine awp_blockC ?_ | refine awp_blockR ?_ | refine awp_skip ?_ | refine awp_ret ?_ | refine awp_exit ?_ | refine awp_region ?_ | refine awp_regionS (id := 5) [0, 1, 2, 3, 4, 5, 6, 7, 8, 9] [10, 11, 12] [[], [], [], [], [], [], [], [.new 0], [.new 0], []] [[.new 0], [], []] mixed (by decide +kernel) ?_ | refine awp_condM ?_ | refine And.intro ?_ ?_ | apply gQ_merge | apply gE_merge | exact EqV_w | exact EqE_w | exact EqV_ptr | exact EqE_ptr | exact EqV_msl | exact EqE_msl | exact EqV_agg | exact EqE_agg | exact EqV_fn | exact EqE_fn | exact EqV_gd | exact EqE_gd | refine gM_splitN ?_ ?_ | refine gM_split ?_ ?_ |  refine condM_splitDN ?_ ?_ | refine condM_splitD ?_ ?_ | refine condM_splitN ?_ ?_ | refine condM_split ?_ ?_ | refine condM_any ?_ ?_ | refine cw (c0) ?_ | refine cw (c1) ?_ | refine cw (c2) ?_ | refine cw (c3) ?_ | refine cw (c4) ?_ | refine cw (c5) ?_ | refine cw (c6) ?_ | refine cw (c7) ?_ | intro _) | (simp [*, hI4, hIl]) | (refine cw_eq (c0) ?_ ?_; (· (simp [*]; done))) | (refine cw_eq (c1) ?_ ?_; (· (simp [*]; done))) | (refine cw_eq (c2) ?_ ?_; (· (simp [*]; done))) | (refine cw_eq (c3) ?_ ?_; (· (simp [*]; done))) | (refine cw_eq (c4) ?_ ?_; (· (simp [*]; done))) | (refine cw_eq (c5) ?_ ?_; (· (simp [*]; done))) | (refine cw_eq (c6) ?_ ?_; (· (simp [*]; done))) | (refine cw_eq (c7) ?_ ?_; (· (simp [*]; done))))
          | some y =>
            obtain ⟨q, c⟩ := y
            rw [hb] at c5 hD
            have e := docR_some hD
            have c6 := rBestOrder_c m hm mo p hp ok _ _ _ e
            have hle2 := hle q c hb
            have hql : q.length < 10000 := by
              have h1 := bestOrd_best (KS m p) (CS m p) p.riders p.stops.length []
              rw [hb] at h1
              have h2 := (orders_ok ok h1.1).slen
              have h3 : q.length ≤ 12 := h2
              omega
            have c10 : RealCall Try.prog 11 [aPlan (withS p q), aPlan (withS p q)] (.bool (decide (withS p q = withS p q))) true := same_c (withS p q) (withS p q) hrl hql
            rw [decide_eq_true rfl] at c10
            clear hle to ok mo hm hp e h hD hb c7
            generalize costP m p = cc at *
            unfold bestP3 at *
            unfold aMap aPlan cPlan at *
            simp only [withS_stops, withS_riders, withS_car] at c5 c6 c10
            cases hk : keepsS m p with
            | false =>
              rw [hk] at c8
              clear hk hle2
              refine realcall_intro Try.func3 (by kernel_rfl) rfl (Nat.le_of_ble_eq_true (by kernel_rfl)) ?_
              simp only [Try.results3, Try.ntmps3]
              repeat' (first | (with_reducible first | refine awp_seq ?_ | refine awp_blockS ?_ | refine awp_blockC ?_ | refine awp_blockR ?_ | refine awp_skip ?_ | refine awp_ret ?_ | refine awp_exit ?_ | refine awp_region ?_ | refine awp_regionS (id := 5) [0, 1, 2, 3, 4, 5, 6, 7, 8, 9] [10, 11, 12] [[], [], [], [], [], [], [], [.new 0], [.new 0], []] [[.new 0], [], []] mixed (by decide +kernel) ?_ | refine awp_condM ?_ | refine And.intro ?_ ?_ | apply gQ_merge | apply gE_merge | exact EqV_w | exact EqE_w | exact EqV_ptr | exact EqE_ptr | exact EqV_msl | exact EqE_msl | exact EqV_agg | exact EqE_agg | exact EqV_fn | exact EqE_fn | exact EqV_gd | exact EqE_gd | refine gM_splitN ?_ ?_ | refine gM_split ?_ ?_ |  refine condM_splitDN ?_ ?_ | refine condM_splitD ?_ ?_ | refine condM_splitN ?_ ?_ | refine condM_split ?_ ?_ | refine condM_any ?_ ?_ | refine cw (c0) ?_ | refine cw (c1) ?_ | refine cw (c2) ?_ | refine cw (c3) ?_ | refine cw (c4) ?_ | refine cw (c5) ?_ | refine cw (c6) ?_ | refine cw (c10) ?_ | refine cw (c8) ?_ | refine cw (c9) ?_ | intro _) | (simp [*, hI4, hIl]) | (refine cw_eq (c0) ?_ ?_; (· (simp [*]; done))) | (refine cw_eq (c1) ?_ ?_; (· (simp [*]; done))) | (refine cw_eq (c2) ?_ ?_; (· (simp [*]; done))) | (refine cw_eq (c3) ?_ ?_; (· (simp [*]; done))) | (refine cw_eq (c4) ?_ ?_; (· (simp [*]; done))) | (refine cw_eq (c5) ?_ ?_; (· (simp [*]; done))) | (refine cw_eq (c6) ?_ ?_; (· (simp [*]; done))) | (refine cw_eq (c10) ?_ ?_; (· (simp [*]; done))) | (refine cw_eq (c8) ?_ ?_; (· (simp [*]; done))) | (refine cw_eq (c9) ?_ ?_; (· (simp [*]; done))))
            | true =>
              rw [hk] at c8
              have hcc := hle2 hk
              clear hk hle2
              refine realcall_intro Try.func3 (by kernel_rfl) rfl (Nat.le_of_ble_eq_true (by kernel_rfl)) ?_
              simp only [Try.results3, Try.ntmps3]
              repeat' (first | (with_reducible first | refine awp_seq ?_ | refine awp_blockS ?_ | refine awp_blockC ?_ | refine awp_blockR ?_ | refine awp_skip ?_ | refine awp_ret ?_ | refine awp_exit ?_ | refine awp_region ?_ | refine awp_regionS (id := 5) [0, 1, 2, 3, 4, 5, 6, 7, 8, 9] [10, 11, 12] [[], [], [], [], [], [], [], [.new 0], [.new 0], []] [[.new 0], [], []] mixed (by decide +kernel) ?_ | refine awp_condM ?_ | refine And.intro ?_ ?_ | apply gQ_merge | apply gE_merge | exact EqV_w | exact EqE_w | exact EqV_ptr | exact EqE_ptr | exact EqV_msl | exact EqE_msl | exact EqV_agg | exact EqE_agg | exact EqV_fn | exact EqE_fn | exact EqV_gd | exact EqE_gd | refine gM_splitN ?_ ?_ | refine gM_split ?_ ?_ |  refine condM_splitDN ?_ ?_ | refine condM_splitD ?_ ?_ | refine condM_splitN ?_ ?_ | refine condM_split ?_ ?_ | refine condM_any ?_ ?_ | refine cw (c0) ?_ | refine cw (c1) ?_ | refine cw (c2) ?_ | refine cw (c3) ?_ | refine cw (c4) ?_ | refine cw (c5) ?_ | refine cw (c6) ?_ | refine cw (c10) ?_ | refine cw (c8) ?_ | refine cw (c9) ?_ | intro _) | (simp [*, hI4, hIl, hcc]) | (refine cw_eq (c0) ?_ ?_; (· (simp [*]; done))) | (refine cw_eq (c1) ?_ ?_; (· (simp [*]; done))) | (refine cw_eq (c2) ?_ ?_; (· (simp [*]; done))) | (refine cw_eq (c3) ?_ ?_; (· (simp [*]; done))) | (refine cw_eq (c4) ?_ ?_; (· (simp [*]; done))) | (refine cw_eq (c5) ?_ ?_; (· (simp [*]; done))) | (refine cw_eq (c6) ?_ ?_; (· (simp [*]; done))) | (refine cw_eq (c10) ?_ ?_; (· (simp [*]; done))) | (refine cw_eq (c8) ?_ ?_; (· (simp [*]; done))) | (refine cw_eq (c9) ?_ ?_; (· (simp [*]; done))))
      · have c5 := bestOrder_bad m hm p hp h
        generalize (checkS m p).2 = E at *
        clear hm hp
        unfold aMap aPlan cPlan noPlan at *
        have h : ¬ E = 0 := h
        refine realcall_intro Try.func3 (by kernel_rfl) rfl (Nat.le_of_ble_eq_true (by kernel_rfl)) ?_
        simp only [Try.results3, Try.ntmps3]
        repeat' (first | (with_reducible first | refine awp_seq ?_ | refine awp_blockS ?_ | refine awp_blockC ?_ | refine awp_blockR ?_ | refine awp_skip ?_ | refine awp_ret ?_ | refine awp_exit ?_ | refine awp_region ?_ | refine awp_regionS (id := 5) [0, 1, 2, 3, 4, 5, 6, 7, 8, 9] [10, 11, 12] [[], [], [], [], [], [], [], [.new 0], [.new 0], []] [[.new 0], [], []] mixed (by decide +kernel) ?_ | refine awp_condM ?_ | refine And.intro ?_ ?_ | apply gQ_merge | apply gE_merge | exact EqV_w | exact EqE_w | exact EqV_ptr | exact EqE_ptr | exact EqV_msl | exact EqE_msl | exact EqV_agg | exact EqE_agg | exact EqV_fn | exact EqE_fn | exact EqV_gd | exact EqE_gd | refine gM_splitN ?_ ?_ | refine gM_split ?_ ?_ |  refine condM_splitDN ?_ ?_ | refine condM_splitD ?_ ?_ | refine condM_splitN ?_ ?_ | refine condM_split ?_ ?_ | refine condM_any ?_ ?_ | refine cw (c0) ?_ | refine cw (c1) ?_ | refine cw (c2) ?_ | refine cw (c3) ?_ | refine cw (c4) ?_ | refine cw (c5) ?_ | refine cw (c7) ?_ | intro _) | (simp [*, hI4, h]) | (refine cw_eq (c0) ?_ ?_; (· (simp [*]; done))) | (refine cw_eq (c1) ?_ ?_; (· (simp [*]; done))) | (refine cw_eq (c2) ?_ ?_; (· (simp [*]; done))) | (refine cw_eq (c3) ?_ ?_; (· (simp [*]; done))) | (refine cw_eq (c4) ?_ ?_; (· (simp [*]; done))) | (refine cw_eq (c5) ?_ ?_; (· (simp [*]; done))) | (refine cw_eq (c7) ?_ ?_; (· (simp [*]; done))))
end Go.Proofs.Ytiialcomflggcaa

