/- Contracts of functions for this claim: lemmas alone. -/
import Derived.Test.YtiialcomflggcaaP108
import Derived.Test.YtiialcomflggcaaP52
set_option linter.unusedSimpArgs false
set_option linter.unusedVariables false
namespace Go.Proofs.Ytiialcomflggcaa
open Go Go.Fi
set_option maxRecDepth 20000

section
variable {m : Grid} {p : Plan} {r : Rider}
/-- no order, no offer -/
theorem least_none (po : PlanOk m p) (hn : newE m p r = 0) {i o : Nat} (hio : i < o) (ho : o ≤ p.stops.length + 1)
    (h : bestOrd (KS m (insS p r i o)) (CS m (insS p r i o)) (insS p r i o).riders (insS p r i o).stops.length [] = none) : bestS m p r = none := by
  have hb := bestOrd_best (KS m (insS p r i o)) (CS m (insS p r i o)) (insS p r i o).riders (insS p r i o).stops.length []
  rw [h] at hb
  rcases bestS_cases (m := m) (p := p) (r := r) with ⟨h1, _⟩ | ⟨x, h1, h2, _⟩
  · exact h1
  · exfalso
    obtain ⟨a, b, hab, hbl, hk, rfl⟩ := mem_offers.1 h2
    have hin := orders_of (insS_ok po hn hio ho) (insS_ok po hn hab hbl) rfl
    have hf : keepsS m (insS p r a b) = false := hb _ hin
    rw [hk] at hf; cases hf
/-- the best order costs no more than the best offer -/
theorem least_some (po : PlanOk m p) (hn : newE m p r = 0) {i o : Nat} (hio : i < o) (ho : o ≤ p.stops.length + 1) {q : List Stop} {c : Int}
    (h : bestOrd (KS m (insS p r i o)) (CS m (insS p r i o)) (insS p r i o).riders (insS p r i o).stops.length [] = some (q, c)) :
    q ∈ ordersS (insS p r i o).riders (insS p r i o).stops.length [] ∧ keepsS m (withS (insS p r i o) q) = true ∧ c = costP m (withS (insS p r i o) q) ∧ ∀ x, bestS m p r = some x → c ≤ x.2.2 := by
  have hb := bestOrd_best (KS m (insS p r i o)) (CS m (insS p r i o)) (insS p r i o).riders (insS p r i o).stops.length []
  rw [h] at hb
  obtain ⟨b1, b2, b3, b4⟩ := hb
  refine ⟨b1, b2, b3, fun x hx => ?_⟩
  rcases bestS_cases (m := m) (p := p) (r := r) with ⟨h1, _⟩ | ⟨y, h1, h2, _⟩
  · rw [h1] at hx; cases hx
  · rw [h1] at hx
    injection hx with hx
    subst hx
    obtain ⟨a, b, hab, hbl, hk, rfl⟩ := mem_offers.1 h2
    have hin := orders_of (insS_ok po hn hio ho) (insS_ok po hn hab hbl) rfl
    have hc : CS m (insS p r i o) (insS p r a b).stops = costP m (insS p r a b) := rfl
    have := b4 _ hin hk
    rw [hc] at this
    show c ≤ costP m (insS p r a b)
    omega
end
theorem withS_in {p : Plan} (hp : PlanIn p) {q : List Stop} (h : q.length < 10000) : PlanIn (withS p q) := ⟨hp.riders, h, hp.names⟩
set_option maxHeartbeats 16000000 in
theorem shareOrderLeast_c (m : Grid) (p : Plan) (r : Rider) : RealCall Try.prog 4 [aMap m, aPlan p, .agg (cRider r)] (.bool true) true := by
  have c0 := awake_c
  have c1 := small_c m p
  cases hs : smallB m p with
  | false =>
    rw [hs] at c1
    unfold aMap aPlan cPlan cRider at *
    refine realcall_intro Try.func4 (by kernel_rfl) rfl (Nat.le_of_ble_eq_true (by kernel_rfl)) ?_
    simp only [Try.results4, Try.ntmps4]
    repeat' (first | (with_reducible first | refine awp_seq ?_ | refine awp_blockS ?_ | refine awp_blockC ?_ | refine awp_blockR ?_ | refine awp_skip ?_ | refine awp_ret ?_ | refine awp_exit ?_ | refine awp_region ?_ | refine awp_regionS (id := 5) [0, 1, 2, 3, 4, 5, 6, 7, 8, 9] [10, 11] [[], [], [], [], [], [], [], [], [.new 0], []] [[.new 0], []] mixed (by decide +kernel) ?_ | refine awp_regionS (id := 6) [0, 1, 2, 3, 4, 5, 6, 7, 8, 9, 10, 11, 12, 13, 14, 15, 16, 17] [18, 19] [[], [], [], [], [], [], [], [], [], [], [], [], [], [], [], [], [.new 0], []] [[.new 0], []] mixed (by decide +kernel) ?_ | refine awp_regionS (id := 9) [0, 1, 2, 3, 4, 5, 6, 7, 8, 9] [10, 11, 12] [[], [], [], [], [], [], [], [.new 0], [.new 0], []] [[.new 0], [], []] mixed (by decide +kernel) ?_ | refine awp_regionS (id := 14) [0, 1, 2, 3, 4, 5, 6, 7, 8] [9, 10] [[], [], [], [], [], [], [], [.new 0], []] [[.new 0], []] mixed (by decide +kernel) ?_ | refine awp_regionD (id := 15) 9 mixed (by decide +kernel) ?_ | refine awp_condM ?_ | refine And.intro ?_ ?_ | apply gQ_merge | apply gE_merge | exact EqV_w | exact EqE_w | exact EqV_ptr | exact EqE_ptr | exact EqV_msl | exact EqE_msl | exact EqV_agg | exact EqE_agg | exact EqV_fn | exact EqE_fn | exact EqV_gd | exact EqE_gd | refine gM_splitN ?_ ?_ | refine gM_split ?_ ?_ |  refine condM_splitDN ?_ ?_ | refine condM_splitD ?_ ?_ | refine condM_splitN ?_ ?_ | refine condM_split ?_ ?_ | refine condM_any ?_ ?_ | refine cw (c0) ?_ | refine cw (c1) ?_ | intro _) | (simp [*]) | (refine cw_eq (c0) ?_ ?_; (· (simp [*]; done))) | (refine cw_eq (c1) ?_ ?_; (· (simp [*]; done))))
  | true =>
    rw [hs] at c1
    obtain ⟨hm, hp, hs16⟩ := small_in hs
    clear hs
    have hrl := hp.riders
    have hsl := hp.stops
    by_cases h2 : (2 : Int) < (p.riders.length : Int)
    · clear hm hp hs16
      unfold aMap aPlan cPlan cRider at *
      refine realcall_intro Try.func4 (by kernel_rfl) rfl (Nat.le_of_ble_eq_true (by kernel_rfl)) ?_
      simp only [Try.results4, Try.ntmps4]
      repeat' (first | (with_reducible first | refine awp_seq ?_ | refine awp_blockS ?_ | refine awp_blockC ?_ | refine awp_blockR ?_ | refine awp_skip ?_ | refine awp_ret ?_ | refine awp_exit ?_ | refine awp_region ?_ | refine awp_regionS (id := 5) [0, 1, 2, 3, 4, 5, 6, 7, 8, 9] [10, 11] [[], [], [], [], [], [], [], [], [.new 0], []] [[.new 0], []] mixed (by decide +kernel) ?_ | refine awp_regionS (id := 6) [0, 1, 2, 3, 4, 5, 6, 7, 8, 9, 10, 11, 12, 13, 14, 15, 16, 17] [18, 19] [[], [], [], [], [], [], [], [], [], [], [], [], [], [], [], [], [.new 0], []] [[.new 0], []] mixed (by decide +kernel) ?_ | refine awp_regionS (id := 9) [0, 1, 2, 3, 4, 5, 6, 7, 8, 9] [10, 11, 12] [[], [], [], [], [], [], [], [.new 0], [.new 0], []] [[.new 0], [], []] mixed (by decide +kernel) ?_ | refine awp_regionS (id := 14) [0, 1, 2, 3, 4, 5, 6, 7, 8] [9, 10] [[], [], [], [], [], [], [], [.new 0], []] [[.new 0], []] mixed (by decide +kernel) ?_ | refine awp_regionD (id := 15) 9 mixed (by decide +kernel) ?_ | refine awp_condM ?_ | refine And.intro ?_ ?_ | apply gQ_merge | apply gE_merge | exact EqV_w | exact EqE_w | exact EqV_ptr | exact EqE_ptr | exact EqV_msl | exact EqE_msl | exact EqV_agg | exact EqE_agg | exact EqV_fn | exact EqE_fn | exact EqV_gd | exact EqE_gd | refine gM_splitN ?_ ?_ | refine gM_split ?_ ?_ |  refine condM_splitDN ?_ ?_ | refine condM_splitD ?_ ?_ | refine condM_splitN ?_ ?_ | refine condM_split ?_ ?_ | refine condM_any ?_ ?_ | refine cw (c0) ?_ | refine cw (c1) ?_ | intro _) | (simp [*, h2]) | (refine cw_eq (c0) ?_ ?_; (· (simp [*]; done))) | (refine cw_eq (c1) ?_ ?_; (· (simp [*]; done))))
    by_cases hname : (20 : Int) < (r.name.size : Int)
    · clear hm hp hs16
      unfold aMap aPlan cPlan cRider at *
      refine realcall_intro Try.func4 (by kernel_rfl) rfl (Nat.le_of_ble_eq_true (by kernel_rfl)) ?_
      simp only [Try.results4, Try.ntmps4]
      repeat' (first | (with_reducible first | refine awp_seq ?_ | refine awp_blockS ?_ | refine awp_blockC ?_ | refine awp_blockR ?_ | refine awp_skip ?_ | refine awp_ret ?_ | refine awp_exit ?_ | refine awp_region ?_ | refine awp_regionS (id := 5) [0, 1, 2, 3, 4, 5, 6, 7, 8, 9] [10, 11] [[], [], [], [], [], [], [], [], [.new 0], []] [[.new 0], []] mixed (by decide +kernel) ?_ | refine awp_regionS (id := 6) [0, 1, 2, 3, 4, 5, 6, 7, 8, 9, 10, 11, 12, 13, 14, 15, 16, 17] [18, 19] [[], [], [], [], [], [], [], [], [], [], [], [], [], [], [], [], [.new 0], []] [[.new 0], []] mixed (by decide +kernel) ?_ | refine awp_regionS (id := 9) [0, 1, 2, 3, 4, 5, 6, 7, 8, 9] [10, 11, 12] [[], [], [], [], [], [], [], [.new 0], [.new 0], []] [[.new 0], [], []] mixed (by decide +kernel) ?_ | refine awp_regionS (id := 14) [0, 1, 2, 3, 4, 5, 6, 7, 8] [9, 10] [[], [], [], [], [], [], [], [.new 0], []] [[.new 0], []] mixed (by decide +kernel) ?_ | refine awp_regionD (id := 15) 9 mixed (by decide +kernel) ?_ | refine awp_condM ?_ | refine And.intro ?_ ?_ | apply gQ_merge | apply gE_merge | exact EqV_w | exact EqE_w | exact EqV_ptr | exact EqE_ptr | exact EqV_msl | exact EqE_msl | exact EqV_agg | exact EqE_agg | exact EqV_fn | exact EqE_fn | exact EqV_gd | exact EqE_gd | refine gM_splitN ?_ ?_ | refine gM_split ?_ ?_ |  refine condM_splitDN ?_ ?_ | refine condM_splitD ?_ ?_ | refine condM_splitN ?_ ?_ | refine condM_split ?_ ?_ | refine condM_any ?_ ?_ | refine cw (c0) ?_ | refine cw (c1) ?_ | intro _) | (simp [*, h2, hname]) | (refine cw_eq (c0) ?_ ?_; (· (simp [*]; done))) | (refine cw_eq (c1) ?_ ?_; (· (simp [*]; done))))
    have hnm : r.name.size < 1000000 := by omega
    have c2 := copyMap_c m hm
    have c3 := copyPlan_c p hp
    have c4 := rPlanErr_c m hm p hp
    by_cases h : (checkS m p).2 = 0
    · have c5 := rNewErr_c m hm p hp r hnm
      rw [h] at c4
      by_cases hn : newE m p r = 0
      · rw [hn] at c5
        have h1 := checkS_ok.1 h
        have hpl := h1.2.slen
        have c7 := bestInsert_c m hm p hp (by omega) r hnm
        have hoff : offE m p r = 0 := by unfold offE; rw [if_pos h]; exact hn
        unfold bestE at c7
        rw [if_pos hoff] at c7
        have hins : insertedS m p ⟨r, (p.stops.length : Int), (p.stops.length : Int) + 1⟩ = (insS p r p.stops.length (p.stops.length + 1), 0) := by
          have h2 : insE p ⟨r, (p.stops.length : Int), (p.stops.length : Int) + 1⟩ = 0 := by
            unfold insE
            rw [errU_zero (by decide), Bool.and_eq_true, winB_iff, winB_iff]
            dsimp only
            omega
          unfold insertedS insPlan
          dsimp only
          rw [hn, h2, show firstS [0, 0] = 0 from rfl, if_pos rfl]
          rfl
        have c8 := inserted_ok m hm p hp h ⟨r, (p.stops.length : Int), (p.stops.length : Int) + 1⟩ hnm
        rw [hins] at c8
        have hpq := insS_in hp hnm p.stops.length (p.stops.length + 1) (by omega) (by omega)
        have hqok := insS_ok h1.2 hn (Nat.lt_succ_self p.stops.length) (Nat.le_refl _)
        have hz2 : (checkS m (insS p r p.stops.length (p.stops.length + 1))).2 = 0 := by rw [checkS_zero h1.1 hqok]
        have c9 := rPlanErr_c m hm _ hpq
        rw [hz2] at c9
        have c10 := copyPlan_c _ hpq
        have hq4 : (insS p r p.stops.length (p.stops.length + 1)).riders.length ≤ 4 := by show (p.riders ++ [r]).length ≤ 4; simp; omega
        have c11 := bestOrder_ok m hm _ hpq hz2 hq4
        have L1 := least_none h1.2 hn (Nat.lt_succ_self p.stops.length) (Nat.le_refl _)
        have L2 := fun q c => least_some (q := q) (c := c) h1.2 hn (Nat.lt_succ_self p.stops.length) (Nat.le_refl _)
        generalize insS p r p.stops.length (p.stops.length + 1) = Q at *
        cases hR : bestOrd (KS m Q) (CS m Q) Q.riders Q.stops.length [] with
        | none =>
          rw [hR] at c11
          rw [L1 hR] at c7
          unfold bestP3 bestEP planP noPlan at *
          clear hR L1 L2 hz2 hqok hpq hins hoff h1 hn h hm hp hs16 hq4 hpl
          unfold aMap aPlan cPlan cRider cInsert at *
          refine realcall_intro Try.func4 (by kernel_rfl) rfl (Nat.le_of_ble_eq_true (by kernel_rfl)) ?_
          simp only [Try.results4, Try.ntmps4]
          repeat' (first | (with_reducible first | refine awp_seq ?_ | refine awp_blockS ?_ | refine awp_blockC ?_ | refine awp_blockR ?_ | refine awp_skip ?_ | refine awp_ret ?_ | refine awp_exit ?_ | refine awp_region ?_ | refine awp_regionS (id := 5) [0, 1, 2, 3, 4, 5, 6, 7, 8, 9] [10, 11] [[], [], [], [], [], [], [], [], [.new 0], []] [[.new 0], []] mixed (by decide +kernel) ?_ | refine awp_regionS (id := 6) [0, 1, 2, 3, 4, 5, 6, 7, 8, 9, 10, 11, 12, 13, 14, 15, 16, 17] [18, 19] [[], [], [], [], [], [], [], [], [], [], [], [], [], [], [], [], [.new 0], []] [[.new 0], []] mixed (by decide +kernel) ?_ | refine awp_regionS (id := 9) [0, 1, 2, 3, 4, 5, 6, 7, 8, 9] [10, 11, 12] [[], [], [], [], [], [], [], [.new 0], [.new 0], []] [[.new 0], [], []] mixed (by decide +kernel) ?_ | refine awp_regionS (id := 14) [0, 1, 2, 3, 4, 5, 6, 7, 8] [9, 10] [[], [], [], [], [], [], [], [.new 0], []] [[.new 0], []] mixed (by decide +kernel) ?_ | refine awp_regionD (id := 15) 9 mixed (by decide +kernel) ?_ | refine awp_condM ?_ | refine And.intro ?_ ?_ | apply gQ_merge | apply gE_merge | exact EqV_w | exact EqE_w | exact EqV_ptr | exact EqE_ptr | exact EqV_msl | exact EqE_msl | exact EqV_agg | exact EqE_agg | exact EqV_fn | exact EqE_fn | exact EqV_gd | exact EqE_gd | refine gM_splitN ?_ ?_ | refine gM_split ?_ ?_ |  refine condM_splitDN ?_ ?_ | refine condM_splitD ?_ ?_ | refine condM_splitN ?_ ?_ | refine condM_split ?_ ?_ | refine condM_any ?_ ?_ | refine cw (c0) ?_ | refine cw (c1) ?_ | refine cw (c2) ?_ | refine cw (c3) ?_ | refine cw (c4) ?_ | refine cw (c5) ?_ | refine cw (c7) ?_ | refine cw (c8) ?_ | refine cw (c9) ?_ | refine cw (c10) ?_ | refine cw (c11) ?_ | intro _) | (simp [*, h2, hname]) | (refine cw_eq (c0) ?_ ?_; (· (simp [*]; done))) | (refine cw_eq (c1) ?_ ?_; (· (simp [*]; done))) | (refine cw_eq (c2) ?_ ?_; (· (simp [*]; done))) | (refine cw_eq (c3) ?_ ?_; (· (simp [*]; done))) | (refine cw_eq (c4) ?_ ?_; (· (simp [*]; done))) | (refine cw_eq (c5) ?_ ?_; (· (simp [*]; done))) | (refine cw_eq (c7) ?_ ?_; (· (simp [*]; done))) | (refine cw_eq (c8) ?_ ?_; (· (simp [*]; done))) | (refine cw_eq (c9) ?_ ?_; (· (simp [*]; done))) | (refine cw_eq (c10) ?_ ?_; (· (simp [*]; done))) | (refine cw_eq (c11) ?_ ?_; (· (simp [*]; done))))
          all_goals try first | exact inI64 (by omega) (by omega) | omega
        | some y =>
          obtain ⟨q, c⟩ := y
          rw [hR] at c11
          obtain ⟨l1, l2, l3, l4⟩ := L2 q c hR
          have hyok := orders_ok hqok l1
          have hyin : PlanIn (withS Q q) := withS_in hpq (by have : q.length ≤ 12 := hyok.slen; omega)
          have hyz : (checkS m (withS Q q)).2 = 0 := by rw [checkS_zero h1.1 hyok]
          have c12 := rPlanErr_c m hm _ hyin
          rw [hyz] at c12
          have c13 := copyPlan_c _ hyin
          have c14 := firstBroken_ok m hm _ hyin hyz
          have c15 : RealCall Try.prog 19 [aMap m, aPlan (withS Q q)] (.tup [.int .i64 (costP m (withS Q q)), .int .i64 0]) true := costOf_ok m hm _ hyin hyz
          rw [← l3] at c15
          have hB : (brokenS m (withS Q q) (timesS m (withS Q q) noDelay) (seatsS (withS Q q))).2 = false := by rw [keepsS_false, l2]; rfl
          generalize brokenS m (withS Q q) (timesS m (withS Q q) noDelay) (seatsS (withS Q q)) = B at *
          obtain ⟨⟨b1, b2⟩, b⟩ := B
          dsimp only at hB
          subst hB
          unfold bestP3 bestEP planP brokE errUnless at *
          clear hR L1 L2 hz2 hqok hpq hins hoff h1 hn h hm hp hs16 hq4 hpl l1 l2 l3 hyok hyin hyz
          unfold aMap aPlan cPlan cRider cInsert at *
          simp only [withS_stops, withS_riders, withS_car] at c11 c12 c13 c14 c15
          cases hb : bestS m p r with
          | none =>
            rw [hb] at c7
            clear l4 hb
            refine realcall_intro Try.func4 (by kernel_rfl) rfl (Nat.le_of_ble_eq_true (by kernel_rfl)) ?_
            simp only [Try.results4, Try.ntmps4]
            repeat' (first | (with_reducible first | refine awp_seq ?_ | refine awp_blockS ?_ | refine awp_blockC ?_ | refine awp_blockR ?_ | refine awp_skip ?_ | refine awp_ret ?_ | refine awp_exit ?_ | refine awp_region ?_ | refine awp_regionS (id := 5) [0, 1, 2, 3, 4, 5, 6, 7, 8, 9] [10, 11] [[], [], [], [], [], [], [], [], [.new 0], []] [[.new 0], []] mixed (by decide +kernel) ?_ | refine awp_regionS (id := 6) [0, 1, 2, 3, 4, 5, 6, 7, 8, 9, 10, 11, 12, 13, 14, 15, 16, 17] [18, 19] [[], [], [], [], [], [], [], [], [], [], [], [], [], [], [], [], [.new 0], []] [[.new 0], []] mixed (by decide +kernel) ?_ | refine awp_regionS (id := 9) [0, 1, 2, 3, 4, 5, 6, 7, 8, 9] [10, 11, 12] [[], [], [], [], [], [], [], [.new 0], [.new 0], []] [[.new 0], [], []] mixed (by decide +kernel) ?_ | refine awp_regionS (id := 14) [0, 1, 2, 3, 4, 5, 6, 7, 8] [9, 10] [[], [], [], [], [], [], [], [.new 0], []] [[.new 0], []] mixed (by decide +kernel) ?_ | refine awp_regionD (id := 15) 9 mixed (by decide +kernel) ?_ | refine awp_condM ?_ | refine And.intro ?_ ?_ | apply gQ_merge | apply gE_merge | exact EqV_w | exact EqE_w | exact EqV_ptr | exact EqE_ptr | exact EqV_msl | exact EqE_msl | exact EqV_agg | exact EqE_agg | exact EqV_fn | exact EqE_fn | exact EqV_gd | exact EqE_gd | refine gM_splitN ?_ ?_ | refine gM_split ?_ ?_ |  refine condM_splitDN ?_ ?_ | refine condM_splitD ?_ ?_ | refine condM_splitN ?_ ?_ | refine condM_split ?_ ?_ | refine condM_any ?_ ?_ | refine cw (c0) ?_ | refine cw (c1) ?_ | refine cw (c2) ?_ | refine cw (c3) ?_ | refine cw (c4) ?_ | refine cw (c5) ?_ | refine cw (c7) ?_ | refine cw (c8) ?_ | refine cw (c9) ?_ | refine cw (c10) ?_ | refine cw (c11) ?_ | refine cw (c12) ?_ | refine cw (c13) ?_ | refine cw (c14) ?_ | refine cw (c15) ?_ | intro _) | (simp [*, h2, hname]) | (refine cw_eq (c0) ?_ ?_; (· (simp [*]; done))) | (refine cw_eq (c1) ?_ ?_; (· (simp [*]; done))) | (refine cw_eq (c2) ?_ ?_; (· (simp [*]; done))) | (refine cw_eq (c3) ?_ ?_; (· (simp [*]; done))) | (refine cw_eq (c4) ?_ ?_; (· (simp [*]; done))) | (refine cw_eq (c5) ?_ ?_; (· (simp [*]; done))) | (refine cw_eq (c7) ?_ ?_; (· (simp [*]; done))) | (refine cw_eq (c8) ?_ ?_; (· (simp [*]; done))) | (refine cw_eq (c9) ?_ ?_; (· (simp [*]; done))) | (refine cw_eq (c10) ?_ ?_; (· (simp [*]; done))) | (refine cw_eq (c11) ?_ ?_; (· (simp [*]; done))) | (refine cw_eq (c12) ?_ ?_; (· (simp [*]; done))) | (refine cw_eq (c13) ?_ ?_; (· (simp [*]; done))) | (refine cw_eq (c14) ?_ ?_; (· (simp [*]; done))) | (refine cw_eq (c15) ?_ ?_; (· (simp [*]; done))))
            all_goals try first | exact inI64 (by omega) (by omega) | omega
          | some x =>
            rw [hb] at c7
            have hle := l4 x hb
            clear l4 hb
            refine realcall_intro Try.func4 (by kernel_rfl) rfl (Nat.le_of_ble_eq_true (by kernel_rfl)) ?_
            simp only [Try.results4, Try.ntmps4]
            repeat' (first | (with_reducible first | refine awp_seq ?_ | refine awp_blockS ?_ | refine awp_blockC ?_ | refine awp_blockR ?_ | refine awp_skip ?_ | refine awp_ret ?_ | refine awp_exit ?_ | refine awp_region ?_ | refine awp_regionS (id := 5) [0, 1, 2, 3, 4, 5, 6, 7, 8, 9] [10, 11] [[], [], [], [], [], [], [], [], [.new 0], []] [[.new 0], []] mixed (by decide +kernel) ?_ | refine awp_regionS (id := 6) [0, 1, 2, 3, 4, 5, 6, 7, 8, 9, 10, 11, 12, 13, 14, 15, 16, 17] [18, 19] [[], [], [], [], [], [], [], [], [], [], [], [], [], [], [], [], [.new 0], []] [[.new 0], []] mixed (by decide +kernel) ?_ | refine awp_regionS (id := 9) [0, 1, 2, 3, 4, 5, 6, 7, 8, 9] [10, 11, 12] [[], [], [], [], [], [], [], [.new 0], [.new 0], []] [[.new 0], [], []] mixed (by decide +kernel) ?_ | refine awp_regionS (id := 14) [0, 1, 2, 3, 4, 5, 6, 7, 8] [9, 10] [[], [], [], [], [], [], [], [.new 0], []] [[.new 0], []] mixed (by decide +kernel) ?_ | refine awp_regionD (id := 15) 9 mixed (by decide +kernel) ?_ | refine awp_condM ?_ | refine And.intro ?_ ?_ | apply gQ_merge | apply gE_merge | exact EqV_w | exact EqE_w | exact EqV_ptr | exact EqE_ptr | exact EqV_msl | exact EqE_msl | exact EqV_agg | exact EqE_agg | exact EqV_fn | exact EqE_fn | exact EqV_gd | exact EqE_gd | refine gM_splitN ?_ ?_ | refine gM_split ?_ ?_ |  refine condM_splitDN ?_ ?_ | refine condM_splitD ?_ ?_ | refine condM_splitN ?_ ?_ | refine condM_split ?_ ?_ | refine condM_any ?_ ?_ | refine cw (c0) ?_ | refine cw (c1) ?_ | refine cw (c2) ?_ | refine cw (c3) ?_ | refine cw (c4) ?_ | refine cw (c5) ?_ | refine cw (c7) ?_ | refine cw (c8) ?_ | refine cw (c9) ?_ | refine cw (c10) ?_ | refine cw (c11) ?_ | refine cw (c12) ?_ | refine cw (c13) ?_ | refine cw (c14) ?_ | refine cw (c15) ?_ | intro _) | (simp [*, h2, hname, hle]) | (refine cw_eq (c0) ?_ ?_; (· (simp [*]; done))) | (refine cw_eq (c1) ?_ ?_; (· (simp [*]; done))) | (refine cw_eq (c2) ?_ ?_; (· (simp [*]; done))) | (refine cw_eq (c3) ?_ ?_; (· (simp [*]; done))) | (refine cw_eq (c4) ?_ ?_; (· (simp [*]; done))) | (refine cw_eq (c5) ?_ ?_; (· (simp [*]; done))) | (refine cw_eq (c7) ?_ ?_; (· (simp [*]; done))) | (refine cw_eq (c8) ?_ ?_; (· (simp [*]; done))) | (refine cw_eq (c9) ?_ ?_; (· (simp [*]; done))) | (refine cw_eq (c10) ?_ ?_; (· (simp [*]; done))) | (refine cw_eq (c11) ?_ ?_; (· (simp [*]; done))) | (refine cw_eq (c12) ?_ ?_; (· (simp [*]; done))) | (refine cw_eq (c13) ?_ ?_; (· (simp [*]; done))) | (refine cw_eq (c14) ?_ ?_; (· (simp [*]; done))) | (refine cw_eq (c15) ?_ ?_; (· (simp [*]; done))))
            all_goals try first | exact inI64 (by omega) (by omega) | omega
      · generalize newE m p r = E at *
        clear h hm hp hs16
        unfold aMap aPlan cPlan cRider at *
        refine realcall_intro Try.func4 (by kernel_rfl) rfl (Nat.le_of_ble_eq_true (by kernel_rfl)) ?_
        simp only [Try.results4, Try.ntmps4]
        repeat' (first | (with_reducible first | refine awp_seq ?_ | refine awp_blockS ?_ | refine awp_blockC ?_ | refine awp_blockR ?_ | refine awp_skip ?_ | refine awp_ret ?_ | refine awp_exit ?_ | refine awp_region ?_ | refine awp_regionS (id := 5) [0, 1, 2, 3, 4, 5, 6, 7, 8, 9] [10, 11] [[], [], [], [], [], [], [], [], [.new 0], []] [[.new 0], []] mixed (by decide +kernel) ?_ | refine awp_regionS (id := 6) [0, 1, 2, 3, 4, 5, 6, 7, 8, 9, 10, 11, 12, 13, 14, 15, 16, 17] [18, 19] [[], [], [], [], [], [], [], [], [], [], [], [], [], [], [], [], [.new 0], []] [[.new 0], []] mixed (by decide +kernel) ?_ | refine awp_regionS (id := 9) [0, 1, 2, 3, 4, 5, 6, 7, 8, 9] [10, 11, 12] [[], [], [], [], [], [], [], [.new 0], [.new 0], []] [[.new 0], [], []] mixed (by decide +kernel) ?_ | refine awp_regionS (id := 14) [0, 1, 2, 3, 4, 5, 6, 7, 8] [9, 10] [[], [], [], [], [], [], [], [.new 0], []] [[.new 0], []] mixed (by decide +kernel) ?_ | refine awp_regionD (id := 15) 9 mixed (by decide +kernel) ?_ | refine awp_condM ?_ | refine And.intro ?_ ?_ | apply gQ_merge | apply gE_merge | exact EqV_w | exact EqE_w | exact EqV_ptr | exact EqE_ptr | exact EqV_msl | exact EqE_msl | exact EqV_agg | exact EqE_agg | exact EqV_fn | exact EqE_fn | exact EqV_gd | exact EqE_gd | refine gM_splitN ?_ ?_ | refine gM_split ?_ ?_ |  refine condM_splitDN ?_ ?_ | refine condM_splitD ?_ ?_ | refine condM_splitN ?_ ?_ | refine condM_split ?_ ?_ | refine condM_any ?_ ?_ | refine cw (c0) ?_ | refine cw (c1) ?_ | refine cw (c2) ?_ | refine cw (c3) ?_ | refine cw (c4) ?_ | refine cw (c5) ?_ | intro _) | (simp [*, h2, hname, hn]) | (refine cw_eq (c0) ?_ ?_; (· (simp [*]; done))) | (refine cw_eq (c1) ?_ ?_; (· (simp [*]; done))) | (refine cw_eq (c2) ?_ ?_; (· (simp [*]; done))) | (refine cw_eq (c3) ?_ ?_; (· (simp [*]; done))) | (refine cw_eq (c4) ?_ ?_; (· (simp [*]; done))) | (refine cw_eq (c5) ?_ ?_; (· (simp [*]; done))))
    · generalize (checkS m p).2 = E at *
      have h : ¬ E = 0 := h
      clear hm hp hs16
      unfold aMap aPlan cPlan cRider at *
      refine realcall_intro Try.func4 (by kernel_rfl) rfl (Nat.le_of_ble_eq_true (by kernel_rfl)) ?_
      simp only [Try.results4, Try.ntmps4]
      repeat' (first | (with_reducible first | refine awp_seq ?_ | refine awp_blockS ?_ | refine awp_blockC ?_ | refine awp_blockR ?_ | refine awp_skip ?_ | refine awp_ret ?_ | refine awp_exit ?_ | refine awp_region ?_ | refine awp_regionS (id := 5) [0, 1, 2, 3, 4, 5, 6, 7, 8, 9] [10, 11] [[], [], [], [], [], [], [], [], [.new 0], []] [[.new 0], []] mixed (by decide +kernel) ?_ | refine awp_regionS (id := 6) [0, 1, 2, 3, 4, 5, 6, 7, 8, 9, 10, 11, 12, 13, 14, 15, 16, 17] [18, 19] [[], [], [], [], [], [], [], [], [], [], [], [], [], [], [], [], [.new 0], []] [[.new 0], []] mixed (by decide +kernel) ?_ | refine awp_regionS (id := 9) [0, 1, 2, 3, 4, 5, 6, 7, 8, 9] [10, 11, 12] [[], [], [], [], [], [], [], [.new 0], [.new 0], []] [[.new 0], [], []] mixed (by decide +kernel) ?_ | refine awp_regionS (id := 14) [0, 1, 2, 3, 4, 5, 6, 7, 8] [9, 10] [[], [], [], [], [], [], [], [.new 0], []] [[.new 0], []] mixed (by decide +kernel) ?_ | refine awp_regionD (id := 15) 9 mixed (by decide +kernel) ?_ | refine awp_condM ?_ | refine And.intro ?_ ?_ | apply gQ_merge | apply gE_merge | exact EqV_w | exact EqE_w | exact EqV_ptr | exact EqE_ptr | exact EqV_msl | exact EqE_msl | exact EqV_agg | exact EqE_agg | exact EqV_fn | exact EqE_fn | exact EqV_gd | exact EqE_gd | refine gM_splitN ?_ ?_ | refine gM_split ?_ ?_ |  refine condM_splitDN ?_ ?_ | refine condM_splitD ?_ ?_ | refine condM_splitN ?_ ?_ | refine condM_split ?_ ?_ | refine condM_any ?_ ?_ | refine cw (c0) ?_ | refine cw (c1) ?_ | refine cw (c2) ?_ | refine cw (c3) ?_ | refine cw (c4) ?_ | intro _) | (simp [*, h2, hname, h]) | (refine cw_eq (c0) ?_ ?_; (· (simp [*]; done))) | (refine cw_eq (c1) ?_ ?_; (· (simp [*]; done))) | (refine cw_eq (c2) ?_ ?_; (· (simp [*]; done))) | (refine cw_eq (c3) ?_ ?_; (· (simp [*]; done))) | (refine cw_eq (c4) ?_ ?_; (· (simp [*]; done))))
end Go.Proofs.Ytiialcomflggcaa

