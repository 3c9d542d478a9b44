/- Contracts of functions for this claim: lemmas alone. -/
import Derived.Test.YtiialcomflggcaaDoorP18
import Derived.Test.YtiialcomflggcaaDoorLo
set_option linter.unusedSimpArgs false
set_option linter.unusedVariables false
namespace Go.Proofs.YtiialcomflggcaaDoor
open Go Go.Fi
set_option maxRecDepth 20000

/-- what is asked of a map, a plan and a rider for offers -/
structure OfferOk (m : Grid) (p : Plan) (r : Rider) : Prop where
  tour : TourOk m p
  pin : PlanIn p
  r : RiderOk m r
  rl : p.riders.length < 5000
  sl : p.stops.length < 5000
set_option maxHeartbeats 8000000 in
theorem appendSeq_c (m : Grid) (p : Plan) (r : Rider) (ok : OfferOk m p r) : NilCall Tryd.prog 60 (itP m p r) (.sl (offersS m p r).length (cOffers (offersS m p r))) true := by
  have hsl := ok.sl
  have hrl := ok.rl
  have ko := keep ok
  clear ok
  unfold itP
  refine nilcall_intro_r Tryd.func60 (by kernel_rfl) rfl (Nat.le_of_ble_eq_true (by kernel_rfl)) ?_
  simp only [Tryd.results60, Tryd.ntmps60]
  refine awr_seq (awr_of ?_)
  repeat' (first | (with_reducible first | refine awp_seq ?_ | refine awp_blockS ?_ | refine awp_blockC ?_ | refine awp_blockR ?_ | refine awp_skip ?_ | refine awp_ret ?_ | refine awp_exit ?_ | refine awp_region ?_ | refine awp_condM ?_ | refine And.intro ?_ ?_ | apply gQ_merge | apply gE_merge | exact EqV_w | exact EqE_w | exact EqV_ptr | exact EqE_ptr | exact EqV_msl | exact EqE_msl | exact EqV_agg | exact EqE_agg | exact EqV_fn | exact EqE_fn | exact EqV_gd | exact EqE_gd | refine gM_splitN ?_ ?_ | refine gM_split ?_ ?_ |  refine condM_splitDN ?_ ?_ | refine condM_splitD ?_ ?_ | refine condM_splitN ?_ ?_ | refine condM_split ?_ ?_ | refine condM_any ?_ ?_ | intro _) | (simp [*]))
  refine awr_seq (awr_seq (awr_of ?_))
  repeat' (first | (with_reducible first | refine awp_seq ?_ | refine awp_blockS ?_ | refine awp_blockC ?_ | refine awp_blockR ?_ | refine awp_skip ?_ | refine awp_ret ?_ | refine awp_exit ?_ | refine awp_region ?_ | refine awp_condM ?_ | refine And.intro ?_ ?_ | apply gQ_merge | apply gE_merge | exact EqV_w | exact EqE_w | exact EqV_ptr | exact EqE_ptr | exact EqV_msl | exact EqE_msl | exact EqV_agg | exact EqE_agg | exact EqV_fn | exact EqE_fn | exact EqV_gd | exact EqE_gd | refine gM_splitN ?_ ?_ | refine gM_split ?_ ?_ |  refine condM_splitDN ?_ ?_ | refine condM_splitD ?_ ?_ | refine condM_splitN ?_ ?_ | refine condM_split ?_ ?_ | refine condM_any ?_ ?_ | intro _) | (simp [*]))
  refine awr_block (awr_range (gf := 61) (caps := [.w false false (.ip (cPlan p) 0), .w false false (.ip (cMap m) 0), .w false false (.ip (cRider r) 0)]) ?_ Tryd.func61 (by kernel_rfl) rfl (Nat.le_of_ble_eq_true (by kernel_rfl)) (fun l => ?_))
  · rfl
  simp only [Tryd.results61, Tryd.ntmps61]
  simp
  refine awp_le (st' := ⟨[(0, .w false false (.yl l)), (1, .w false false (.ip (cPlan p) 0)), (2, .w false false (.ip (cMap m) 0)), (3, .w false false (.ip (cRider r) 0))], [(1, oA []), (0, [.msl 1 0 3 0 0])], 2, 45⟩) (le_gen [] (by simp) (by simp)) ?_
  repeat' (first | (with_reducible first | refine awp_regionYk (id := 7) 9 ?_ ?_ | refine awp_seq ?_ | refine awp_blockS ?_ | refine awp_blockC ?_ | refine awp_blockR ?_ | refine awp_skip ?_ | refine awp_ret ?_ | refine awp_exit ?_ | refine awp_region ?_ | refine awp_regionD (id := 6) 8 mixed (by decide +kernel) ?_ | refine awp_condM ?_ | refine And.intro ?_ ?_ | apply gQ_merge | apply gE_merge | exact EqV_w | exact EqE_w | exact EqV_ptr | exact EqE_ptr | exact EqV_msl | exact EqE_msl | exact EqV_agg | exact EqE_agg | exact EqV_fn | exact EqE_fn | exact EqV_gd | exact EqE_gd | refine gM_splitN ?_ ?_ | refine gM_split ?_ ?_ |  refine condM_splitDN ?_ ?_ | refine condM_splitD ?_ ?_ | refine condM_splitN ?_ ?_ | refine condM_split ?_ ?_ | refine condM_any ?_ ?_ | intro _) | (simp [*, cPlan]))
  all_goals try first | exact inI64 (by omega) (by omega) | omega
  refine awp_for3 (fun (i : Nat) => i ≤ p.stops.length + 1) [0, 1, 2, 3, 11] (fun (i : Nat) => [(12, .w false false (.int .i64 i))]) [] (fun (i : Nat) => [(1, oA (offO m p r i)), (0, [.msl 1 ((offO m p r i).length * 3) 3 0 (offO m p r i).length])]) (fun (i : Nat) => p.stops.length + 1 - i) (fun (_u : Unit) => True) [] (fun (_u : Unit) => []) [] (fun (_u : Unit) => [(1, oA (offersS m p r)), (0, [.msl 1 ((offersS m p r).length * 3) 3 0 (offersS m p r).length])]) (0) (Nat.zero_le _) (by simp) (by simp) (fun i hk => ?_) (fun _u hf => ?_)
  · by_cases hlt : i < p.stops.length + 1
    · have hlt' : (i : Int) < (p.stops.length : Int) + 1 := by omega
      repeat' (first | (with_reducible first | refine awp_regionYk (id := 7) 9 ?_ ?_ | refine awp_seq ?_ | refine awp_blockS ?_ | refine awp_blockC ?_ | refine awp_blockR ?_ | refine awp_skip ?_ | refine awp_ret ?_ | refine awp_exit ?_ | refine awp_region ?_ | refine awp_regionD (id := 6) 8 mixed (by decide +kernel) ?_ | refine awp_condM ?_ | refine And.intro ?_ ?_ | apply gQ_merge | apply gE_merge | exact EqV_w | exact EqE_w | exact EqV_ptr | exact EqE_ptr | exact EqV_msl | exact EqE_msl | exact EqV_agg | exact EqE_agg | exact EqV_fn | exact EqE_fn | exact EqV_gd | exact EqE_gd | refine gM_splitN ?_ ?_ | refine gM_split ?_ ?_ |  refine condM_splitDN ?_ ?_ | refine condM_splitD ?_ ?_ | refine condM_splitN ?_ ?_ | refine condM_split ?_ ?_ | refine condM_any ?_ ?_ | intro _) | (simp [*, hlt', cPlan]))
      all_goals try first | exact inI64 (by omega) (by omega) | omega
      refine awp_for3 (fun (c : Nat) => c ≤ p.stops.length + 1 - i) [0, 1, 2, 3, 5, 11, 12] (fun (c : Nat) => [(6, .w false false (.int .i64 ((i : Int) + 1 + (c : Int))))]) [] (fun (c : Nat) => [(1, oA (accO m p r i c)), (0, [.msl 1 ((accO m p r i c).length * 3) 3 0 (accO m p r i c).length])]) (fun (c : Nat) => p.stops.length + 1 - i - c) (fun (_u : Unit) => True) [0, 1, 2, 3, 11, 12] (fun (_u : Unit) => []) [] (fun (_u : Unit) => [(1, oA (offO m p r (i + 1))), (0, [.msl 1 ((offO m p r (i + 1)).length * 3) 3 0 (offO m p r (i + 1)).length])]) ((0 : Nat)) (Nat.zero_le _) (by simp) (by simp) (fun c hk => ?_) (fun _u hf => ?_)
      · have hlt2 : (i : Int) + 1 + (c : Int) ≤ (p.stops.length : Int) + 1 ∨ ¬ ((i : Int) + 1 + (c : Int) ≤ (p.stops.length : Int) + 1) := by omega
        rcases hlt2 with hlt2 | hlt2
        · have hal := accO_len m p r hsl i c
          have hio : i < i + 1 + c := by omega
          have hoo : i + 1 + c ≤ p.stops.length + 1 := by omega
          have hcast : ((i + 1 + c : Nat) : Int) = (i : Int) + 1 + (c : Int) := by omega
          have hq := insS_tour ko.tour ko.r hio hoo (by omega) (by omega)
          have c1 := inserted_c p ko.pin r i (i + 1 + c) hio hoo
          have eA := accO_step m p r i c
          unfold offAt at eA
          rw [hcast] at c1 eA
          have hql : (insS p r i (i + 1 + c)).stops.length < 10000 := by rw [insS_stops_len]; omega
          generalize insS p r i (i + 1 + c) = q at *
          have c2 := plain_c m q hq.go
          have c3 := keeps_c m q hq (timesS m q noDelay) (seatsS q) (timesS_len _ _ _) (seatsS_len _) (hq.go.times noDelay_bd)
          have c4 := cost_c m q (timesS m q noDelay) (seatsS q) (by rw [timesS_len]; exact hql) (hq.go.times noDelay_bd) hq.go.t0 hq.go.t1
          have hK : (!(brokenS m q (timesS m q noDelay) (seatsS q)).2) = keepsS m q := rfl
          have hC : costS q (timesS m q noDelay) = costP m q := rfl
          rw [hK] at c3
          rw [hC] at c4
          clear hK hC hq hql hcast
          unfold aTour at c2
          generalize cTour m q (timesS m q noDelay) (seatsS q) = T at *
          generalize costP m q = C at *
          cases hk2 : keepsS m q with
          | true =>
            rw [hk2] at c3
            rw [hk2, if_pos rfl] at eA
            have kA := keep eA
            clear eA hk2
            unfold aPlan aMap at *
            generalize cPlan q = Q at *
            unfold cPlan cMap cRider at *
            repeat' (first | (with_reducible first | refine awp_regionYk (id := 7) 9 ?_ ?_ | refine awp_seq ?_ | refine awp_blockS ?_ | refine awp_blockC ?_ | refine awp_blockR ?_ | refine awp_skip ?_ | refine awp_ret ?_ | refine awp_exit ?_ | refine awp_region ?_ | refine awp_regionD (id := 6) 8 mixed (by decide +kernel) ?_ | refine awp_condM ?_ | refine And.intro ?_ ?_ | apply gQ_merge | apply gE_merge | exact EqV_w | exact EqE_w | exact EqV_ptr | exact EqE_ptr | exact EqV_msl | exact EqE_msl | exact EqV_agg | exact EqE_agg | exact EqV_fn | exact EqE_fn | exact EqV_gd | exact EqE_gd | refine gM_splitN ?_ ?_ | refine gM_split ?_ ?_ |  refine condM_splitDN ?_ ?_ | refine condM_splitD ?_ ?_ | refine condM_splitN ?_ ?_ | refine condM_split ?_ ?_ | refine condM_any ?_ ?_ | refine cw (c1) ?_ | refine cw (c2) ?_ | refine cw (c3) ?_ | refine cw (c4) ?_ | intro _) | (simp [*, hlt2]) | (refine cw_eq (c1) ?_ ?_; (· (simp [*]; done))) | (refine cw_eq (c2) ?_ ?_; (· (simp [*]; done))) | (refine cw_eq (c3) ?_ ?_; (· (simp [*]; done))) | (refine cw_eq (c4) ?_ ?_; (· (simp [*]; done))))
            all_goals try first | exact inI64 (by omega) (by omega) | omega
            refine roundM_intro rfl (by simp) ?_
            repeat' (first | (with_reducible first | refine awp_seq ?_ | refine awp_blockS ?_ | refine awp_blockC ?_ | refine awp_blockR ?_ | refine awp_skip ?_ | refine awp_ret ?_ | refine awp_exit ?_ | refine awp_region ?_ | refine awp_condM ?_ | refine And.intro ?_ ?_ | apply gQ_merge | apply gE_merge | exact EqV_w | exact EqE_w | exact EqV_ptr | exact EqE_ptr | exact EqV_msl | exact EqE_msl | exact EqV_agg | exact EqE_agg | exact EqV_fn | exact EqE_fn | exact EqV_gd | exact EqE_gd | refine gM_splitN ?_ ?_ | refine gM_split ?_ ?_ |  refine condM_splitDN ?_ ?_ | refine condM_splitD ?_ ?_ | refine condM_splitN ?_ ?_ | refine condM_split ?_ ?_ | refine condM_any ?_ ?_ | intro _) | (simp [*]))
            all_goals try omega
            refine doneK_intro [(1, oA (accO m p r i (c + 1))), (0, [.msl 1 ((accO m p r i (c + 1)).length * 3) 3 0 (accO m p r i (c + 1)).length])] 2 13 ?_ ?_
            · refine le_gen [] ?_ ?_ <;> first | trivial | (simp [show accO m p r i (c + 1) = _ from kA, Nat.add_mul]; done)
            repeat' (first | (with_reducible first | refine awp_regionYk (id := 7) 9 ?_ ?_ | refine awp_seq ?_ | refine awp_blockS ?_ | refine awp_blockC ?_ | refine awp_blockR ?_ | refine awp_skip ?_ | refine awp_ret ?_ | refine awp_exit ?_ | refine awp_region ?_ | refine awp_regionD (id := 6) 8 mixed (by decide +kernel) ?_ | refine awp_condM ?_ | refine And.intro ?_ ?_ | apply gQ_merge | apply gE_merge | exact EqV_w | exact EqE_w | exact EqV_ptr | exact EqE_ptr | exact EqV_msl | exact EqE_msl | exact EqV_agg | exact EqE_agg | exact EqV_fn | exact EqE_fn | exact EqV_gd | exact EqE_gd | refine gM_splitN ?_ ?_ | refine gM_split ?_ ?_ |  refine condM_splitDN ?_ ?_ | refine condM_splitD ?_ ?_ | refine condM_splitN ?_ ?_ | refine condM_split ?_ ?_ | refine condM_any ?_ ?_ | refine cw (c1) ?_ | refine cw (c2) ?_ | refine cw (c3) ?_ | refine cw (c4) ?_ | intro _) | (simp [*, hlt2]) | (refine cw_eq (c1) ?_ ?_; (· (simp [*]; done))) | (refine cw_eq (c2) ?_ ?_; (· (simp [*]; done))) | (refine cw_eq (c3) ?_ ?_; (· (simp [*]; done))) | (refine cw_eq (c4) ?_ ?_; (· (simp [*]; done))))
            all_goals try first | exact inI64 (by omega) (by omega) | omega
            all_goals (refine loopK_normal _ _ _ _ _ (c + 1) _ ?_ (by first | omega | (dsimp only; omega) | (simp; omega)) ?_; (· omega); (refine le_gen [] ?_ ?_ <;> first | trivial | (simp [*, (by omega : (i : Int) + 1 + ((c : Int) + 1) = (i : Int) + 1 + (c : Int) + 1)]; done)))
          | false =>
            rw [hk2] at c3
            rw [hk2, if_neg (by decide), List.append_nil] at eA
            have kA := keep eA
            clear eA hk2
            unfold aPlan aMap at *
            generalize cPlan q = Q at *
            unfold cPlan cMap cRider at *
            repeat' (first | (with_reducible first | refine awp_regionYk (id := 7) 9 ?_ ?_ | refine awp_seq ?_ | refine awp_blockS ?_ | refine awp_blockC ?_ | refine awp_blockR ?_ | refine awp_skip ?_ | refine awp_ret ?_ | refine awp_exit ?_ | refine awp_region ?_ | refine awp_regionD (id := 6) 8 mixed (by decide +kernel) ?_ | refine awp_condM ?_ | refine And.intro ?_ ?_ | apply gQ_merge | apply gE_merge | exact EqV_w | exact EqE_w | exact EqV_ptr | exact EqE_ptr | exact EqV_msl | exact EqE_msl | exact EqV_agg | exact EqE_agg | exact EqV_fn | exact EqE_fn | exact EqV_gd | exact EqE_gd | refine gM_splitN ?_ ?_ | refine gM_split ?_ ?_ |  refine condM_splitDN ?_ ?_ | refine condM_splitD ?_ ?_ | refine condM_splitN ?_ ?_ | refine condM_split ?_ ?_ | refine condM_any ?_ ?_ | refine cw (c1) ?_ | refine cw (c2) ?_ | refine cw (c3) ?_ | refine cw (c4) ?_ | intro _) | (simp [*, hlt2]) | (refine cw_eq (c1) ?_ ?_; (· (simp [*]; done))) | (refine cw_eq (c2) ?_ ?_; (· (simp [*]; done))) | (refine cw_eq (c3) ?_ ?_; (· (simp [*]; done))) | (refine cw_eq (c4) ?_ ?_; (· (simp [*]; done))))
            all_goals try first | exact inI64 (by omega) (by omega) | omega
            all_goals (refine loopK_normal _ _ _ _ _ (c + 1) _ ?_ (by first | omega | (dsimp only; omega) | (simp; omega)) ?_; (· omega); (refine le_gen [] ?_ ?_ <;> first | trivial | (simp [*, show accO m p r i (c + 1) = accO m p r i c from kA, (by omega : (i : Int) + 1 + ((c : Int) + 1) = (i : Int) + 1 + (c : Int) + 1)]; done)))
        · have hce : c = p.stops.length + 1 - i := by omega
          have kE := keep (accO_end m p r i)
          have kc := keep hce
          clear hce
          repeat' (first | (with_reducible first | refine awp_regionYk (id := 7) 9 ?_ ?_ | refine awp_seq ?_ | refine awp_blockS ?_ | refine awp_blockC ?_ | refine awp_blockR ?_ | refine awp_skip ?_ | refine awp_ret ?_ | refine awp_exit ?_ | refine awp_region ?_ | refine awp_regionD (id := 6) 8 mixed (by decide +kernel) ?_ | refine awp_condM ?_ | refine And.intro ?_ ?_ | apply gQ_merge | apply gE_merge | exact EqV_w | exact EqE_w | exact EqV_ptr | exact EqE_ptr | exact EqV_msl | exact EqE_msl | exact EqV_agg | exact EqE_agg | exact EqV_fn | exact EqE_fn | exact EqV_gd | exact EqE_gd | refine gM_splitN ?_ ?_ | refine gM_split ?_ ?_ |  refine condM_splitDN ?_ ?_ | refine condM_splitD ?_ ?_ | refine condM_splitN ?_ ?_ | refine condM_split ?_ ?_ | refine condM_any ?_ ?_ | intro _) | (simp [*, hlt2, cPlan]))
          all_goals try first | exact inI64 (by omega) (by omega) | omega
          all_goals (refine finW_intro () ?_ ?_; (· trivial); (refine le_gen [] ?_ ?_ <;> first | trivial | (simp [*, show c = p.stops.length + 1 - i from kc, show accO m p r i (p.stops.length + 1 - i) = offO m p r (i + 1) from kE]; done)))
      · repeat' (first | (with_reducible first | refine awp_regionYk (id := 7) 9 ?_ ?_ | refine awp_seq ?_ | refine awp_blockS ?_ | refine awp_blockC ?_ | refine awp_blockR ?_ | refine awp_skip ?_ | refine awp_ret ?_ | refine awp_exit ?_ | refine awp_region ?_ | refine awp_regionD (id := 6) 8 mixed (by decide +kernel) ?_ | refine awp_condM ?_ | refine And.intro ?_ ?_ | apply gQ_merge | apply gE_merge | exact EqV_w | exact EqE_w | exact EqV_ptr | exact EqE_ptr | exact EqV_msl | exact EqE_msl | exact EqV_agg | exact EqE_agg | exact EqV_fn | exact EqE_fn | exact EqV_gd | exact EqE_gd | refine gM_splitN ?_ ?_ | refine gM_split ?_ ?_ |  refine condM_splitDN ?_ ?_ | refine condM_splitD ?_ ?_ | refine condM_splitN ?_ ?_ | refine condM_split ?_ ?_ | refine condM_any ?_ ?_ | intro _) | (simp [*]))
        all_goals first
          | exact inI64 (by omega) (by omega)
          | omega
          | (refine loopK_normal _ _ _ _ _ (i + 1) _ ?_ (by first | omega | (dsimp only; omega) | (simp; omega)) ?_; (· omega); (refine le_gen [] ?_ ?_ <;> first | trivial | (simp [*]; done)))
    · have hie : i = p.stops.length + 1 := by omega
      have hlt' : ¬ (i : Int) < (p.stops.length : Int) + 1 := by omega
      have kc := keep hie
      clear hie
      repeat' (first | (with_reducible first | refine awp_regionYk (id := 7) 9 ?_ ?_ | refine awp_seq ?_ | refine awp_blockS ?_ | refine awp_blockC ?_ | refine awp_blockR ?_ | refine awp_skip ?_ | refine awp_ret ?_ | refine awp_exit ?_ | refine awp_region ?_ | refine awp_regionD (id := 6) 8 mixed (by decide +kernel) ?_ | refine awp_condM ?_ | refine And.intro ?_ ?_ | apply gQ_merge | apply gE_merge | exact EqV_w | exact EqE_w | exact EqV_ptr | exact EqE_ptr | exact EqV_msl | exact EqE_msl | exact EqV_agg | exact EqE_agg | exact EqV_fn | exact EqE_fn | exact EqV_gd | exact EqE_gd | refine gM_splitN ?_ ?_ | refine gM_split ?_ ?_ |  refine condM_splitDN ?_ ?_ | refine condM_splitD ?_ ?_ | refine condM_splitN ?_ ?_ | refine condM_split ?_ ?_ | refine condM_any ?_ ?_ | intro _) | (simp [*, hlt', cPlan]))
      all_goals (refine finW_intro () ?_ ?_; (· trivial); (refine le_gen [] ?_ ?_ <;> first | trivial | (simp [*, show i = p.stops.length + 1 from kc, offersS]; done)))
  · repeat' (first | (with_reducible first | refine awp_regionYk (id := 7) 9 ?_ ?_ | refine awp_seq ?_ | refine awp_blockS ?_ | refine awp_blockC ?_ | refine awp_blockR ?_ | refine awp_skip ?_ | refine awp_ret ?_ | refine awp_exit ?_ | refine awp_region ?_ | refine awp_regionD (id := 6) 8 mixed (by decide +kernel) ?_ | refine awp_condM ?_ | refine And.intro ?_ ?_ | apply gQ_merge | apply gE_merge | exact EqV_w | exact EqE_w | exact EqV_ptr | exact EqE_ptr | exact EqV_msl | exact EqE_msl | exact EqV_agg | exact EqE_agg | exact EqV_fn | exact EqE_fn | exact EqV_gd | exact EqE_gd | refine gM_splitN ?_ ?_ | refine gM_split ?_ ?_ |  refine condM_splitDN ?_ ?_ | refine condM_splitD ?_ ?_ | refine condM_splitN ?_ ?_ | refine condM_split ?_ ?_ | refine condM_any ?_ ?_ | intro _) | (simp [*]))
    simp [RetA]
    refine awr_seq (awr_of ?_)
    repeat' (first | (with_reducible first | refine awp_seq ?_ | refine awp_blockS ?_ | refine awp_blockC ?_ | refine awp_blockR ?_ | refine awp_skip ?_ | refine awp_ret ?_ | refine awp_exit ?_ | refine awp_region ?_ | refine awp_condM ?_ | refine And.intro ?_ ?_ | apply gQ_merge | apply gE_merge | exact EqV_w | exact EqE_w | exact EqV_ptr | exact EqE_ptr | exact EqV_msl | exact EqE_msl | exact EqV_agg | exact EqE_agg | exact EqV_fn | exact EqE_fn | exact EqV_gd | exact EqE_gd | refine gM_splitN ?_ ?_ | refine gM_split ?_ ?_ |  refine condM_splitDN ?_ ?_ | refine condM_splitD ?_ ?_ | refine condM_splitN ?_ ?_ | refine condM_split ?_ ?_ | refine condM_any ?_ ?_ | intro _) | (simp [*]))
    refine awr_of ?_
    repeat' (first | (with_reducible first | refine awp_seq ?_ | refine awp_blockS ?_ | refine awp_blockC ?_ | refine awp_blockR ?_ | refine awp_skip ?_ | refine awp_ret ?_ | refine awp_exit ?_ | refine awp_region ?_ | refine awp_condM ?_ | refine And.intro ?_ ?_ | apply gQ_merge | apply gE_merge | exact EqV_w | exact EqE_w | exact EqV_ptr | exact EqE_ptr | exact EqV_msl | exact EqE_msl | exact EqV_agg | exact EqE_agg | exact EqV_fn | exact EqE_fn | exact EqV_gd | exact EqE_gd | refine gM_splitN ?_ ?_ | refine gM_split ?_ ?_ |  refine condM_splitDN ?_ ?_ | refine condM_splitD ?_ ?_ | refine condM_splitN ?_ ?_ | refine condM_split ?_ ?_ | refine condM_any ?_ ?_ | intro _) | (simp [*]))
theorem collect_c (m : Grid) (p : Plan) (r : Rider) (ok : OfferOk m p r) : RealCall Tryd.prog 41 [itP m p r] (.sl (offersS m p r).length (cOffers (offersS m p r))) true := by
  have c1 := appendSeq_c m p r ok
  generalize offersS m p r = L at *
  generalize itP m p r = I at *
  clear ok
  refine realcall_intro Tryd.func41 (by kernel_rfl) rfl (Nat.le_of_ble_eq_true (by kernel_rfl)) ?_
  simp only [Tryd.results41, Tryd.ntmps41]
  repeat' (first | (with_reducible first | refine awp_callN (ow := false) (fl := false) c1 rfl rfl (by decide) (by decide) ?_ | refine awp_seq ?_ | refine awp_blockS ?_ | refine awp_blockC ?_ | refine awp_blockR ?_ | refine awp_skip ?_ | refine awp_ret ?_ | refine awp_exit ?_ | refine awp_region ?_ | refine awp_condM ?_ | refine And.intro ?_ ?_ | apply gQ_merge | apply gE_merge | exact EqV_w | exact EqE_w | exact EqV_ptr | exact EqE_ptr | exact EqV_msl | exact EqE_msl | exact EqV_agg | exact EqE_agg | exact EqV_fn | exact EqE_fn | exact EqV_gd | exact EqE_gd | refine gM_splitN ?_ ?_ | refine gM_split ?_ ?_ |  refine condM_splitDN ?_ ?_ | refine condM_splitD ?_ ?_ | refine condM_splitN ?_ ?_ | refine condM_split ?_ ?_ | refine condM_any ?_ ?_ | intro _) | (simp [*]))
end Go.Proofs.YtiialcomflggcaaDoor

