/- Contracts of functions for this claim: lemmas alone. -/
import Derived.Test.YtceimmohnniebaaP77
import Derived.Test.YtceimmohnniebaaP71
import Derived.Test.YtceimmohnniebaaP23
import Derived.Test.YtceimmohnniebaaP34
set_option linter.unusedSimpArgs false
set_option linter.unusedVariables false
namespace Go.Proofs.Ytceimmohnniebaa
open Go Go.Fi
set_option maxRecDepth 20000

theorem woS_in {p : Plan} (hp : PlanIn p) {j : Nat} (hj : j < p.riders.length) : PlanIn (woS p j) := by
  have h1 := hp.riders
  have h2 := hp.stops
  have h3 := woF_len (j : Int) p.stops
  refine ⟨?_, ?_, fun k hk => ?_⟩
  · show (p.riders.take j ++ p.riders.drop (j + 1)).length < _; rw [cut_len _ _ hj]; omega
  · show (woF (j : Int) p.stops).length < _; omega
  · have hk : k < (p.riders.take j ++ p.riders.drop (j + 1)).length := hk
    rw [cut_len _ _ hj] at hk
    show (nth (p.riders.take j ++ p.riders.drop (j + 1)) k).name.size < _
    rw [nth_cut _ _ _ hj]
    split
    · exact hp.names _ (by omega)
    · exact hp.names _ (by omega)
set_option maxHeartbeats 16000000 in
theorem shareFewer_c (m : Grid) (p : Plan) (r : Rider) : RealCall Try.prog 14 [aMap m, aPlan p, .agg (cRider r)] (.bool true) true := by
  have c0 := awake_c
  have c1 := small_c m p
  cases hs : smallB m p with
  | false =>
    rw [hs] at c1
    unfold aMap aPlan cPlan cRider at *
    refine realcall_intro Try.func14 (by kernel_rfl) rfl (Nat.le_of_ble_eq_true (by kernel_rfl)) ?_
    simp only [Try.results14, Try.ntmps14]
    repeat' (first | (with_reducible first | refine awp_seq ?_ | refine awp_blockS ?_ | refine awp_blockC ?_ | refine awp_blockR ?_ | refine awp_skip ?_ | refine awp_ret ?_ | refine awp_exit ?_ | refine awp_region ?_ | refine awp_regionD (id := 10) 10 mixed (by decide +kernel) ?_ | refine awp_regionS (id := 16) [0, 1, 2, 3, 4, 5, 6, 7, 8, 9] [10, 11] [[], [], [], [], [], [], [], [], [.new 0], []] [[.new 0], []] mixed (by decide +kernel) ?_ | refine awp_regionD (id := 20) 9 mixed (by decide +kernel) ?_ | refine awp_regionS (id := 25) [0, 1, 2, 3, 4, 5, 6, 7, 8, 9] [10, 11] [[], [], [], [], [], [], [], [], [.new 0], []] [[.new 0], []] mixed (by decide +kernel) ?_ | refine awp_condM ?_ | refine And.intro ?_ ?_ | apply gQ_merge | apply gE_merge | exact EqV_w | exact EqE_w | exact EqV_ptr | exact EqE_ptr | exact EqV_msl | exact EqE_msl | exact EqV_agg | exact EqE_agg | exact EqV_fn | exact EqE_fn | exact EqV_gd | exact EqE_gd | refine gM_splitN ?_ ?_ | refine gM_split ?_ ?_ |  refine condM_splitDN ?_ ?_ | refine condM_splitD ?_ ?_ | refine condM_splitN ?_ ?_ | refine condM_split ?_ ?_ | refine condM_any ?_ ?_ | refine cw (c0) ?_ | refine cw (c1) ?_ | intro _) | (simp [*]) | (refine cw_eq (c0) ?_ ?_; (· (simp [*]; done))) | (refine cw_eq (c1) ?_ ?_; (· (simp [*]; done))))
  | true =>
    rw [hs] at c1
    obtain ⟨hm, hp, hs16⟩ := small_in hs
    have c2 := rMapErr_c m hm
    by_cases hname : (20 : Int) < (r.name.size : Int)
    · clear hm hp hs hs16
      unfold aMap aPlan cPlan cRider at *
      refine realcall_intro Try.func14 (by kernel_rfl) rfl (Nat.le_of_ble_eq_true (by kernel_rfl)) ?_
      simp only [Try.results14, Try.ntmps14]
      repeat' (first | (with_reducible first | refine awp_seq ?_ | refine awp_blockS ?_ | refine awp_blockC ?_ | refine awp_blockR ?_ | refine awp_skip ?_ | refine awp_ret ?_ | refine awp_exit ?_ | refine awp_region ?_ | refine awp_regionD (id := 10) 10 mixed (by decide +kernel) ?_ | refine awp_regionS (id := 16) [0, 1, 2, 3, 4, 5, 6, 7, 8, 9] [10, 11] [[], [], [], [], [], [], [], [], [.new 0], []] [[.new 0], []] mixed (by decide +kernel) ?_ | refine awp_regionD (id := 20) 9 mixed (by decide +kernel) ?_ | refine awp_regionS (id := 25) [0, 1, 2, 3, 4, 5, 6, 7, 8, 9] [10, 11] [[], [], [], [], [], [], [], [], [.new 0], []] [[.new 0], []] mixed (by decide +kernel) ?_ | refine awp_condM ?_ | refine And.intro ?_ ?_ | apply gQ_merge | apply gE_merge | exact EqV_w | exact EqE_w | exact EqV_ptr | exact EqE_ptr | exact EqV_msl | exact EqE_msl | exact EqV_agg | exact EqE_agg | exact EqV_fn | exact EqE_fn | exact EqV_gd | exact EqE_gd | refine gM_splitN ?_ ?_ | refine gM_split ?_ ?_ |  refine condM_splitDN ?_ ?_ | refine condM_splitD ?_ ?_ | refine condM_splitN ?_ ?_ | refine condM_split ?_ ?_ | refine condM_any ?_ ?_ | refine cw (c0) ?_ | refine cw (c1) ?_ | refine cw (c2) ?_ | intro _) | (simp [*, hname]) | (refine cw_eq (c0) ?_ ?_; (· (simp [*]; done))) | (refine cw_eq (c1) ?_ ?_; (· (simp [*]; done))) | (refine cw_eq (c2) ?_ ?_; (· (simp [*]; done))))
    have hnm : r.name.size < 1000000 := by omega
    by_cases h : (mapS m).2.2 = 0
    · have ok := mapS_ok.1 h
      have hl1 := ok.l1
      have hsq := closed_sq ok.sq_
      have htri := closed_tri ok.sq_
      have ok2 := hsq.ok ok.l0 ok.l1
      have hm2 : GridIn (closedS m) := ⟨by rw [hsq.len]; omega, fun k hk => by rw [hsq.row k (by rw [hsq.len] at hk; exact hk)]; omega⟩
      have c3 := copyMap_c m hm
      have c4 := closed_c m ok
      have c5 := rMapErr_c (closedS m) hm2
      have c6 := copyMap_c (closedS m) hm2
      have c7 := copyPlan_c p hp
      have c8 := rPlanErr_c (closedS m) hm2 p hp
      rw [mapS_ok.2 ok2] at c5
      rw [h] at c2
      have hcl := hsq.len
      by_cases hP : (checkS (closedS m) p).2 = 0
      · have po := (checkS_ok.1 hP).2
        have c9 := costOf_ok (closedS m) hm2 p hp hP
        have hC : costS p (timesS (closedS m) p noDelay) = costP (closedS m) p := rfl
        rw [hC] at c9
        rw [hP] at c8
        have cW := fun (i : Nat) => without_ok (closedS m) hm2 p hp hP (i : Int)
        have cX := fun (i : Nat) (hi : i < p.riders.length) (hab : (nth p.riders i).aboard = false) => costOf_ok (closedS m) hm2 (woS p i) (woS_in hp hi) (by
          have := checkS_zero ok2 (woS_ok po hi hab)
          rw [this])
        have cL := fun (i : Nat) (hi : i < p.riders.length) => wo_cost hsq htri (po.tour ok2 hp.stops).go hi
        have c10 := rNewErr_c (closedS m) hm2 p hp r hnm
        have c11 := bestInsert_c (closedS m) hm2 p hp (by omega) r hnm
        have cO := fun (hn : newE (closedS m) p r = 0) x (hx : bestS (closedS m) p r = some x) => offer_cost hsq htri (offer_ok hp hP hn (by omega)) hx
        have hB : bestE (closedS m) p r = if newE (closedS m) p r = 0 then (bV (bestS (closedS m) p r), errUnless (bestS (closedS m) p r).isSome 12) else ((0, 0, 0), newE (closedS m) p r) := by
          unfold bestE offE
          rw [if_pos hP]
        rw [hB] at c11
        clear hB hC hsq htri ok2 hm2 ok h hm hs hs16 hP po
        have hrl := hp.riders
        clear hp
        have kW := keep cW
        have kX := keep cX
        have kL := keep cL
        have kO := keep cO
        clear cW cX cL cO
        unfold bestEP aMap at *
        rw [hcl] at c5 c6 c8 c9 c10 c11
        generalize closedS m = C at *
        unfold aPlan cRider at *
        have kp : Keep (cPlan p = [.int .i64 p.car.at_, .int .i64 p.car.time, .int .i64 p.car.seats, .sl p.riders.length (cRiders p.riders), .sl p.stops.length (cStops p.stops)]) := rfl
        rw [show cPlan p = _ from kp] at c1 c7 c8 c9 c10 c11 ⊢
        refine realcall_intro Try.func14 (by kernel_rfl) rfl (Nat.le_of_ble_eq_true (by kernel_rfl)) ?_
        simp only [Try.results14, Try.ntmps14]
        repeat' (first | (with_reducible first | refine awp_seq ?_ | refine awp_blockS ?_ | refine awp_blockC ?_ | refine awp_blockR ?_ | refine awp_skip ?_ | refine awp_ret ?_ | refine awp_exit ?_ | refine awp_region ?_ | refine awp_regionD (id := 10) 10 mixed (by decide +kernel) ?_ | refine awp_regionS (id := 16) [0, 1, 2, 3, 4, 5, 6, 7, 8, 9] [10, 11] [[], [], [], [], [], [], [], [], [.new 0], []] [[.new 0], []] mixed (by decide +kernel) ?_ | refine awp_regionD (id := 20) 9 mixed (by decide +kernel) ?_ | refine awp_regionS (id := 25) [0, 1, 2, 3, 4, 5, 6, 7, 8, 9] [10, 11] [[], [], [], [], [], [], [], [], [.new 0], []] [[.new 0], []] mixed (by decide +kernel) ?_ | refine awp_condM ?_ | refine And.intro ?_ ?_ | apply gQ_merge | apply gE_merge | exact EqV_w | exact EqE_w | exact EqV_ptr | exact EqE_ptr | exact EqV_msl | exact EqE_msl | exact EqV_agg | exact EqE_agg | exact EqV_fn | exact EqE_fn | exact EqV_gd | exact EqE_gd | refine gM_splitN ?_ ?_ | refine gM_split ?_ ?_ |  refine condM_splitDN ?_ ?_ | refine condM_splitD ?_ ?_ | refine condM_splitN ?_ ?_ | refine condM_split ?_ ?_ | refine condM_any ?_ ?_ | refine cw (c0) ?_ | refine cw (c1) ?_ | refine cw (c2) ?_ | refine cw (c3) ?_ | refine cw (c4) ?_ | refine cw (c5) ?_ | refine cw (c6) ?_ | refine cw (c7) ?_ | refine cw (c8) ?_ | refine cw (c9) ?_ | intro _) | (simp [*, hname]) | (refine cw_eq (c0) ?_ ?_; (· (simp [*]; done))) | (refine cw_eq (c1) ?_ ?_; (· (simp [*]; done))) | (refine cw_eq (c2) ?_ ?_; (· (simp [*]; done))) | (refine cw_eq (c3) ?_ ?_; (· (simp [*]; done))) | (refine cw_eq (c4) ?_ ?_; (· (simp [*]; done))) | (refine cw_eq (c5) ?_ ?_; (· (simp [*]; done))) | (refine cw_eq (c6) ?_ ?_; (· (simp [*]; done))) | (refine cw_eq (c7) ?_ ?_; (· (simp [*]; done))) | (refine cw_eq (c8) ?_ ?_; (· (simp [*]; done))) | (refine cw_eq (c9) ?_ ?_; (· (simp [*]; done))))
        all_goals try first | exact inI64 (by omega) (by omega) | omega
        refine awp_for3 (fun (i : Nat) => i ≤ p.riders.length) [4, 5, 7, 9] (fun (i : Nat) => [(11, .w false false (.int .i64 i))]) [0, 1, 2, 3] (fun (i : Nat) => []) (fun (i : Nat) => p.riders.length - i) (fun (_u : Unit) => True) [4, 5, 7, 9] (fun (_u : Unit) => []) [0, 1, 2, 3] (fun (_u : Unit) => []) (0) (Nat.zero_le _) (by simp) (by simp) (fun i hk => ?_) (fun _u hf => ?_)
        · by_cases hlt : i < p.riders.length
          · have hlI : (i : Int) < (p.riders.length : Int) := by omega
            have cw1 : RealCall Try.prog 49 [.agg [.sl C.length (cRows C)], .agg (cPlan p), .int .i64 (i : Int)] (planP (withoutS p (i : Int))) true := kW i
            unfold withoutS at cw1
            rw [show winB (i : Int) 0 ((p.riders.length : Int) - 1) = true from winB_iff.2 ⟨by omega, by omega⟩, if_pos rfl, Int.toNat_natCast, hcl, show cPlan p = _ from kp] at cw1
            unfold planP aPlan at cw1
            cases hab : (nth p.riders i).aboard with
            | true =>
              rw [hab, if_pos rfl] at cw1
              unfold cPlan noPlan at cw1
              clear hab
              repeat' (first | (with_reducible first | refine awp_seq ?_ | refine awp_blockS ?_ | refine awp_blockC ?_ | refine awp_blockR ?_ | refine awp_skip ?_ | refine awp_ret ?_ | refine awp_exit ?_ | refine awp_region ?_ | refine awp_regionD (id := 10) 10 mixed (by decide +kernel) ?_ | refine awp_regionS (id := 16) [0, 1, 2, 3, 4, 5, 6, 7, 8, 9] [10, 11] [[], [], [], [], [], [], [], [], [.new 0], []] [[.new 0], []] mixed (by decide +kernel) ?_ | refine awp_regionD (id := 20) 9 mixed (by decide +kernel) ?_ | refine awp_regionS (id := 25) [0, 1, 2, 3, 4, 5, 6, 7, 8, 9] [10, 11] [[], [], [], [], [], [], [], [], [.new 0], []] [[.new 0], []] mixed (by decide +kernel) ?_ | refine awp_condM ?_ | refine And.intro ?_ ?_ | apply gQ_merge | apply gE_merge | exact EqV_w | exact EqE_w | exact EqV_ptr | exact EqE_ptr | exact EqV_msl | exact EqE_msl | exact EqV_agg | exact EqE_agg | exact EqV_fn | exact EqE_fn | exact EqV_gd | exact EqE_gd | refine gM_splitN ?_ ?_ | refine gM_split ?_ ?_ |  refine condM_splitDN ?_ ?_ | refine condM_splitD ?_ ?_ | refine condM_splitN ?_ ?_ | refine condM_split ?_ ?_ | refine condM_any ?_ ?_ | refine cw (c6) ?_ | refine cw (c7) ?_ | refine cw (cw1) ?_ | intro _) | (simp [*, hlI]) | (refine cw_eq (c6) ?_ ?_; (· (simp [*]; done))) | (refine cw_eq (c7) ?_ ?_; (· (simp [*]; done))) | (refine cw_eq (cw1) ?_ ?_; (· (simp [*]; done))))
              all_goals try first | exact inI64 (by omega) (by omega) | omega
              all_goals (refine loopK_normal _ _ _ _ _ (i + 1) _ ?_ (by first | omega | (dsimp only; omega) | (simp; omega)) ?_; (· omega); (refine le_of ?_ ?_ <;> first | trivial | (simp [*]; done)))
            | false =>
              rw [hab, if_neg (by decide)] at cw1
              have cx1 : RealCall Try.prog 22 [.agg [.sl C.length (cRows C)], .agg (cPlan (woS p i))] (.tup [.int .i64 (costP C (woS p i)), .int .i64 0]) true := kX i hlt hab
              have hle : costP C (woS p i) ≤ costP C p := kL i hlt
              rw [hcl] at cx1
              have hle' : ¬ costP C p < costP C (woS p i) := by omega
              clear hab hle
              generalize woS p i = q at *
              generalize costP C q = X at *
              unfold cPlan at cx1 cw1
              repeat' (first | (with_reducible first | refine awp_seq ?_ | refine awp_blockS ?_ | refine awp_blockC ?_ | refine awp_blockR ?_ | refine awp_skip ?_ | refine awp_ret ?_ | refine awp_exit ?_ | refine awp_region ?_ | refine awp_regionD (id := 10) 10 mixed (by decide +kernel) ?_ | refine awp_regionS (id := 16) [0, 1, 2, 3, 4, 5, 6, 7, 8, 9] [10, 11] [[], [], [], [], [], [], [], [], [.new 0], []] [[.new 0], []] mixed (by decide +kernel) ?_ | refine awp_regionD (id := 20) 9 mixed (by decide +kernel) ?_ | refine awp_regionS (id := 25) [0, 1, 2, 3, 4, 5, 6, 7, 8, 9] [10, 11] [[], [], [], [], [], [], [], [], [.new 0], []] [[.new 0], []] mixed (by decide +kernel) ?_ | refine awp_condM ?_ | refine And.intro ?_ ?_ | apply gQ_merge | apply gE_merge | exact EqV_w | exact EqE_w | exact EqV_ptr | exact EqE_ptr | exact EqV_msl | exact EqE_msl | exact EqV_agg | exact EqE_agg | exact EqV_fn | exact EqE_fn | exact EqV_gd | exact EqE_gd | refine gM_splitN ?_ ?_ | refine gM_split ?_ ?_ |  refine condM_splitDN ?_ ?_ | refine condM_splitD ?_ ?_ | refine condM_splitN ?_ ?_ | refine condM_split ?_ ?_ | refine condM_any ?_ ?_ | refine cw (c6) ?_ | refine cw (c7) ?_ | refine cw (cw1) ?_ | refine cw (cx1) ?_ | intro _) | (simp [*, hlI, hle']) | (refine cw_eq (c6) ?_ ?_; (· (simp [*]; done))) | (refine cw_eq (c7) ?_ ?_; (· (simp [*]; done))) | (refine cw_eq (cw1) ?_ ?_; (· (simp [*]; done))) | (refine cw_eq (cx1) ?_ ?_; (· (simp [*]; done))))
              all_goals try first | exact inI64 (by omega) (by omega) | omega
              all_goals (refine loopK_normal _ _ _ _ _ (i + 1) _ ?_ (by first | omega | (dsimp only; omega) | (simp; omega)) ?_; (· omega); (refine le_of ?_ ?_ <;> first | trivial | (simp [*]; done)))
          · have hke : i = p.riders.length := by omega
            subst hke
            repeat' (first | (with_reducible first | refine awp_seq ?_ | refine awp_blockS ?_ | refine awp_blockC ?_ | refine awp_blockR ?_ | refine awp_skip ?_ | refine awp_ret ?_ | refine awp_exit ?_ | refine awp_region ?_ | refine awp_regionD (id := 10) 10 mixed (by decide +kernel) ?_ | refine awp_regionS (id := 16) [0, 1, 2, 3, 4, 5, 6, 7, 8, 9] [10, 11] [[], [], [], [], [], [], [], [], [.new 0], []] [[.new 0], []] mixed (by decide +kernel) ?_ | refine awp_regionD (id := 20) 9 mixed (by decide +kernel) ?_ | refine awp_regionS (id := 25) [0, 1, 2, 3, 4, 5, 6, 7, 8, 9] [10, 11] [[], [], [], [], [], [], [], [], [.new 0], []] [[.new 0], []] mixed (by decide +kernel) ?_ | refine awp_condM ?_ | refine And.intro ?_ ?_ | apply gQ_merge | apply gE_merge | exact EqV_w | exact EqE_w | exact EqV_ptr | exact EqE_ptr | exact EqV_msl | exact EqE_msl | exact EqV_agg | exact EqE_agg | exact EqV_fn | exact EqE_fn | exact EqV_gd | exact EqE_gd | refine gM_splitN ?_ ?_ | refine gM_split ?_ ?_ |  refine condM_splitDN ?_ ?_ | refine condM_splitD ?_ ?_ | refine condM_splitN ?_ ?_ | refine condM_split ?_ ?_ | refine condM_any ?_ ?_ | intro _) | (simp [*]))
            all_goals (refine finW_intro () ?_ ?_; (· trivial); (refine le_of ?_ ?_ <;> first | trivial | (simp [*]; done)))
        · by_cases hn : newE C p r = 0
          · rw [if_pos hn] at c11
            rw [hn] at c10
            have cO := show ∀ x, bestS C p r = some x → costP C p ≤ x.2.2 from kO hn
            cases hb : bestS C p r with
            | none =>
              rw [hb] at c11
              clear cO hb hn
              repeat' (first | (with_reducible first | refine awp_seq ?_ | refine awp_blockS ?_ | refine awp_blockC ?_ | refine awp_blockR ?_ | refine awp_skip ?_ | refine awp_ret ?_ | refine awp_exit ?_ | refine awp_region ?_ | refine awp_regionD (id := 10) 10 mixed (by decide +kernel) ?_ | refine awp_regionS (id := 16) [0, 1, 2, 3, 4, 5, 6, 7, 8, 9] [10, 11] [[], [], [], [], [], [], [], [], [.new 0], []] [[.new 0], []] mixed (by decide +kernel) ?_ | refine awp_regionD (id := 20) 9 mixed (by decide +kernel) ?_ | refine awp_regionS (id := 25) [0, 1, 2, 3, 4, 5, 6, 7, 8, 9] [10, 11] [[], [], [], [], [], [], [], [], [.new 0], []] [[.new 0], []] mixed (by decide +kernel) ?_ | refine awp_condM ?_ | refine And.intro ?_ ?_ | apply gQ_merge | apply gE_merge | exact EqV_w | exact EqE_w | exact EqV_ptr | exact EqE_ptr | exact EqV_msl | exact EqE_msl | exact EqV_agg | exact EqE_agg | exact EqV_fn | exact EqE_fn | exact EqV_gd | exact EqE_gd | refine gM_splitN ?_ ?_ | refine gM_split ?_ ?_ |  refine condM_splitDN ?_ ?_ | refine condM_splitD ?_ ?_ | refine condM_splitN ?_ ?_ | refine condM_split ?_ ?_ | refine condM_any ?_ ?_ | refine cw (c6) ?_ | refine cw (c7) ?_ | refine cw (c10) ?_ | refine cw (c11) ?_ | intro _) | (simp [*]) | (refine cw_eq (c6) ?_ ?_; (· (simp [*]; done))) | (refine cw_eq (c7) ?_ ?_; (· (simp [*]; done))) | (refine cw_eq (c10) ?_ ?_; (· (simp [*]; done))) | (refine cw_eq (c11) ?_ ?_; (· (simp [*]; done))))
            | some x =>
              rw [hb] at c11
              have h5 := cO x hb
              clear cO hb hn
              repeat' (first | (with_reducible first | refine awp_seq ?_ | refine awp_blockS ?_ | refine awp_blockC ?_ | refine awp_blockR ?_ | refine awp_skip ?_ | refine awp_ret ?_ | refine awp_exit ?_ | refine awp_region ?_ | refine awp_regionD (id := 10) 10 mixed (by decide +kernel) ?_ | refine awp_regionS (id := 16) [0, 1, 2, 3, 4, 5, 6, 7, 8, 9] [10, 11] [[], [], [], [], [], [], [], [], [.new 0], []] [[.new 0], []] mixed (by decide +kernel) ?_ | refine awp_regionD (id := 20) 9 mixed (by decide +kernel) ?_ | refine awp_regionS (id := 25) [0, 1, 2, 3, 4, 5, 6, 7, 8, 9] [10, 11] [[], [], [], [], [], [], [], [], [.new 0], []] [[.new 0], []] mixed (by decide +kernel) ?_ | refine awp_condM ?_ | refine And.intro ?_ ?_ | apply gQ_merge | apply gE_merge | exact EqV_w | exact EqE_w | exact EqV_ptr | exact EqE_ptr | exact EqV_msl | exact EqE_msl | exact EqV_agg | exact EqE_agg | exact EqV_fn | exact EqE_fn | exact EqV_gd | exact EqE_gd | refine gM_splitN ?_ ?_ | refine gM_split ?_ ?_ |  refine condM_splitDN ?_ ?_ | refine condM_splitD ?_ ?_ | refine condM_splitN ?_ ?_ | refine condM_split ?_ ?_ | refine condM_any ?_ ?_ | refine cw (c6) ?_ | refine cw (c7) ?_ | refine cw (c10) ?_ | refine cw (c11) ?_ | intro _) | (simp [*]) | (refine cw_eq (c6) ?_ ?_; (· (simp [*]; done))) | (refine cw_eq (c7) ?_ ?_; (· (simp [*]; done))) | (refine cw_eq (c10) ?_ ?_; (· (simp [*]; done))) | (refine cw_eq (c11) ?_ ?_; (· (simp [*]; done))))
          · generalize newE C p r = E at *
            repeat' (first | (with_reducible first | refine awp_seq ?_ | refine awp_blockS ?_ | refine awp_blockC ?_ | refine awp_blockR ?_ | refine awp_skip ?_ | refine awp_ret ?_ | refine awp_exit ?_ | refine awp_region ?_ | refine awp_regionD (id := 10) 10 mixed (by decide +kernel) ?_ | refine awp_regionS (id := 16) [0, 1, 2, 3, 4, 5, 6, 7, 8, 9] [10, 11] [[], [], [], [], [], [], [], [], [.new 0], []] [[.new 0], []] mixed (by decide +kernel) ?_ | refine awp_regionD (id := 20) 9 mixed (by decide +kernel) ?_ | refine awp_regionS (id := 25) [0, 1, 2, 3, 4, 5, 6, 7, 8, 9] [10, 11] [[], [], [], [], [], [], [], [], [.new 0], []] [[.new 0], []] mixed (by decide +kernel) ?_ | refine awp_condM ?_ | refine And.intro ?_ ?_ | apply gQ_merge | apply gE_merge | exact EqV_w | exact EqE_w | exact EqV_ptr | exact EqE_ptr | exact EqV_msl | exact EqE_msl | exact EqV_agg | exact EqE_agg | exact EqV_fn | exact EqE_fn | exact EqV_gd | exact EqE_gd | refine gM_splitN ?_ ?_ | refine gM_split ?_ ?_ |  refine condM_splitDN ?_ ?_ | refine condM_splitD ?_ ?_ | refine condM_splitN ?_ ?_ | refine condM_split ?_ ?_ | refine condM_any ?_ ?_ | refine cw (c10) ?_ | intro _) | (simp [*, hn]) | (refine cw_eq (c10) ?_ ?_; (· (simp [*]; done))))
      · generalize (checkS (closedS m) p).2 = E at *
        clear hsq htri ok2 hm2 ok h hm hs hs16
        unfold aMap at *
        rw [hcl] at c5 c6 c8
        generalize closedS m = C at *
        unfold aPlan cPlan cRider at *
        refine realcall_intro Try.func14 (by kernel_rfl) rfl (Nat.le_of_ble_eq_true (by kernel_rfl)) ?_
        simp only [Try.results14, Try.ntmps14]
        repeat' (first | (with_reducible first | refine awp_seq ?_ | refine awp_blockS ?_ | refine awp_blockC ?_ | refine awp_blockR ?_ | refine awp_skip ?_ | refine awp_ret ?_ | refine awp_exit ?_ | refine awp_region ?_ | refine awp_regionD (id := 10) 10 mixed (by decide +kernel) ?_ | refine awp_regionS (id := 16) [0, 1, 2, 3, 4, 5, 6, 7, 8, 9] [10, 11] [[], [], [], [], [], [], [], [], [.new 0], []] [[.new 0], []] mixed (by decide +kernel) ?_ | refine awp_regionD (id := 20) 9 mixed (by decide +kernel) ?_ | refine awp_regionS (id := 25) [0, 1, 2, 3, 4, 5, 6, 7, 8, 9] [10, 11] [[], [], [], [], [], [], [], [], [.new 0], []] [[.new 0], []] mixed (by decide +kernel) ?_ | refine awp_condM ?_ | refine And.intro ?_ ?_ | apply gQ_merge | apply gE_merge | exact EqV_w | exact EqE_w | exact EqV_ptr | exact EqE_ptr | exact EqV_msl | exact EqE_msl | exact EqV_agg | exact EqE_agg | exact EqV_fn | exact EqE_fn | exact EqV_gd | exact EqE_gd | refine gM_splitN ?_ ?_ | refine gM_split ?_ ?_ |  refine condM_splitDN ?_ ?_ | refine condM_splitD ?_ ?_ | refine condM_splitN ?_ ?_ | refine condM_split ?_ ?_ | refine condM_any ?_ ?_ | refine cw (c0) ?_ | refine cw (c1) ?_ | refine cw (c2) ?_ | refine cw (c3) ?_ | refine cw (c4) ?_ | refine cw (c5) ?_ | refine cw (c8) ?_ | intro _) | (simp [*, hname, hP]) | (refine cw_eq (c0) ?_ ?_; (· (simp [*]; done))) | (refine cw_eq (c1) ?_ ?_; (· (simp [*]; done))) | (refine cw_eq (c2) ?_ ?_; (· (simp [*]; done))) | (refine cw_eq (c3) ?_ ?_; (· (simp [*]; done))) | (refine cw_eq (c4) ?_ ?_; (· (simp [*]; done))) | (refine cw_eq (c5) ?_ ?_; (· (simp [*]; done))) | (refine cw_eq (c8) ?_ ?_; (· (simp [*]; done))))
    · generalize mapS m = X at *
      clear hm hp hs hs16
      unfold aMap aPlan cPlan cRider at *
      refine realcall_intro Try.func14 (by kernel_rfl) rfl (Nat.le_of_ble_eq_true (by kernel_rfl)) ?_
      simp only [Try.results14, Try.ntmps14]
      repeat' (first | (with_reducible first | refine awp_seq ?_ | refine awp_blockS ?_ | refine awp_blockC ?_ | refine awp_blockR ?_ | refine awp_skip ?_ | refine awp_ret ?_ | refine awp_exit ?_ | refine awp_region ?_ | refine awp_regionD (id := 10) 10 mixed (by decide +kernel) ?_ | refine awp_regionS (id := 16) [0, 1, 2, 3, 4, 5, 6, 7, 8, 9] [10, 11] [[], [], [], [], [], [], [], [], [.new 0], []] [[.new 0], []] mixed (by decide +kernel) ?_ | refine awp_regionD (id := 20) 9 mixed (by decide +kernel) ?_ | refine awp_regionS (id := 25) [0, 1, 2, 3, 4, 5, 6, 7, 8, 9] [10, 11] [[], [], [], [], [], [], [], [], [.new 0], []] [[.new 0], []] mixed (by decide +kernel) ?_ | refine awp_condM ?_ | refine And.intro ?_ ?_ | apply gQ_merge | apply gE_merge | exact EqV_w | exact EqE_w | exact EqV_ptr | exact EqE_ptr | exact EqV_msl | exact EqE_msl | exact EqV_agg | exact EqE_agg | exact EqV_fn | exact EqE_fn | exact EqV_gd | exact EqE_gd | refine gM_splitN ?_ ?_ | refine gM_split ?_ ?_ |  refine condM_splitDN ?_ ?_ | refine condM_splitD ?_ ?_ | refine condM_splitN ?_ ?_ | refine condM_split ?_ ?_ | refine condM_any ?_ ?_ | refine cw (c0) ?_ | refine cw (c1) ?_ | refine cw (c2) ?_ | intro _) | (simp [*, hname, h]) | (refine cw_eq (c0) ?_ ?_; (· (simp [*]; done))) | (refine cw_eq (c1) ?_ ?_; (· (simp [*]; done))) | (refine cw_eq (c2) ?_ ?_; (· (simp [*]; done))))
end Go.Proofs.Ytceimmohnniebaa
