/- Contracts of functions for this claim: lemmas alone. -/
import Derived.Test.YtiialcomflggcaaDoorP10
set_option linter.unusedSimpArgs false
set_option linter.unusedVariables false
namespace Go.Proofs.YtiialcomflggcaaDoor
open Go Go.Fi
set_option maxRecDepth 20000

/-- the number of what is wrong, and the error of a map and a plan -/
def checkS (m : Grid) (p : Plan) : Int × Int := if (mapS m).2.2 = 0 then planS m p else (0, (mapS m).2.2)
theorem checkPlan_c (m : Grid) (hm : GridIn m) (p : Plan) (hp : PlanIn p) : RealCall Tryd.prog 72 [aMap m, aPlan p] (pairI (checkS m p)) true := by
  have c1 := mapErr_c m hm
  have c2 := planErr_c m hm p hp
  clear hm hp
  unfold checkS
  generalize (mapS m).2.2 = E at *
  generalize planS m p = Q at *
  obtain ⟨q1, q2⟩ := Q
  unfold aMap aPlan cPlan pairI at *
  by_cases h : E = 0
  · subst h
    rw [if_pos rfl]
    refine realcall_intro Tryd.func72 (by kernel_rfl) rfl (Nat.le_of_ble_eq_true (by kernel_rfl)) ?_
    simp only [Tryd.results72, Tryd.ntmps72]
    repeat' (first | (with_reducible first | refine awp_seq ?_ | refine awp_blockS ?_ | refine awp_blockC ?_ | refine awp_blockR ?_ | refine awp_skip ?_ | refine awp_ret ?_ | refine awp_exit ?_ | refine awp_region ?_ | refine awp_condM ?_ | refine And.intro ?_ ?_ | apply gQ_merge | apply gE_merge | exact EqV_w | exact EqE_w | exact EqV_ptr | exact EqE_ptr | exact EqV_msl | exact EqE_msl | exact EqV_agg | exact EqE_agg | exact EqV_fn | exact EqE_fn | exact EqV_gd | exact EqE_gd | refine gM_splitN ?_ ?_ | refine gM_split ?_ ?_ |  refine condM_splitDN ?_ ?_ | refine condM_splitD ?_ ?_ | refine condM_splitN ?_ ?_ | refine condM_split ?_ ?_ | refine condM_any ?_ ?_ | refine cw (c1) ?_ | refine cw (c2) ?_ | intro _) | (simp [*]) | (refine cw_eq (c1) ?_ ?_; (· (simp [*]; done))) | (refine cw_eq (c2) ?_ ?_; (· (simp [*]; done))))
  · rw [if_neg h]
    refine realcall_intro Tryd.func72 (by kernel_rfl) rfl (Nat.le_of_ble_eq_true (by kernel_rfl)) ?_
    simp only [Tryd.results72, Tryd.ntmps72]
    repeat' (first | (with_reducible first | refine awp_seq ?_ | refine awp_blockS ?_ | refine awp_blockC ?_ | refine awp_blockR ?_ | refine awp_skip ?_ | refine awp_ret ?_ | refine awp_exit ?_ | refine awp_region ?_ | refine awp_condM ?_ | refine And.intro ?_ ?_ | apply gQ_merge | apply gE_merge | exact EqV_w | exact EqE_w | exact EqV_ptr | exact EqE_ptr | exact EqV_msl | exact EqE_msl | exact EqV_agg | exact EqE_agg | exact EqV_fn | exact EqE_fn | exact EqV_gd | exact EqE_gd | refine gM_splitN ?_ ?_ | refine gM_split ?_ ?_ |  refine condM_splitDN ?_ ?_ | refine condM_splitD ?_ ?_ | refine condM_splitN ?_ ?_ | refine condM_split ?_ ?_ | refine condM_any ?_ ?_ | refine cw (c1) ?_ | refine cw (c2) ?_ | intro _) | (simp [*, h]) | (refine cw_eq (c1) ?_ ?_; (· (simp [*]; done))) | (refine cw_eq (c2) ?_ ?_; (· (simp [*]; done))))
set_option maxHeartbeats 8000000 in
theorem rCheckPlan_c (m : Grid) (hm : GridIn m) (p : Plan) (hp : PlanIn p) : RealCall Tryd.prog 35 [aMap m, aPlan p] (pairI (checkS m p)) true := by
  have c0 := rMapErr_c m hm
  have hml := hm.len
  have hl1 := hp.riders
  have hl2 := hp.stops
  have hnm := hp.names
  have cR := fun k (hk : k < p.riders.length) => rRiderErr_c m hm (p.riders.take k) (by rw [take_len _ _ (by omega)]; omega) (nth p.riders k) (hnm k hk)
  clear hm hp hnm
  have kR := keep cR
  clear cR
  unfold checkS
  generalize (mapS m).2.2 = EM at *
  by_cases hM : EM = 0
  · subst hM
    rw [if_pos rfl]
    have w1 := rWithin_c p.car.at_ 0 ((m.length : Int) - 1)
    have w2 := rWithin_c p.car.time 0 1000000
    have w3 := rWithin_c p.car.seats 1 8
    unfold planS
    generalize hE : carE m p = E
    unfold carE placeB at hE
    generalize winB p.car.at_ 0 ((m.length : Int) - 1) = b1 at *
    generalize winB p.car.time 0 1000000 = b2 at *
    generalize winB p.car.seats 1 8 = b3 at *
    generalize hP1 : plan1 m p = R1
    rw [plan1_eq] at hP1
    have k1 := keep hP1
    clear hP1
    by_cases h0 : E = 0
    · have e1 := unless_zero (firstS_zero (hE.trans h0) (errUnless b1 6) (by simp)) (by decide)
      have e2 := unless_zero (firstS_zero (hE.trans h0) (errUnless (b2 && b3) 2) (by simp)) (by decide)
      have e3 := unless_zero (firstS_zero (hE.trans h0) (errUnless (decide ((p.riders.length : Int) ≤ 6)) 8) (by simp)) (by decide)
      rw [if_pos h0]
      clear hE h0
      subst e1
      rw [Bool.and_eq_true] at e2
      obtain ⟨rfl, rfl⟩ := e2
      have e3 := of_decide_eq_true e3
      have e4 : ¬ (6 : Int) < (p.riders.length : Int) := by omega
      unfold aMap aPlan cPlan pairI at *
      refine realcall_intro Tryd.func35 (by kernel_rfl) rfl (Nat.le_of_ble_eq_true (by kernel_rfl)) ?_
      simp only [Tryd.results35, Tryd.ntmps35]
      repeat' (first | (with_reducible first | refine awp_seq ?_ | refine awp_blockS ?_ | refine awp_blockC ?_ | refine awp_blockR ?_ | refine awp_skip ?_ | refine awp_ret ?_ | refine awp_exit ?_ | refine awp_region ?_ | refine awp_regionD (id := 14) 12 mixed (by decide +kernel) ?_ | refine awp_regionD (id := 27) 7 mixed (by decide +kernel) ?_ | refine awp_regionD (id := 32) 17 mixed (by decide +kernel) ?_ | refine awp_condM ?_ | refine And.intro ?_ ?_ | apply gQ_merge | apply gE_merge | exact EqV_w | exact EqE_w | exact EqV_ptr | exact EqE_ptr | exact EqV_msl | exact EqE_msl | exact EqV_agg | exact EqE_agg | exact EqV_fn | exact EqE_fn | exact EqV_gd | exact EqE_gd | refine gM_splitN ?_ ?_ | refine gM_split ?_ ?_ |  refine condM_splitDN ?_ ?_ | refine condM_splitD ?_ ?_ | refine condM_splitN ?_ ?_ | refine condM_split ?_ ?_ | refine condM_any ?_ ?_ | refine cw (c0) ?_ | refine cw (w1) ?_ | refine cw (w2) ?_ | refine cw (w3) ?_ | intro _) | (simp [*, e4]) | (refine cw_eq (c0) ?_ ?_; (· (simp [*]; done))) | (refine cw_eq (w1) ?_ ?_; (· (simp [*]; done))) | (refine cw_eq (w2) ?_ ?_; (· (simp [*]; done))) | (refine cw_eq (w3) ?_ ?_; (· (simp [*]; done))))
      all_goals first
        | exact inI64 (by omega) (by omega)
        | skip
      clear c0 w1 w2 w3
      refine awp_for3 (fun (k : Nat) => k ≤ p.riders.length ∧ plan1k m p k = R1 ∧ 0 ≤ aboardS (p.riders.take k) ∧ aboardS (p.riders.take k) ≤ 8 * (k : Int)) [2, 3] (fun (k : Nat) => [(8, .w false false (.int .i64 k)), (7, .w false false (.int .i64 (aboardS (p.riders.take k))))]) [1, 0] (fun (k : Nat) => []) (fun (k : Nat) => p.riders.length - k) (fun (_u : Unit) => Keep (R1 = (if p.car.seats < aboardS p.riders then (0, 16) else plan2 p) ∧ 0 ≤ aboardS p.riders ∧ aboardS p.riders ≤ 8 * (p.riders.length : Int))) [3] (fun (_u : Unit) => [(7, .w false false (.int .i64 (aboardS p.riders)))]) [1, 0] (fun (_u : Unit) => []) (0) ⟨Nat.zero_le _, k1, by simp [aboardS], by simp [aboardS]⟩ (by simp) (by simp) (fun k hk => ?_) (fun _u hf => ?_)
      · obtain ⟨hk, hj, hb0, hb1⟩ := hk
        by_cases hlt : k < p.riders.length
        · have c1 := kR k hlt
          rw [take_len _ _ hk] at c1
          clear kR
          by_cases he : riderE m (p.riders.take k) (nth p.riders k) = 0
          · rw [plan1k_ok hlt he] at hj
            have kj := keep hj
            clear hj
            obtain ⟨ok, _⟩ := riderE_ok he
            have s0 := ok.s0
            have s1 := ok.s1
            clear ok
            rw [he] at c1
            clear he
            cases hab : (nth p.riders k).aboard with
            | true =>
              have kS : aboardS (p.riders.take (k + 1)) = aboardS (p.riders.take k) + (nth p.riders k).seats := by rw [aboardS_succ _ _ hlt, seatsAb, if_pos hab]
              have kb := keep kS
              clear kS
              repeat' (first | (with_reducible first | refine awp_seq ?_ | refine awp_blockS ?_ | refine awp_blockC ?_ | refine awp_blockR ?_ | refine awp_skip ?_ | refine awp_ret ?_ | refine awp_exit ?_ | refine awp_region ?_ | refine awp_regionD (id := 14) 12 mixed (by decide +kernel) ?_ | refine awp_regionD (id := 27) 7 mixed (by decide +kernel) ?_ | refine awp_regionD (id := 32) 17 mixed (by decide +kernel) ?_ | refine awp_condM ?_ | refine And.intro ?_ ?_ | apply gQ_merge | apply gE_merge | exact EqV_w | exact EqE_w | exact EqV_ptr | exact EqE_ptr | exact EqV_msl | exact EqE_msl | exact EqV_agg | exact EqE_agg | exact EqV_fn | exact EqE_fn | exact EqV_gd | exact EqE_gd | refine gM_splitN ?_ ?_ | refine gM_split ?_ ?_ |  refine condM_splitDN ?_ ?_ | refine condM_splitD ?_ ?_ | refine condM_splitN ?_ ?_ | refine condM_split ?_ ?_ | refine condM_any ?_ ?_ | refine cw (c1) ?_ | intro _) | (simp [*, hlt]) | (refine cw_eq (c1) ?_ ?_; (· (simp [*]; done))))
              all_goals first
                | exact inI64 (by omega) (by omega)
                | omega
                | (refine loopK_normal _ _ _ _ _ (k + 1) _ ?_ (by first | omega | (dsimp only; omega) | (simp; omega)) ?_; (· exact ⟨by omega, kj, by have h : _ = _ := kb; omega, by have h : _ = _ := kb; omega⟩); (refine le_of ?_ ?_ <;> first | trivial | (simp [*, show aboardS (p.riders.take (k + 1)) = aboardS (p.riders.take k) + (nth p.riders k).seats from kb]; done)))
                | skip
            | false =>
              have kS : aboardS (p.riders.take (k + 1)) = aboardS (p.riders.take k) := by rw [aboardS_succ _ _ hlt, seatsAb, hab, if_neg (by decide)]; omega
              have kb := keep kS
              clear kS
              repeat' (first | (with_reducible first | refine awp_seq ?_ | refine awp_blockS ?_ | refine awp_blockC ?_ | refine awp_blockR ?_ | refine awp_skip ?_ | refine awp_ret ?_ | refine awp_exit ?_ | refine awp_region ?_ | refine awp_regionD (id := 14) 12 mixed (by decide +kernel) ?_ | refine awp_regionD (id := 27) 7 mixed (by decide +kernel) ?_ | refine awp_regionD (id := 32) 17 mixed (by decide +kernel) ?_ | refine awp_condM ?_ | refine And.intro ?_ ?_ | apply gQ_merge | apply gE_merge | exact EqV_w | exact EqE_w | exact EqV_ptr | exact EqE_ptr | exact EqV_msl | exact EqE_msl | exact EqV_agg | exact EqE_agg | exact EqV_fn | exact EqE_fn | exact EqV_gd | exact EqE_gd | refine gM_splitN ?_ ?_ | refine gM_split ?_ ?_ |  refine condM_splitDN ?_ ?_ | refine condM_splitD ?_ ?_ | refine condM_splitN ?_ ?_ | refine condM_split ?_ ?_ | refine condM_any ?_ ?_ | refine cw (c1) ?_ | intro _) | (simp [*, hlt]) | (refine cw_eq (c1) ?_ ?_; (· (simp [*]; done))))
              all_goals first
                | exact inI64 (by omega) (by omega)
                | omega
                | (refine loopK_normal _ _ _ _ _ (k + 1) _ ?_ (by first | omega | (dsimp only; omega) | (simp; omega)) ?_; (· exact ⟨by omega, kj, by have h : _ = _ := kb; omega, by have h : _ = _ := kb; omega⟩); (refine le_of ?_ ?_ <;> first | trivial | (simp [*, show aboardS (p.riders.take (k + 1)) = aboardS (p.riders.take k) from kb]; done)))
                | skip
          · rw [plan1k_bad hlt he] at hj
            generalize riderE m (p.riders.take k) (nth p.riders k) = E at *
            subst hj
            repeat' (first | (with_reducible first | refine awp_seq ?_ | refine awp_blockS ?_ | refine awp_blockC ?_ | refine awp_blockR ?_ | refine awp_skip ?_ | refine awp_ret ?_ | refine awp_exit ?_ | refine awp_region ?_ | refine awp_regionD (id := 14) 12 mixed (by decide +kernel) ?_ | refine awp_regionD (id := 27) 7 mixed (by decide +kernel) ?_ | refine awp_regionD (id := 32) 17 mixed (by decide +kernel) ?_ | refine awp_condM ?_ | refine And.intro ?_ ?_ | apply gQ_merge | apply gE_merge | exact EqV_w | exact EqE_w | exact EqV_ptr | exact EqE_ptr | exact EqV_msl | exact EqE_msl | exact EqV_agg | exact EqE_agg | exact EqV_fn | exact EqE_fn | exact EqV_gd | exact EqE_gd | refine gM_splitN ?_ ?_ | refine gM_split ?_ ?_ |  refine condM_splitDN ?_ ?_ | refine condM_splitD ?_ ?_ | refine condM_splitN ?_ ?_ | refine condM_split ?_ ?_ | refine condM_any ?_ ?_ | refine cw (c1) ?_ | intro _) | (simp [*, hlt, he]) | (refine cw_eq (c1) ?_ ?_; (· (simp [*]; done))))
            all_goals first
              | exact inI64 (by omega) (by omega)
              | omega
              | skip
        · have hke : k = p.riders.length := by omega
          subst hke
          rw [plan1k_end] at hj
          rw [List.take_length] at hb0 hb1
          have kj := keep hj
          have kb0 := keep hb0
          have kb1 := keep hb1
          clear hj hb0 hb1
          repeat' (first | (with_reducible first | refine awp_seq ?_ | refine awp_blockS ?_ | refine awp_blockC ?_ | refine awp_blockR ?_ | refine awp_skip ?_ | refine awp_ret ?_ | refine awp_exit ?_ | refine awp_region ?_ | refine awp_regionD (id := 14) 12 mixed (by decide +kernel) ?_ | refine awp_regionD (id := 27) 7 mixed (by decide +kernel) ?_ | refine awp_regionD (id := 32) 17 mixed (by decide +kernel) ?_ | refine awp_condM ?_ | refine And.intro ?_ ?_ | apply gQ_merge | apply gE_merge | exact EqV_w | exact EqE_w | exact EqV_ptr | exact EqE_ptr | exact EqV_msl | exact EqE_msl | exact EqV_agg | exact EqE_agg | exact EqV_fn | exact EqE_fn | exact EqV_gd | exact EqE_gd | refine gM_splitN ?_ ?_ | refine gM_split ?_ ?_ |  refine condM_splitDN ?_ ?_ | refine condM_splitD ?_ ?_ | refine condM_splitN ?_ ?_ | refine condM_split ?_ ?_ | refine condM_any ?_ ?_ | intro _) | (simp [*]))
          all_goals (refine finW_intro () ?_ ?_; (· exact keep ⟨kj.symm, kb0, kb1⟩); (refine le_of ?_ ?_ <;> first | trivial | (simp [*, List.take_length]; done)))
      · obtain ⟨hR, hb0, hb1⟩ := hf
        clear k1 kR
        subst hR
        by_cases hf : p.car.seats < aboardS p.riders
        · rw [if_pos hf]
          repeat' (first | (with_reducible first | refine awp_seq ?_ | refine awp_blockS ?_ | refine awp_blockC ?_ | refine awp_blockR ?_ | refine awp_skip ?_ | refine awp_ret ?_ | refine awp_exit ?_ | refine awp_region ?_ | refine awp_regionD (id := 14) 12 mixed (by decide +kernel) ?_ | refine awp_regionD (id := 27) 7 mixed (by decide +kernel) ?_ | refine awp_regionD (id := 32) 17 mixed (by decide +kernel) ?_ | refine awp_condM ?_ | refine And.intro ?_ ?_ | apply gQ_merge | apply gE_merge | exact EqV_w | exact EqE_w | exact EqV_ptr | exact EqE_ptr | exact EqV_msl | exact EqE_msl | exact EqV_agg | exact EqE_agg | exact EqV_fn | exact EqE_fn | exact EqV_gd | exact EqE_gd | refine gM_splitN ?_ ?_ | refine gM_split ?_ ?_ |  refine condM_splitDN ?_ ?_ | refine condM_splitD ?_ ?_ | refine condM_splitN ?_ ?_ | refine condM_split ?_ ?_ | refine condM_any ?_ ?_ | intro _) | (simp [*, hf]))
          all_goals try exact inI64 (by omega) (by omega)
        · rw [if_neg hf]
          generalize hP2 : plan2 p = R2
          rw [plan2_eq] at hP2
          have k2 := keep hP2
          clear hP2
          repeat' (first | (with_reducible first | refine awp_seq ?_ | refine awp_blockS ?_ | refine awp_blockC ?_ | refine awp_blockR ?_ | refine awp_skip ?_ | refine awp_ret ?_ | refine awp_exit ?_ | refine awp_region ?_ | refine awp_regionD (id := 14) 12 mixed (by decide +kernel) ?_ | refine awp_regionD (id := 27) 7 mixed (by decide +kernel) ?_ | refine awp_regionD (id := 32) 17 mixed (by decide +kernel) ?_ | refine awp_condM ?_ | refine And.intro ?_ ?_ | apply gQ_merge | apply gE_merge | exact EqV_w | exact EqE_w | exact EqV_ptr | exact EqE_ptr | exact EqV_msl | exact EqE_msl | exact EqV_agg | exact EqE_agg | exact EqV_fn | exact EqE_fn | exact EqV_gd | exact EqE_gd | refine gM_splitN ?_ ?_ | refine gM_split ?_ ?_ |  refine condM_splitDN ?_ ?_ | refine condM_splitD ?_ ?_ | refine condM_splitN ?_ ?_ | refine condM_split ?_ ?_ | refine condM_any ?_ ?_ | intro _) | (simp [*, hf]))
          all_goals try exact inI64 (by omega) (by omega)
          clear hb0 hb1
          refine awp_for3 (fun (k : Nat) => k ≤ p.stops.length ∧ plan2k p k = R2) [3] (fun (k : Nat) => [(10, .w false false (.int .i64 k))]) [1, 0] (fun (k : Nat) => []) (fun (k : Nat) => p.stops.length - k) (fun (_u : Unit) => Keep (R2 = plan3 p)) [3] (fun (_u : Unit) => []) [1, 0] (fun (_u : Unit) => []) (0) ⟨Nat.zero_le _, k2⟩ (by simp) (by simp) (fun k hk => ?_) (fun _u hf => ?_)
          · obtain ⟨hk, hj⟩ := hk
            by_cases hlt : k < p.stops.length
            · generalize hs : nth p.stops k = s at *
              obtain ⟨sr, so⟩ := s
              cases hw : winB sr 0 ((p.riders.length : Int) - 1) with
              | false =>
                have he : stopE p k (nth p.stops k) = 6 := by rw [hs]; unfold stopE; rw [if_neg (by simp [hw])]
                rw [plan2k_bad hlt (by rw [he]; decide), he] at hj
                subst hj
                clear he
                repeat' (first | (with_reducible first | refine awp_seq ?_ | refine awp_blockS ?_ | refine awp_blockC ?_ | refine awp_blockR ?_ | refine awp_skip ?_ | refine awp_ret ?_ | refine awp_exit ?_ | refine awp_region ?_ | refine awp_regionD (id := 14) 12 mixed (by decide +kernel) ?_ | refine awp_regionD (id := 27) 7 mixed (by decide +kernel) ?_ | refine awp_regionD (id := 32) 17 mixed (by decide +kernel) ?_ | refine awp_condM ?_ | refine And.intro ?_ ?_ | apply gQ_merge | apply gE_merge | exact EqV_w | exact EqE_w | exact EqV_ptr | exact EqE_ptr | exact EqV_msl | exact EqE_msl | exact EqV_agg | exact EqE_agg | exact EqV_fn | exact EqE_fn | exact EqV_gd | exact EqE_gd | refine gM_splitN ?_ ?_ | refine gM_split ?_ ?_ |  refine condM_splitDN ?_ ?_ | refine condM_splitD ?_ ?_ | refine condM_splitN ?_ ?_ | refine condM_split ?_ ?_ | refine condM_any ?_ ?_ | refine cw (rWithin_c _ _ _) ?_ | intro _) | (simp [*, hlt, cStop]) | (refine cw_eq (rWithin_c _ _ _) ?_ ?_; (· (simp [*]; done))))
                all_goals first
                  | exact inI64 (by omega) (by omega)
                  | omega
                  | skip
              | true =>
                obtain ⟨j, rfl, hjl⟩ := winB_nat hw
                have cA := find_c (p.stops.take k) (by rw [take_len _ _ hk]; omega) ⟨(j : Int), so⟩
                have cB := find_c (p.stops.take k) (by rw [take_len _ _ hk]; omega) ⟨(j : Int), false⟩
                rw [take_len _ _ hk] at cA cB
                have hA := stopAt_elem (p.stops.take k) ⟨(j : Int), so⟩
                have hB := stopAt_elem (p.stops.take k) ⟨(j : Int), false⟩
                have he : stopE p k (nth p.stops k) = firstS [errUnless (!elemB (p.stops.take k) ⟨(j : Int), so⟩) 26, errUnless (so || !(nth p.riders j).aboard) 22, errUnless (!so || ((nth p.riders j).aboard || elemB (p.stops.take k) ⟨(j : Int), false⟩)) 9] := by
                  rw [hs]; unfold stopE; rw [if_pos hw]; simp only [abB, Int.toNat_natCast]
                have hn : stopE p k (nth p.stops k) = 0 ∧ plan2k p k = plan2k p (k + 1) ∨ stopE p k (nth p.stops k) ≠ 0 ∧ plan2k p k = ((k : Int), stopE p k (nth p.stops k)) := by
                  by_cases h : stopE p k (nth p.stops k) = 0
                  · exact .inl ⟨h, plan2k_ok hlt h⟩
                  · exact .inr ⟨h, plan2k_bad hlt h⟩
                rw [hj, he] at hn
                clear hj he
                generalize stopAt (p.stops.take k) ⟨(j : Int), so⟩ = iA at *
                generalize stopAt (p.stops.take k) ⟨(j : Int), false⟩ = iB at *
                generalize elemB (p.stops.take k) ⟨(j : Int), so⟩ = bA at *
                generalize elemB (p.stops.take k) ⟨(j : Int), false⟩ = bB at *
                have a1 : bA = true → 0 ≤ iA := fun h => by rw [h] at hA; exact of_decide_eq_true hA
                have a2 : bA = false → ¬ 0 ≤ iA := fun h => by rw [h] at hA; exact of_decide_eq_false hA
                have b1 : bB = true → ¬ iB < 0 := fun h => by rw [h] at hB; have := of_decide_eq_true hB; omega
                have b2 : bB = false → iB < 0 := fun h => by rw [h] at hB; have := of_decide_eq_false hB; omega
                clear hA hB
                have hcase : (bA = true ∧ R2 = ((k : Int), 26)) ∨ (bA = false ∧ so = false ∧ (nth p.riders j).aboard = true ∧ R2 = ((k : Int), 22)) ∨ (bA = false ∧ so = false ∧ (nth p.riders j).aboard = false ∧ R2 = plan2k p (k + 1)) ∨
                    (bA = false ∧ so = true ∧ (nth p.riders j).aboard = true ∧ R2 = plan2k p (k + 1)) ∨ (bA = false ∧ so = true ∧ (nth p.riders j).aboard = false ∧ bB = true ∧ R2 = plan2k p (k + 1)) ∨ (bA = false ∧ so = true ∧ (nth p.riders j).aboard = false ∧ bB = false ∧ R2 = ((k : Int), 9)) := by
                  cases bA <;> cases so <;> cases hab : (nth p.riders j).aboard <;> cases bB <;> simp [firstS, errUnless, hab] at hn ⊢ <;> exact hn
                clear hn
                rcases hcase with ⟨h1, rfl⟩ | ⟨h1, rfl, hab, rfl⟩ | ⟨h1, rfl, hab, rfl⟩ | ⟨h1, rfl, hab, rfl⟩ | ⟨h1, rfl, hab, h2, rfl⟩ | ⟨h1, rfl, hab, h2, rfl⟩
                · have a := a1 h1
                  clear a1 a2 b1 b2
                  repeat' (first | (with_reducible first | refine awp_seq ?_ | refine awp_blockS ?_ | refine awp_blockC ?_ | refine awp_blockR ?_ | refine awp_skip ?_ | refine awp_ret ?_ | refine awp_exit ?_ | refine awp_region ?_ | refine awp_regionD (id := 14) 12 mixed (by decide +kernel) ?_ | refine awp_regionD (id := 27) 7 mixed (by decide +kernel) ?_ | refine awp_regionD (id := 32) 17 mixed (by decide +kernel) ?_ | refine awp_condM ?_ | refine And.intro ?_ ?_ | apply gQ_merge | apply gE_merge | exact EqV_w | exact EqE_w | exact EqV_ptr | exact EqE_ptr | exact EqV_msl | exact EqE_msl | exact EqV_agg | exact EqE_agg | exact EqV_fn | exact EqE_fn | exact EqV_gd | exact EqE_gd | refine gM_splitN ?_ ?_ | refine gM_split ?_ ?_ |  refine condM_splitDN ?_ ?_ | refine condM_splitD ?_ ?_ | refine condM_splitN ?_ ?_ | refine condM_split ?_ ?_ | refine condM_any ?_ ?_ | refine cw (rWithin_c _ _ _) ?_ | refine cw (cA) ?_ | refine cw (cB) ?_ | intro _) | (simp [*, hlt, cStop]) | (refine cw_eq (rWithin_c _ _ _) ?_ ?_; (· (simp [*]; done))) | (refine cw_eq (cA) ?_ ?_; (· (simp [*]; done))) | (refine cw_eq (cB) ?_ ?_; (· (simp [*]; done))))
                  all_goals first
                    | exact inI64 (by omega) (by omega)
                    | omega
                    | skip
                · have a := a2 h1
                  clear a1 a2 b1 b2
                  repeat' (first | (with_reducible first | refine awp_seq ?_ | refine awp_blockS ?_ | refine awp_blockC ?_ | refine awp_blockR ?_ | refine awp_skip ?_ | refine awp_ret ?_ | refine awp_exit ?_ | refine awp_region ?_ | refine awp_regionD (id := 14) 12 mixed (by decide +kernel) ?_ | refine awp_regionD (id := 27) 7 mixed (by decide +kernel) ?_ | refine awp_regionD (id := 32) 17 mixed (by decide +kernel) ?_ | refine awp_condM ?_ | refine And.intro ?_ ?_ | apply gQ_merge | apply gE_merge | exact EqV_w | exact EqE_w | exact EqV_ptr | exact EqE_ptr | exact EqV_msl | exact EqE_msl | exact EqV_agg | exact EqE_agg | exact EqV_fn | exact EqE_fn | exact EqV_gd | exact EqE_gd | refine gM_splitN ?_ ?_ | refine gM_split ?_ ?_ |  refine condM_splitDN ?_ ?_ | refine condM_splitD ?_ ?_ | refine condM_splitN ?_ ?_ | refine condM_split ?_ ?_ | refine condM_any ?_ ?_ | refine cw (rWithin_c _ _ _) ?_ | refine cw (cA) ?_ | refine cw (cB) ?_ | intro _) | (simp [*, hlt, cStop]) | (refine cw_eq (rWithin_c _ _ _) ?_ ?_; (· (simp [*]; done))) | (refine cw_eq (cA) ?_ ?_; (· (simp [*]; done))) | (refine cw_eq (cB) ?_ ?_; (· (simp [*]; done))))
                  all_goals first
                    | exact inI64 (by omega) (by omega)
                    | omega
                    | skip
                · have a := a2 h1
                  clear a1 a2 b1 b2
                  repeat' (first | (with_reducible first | refine awp_seq ?_ | refine awp_blockS ?_ | refine awp_blockC ?_ | refine awp_blockR ?_ | refine awp_skip ?_ | refine awp_ret ?_ | refine awp_exit ?_ | refine awp_region ?_ | refine awp_regionD (id := 14) 12 mixed (by decide +kernel) ?_ | refine awp_regionD (id := 27) 7 mixed (by decide +kernel) ?_ | refine awp_regionD (id := 32) 17 mixed (by decide +kernel) ?_ | refine awp_condM ?_ | refine And.intro ?_ ?_ | apply gQ_merge | apply gE_merge | exact EqV_w | exact EqE_w | exact EqV_ptr | exact EqE_ptr | exact EqV_msl | exact EqE_msl | exact EqV_agg | exact EqE_agg | exact EqV_fn | exact EqE_fn | exact EqV_gd | exact EqE_gd | refine gM_splitN ?_ ?_ | refine gM_split ?_ ?_ |  refine condM_splitDN ?_ ?_ | refine condM_splitD ?_ ?_ | refine condM_splitN ?_ ?_ | refine condM_split ?_ ?_ | refine condM_any ?_ ?_ | refine cw (rWithin_c _ _ _) ?_ | refine cw (cA) ?_ | refine cw (cB) ?_ | intro _) | (simp [*, hlt, cStop]) | (refine cw_eq (rWithin_c _ _ _) ?_ ?_; (· (simp [*]; done))) | (refine cw_eq (cA) ?_ ?_; (· (simp [*]; done))) | (refine cw_eq (cB) ?_ ?_; (· (simp [*]; done))))
                  all_goals first
                    | exact inI64 (by omega) (by omega)
                    | omega
                    | (refine loopK_normal _ _ _ _ _ (k + 1) _ ?_ (by first | omega | (dsimp only; omega) | (simp; omega)) ?_; (· exact ⟨by omega, rfl⟩); (refine le_of ?_ ?_ <;> first | trivial | (simp [*]; done)))
                    | skip
                · have a := a2 h1
                  clear a1 a2 b1 b2
                  repeat' (first | (with_reducible first | refine awp_seq ?_ | refine awp_blockS ?_ | refine awp_blockC ?_ | refine awp_blockR ?_ | refine awp_skip ?_ | refine awp_ret ?_ | refine awp_exit ?_ | refine awp_region ?_ | refine awp_regionD (id := 14) 12 mixed (by decide +kernel) ?_ | refine awp_regionD (id := 27) 7 mixed (by decide +kernel) ?_ | refine awp_regionD (id := 32) 17 mixed (by decide +kernel) ?_ | refine awp_condM ?_ | refine And.intro ?_ ?_ | apply gQ_merge | apply gE_merge | exact EqV_w | exact EqE_w | exact EqV_ptr | exact EqE_ptr | exact EqV_msl | exact EqE_msl | exact EqV_agg | exact EqE_agg | exact EqV_fn | exact EqE_fn | exact EqV_gd | exact EqE_gd | refine gM_splitN ?_ ?_ | refine gM_split ?_ ?_ |  refine condM_splitDN ?_ ?_ | refine condM_splitD ?_ ?_ | refine condM_splitN ?_ ?_ | refine condM_split ?_ ?_ | refine condM_any ?_ ?_ | refine cw (rWithin_c _ _ _) ?_ | refine cw (cA) ?_ | refine cw (cB) ?_ | intro _) | (simp [*, hlt, cStop]) | (refine cw_eq (rWithin_c _ _ _) ?_ ?_; (· (simp [*]; done))) | (refine cw_eq (cA) ?_ ?_; (· (simp [*]; done))) | (refine cw_eq (cB) ?_ ?_; (· (simp [*]; done))))
                  all_goals first
                    | exact inI64 (by omega) (by omega)
                    | omega
                    | (refine loopK_normal _ _ _ _ _ (k + 1) _ ?_ (by first | omega | (dsimp only; omega) | (simp; omega)) ?_; (· exact ⟨by omega, rfl⟩); (refine le_of ?_ ?_ <;> first | trivial | (simp [*]; done)))
                    | skip
                · have a := a2 h1
                  have b := b1 h2
                  clear a1 a2 b1 b2
                  repeat' (first | (with_reducible first | refine awp_seq ?_ | refine awp_blockS ?_ | refine awp_blockC ?_ | refine awp_blockR ?_ | refine awp_skip ?_ | refine awp_ret ?_ | refine awp_exit ?_ | refine awp_region ?_ | refine awp_regionD (id := 14) 12 mixed (by decide +kernel) ?_ | refine awp_regionD (id := 27) 7 mixed (by decide +kernel) ?_ | refine awp_regionD (id := 32) 17 mixed (by decide +kernel) ?_ | refine awp_condM ?_ | refine And.intro ?_ ?_ | apply gQ_merge | apply gE_merge | exact EqV_w | exact EqE_w | exact EqV_ptr | exact EqE_ptr | exact EqV_msl | exact EqE_msl | exact EqV_agg | exact EqE_agg | exact EqV_fn | exact EqE_fn | exact EqV_gd | exact EqE_gd | refine gM_splitN ?_ ?_ | refine gM_split ?_ ?_ |  refine condM_splitDN ?_ ?_ | refine condM_splitD ?_ ?_ | refine condM_splitN ?_ ?_ | refine condM_split ?_ ?_ | refine condM_any ?_ ?_ | refine cw (rWithin_c _ _ _) ?_ | refine cw (cA) ?_ | refine cw (cB) ?_ | intro _) | (simp [*, hlt, cStop]) | (refine cw_eq (rWithin_c _ _ _) ?_ ?_; (· (simp [*]; done))) | (refine cw_eq (cA) ?_ ?_; (· (simp [*]; done))) | (refine cw_eq (cB) ?_ ?_; (· (simp [*]; done))))
                  all_goals first
                    | exact inI64 (by omega) (by omega)
                    | omega
                    | (refine loopK_normal _ _ _ _ _ (k + 1) _ ?_ (by first | omega | (dsimp only; omega) | (simp; omega)) ?_; (· exact ⟨by omega, rfl⟩); (refine le_of ?_ ?_ <;> first | trivial | (simp [*]; done)))
                    | skip
                · have a := a2 h1
                  have b := b2 h2
                  clear a1 a2 b1 b2
                  repeat' (first | (with_reducible first | refine awp_seq ?_ | refine awp_blockS ?_ | refine awp_blockC ?_ | refine awp_blockR ?_ | refine awp_skip ?_ | refine awp_ret ?_ | refine awp_exit ?_ | refine awp_region ?_ | refine awp_regionD (id := 14) 12 mixed (by decide +kernel) ?_ | refine awp_regionD (id := 27) 7 mixed (by decide +kernel) ?_ | refine awp_regionD (id := 32) 17 mixed (by decide +kernel) ?_ | refine awp_condM ?_ | refine And.intro ?_ ?_ | apply gQ_merge | apply gE_merge | exact EqV_w | exact EqE_w | exact EqV_ptr | exact EqE_ptr | exact EqV_msl | exact EqE_msl | exact EqV_agg | exact EqE_agg | exact EqV_fn | exact EqE_fn | exact EqV_gd | exact EqE_gd | refine gM_splitN ?_ ?_ | refine gM_split ?_ ?_ |  refine condM_splitDN ?_ ?_ | refine condM_splitD ?_ ?_ | refine condM_splitN ?_ ?_ | refine condM_split ?_ ?_ | refine condM_any ?_ ?_ | refine cw (rWithin_c _ _ _) ?_ | refine cw (cA) ?_ | refine cw (cB) ?_ | intro _) | (simp [*, hlt, cStop]) | (refine cw_eq (rWithin_c _ _ _) ?_ ?_; (· (simp [*]; done))) | (refine cw_eq (cA) ?_ ?_; (· (simp [*]; done))) | (refine cw_eq (cB) ?_ ?_; (· (simp [*]; done))))
                  all_goals first
                    | exact inI64 (by omega) (by omega)
                    | omega
                    | skip
            · have hke : k = p.stops.length := by omega
              subst hke
              rw [plan2k_end] at hj
              have kj := keep hj
              clear hj
              repeat' (first | (with_reducible first | refine awp_seq ?_ | refine awp_blockS ?_ | refine awp_blockC ?_ | refine awp_blockR ?_ | refine awp_skip ?_ | refine awp_ret ?_ | refine awp_exit ?_ | refine awp_region ?_ | refine awp_regionD (id := 14) 12 mixed (by decide +kernel) ?_ | refine awp_regionD (id := 27) 7 mixed (by decide +kernel) ?_ | refine awp_regionD (id := 32) 17 mixed (by decide +kernel) ?_ | refine awp_condM ?_ | refine And.intro ?_ ?_ | apply gQ_merge | apply gE_merge | exact EqV_w | exact EqE_w | exact EqV_ptr | exact EqE_ptr | exact EqV_msl | exact EqE_msl | exact EqV_agg | exact EqE_agg | exact EqV_fn | exact EqE_fn | exact EqV_gd | exact EqE_gd | refine gM_splitN ?_ ?_ | refine gM_split ?_ ?_ |  refine condM_splitDN ?_ ?_ | refine condM_splitD ?_ ?_ | refine condM_splitN ?_ ?_ | refine condM_split ?_ ?_ | refine condM_any ?_ ?_ | intro _) | (simp [*]))
              all_goals (refine finW_intro () ?_ ?_; (· exact keep kj.symm); (refine le_of ?_ ?_ <;> first | trivial | (simp [*]; done)))
          · clear k2
            have hR : R2 = plan3 p := hf
            subst hR
            generalize hP3 : plan3 p = R3
            rw [plan3_eq] at hP3
            have k3 := keep hP3
            clear hP3
            repeat' (first | (with_reducible first | refine awp_seq ?_ | refine awp_blockS ?_ | refine awp_blockC ?_ | refine awp_blockR ?_ | refine awp_skip ?_ | refine awp_ret ?_ | refine awp_exit ?_ | refine awp_region ?_ | refine awp_regionD (id := 14) 12 mixed (by decide +kernel) ?_ | refine awp_regionD (id := 27) 7 mixed (by decide +kernel) ?_ | refine awp_regionD (id := 32) 17 mixed (by decide +kernel) ?_ | refine awp_condM ?_ | refine And.intro ?_ ?_ | apply gQ_merge | apply gE_merge | exact EqV_w | exact EqE_w | exact EqV_ptr | exact EqE_ptr | exact EqV_msl | exact EqE_msl | exact EqV_agg | exact EqE_agg | exact EqV_fn | exact EqE_fn | exact EqV_gd | exact EqE_gd | refine gM_splitN ?_ ?_ | refine gM_split ?_ ?_ |  refine condM_splitDN ?_ ?_ | refine condM_splitD ?_ ?_ | refine condM_splitN ?_ ?_ | refine condM_split ?_ ?_ | refine condM_any ?_ ?_ | intro _) | (simp [*]))
            refine awp_for3 (fun (k : Nat) => k ≤ p.riders.length ∧ plan3k p k = R3) [3] (fun (k : Nat) => [(13, .w false false (.int .i64 k))]) [1, 0] (fun (k : Nat) => []) (fun (k : Nat) => p.riders.length - k) (fun (_u : Unit) => Keep (R3 = (0, 0))) [] (fun (_u : Unit) => []) [1, 0] (fun (_u : Unit) => []) (0) ⟨Nat.zero_le _, k3⟩ (by simp) (by simp) (fun k hk => ?_) (fun _u hf => ?_)
            · obtain ⟨hk, hj⟩ := hk
              by_cases hlt : k < p.riders.length
              · have c1 := find_c p.stops (by omega) ⟨(k : Int), true⟩
                have hA := stopAt_elem p.stops ⟨(k : Int), true⟩
                cases he : elemB p.stops ⟨(k : Int), true⟩ with
                | true =>
                  rw [plan3k_ok hlt he] at hj
                  rw [he] at hA
                  generalize stopAt p.stops ⟨(k : Int), true⟩ = iA at *
                  have hA1 : ¬ iA < 0 := by have := of_decide_eq_true hA; omega
                  have kj := keep hj
                  clear hj he hA
                  repeat' (first | (with_reducible first | refine awp_seq ?_ | refine awp_blockS ?_ | refine awp_blockC ?_ | refine awp_blockR ?_ | refine awp_skip ?_ | refine awp_ret ?_ | refine awp_exit ?_ | refine awp_region ?_ | refine awp_regionD (id := 14) 12 mixed (by decide +kernel) ?_ | refine awp_regionD (id := 27) 7 mixed (by decide +kernel) ?_ | refine awp_regionD (id := 32) 17 mixed (by decide +kernel) ?_ | refine awp_condM ?_ | refine And.intro ?_ ?_ | apply gQ_merge | apply gE_merge | exact EqV_w | exact EqE_w | exact EqV_ptr | exact EqE_ptr | exact EqV_msl | exact EqE_msl | exact EqV_agg | exact EqE_agg | exact EqV_fn | exact EqE_fn | exact EqV_gd | exact EqE_gd | refine gM_splitN ?_ ?_ | refine gM_split ?_ ?_ |  refine condM_splitDN ?_ ?_ | refine condM_splitD ?_ ?_ | refine condM_splitN ?_ ?_ | refine condM_split ?_ ?_ | refine condM_any ?_ ?_ | refine cw (c1) ?_ | intro _) | (simp [*, hlt, hA1]) | (refine cw_eq (c1) ?_ ?_; (· (simp [*]; done))))
                  all_goals first
                    | exact inI64 (by omega) (by omega)
                    | omega
                    | (refine loopK_normal _ _ _ _ _ (k + 1) _ ?_ (by first | omega | (dsimp only; omega) | (simp; omega)) ?_; (· exact ⟨by omega, kj⟩); (refine le_of ?_ ?_ <;> first | trivial | (simp [*]; done)))
                    | skip
                | false =>
                  rw [plan3k_bad hlt he] at hj
                  rw [he] at hA
                  generalize stopAt p.stops ⟨(k : Int), true⟩ = iA at *
                  have hA1 : iA < 0 := by have := of_decide_eq_false hA; omega
                  subst hj
                  clear he hA
                  repeat' (first | (with_reducible first | refine awp_seq ?_ | refine awp_blockS ?_ | refine awp_blockC ?_ | refine awp_blockR ?_ | refine awp_skip ?_ | refine awp_ret ?_ | refine awp_exit ?_ | refine awp_region ?_ | refine awp_regionD (id := 14) 12 mixed (by decide +kernel) ?_ | refine awp_regionD (id := 27) 7 mixed (by decide +kernel) ?_ | refine awp_regionD (id := 32) 17 mixed (by decide +kernel) ?_ | refine awp_condM ?_ | refine And.intro ?_ ?_ | apply gQ_merge | apply gE_merge | exact EqV_w | exact EqE_w | exact EqV_ptr | exact EqE_ptr | exact EqV_msl | exact EqE_msl | exact EqV_agg | exact EqE_agg | exact EqV_fn | exact EqE_fn | exact EqV_gd | exact EqE_gd | refine gM_splitN ?_ ?_ | refine gM_split ?_ ?_ |  refine condM_splitDN ?_ ?_ | refine condM_splitD ?_ ?_ | refine condM_splitN ?_ ?_ | refine condM_split ?_ ?_ | refine condM_any ?_ ?_ | refine cw (c1) ?_ | intro _) | (simp [*, hlt, hA1]) | (refine cw_eq (c1) ?_ ?_; (· (simp [*]; done))))
                  all_goals first
                    | exact inI64 (by omega) (by omega)
                    | omega
                    | skip
              · have hke : k = p.riders.length := by omega
                subst hke
                rw [plan3k_end] at hj
                have kj := keep hj
                clear hj
                repeat' (first | (with_reducible first | refine awp_seq ?_ | refine awp_blockS ?_ | refine awp_blockC ?_ | refine awp_blockR ?_ | refine awp_skip ?_ | refine awp_ret ?_ | refine awp_exit ?_ | refine awp_region ?_ | refine awp_regionD (id := 14) 12 mixed (by decide +kernel) ?_ | refine awp_regionD (id := 27) 7 mixed (by decide +kernel) ?_ | refine awp_regionD (id := 32) 17 mixed (by decide +kernel) ?_ | refine awp_condM ?_ | refine And.intro ?_ ?_ | apply gQ_merge | apply gE_merge | exact EqV_w | exact EqE_w | exact EqV_ptr | exact EqE_ptr | exact EqV_msl | exact EqE_msl | exact EqV_agg | exact EqE_agg | exact EqV_fn | exact EqE_fn | exact EqV_gd | exact EqE_gd | refine gM_splitN ?_ ?_ | refine gM_split ?_ ?_ |  refine condM_splitDN ?_ ?_ | refine condM_splitD ?_ ?_ | refine condM_splitN ?_ ?_ | refine condM_split ?_ ?_ | refine condM_any ?_ ?_ | intro _) | (simp [*]))
                all_goals (refine finW_intro () ?_ ?_; (· exact keep kj.symm); (refine le_of ?_ ?_ <;> first | trivial | (simp [*]; done)))
            · have hR : R3 = (0, 0) := hf
              subst hR
              repeat' (first | (with_reducible first | refine awp_seq ?_ | refine awp_blockS ?_ | refine awp_blockC ?_ | refine awp_blockR ?_ | refine awp_skip ?_ | refine awp_ret ?_ | refine awp_exit ?_ | refine awp_region ?_ | refine awp_regionD (id := 14) 12 mixed (by decide +kernel) ?_ | refine awp_regionD (id := 27) 7 mixed (by decide +kernel) ?_ | refine awp_regionD (id := 32) 17 mixed (by decide +kernel) ?_ | refine awp_condM ?_ | refine And.intro ?_ ?_ | apply gQ_merge | apply gE_merge | exact EqV_w | exact EqE_w | exact EqV_ptr | exact EqE_ptr | exact EqV_msl | exact EqE_msl | exact EqV_agg | exact EqE_agg | exact EqV_fn | exact EqE_fn | exact EqV_gd | exact EqE_gd | refine gM_splitN ?_ ?_ | refine gM_split ?_ ?_ |  refine condM_splitDN ?_ ?_ | refine condM_splitD ?_ ?_ | refine condM_splitN ?_ ?_ | refine condM_split ?_ ?_ | refine condM_any ?_ ?_ | intro _) | (simp [*]))
    · rw [if_neg h0]
      unfold aMap aPlan cPlan pairI at *
      refine realcall_intro Tryd.func35 (by kernel_rfl) rfl (Nat.le_of_ble_eq_true (by kernel_rfl)) ?_
      simp only [Tryd.results35, Tryd.ntmps35]
      repeat' (first | (with_reducible first | refine awp_seq ?_ | refine awp_blockS ?_ | refine awp_blockC ?_ | refine awp_blockR ?_ | refine awp_skip ?_ | refine awp_ret ?_ | refine awp_exit ?_ | refine awp_region ?_ | refine awp_regionD (id := 14) 12 mixed (by decide +kernel) ?_ | refine awp_regionD (id := 27) 7 mixed (by decide +kernel) ?_ | refine awp_regionD (id := 32) 17 mixed (by decide +kernel) ?_ | refine awp_condM ?_ | refine And.intro ?_ ?_ | apply gQ_merge | apply gE_merge | exact EqV_w | exact EqE_w | exact EqV_ptr | exact EqE_ptr | exact EqV_msl | exact EqE_msl | exact EqV_agg | exact EqE_agg | exact EqV_fn | exact EqE_fn | exact EqV_gd | exact EqE_gd | refine gM_splitN ?_ ?_ | refine gM_split ?_ ?_ |  refine condM_splitDN ?_ ?_ | refine condM_splitD ?_ ?_ | refine condM_splitN ?_ ?_ | refine condM_split ?_ ?_ | refine condM_any ?_ ?_ | refine cw (c0) ?_ | refine cw (w1) ?_ | refine cw (w2) ?_ | refine cw (w3) ?_ | intro _) | (simp [*]) | (refine cw_eq (c0) ?_ ?_; (· (simp [*]; done))) | (refine cw_eq (w1) ?_ ?_; (· (simp [*]; done))) | (refine cw_eq (w2) ?_ ?_; (· (simp [*]; done))) | (refine cw_eq (w3) ?_ ?_; (· (simp [*]; done))))
      all_goals first
        | exact inI64 (by omega) (by omega)
        | skip
      all_goals (clear w1 w2 w3 c0 kR; cases b1 <;> cases b2 <;> cases b3 <;> simp_all [firstS, errUnless])
      all_goals omega
  · rw [if_neg hM]
    unfold aMap aPlan cPlan pairI at *
    refine realcall_intro Tryd.func35 (by kernel_rfl) rfl (Nat.le_of_ble_eq_true (by kernel_rfl)) ?_
    simp only [Tryd.results35, Tryd.ntmps35]
    repeat' (first | (with_reducible first | refine awp_seq ?_ | refine awp_blockS ?_ | refine awp_blockC ?_ | refine awp_blockR ?_ | refine awp_skip ?_ | refine awp_ret ?_ | refine awp_exit ?_ | refine awp_region ?_ | refine awp_regionD (id := 14) 12 mixed (by decide +kernel) ?_ | refine awp_regionD (id := 27) 7 mixed (by decide +kernel) ?_ | refine awp_regionD (id := 32) 17 mixed (by decide +kernel) ?_ | refine awp_condM ?_ | refine And.intro ?_ ?_ | apply gQ_merge | apply gE_merge | exact EqV_w | exact EqE_w | exact EqV_ptr | exact EqE_ptr | exact EqV_msl | exact EqE_msl | exact EqV_agg | exact EqE_agg | exact EqV_fn | exact EqE_fn | exact EqV_gd | exact EqE_gd | refine gM_splitN ?_ ?_ | refine gM_split ?_ ?_ |  refine condM_splitDN ?_ ?_ | refine condM_splitD ?_ ?_ | refine condM_splitN ?_ ?_ | refine condM_split ?_ ?_ | refine condM_any ?_ ?_ | refine cw (c0) ?_ | intro _) | (simp [*, hM]) | (refine cw_eq (c0) ?_ ?_; (· (simp [*]; done))))
end Go.Proofs.YtiialcomflggcaaDoor

