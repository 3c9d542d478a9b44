/- Contracts of functions for this claim: lemmas alone. -/
import Derived.Test.YtiialcomflggcaaDoorP5
set_option linter.unusedSimpArgs false
set_option linter.unusedVariables false
namespace Go.Proofs.YtiialcomflggcaaDoor
open Go Go.Fi
set_option maxRecDepth 20000

@[simp] theorem aboardS_nil : aboardS [] = 0 := rfl
theorem winB_nat {n : Int} {k : Nat} (h : winB n 0 ((k : Int) - 1) = true) : ∃ j : Nat, n = (j : Int) ∧ j < k := by
  rw [winB_iff] at h
  exact ⟨n.toNat, by omega, by omega⟩
theorem ridersE_step {m : Grid} {l : List Rider} {k : Nat} (h : k < l.length) : ridersE m l (l.drop k) k = if riderE m (l.take k) (nth l k) = 0 then ridersE m l (l.drop (k + 1)) (k + 1) else some ((k : Int), riderE m (l.take k) (nth l k)) := by
  rw [drop_nth l k h]; rfl
theorem ridersE_end (m : Grid) (l : List Rider) : ridersE m l (l.drop l.length) l.length = none := by rw [List.drop_length]; rfl
theorem stopsE_step {p : Plan} {k : Nat} (h : k < p.stops.length) : stopsE p (p.stops.drop k) k = if stopE p k (nth p.stops k) = 0 then stopsE p (p.stops.drop (k + 1)) (k + 1) else some ((k : Int), stopE p k (nth p.stops k)) := by
  rw [drop_nth p.stops k h]; rfl
theorem stopsE_end (p : Plan) : stopsE p (p.stops.drop p.stops.length) p.stops.length = none := by rw [List.drop_length]; rfl
theorem gapsE_step {p : Plan} {k : Nat} (h : k < p.riders.length) : gapsE p (p.riders.length - k) k = if gapE p k = 0 then gapsE p (p.riders.length - (k + 1)) (k + 1) else some ((k : Int), 14) := by
  rw [show p.riders.length - k = (p.riders.length - (k + 1)) + 1 by omega]; rfl
theorem gapsE_end (p : Plan) (k : Nat) : gapsE p (p.riders.length - p.riders.length) k = none := by rw [Nat.sub_self]; rfl
/-- what the loops come to, one behind the other -/
def plan1k (m : Grid) (p : Plan) (k : Nat) : Int × Int := match ridersE m p.riders (p.riders.drop k) k with | some x => x | none => if p.car.seats < aboardS p.riders then (0, 16) else plan2 p
def plan2k (p : Plan) (k : Nat) : Int × Int := match stopsE p (p.stops.drop k) k with | some x => x | none => plan3 p
def plan3k (p : Plan) (k : Nat) : Int × Int := match gapsE p (p.riders.length - k) k with | some x => x | none => (0, 0)
theorem plan1k_ok {m : Grid} {p : Plan} {k : Nat} (h : k < p.riders.length) (e : riderE m (p.riders.take k) (nth p.riders k) = 0) : plan1k m p k = plan1k m p (k + 1) := by
  unfold plan1k; rw [ridersE_step h, if_pos e]
theorem plan1k_bad {m : Grid} {p : Plan} {k : Nat} (h : k < p.riders.length) (e : riderE m (p.riders.take k) (nth p.riders k) ≠ 0) : plan1k m p k = ((k : Int), riderE m (p.riders.take k) (nth p.riders k)) := by
  unfold plan1k; rw [ridersE_step h, if_neg e]
theorem plan1k_end (m : Grid) (p : Plan) : plan1k m p p.riders.length = if p.car.seats < aboardS p.riders then (0, 16) else plan2 p := by
  unfold plan1k; rw [ridersE_end]
theorem plan2k_ok {p : Plan} {k : Nat} (h : k < p.stops.length) (e : stopE p k (nth p.stops k) = 0) : plan2k p k = plan2k p (k + 1) := by
  unfold plan2k; rw [stopsE_step h, if_pos e]
theorem plan2k_bad {p : Plan} {k : Nat} (h : k < p.stops.length) (e : stopE p k (nth p.stops k) ≠ 0) : plan2k p k = ((k : Int), stopE p k (nth p.stops k)) := by
  unfold plan2k; rw [stopsE_step h, if_neg e]
theorem plan2k_end (p : Plan) : plan2k p p.stops.length = plan3 p := by
  unfold plan2k; rw [stopsE_end]
theorem plan3k_ok {p : Plan} {k : Nat} (h : k < p.riders.length) (e : elemB p.stops ⟨(k : Int), true⟩ = true) : plan3k p k = plan3k p (k + 1) := by
  unfold plan3k; rw [gapsE_step h, if_pos (by simp [gapE, e])]
theorem plan3k_bad {p : Plan} {k : Nat} (h : k < p.riders.length) (e : elemB p.stops ⟨(k : Int), true⟩ = false) : plan3k p k = ((k : Int), 14) := by
  unfold plan3k; rw [gapsE_step h, if_neg (by simp [gapE, e])]
theorem plan3k_end (p : Plan) : plan3k p p.riders.length = (0, 0) := by
  unfold plan3k; rw [gapsE_end]
theorem plan1_eq (m : Grid) (p : Plan) : plan1 m p = plan1k m p 0 := rfl
theorem plan2_eq (p : Plan) : plan2 p = plan2k p 0 := rfl
theorem plan3_eq (p : Plan) : plan3 p = plan3k p 0 := rfl
set_option maxHeartbeats 8000000 in
theorem planErr_c (m : Grid) (hm : GridIn m) (p : Plan) (hp : PlanIn p) : RealCall Tryd.prog 85 [aMap m, aPlan p] (pairI (planS m p)) true := by
  have hml := hm.len
  have hl1 := hp.riders
  have hl2 := hp.stops
  have hnm := hp.names
  have cR := fun k (hk : k < p.riders.length) => riderErr_c m hm (p.riders.take k) (by rw [take_len _ _ (by omega)]; omega) (nth p.riders k) (hnm k hk)
  clear hm hp hnm
  have kR := keep cR
  clear cR
  unfold planS
  generalize hE : carE m p = E
  have hF := hE
  unfold carE placeB at hF
  generalize hP1 : plan1 m p = R1
  rw [plan1_eq] at hP1
  have k1 := keep hP1
  clear hP1
  have c3 := first3_c (errUnless (winB p.car.at_ 0 ((m.length : Int) - 1)) 6) (errUnless (winB p.car.time 0 1000000 && winB p.car.seats 1 8) 2) (errUnless (decide ((p.riders.length : Int) ≤ 6)) 8)
  rw [hF] at c3
  clear hF
  by_cases h0 : E = 0
  · subst h0
    have h6 : p.riders.length ≤ 6 := by
      have := unless_zero (firstS_zero hE (errUnless (decide ((p.riders.length : Int) ≤ 6)) 8) (by simp)) (by decide)
      simp at this; omega
    clear hE
    rw [if_pos rfl]
    unfold aMap aPlan cPlan pairI
    refine realcall_intro Tryd.func85 (by kernel_rfl) rfl (Nat.le_of_ble_eq_true (by kernel_rfl)) ?_
    simp only [Tryd.results85, Tryd.ntmps85]
    repeat' (first | (with_reducible first | refine awp_seq ?_ | refine awp_blockS ?_ | refine awp_blockC ?_ | refine awp_blockR ?_ | refine awp_skip ?_ | refine awp_ret ?_ | refine awp_exit ?_ | refine awp_region ?_ | refine awp_regionD (id := 1) 28 mixed (by decide +kernel) ?_ | refine awp_regionD (id := 8) 8 mixed (by decide +kernel) ?_ | refine awp_regionD (id := 21) 18 mixed (by decide +kernel) ?_ | refine awp_regionD (id := 22) 31 mixed (by decide +kernel) ?_ | refine awp_condM ?_ | refine And.intro ?_ ?_ | apply gQ_merge | apply gE_merge | exact EqV_w | exact EqE_w | exact EqV_ptr | exact EqE_ptr | exact EqV_msl | exact EqE_msl | exact EqV_agg | exact EqE_agg | exact EqV_fn | exact EqE_fn | exact EqV_gd | exact EqE_gd | refine gM_splitN ?_ ?_ | refine gM_split ?_ ?_ |  refine condM_splitDN ?_ ?_ | refine condM_splitD ?_ ?_ | refine condM_splitN ?_ ?_ | refine condM_split ?_ ?_ | refine condM_any ?_ ?_ | refine cw (within_c _ _ _) ?_ | refine cw (unless_c _ _) ?_ | refine cw (c3) ?_ | intro _) | (simp [*]) | (refine cw_eq (within_c _ _ _) ?_ ?_; (· (simp [*]; done))) | (refine cw_eq (unless_c _ _) ?_ ?_; (· (simp [*]; done))) | (refine cw_eq (c3) ?_ ?_; (· (simp [*]; done))))
    all_goals first
      | exact inI64 (by omega) (by omega)
      | skip
    refine awp_for3 (fun (k : Nat) => k ≤ p.riders.length ∧ plan1k m p k = R1 ∧ 0 ≤ aboardS (p.riders.take k) ∧ aboardS (p.riders.take k) ≤ 8 * (k : Int)) [2, 3, 47, 48] (fun (k : Nat) => [(49, .w false false (.int .i64 k)), (7, .w false false (.int .i64 (aboardS (p.riders.take k))))]) [1, 0] (fun (k : Nat) => []) (fun (k : Nat) => p.riders.length - k) (fun (_u : Unit) => Keep (R1 = (if p.car.seats < aboardS p.riders then (0, 16) else plan2 p) ∧ 0 ≤ aboardS p.riders ∧ aboardS p.riders ≤ 8 * (p.riders.length : Int))) [3] (fun (_u : Unit) => [(7, .w false false (.int .i64 (aboardS p.riders)))]) [1, 0] (fun (_u : Unit) => []) (0) ⟨Nat.zero_le _, k1, by simp [aboardS], by simp [aboardS]⟩ (by simp) (by simp) (fun k hk => ?_) (fun _u hf => ?_)
    · obtain ⟨hk, hj, hb0, hb1⟩ := hk
      by_cases hlt : k < p.riders.length
      · have c1 := kR k hlt
        rw [take_len _ _ hk] at c1
        clear kR
        by_cases he : riderE m (p.riders.take k) (nth p.riders k) = 0
        · rw [plan1k_ok hlt he] at hj
          have kj := keep hj
          clear hj
          obtain ⟨ok, _⟩ := riderE_ok he
          have s0 := ok.s0
          have s1 := ok.s1
          clear ok
          rw [he] at c1
          clear he
          unfold aMap cRider at c1
          cases hab : (nth p.riders k).aboard with
          | true =>
            have kS : aboardS (p.riders.take (k + 1)) = aboardS (p.riders.take k) + (nth p.riders k).seats := by rw [aboardS_succ _ _ hlt, seatsAb, if_pos hab]
            have kb := keep kS
            clear kS
            repeat' (first | (with_reducible first | refine awp_seq ?_ | refine awp_blockS ?_ | refine awp_blockC ?_ | refine awp_blockR ?_ | refine awp_skip ?_ | refine awp_ret ?_ | refine awp_exit ?_ | refine awp_region ?_ | refine awp_regionD (id := 1) 28 mixed (by decide +kernel) ?_ | refine awp_regionD (id := 8) 8 mixed (by decide +kernel) ?_ | refine awp_regionD (id := 21) 18 mixed (by decide +kernel) ?_ | refine awp_regionD (id := 22) 31 mixed (by decide +kernel) ?_ | refine awp_condM ?_ | refine And.intro ?_ ?_ | apply gQ_merge | apply gE_merge | exact EqV_w | exact EqE_w | exact EqV_ptr | exact EqE_ptr | exact EqV_msl | exact EqE_msl | exact EqV_agg | exact EqE_agg | exact EqV_fn | exact EqE_fn | exact EqV_gd | exact EqE_gd | refine gM_splitN ?_ ?_ | refine gM_split ?_ ?_ |  refine condM_splitDN ?_ ?_ | refine condM_splitD ?_ ?_ | refine condM_splitN ?_ ?_ | refine condM_split ?_ ?_ | refine condM_any ?_ ?_ | refine cw (c1) ?_ | intro _) | (simp [*, hlt, cRider]) | (refine cw_eq (c1) ?_ ?_; (· (simp [*]; done))))
            all_goals first
              | exact inI64 (by omega) (by omega)
              | omega
              | (refine loopK_normal _ _ _ _ _ (k + 1) _ ?_ (by first | omega | (dsimp only; omega) | (simp; omega)) ?_; (· exact ⟨by omega, kj, by have h : _ = _ := kb; omega, by have h : _ = _ := kb; omega⟩); (refine le_of ?_ ?_ <;> first | trivial | (simp [*, show aboardS (p.riders.take (k + 1)) = aboardS (p.riders.take k) + (nth p.riders k).seats from kb]; done)))
              | skip
          | false =>
            have kS : aboardS (p.riders.take (k + 1)) = aboardS (p.riders.take k) := by rw [aboardS_succ _ _ hlt, seatsAb, hab, if_neg (by decide)]; omega
            have kb := keep kS
            clear kS
            repeat' (first | (with_reducible first | refine awp_seq ?_ | refine awp_blockS ?_ | refine awp_blockC ?_ | refine awp_blockR ?_ | refine awp_skip ?_ | refine awp_ret ?_ | refine awp_exit ?_ | refine awp_region ?_ | refine awp_regionD (id := 1) 28 mixed (by decide +kernel) ?_ | refine awp_regionD (id := 8) 8 mixed (by decide +kernel) ?_ | refine awp_regionD (id := 21) 18 mixed (by decide +kernel) ?_ | refine awp_regionD (id := 22) 31 mixed (by decide +kernel) ?_ | refine awp_condM ?_ | refine And.intro ?_ ?_ | apply gQ_merge | apply gE_merge | exact EqV_w | exact EqE_w | exact EqV_ptr | exact EqE_ptr | exact EqV_msl | exact EqE_msl | exact EqV_agg | exact EqE_agg | exact EqV_fn | exact EqE_fn | exact EqV_gd | exact EqE_gd | refine gM_splitN ?_ ?_ | refine gM_split ?_ ?_ |  refine condM_splitDN ?_ ?_ | refine condM_splitD ?_ ?_ | refine condM_splitN ?_ ?_ | refine condM_split ?_ ?_ | refine condM_any ?_ ?_ | refine cw (c1) ?_ | intro _) | (simp [*, hlt, cRider]) | (refine cw_eq (c1) ?_ ?_; (· (simp [*]; done))))
            all_goals first
              | exact inI64 (by omega) (by omega)
              | omega
              | (refine loopK_normal _ _ _ _ _ (k + 1) _ ?_ (by first | omega | (dsimp only; omega) | (simp; omega)) ?_; (· exact ⟨by omega, kj, by have h : _ = _ := kb; omega, by have h : _ = _ := kb; omega⟩); (refine le_of ?_ ?_ <;> first | trivial | (simp [*, show aboardS (p.riders.take (k + 1)) = aboardS (p.riders.take k) from kb]; done)))
              | skip
        · rw [plan1k_bad hlt he] at hj
          generalize riderE m (p.riders.take k) (nth p.riders k) = E at *
          subst hj
          unfold aMap cRider at c1
          repeat' (first | (with_reducible first | refine awp_seq ?_ | refine awp_blockS ?_ | refine awp_blockC ?_ | refine awp_blockR ?_ | refine awp_skip ?_ | refine awp_ret ?_ | refine awp_exit ?_ | refine awp_region ?_ | refine awp_regionD (id := 1) 28 mixed (by decide +kernel) ?_ | refine awp_regionD (id := 8) 8 mixed (by decide +kernel) ?_ | refine awp_regionD (id := 21) 18 mixed (by decide +kernel) ?_ | refine awp_regionD (id := 22) 31 mixed (by decide +kernel) ?_ | refine awp_condM ?_ | refine And.intro ?_ ?_ | apply gQ_merge | apply gE_merge | exact EqV_w | exact EqE_w | exact EqV_ptr | exact EqE_ptr | exact EqV_msl | exact EqE_msl | exact EqV_agg | exact EqE_agg | exact EqV_fn | exact EqE_fn | exact EqV_gd | exact EqE_gd | refine gM_splitN ?_ ?_ | refine gM_split ?_ ?_ |  refine condM_splitDN ?_ ?_ | refine condM_splitD ?_ ?_ | refine condM_splitN ?_ ?_ | refine condM_split ?_ ?_ | refine condM_any ?_ ?_ | refine cw (c1) ?_ | intro _) | (simp [*, hlt, he, cRider]) | (refine cw_eq (c1) ?_ ?_; (· (simp [*]; done))))
          all_goals first
            | exact inI64 (by omega) (by omega)
            | omega
            | skip
      · have hke : k = p.riders.length := by omega
        subst hke
        rw [plan1k_end] at hj
        rw [List.take_length] at hb0 hb1
        have kj := keep hj
        have kb0 := keep hb0
        have kb1 := keep hb1
        clear hj hb0 hb1
        repeat' (first | (with_reducible first | refine awp_seq ?_ | refine awp_blockS ?_ | refine awp_blockC ?_ | refine awp_blockR ?_ | refine awp_skip ?_ | refine awp_ret ?_ | refine awp_exit ?_ | refine awp_region ?_ | refine awp_regionD (id := 1) 28 mixed (by decide +kernel) ?_ | refine awp_regionD (id := 8) 8 mixed (by decide +kernel) ?_ | refine awp_regionD (id := 21) 18 mixed (by decide +kernel) ?_ | refine awp_regionD (id := 22) 31 mixed (by decide +kernel) ?_ | refine awp_condM ?_ | refine And.intro ?_ ?_ | apply gQ_merge | apply gE_merge | exact EqV_w | exact EqE_w | exact EqV_ptr | exact EqE_ptr | exact EqV_msl | exact EqE_msl | exact EqV_agg | exact EqE_agg | exact EqV_fn | exact EqE_fn | exact EqV_gd | exact EqE_gd | refine gM_splitN ?_ ?_ | refine gM_split ?_ ?_ |  refine condM_splitDN ?_ ?_ | refine condM_splitD ?_ ?_ | refine condM_splitN ?_ ?_ | refine condM_split ?_ ?_ | refine condM_any ?_ ?_ | intro _) | (simp [*]))
        all_goals (refine finW_intro () ?_ ?_; (· exact keep ⟨kj.symm, kb0, kb1⟩); (refine le_of ?_ ?_ <;> first | trivial | (simp [*, List.take_length]; done)))
    · obtain ⟨hR, hb0, hb1⟩ := hf
      clear k1 kR
      subst hR
      by_cases hf : p.car.seats < aboardS p.riders
      · rw [if_pos hf]
        repeat' (first | (with_reducible first | refine awp_seq ?_ | refine awp_blockS ?_ | refine awp_blockC ?_ | refine awp_blockR ?_ | refine awp_skip ?_ | refine awp_ret ?_ | refine awp_exit ?_ | refine awp_region ?_ | refine awp_regionD (id := 1) 28 mixed (by decide +kernel) ?_ | refine awp_regionD (id := 8) 8 mixed (by decide +kernel) ?_ | refine awp_regionD (id := 21) 18 mixed (by decide +kernel) ?_ | refine awp_regionD (id := 22) 31 mixed (by decide +kernel) ?_ | refine awp_condM ?_ | refine And.intro ?_ ?_ | apply gQ_merge | apply gE_merge | exact EqV_w | exact EqE_w | exact EqV_ptr | exact EqE_ptr | exact EqV_msl | exact EqE_msl | exact EqV_agg | exact EqE_agg | exact EqV_fn | exact EqE_fn | exact EqV_gd | exact EqE_gd | refine gM_splitN ?_ ?_ | refine gM_split ?_ ?_ |  refine condM_splitDN ?_ ?_ | refine condM_splitD ?_ ?_ | refine condM_splitN ?_ ?_ | refine condM_split ?_ ?_ | refine condM_any ?_ ?_ | intro _) | (simp [*, hf]))
        all_goals try exact inI64 (by omega) (by omega)
      · rw [if_neg hf]
        generalize hP2 : plan2 p = R2
        rw [plan2_eq] at hP2
        have k2 := keep hP2
        clear hP2
        repeat' (first | (with_reducible first | refine awp_seq ?_ | refine awp_blockS ?_ | refine awp_blockC ?_ | refine awp_blockR ?_ | refine awp_skip ?_ | refine awp_ret ?_ | refine awp_exit ?_ | refine awp_region ?_ | refine awp_regionD (id := 1) 28 mixed (by decide +kernel) ?_ | refine awp_regionD (id := 8) 8 mixed (by decide +kernel) ?_ | refine awp_regionD (id := 21) 18 mixed (by decide +kernel) ?_ | refine awp_regionD (id := 22) 31 mixed (by decide +kernel) ?_ | refine awp_condM ?_ | refine And.intro ?_ ?_ | apply gQ_merge | apply gE_merge | exact EqV_w | exact EqE_w | exact EqV_ptr | exact EqE_ptr | exact EqV_msl | exact EqE_msl | exact EqV_agg | exact EqE_agg | exact EqV_fn | exact EqE_fn | exact EqV_gd | exact EqE_gd | refine gM_splitN ?_ ?_ | refine gM_split ?_ ?_ |  refine condM_splitDN ?_ ?_ | refine condM_splitD ?_ ?_ | refine condM_splitN ?_ ?_ | refine condM_split ?_ ?_ | refine condM_any ?_ ?_ | intro _) | (simp [*, hf]))
        all_goals try exact inI64 (by omega) (by omega)
        clear hb0 hb1
        refine awp_for3 (fun (k : Nat) => k ≤ p.stops.length ∧ plan2k p k = R2) [3, 78, 79] (fun (k : Nat) => [(80, .w false false (.int .i64 k))]) [1, 0] (fun (k : Nat) => []) (fun (k : Nat) => p.stops.length - k) (fun (_u : Unit) => Keep (R2 = plan3 p)) [3] (fun (_u : Unit) => []) [1, 0] (fun (_u : Unit) => []) (0) ⟨Nat.zero_le _, k2⟩ (by simp) (by simp) (fun k hk => ?_) (fun _u hf => ?_)
        · obtain ⟨hk, hj⟩ := hk
          by_cases hlt : k < p.stops.length
          · generalize hs : nth p.stops k = s at *
            obtain ⟨sr, so⟩ := s
            cases hw : winB sr 0 ((p.riders.length : Int) - 1) with
            | false =>
              have he : stopE p k (nth p.stops k) = 6 := by rw [hs]; unfold stopE; rw [if_neg (by simp [hw])]
              rw [plan2k_bad hlt (by rw [he]; decide), he] at hj
              subst hj
              clear he
              repeat' (first | (with_reducible first | refine awp_seq ?_ | refine awp_blockS ?_ | refine awp_blockC ?_ | refine awp_blockR ?_ | refine awp_skip ?_ | refine awp_ret ?_ | refine awp_exit ?_ | refine awp_region ?_ | refine awp_regionD (id := 1) 28 mixed (by decide +kernel) ?_ | refine awp_regionD (id := 8) 8 mixed (by decide +kernel) ?_ | refine awp_regionD (id := 21) 18 mixed (by decide +kernel) ?_ | refine awp_regionD (id := 22) 31 mixed (by decide +kernel) ?_ | refine awp_condM ?_ | refine And.intro ?_ ?_ | apply gQ_merge | apply gE_merge | exact EqV_w | exact EqE_w | exact EqV_ptr | exact EqE_ptr | exact EqV_msl | exact EqE_msl | exact EqV_agg | exact EqE_agg | exact EqV_fn | exact EqE_fn | exact EqV_gd | exact EqE_gd | refine gM_splitN ?_ ?_ | refine gM_split ?_ ?_ |  refine condM_splitDN ?_ ?_ | refine condM_splitD ?_ ?_ | refine condM_splitN ?_ ?_ | refine condM_split ?_ ?_ | refine condM_any ?_ ?_ | refine cw (within_c _ _ _) ?_ | intro _) | (simp [*, hlt, cStop]) | (refine cw_eq (within_c _ _ _) ?_ ?_; (· (simp [*]; done))))
              all_goals first
                | exact inI64 (by omega) (by omega)
                | omega
                | skip
            | true =>
              obtain ⟨j, rfl, hjl⟩ := winB_nat hw
              have cA := contains_c (p.stops.take k) (by rw [take_len _ _ hk]; omega) ⟨(j : Int), so⟩
              have cB := contains_c (p.stops.take k) (by rw [take_len _ _ hk]; omega) ⟨(j : Int), false⟩
              rw [take_len _ _ hk] at cA cB
              have he : stopE p k (nth p.stops k) = firstS [errUnless (!elemB (p.stops.take k) ⟨(j : Int), so⟩) 26, errUnless (so || !(nth p.riders j).aboard) 22, errUnless (!so || ((nth p.riders j).aboard || elemB (p.stops.take k) ⟨(j : Int), false⟩)) 9] := by
                rw [hs]; unfold stopE; rw [if_pos hw]; simp only [abB, Int.toNat_natCast]
              generalize elemB (p.stops.take k) ⟨(j : Int), so⟩ = bA at *
              generalize elemB (p.stops.take k) ⟨(j : Int), false⟩ = bB at *
              have c4 := first3_c (errUnless (!bA) 26) (errUnless (so || !(nth p.riders j).aboard) 22) (errUnless (!so || ((nth p.riders j).aboard || bB)) 9)
              rw [← he] at c4
              have hn : stopE p k (nth p.stops k) = 0 ∧ plan2k p k = plan2k p (k + 1) ∨ stopE p k (nth p.stops k) ≠ 0 ∧ plan2k p k = ((k : Int), stopE p k (nth p.stops k)) := by
                by_cases h : stopE p k (nth p.stops k) = 0
                · exact .inl ⟨h, plan2k_ok hlt h⟩
                · exact .inr ⟨h, plan2k_bad hlt h⟩
              rw [hj] at hn
              clear hj he
              generalize stopE p k (nth p.stops k) = E at *
              rcases hn with ⟨rfl, hj⟩ | ⟨hE, hj⟩
              · have kj := keep hj.symm
                clear hj
                repeat' (first | (with_reducible first | refine awp_seq ?_ | refine awp_blockS ?_ | refine awp_blockC ?_ | refine awp_blockR ?_ | refine awp_skip ?_ | refine awp_ret ?_ | refine awp_exit ?_ | refine awp_region ?_ | refine awp_regionD (id := 1) 28 mixed (by decide +kernel) ?_ | refine awp_regionD (id := 8) 8 mixed (by decide +kernel) ?_ | refine awp_regionD (id := 21) 18 mixed (by decide +kernel) ?_ | refine awp_regionD (id := 22) 31 mixed (by decide +kernel) ?_ | refine awp_condM ?_ | refine And.intro ?_ ?_ | apply gQ_merge | apply gE_merge | exact EqV_w | exact EqE_w | exact EqV_ptr | exact EqE_ptr | exact EqV_msl | exact EqE_msl | exact EqV_agg | exact EqE_agg | exact EqV_fn | exact EqE_fn | exact EqV_gd | exact EqE_gd | refine gM_splitN ?_ ?_ | refine gM_split ?_ ?_ |  refine condM_splitDN ?_ ?_ | refine condM_splitD ?_ ?_ | refine condM_splitN ?_ ?_ | refine condM_split ?_ ?_ | refine condM_any ?_ ?_ | refine cw (within_c _ _ _) ?_ | refine cw (cA) ?_ | refine cw (cB) ?_ | refine cw (c4) ?_ | refine cw (unless_c _ _) ?_ | intro _) | (simp [*, hlt, cStop]) | (refine cw_eq (within_c _ _ _) ?_ ?_; (· (simp [*]; done))) | (refine cw_eq (cA) ?_ ?_; (· (simp [*]; done))) | (refine cw_eq (cB) ?_ ?_; (· (simp [*]; done))) | (refine cw_eq (c4) ?_ ?_; (· (simp [*]; done))) | (refine cw_eq (unless_c _ _) ?_ ?_; (· (simp [*]; done))))
                all_goals first
                  | exact inI64 (by omega) (by omega)
                  | omega
                  | (refine loopK_normal _ _ _ _ _ (k + 1) _ ?_ (by first | omega | (dsimp only; omega) | (simp; omega)) ?_; (· exact ⟨by omega, kj⟩); (refine le_of ?_ ?_ <;> first | trivial | (simp [*]; done)))
                  | skip
              · subst hj
                repeat' (first | (with_reducible first | refine awp_seq ?_ | refine awp_blockS ?_ | refine awp_blockC ?_ | refine awp_blockR ?_ | refine awp_skip ?_ | refine awp_ret ?_ | refine awp_exit ?_ | refine awp_region ?_ | refine awp_regionD (id := 1) 28 mixed (by decide +kernel) ?_ | refine awp_regionD (id := 8) 8 mixed (by decide +kernel) ?_ | refine awp_regionD (id := 21) 18 mixed (by decide +kernel) ?_ | refine awp_regionD (id := 22) 31 mixed (by decide +kernel) ?_ | refine awp_condM ?_ | refine And.intro ?_ ?_ | apply gQ_merge | apply gE_merge | exact EqV_w | exact EqE_w | exact EqV_ptr | exact EqE_ptr | exact EqV_msl | exact EqE_msl | exact EqV_agg | exact EqE_agg | exact EqV_fn | exact EqE_fn | exact EqV_gd | exact EqE_gd | refine gM_splitN ?_ ?_ | refine gM_split ?_ ?_ |  refine condM_splitDN ?_ ?_ | refine condM_splitD ?_ ?_ | refine condM_splitN ?_ ?_ | refine condM_split ?_ ?_ | refine condM_any ?_ ?_ | refine cw (within_c _ _ _) ?_ | refine cw (cA) ?_ | refine cw (cB) ?_ | refine cw (c4) ?_ | refine cw (unless_c _ _) ?_ | intro _) | (simp [*, hlt, hE, cStop]) | (refine cw_eq (within_c _ _ _) ?_ ?_; (· (simp [*]; done))) | (refine cw_eq (cA) ?_ ?_; (· (simp [*]; done))) | (refine cw_eq (cB) ?_ ?_; (· (simp [*]; done))) | (refine cw_eq (c4) ?_ ?_; (· (simp [*]; done))) | (refine cw_eq (unless_c _ _) ?_ ?_; (· (simp [*]; done))))
                all_goals first
                  | exact inI64 (by omega) (by omega)
                  | omega
                  | skip
          · have hke : k = p.stops.length := by omega
            subst hke
            rw [plan2k_end] at hj
            have kj := keep hj
            clear hj
            repeat' (first | (with_reducible first | refine awp_seq ?_ | refine awp_blockS ?_ | refine awp_blockC ?_ | refine awp_blockR ?_ | refine awp_skip ?_ | refine awp_ret ?_ | refine awp_exit ?_ | refine awp_region ?_ | refine awp_regionD (id := 1) 28 mixed (by decide +kernel) ?_ | refine awp_regionD (id := 8) 8 mixed (by decide +kernel) ?_ | refine awp_regionD (id := 21) 18 mixed (by decide +kernel) ?_ | refine awp_regionD (id := 22) 31 mixed (by decide +kernel) ?_ | refine awp_condM ?_ | refine And.intro ?_ ?_ | apply gQ_merge | apply gE_merge | exact EqV_w | exact EqE_w | exact EqV_ptr | exact EqE_ptr | exact EqV_msl | exact EqE_msl | exact EqV_agg | exact EqE_agg | exact EqV_fn | exact EqE_fn | exact EqV_gd | exact EqE_gd | refine gM_splitN ?_ ?_ | refine gM_split ?_ ?_ |  refine condM_splitDN ?_ ?_ | refine condM_splitD ?_ ?_ | refine condM_splitN ?_ ?_ | refine condM_split ?_ ?_ | refine condM_any ?_ ?_ | intro _) | (simp [*]))
            all_goals (refine finW_intro () ?_ ?_; (· exact keep kj.symm); (refine le_of ?_ ?_ <;> first | trivial | (simp [*]; done)))
        · clear k2
          have hR : R2 = plan3 p := hf
          subst hR
          generalize hP3 : plan3 p = R3
          rw [plan3_eq] at hP3
          have k3 := keep hP3
          clear hP3
          repeat' (first | (with_reducible first | refine awp_seq ?_ | refine awp_blockS ?_ | refine awp_blockC ?_ | refine awp_blockR ?_ | refine awp_skip ?_ | refine awp_ret ?_ | refine awp_exit ?_ | refine awp_region ?_ | refine awp_regionD (id := 1) 28 mixed (by decide +kernel) ?_ | refine awp_regionD (id := 8) 8 mixed (by decide +kernel) ?_ | refine awp_regionD (id := 21) 18 mixed (by decide +kernel) ?_ | refine awp_regionD (id := 22) 31 mixed (by decide +kernel) ?_ | refine awp_condM ?_ | refine And.intro ?_ ?_ | apply gQ_merge | apply gE_merge | exact EqV_w | exact EqE_w | exact EqV_ptr | exact EqE_ptr | exact EqV_msl | exact EqE_msl | exact EqV_agg | exact EqE_agg | exact EqV_fn | exact EqE_fn | exact EqV_gd | exact EqE_gd | refine gM_splitN ?_ ?_ | refine gM_split ?_ ?_ |  refine condM_splitDN ?_ ?_ | refine condM_splitD ?_ ?_ | refine condM_splitN ?_ ?_ | refine condM_split ?_ ?_ | refine condM_any ?_ ?_ | intro _) | (simp [*]))
          refine awp_for3 (fun (k : Nat) => k ≤ p.riders.length ∧ plan3k p k = R3) [3, 148] (fun (k : Nat) => [(149, .w false false (.int .i64 k))]) [1, 0] (fun (k : Nat) => []) (fun (k : Nat) => p.riders.length - k) (fun (_u : Unit) => Keep (R3 = (0, 0))) [] (fun (_u : Unit) => []) [1, 0] (fun (_u : Unit) => []) (0) ⟨Nat.zero_le _, k3⟩ (by simp) (by simp) (fun k hk => ?_) (fun _u hf => ?_)
          · obtain ⟨hk, hj⟩ := hk
            by_cases hlt : k < p.riders.length
            · have c1 := contains_c p.stops (by omega) ⟨(k : Int), true⟩
              cases he : elemB p.stops ⟨(k : Int), true⟩ with
              | true =>
                rw [plan3k_ok hlt he] at hj
                rw [he] at c1
                have kj := keep hj
                clear hj he
                repeat' (first | (with_reducible first | refine awp_seq ?_ | refine awp_blockS ?_ | refine awp_blockC ?_ | refine awp_blockR ?_ | refine awp_skip ?_ | refine awp_ret ?_ | refine awp_exit ?_ | refine awp_region ?_ | refine awp_regionD (id := 1) 28 mixed (by decide +kernel) ?_ | refine awp_regionD (id := 8) 8 mixed (by decide +kernel) ?_ | refine awp_regionD (id := 21) 18 mixed (by decide +kernel) ?_ | refine awp_regionD (id := 22) 31 mixed (by decide +kernel) ?_ | refine awp_condM ?_ | refine And.intro ?_ ?_ | apply gQ_merge | apply gE_merge | exact EqV_w | exact EqE_w | exact EqV_ptr | exact EqE_ptr | exact EqV_msl | exact EqE_msl | exact EqV_agg | exact EqE_agg | exact EqV_fn | exact EqE_fn | exact EqV_gd | exact EqE_gd | refine gM_splitN ?_ ?_ | refine gM_split ?_ ?_ |  refine condM_splitDN ?_ ?_ | refine condM_splitD ?_ ?_ | refine condM_splitN ?_ ?_ | refine condM_split ?_ ?_ | refine condM_any ?_ ?_ | refine cw (c1) ?_ | intro _) | (simp [*, hlt]) | (refine cw_eq (c1) ?_ ?_; (· (simp [*]; done))))
                all_goals first
                  | exact inI64 (by omega) (by omega)
                  | omega
                  | (refine loopK_normal _ _ _ _ _ (k + 1) _ ?_ (by first | omega | (dsimp only; omega) | (simp; omega)) ?_; (· exact ⟨by omega, kj⟩); (refine le_of ?_ ?_ <;> first | trivial | (simp [*]; done)))
                  | skip
              | false =>
                rw [plan3k_bad hlt he] at hj
                rw [he] at c1
                subst hj
                clear he
                repeat' (first | (with_reducible first | refine awp_seq ?_ | refine awp_blockS ?_ | refine awp_blockC ?_ | refine awp_blockR ?_ | refine awp_skip ?_ | refine awp_ret ?_ | refine awp_exit ?_ | refine awp_region ?_ | refine awp_regionD (id := 1) 28 mixed (by decide +kernel) ?_ | refine awp_regionD (id := 8) 8 mixed (by decide +kernel) ?_ | refine awp_regionD (id := 21) 18 mixed (by decide +kernel) ?_ | refine awp_regionD (id := 22) 31 mixed (by decide +kernel) ?_ | refine awp_condM ?_ | refine And.intro ?_ ?_ | apply gQ_merge | apply gE_merge | exact EqV_w | exact EqE_w | exact EqV_ptr | exact EqE_ptr | exact EqV_msl | exact EqE_msl | exact EqV_agg | exact EqE_agg | exact EqV_fn | exact EqE_fn | exact EqV_gd | exact EqE_gd | refine gM_splitN ?_ ?_ | refine gM_split ?_ ?_ |  refine condM_splitDN ?_ ?_ | refine condM_splitD ?_ ?_ | refine condM_splitN ?_ ?_ | refine condM_split ?_ ?_ | refine condM_any ?_ ?_ | refine cw (c1) ?_ | intro _) | (simp [*, hlt]) | (refine cw_eq (c1) ?_ ?_; (· (simp [*]; done))))
                all_goals first
                  | exact inI64 (by omega) (by omega)
                  | omega
                  | skip
            · have hke : k = p.riders.length := by omega
              subst hke
              rw [plan3k_end] at hj
              have kj := keep hj
              clear hj
              repeat' (first | (with_reducible first | refine awp_seq ?_ | refine awp_blockS ?_ | refine awp_blockC ?_ | refine awp_blockR ?_ | refine awp_skip ?_ | refine awp_ret ?_ | refine awp_exit ?_ | refine awp_region ?_ | refine awp_regionD (id := 1) 28 mixed (by decide +kernel) ?_ | refine awp_regionD (id := 8) 8 mixed (by decide +kernel) ?_ | refine awp_regionD (id := 21) 18 mixed (by decide +kernel) ?_ | refine awp_regionD (id := 22) 31 mixed (by decide +kernel) ?_ | refine awp_condM ?_ | refine And.intro ?_ ?_ | apply gQ_merge | apply gE_merge | exact EqV_w | exact EqE_w | exact EqV_ptr | exact EqE_ptr | exact EqV_msl | exact EqE_msl | exact EqV_agg | exact EqE_agg | exact EqV_fn | exact EqE_fn | exact EqV_gd | exact EqE_gd | refine gM_splitN ?_ ?_ | refine gM_split ?_ ?_ |  refine condM_splitDN ?_ ?_ | refine condM_splitD ?_ ?_ | refine condM_splitN ?_ ?_ | refine condM_split ?_ ?_ | refine condM_any ?_ ?_ | intro _) | (simp [*]))
              all_goals (refine finW_intro () ?_ ?_; (· exact keep kj.symm); (refine le_of ?_ ?_ <;> first | trivial | (simp [*]; done)))
          · have hR : R3 = (0, 0) := hf
            subst hR
            repeat' (first | (with_reducible first | refine awp_seq ?_ | refine awp_blockS ?_ | refine awp_blockC ?_ | refine awp_blockR ?_ | refine awp_skip ?_ | refine awp_ret ?_ | refine awp_exit ?_ | refine awp_region ?_ | refine awp_regionD (id := 1) 28 mixed (by decide +kernel) ?_ | refine awp_regionD (id := 8) 8 mixed (by decide +kernel) ?_ | refine awp_regionD (id := 21) 18 mixed (by decide +kernel) ?_ | refine awp_regionD (id := 22) 31 mixed (by decide +kernel) ?_ | refine awp_condM ?_ | refine And.intro ?_ ?_ | apply gQ_merge | apply gE_merge | exact EqV_w | exact EqE_w | exact EqV_ptr | exact EqE_ptr | exact EqV_msl | exact EqE_msl | exact EqV_agg | exact EqE_agg | exact EqV_fn | exact EqE_fn | exact EqV_gd | exact EqE_gd | refine gM_splitN ?_ ?_ | refine gM_split ?_ ?_ |  refine condM_splitDN ?_ ?_ | refine condM_splitD ?_ ?_ | refine condM_splitN ?_ ?_ | refine condM_split ?_ ?_ | refine condM_any ?_ ?_ | intro _) | (simp [*]))
  · rw [if_neg h0]
    unfold aMap aPlan cPlan pairI
    refine realcall_intro Tryd.func85 (by kernel_rfl) rfl (Nat.le_of_ble_eq_true (by kernel_rfl)) ?_
    simp only [Tryd.results85, Tryd.ntmps85]
    repeat' (first | (with_reducible first | refine awp_seq ?_ | refine awp_blockS ?_ | refine awp_blockC ?_ | refine awp_blockR ?_ | refine awp_skip ?_ | refine awp_ret ?_ | refine awp_exit ?_ | refine awp_region ?_ | refine awp_regionD (id := 1) 28 mixed (by decide +kernel) ?_ | refine awp_regionD (id := 8) 8 mixed (by decide +kernel) ?_ | refine awp_regionD (id := 21) 18 mixed (by decide +kernel) ?_ | refine awp_regionD (id := 22) 31 mixed (by decide +kernel) ?_ | refine awp_condM ?_ | refine And.intro ?_ ?_ | apply gQ_merge | apply gE_merge | exact EqV_w | exact EqE_w | exact EqV_ptr | exact EqE_ptr | exact EqV_msl | exact EqE_msl | exact EqV_agg | exact EqE_agg | exact EqV_fn | exact EqE_fn | exact EqV_gd | exact EqE_gd | refine gM_splitN ?_ ?_ | refine gM_split ?_ ?_ |  refine condM_splitDN ?_ ?_ | refine condM_splitD ?_ ?_ | refine condM_splitN ?_ ?_ | refine condM_split ?_ ?_ | refine condM_any ?_ ?_ | refine cw (within_c _ _ _) ?_ | refine cw (unless_c _ _) ?_ | refine cw (c3) ?_ | intro _) | (simp [*, h0]) | (refine cw_eq (within_c _ _ _) ?_ ?_; (· (simp [*]; done))) | (refine cw_eq (unless_c _ _) ?_ ?_; (· (simp [*]; done))) | (refine cw_eq (c3) ?_ ?_; (· (simp [*]; done))))
    all_goals first
      | exact inI64 (by omega) (by omega)
      | skip
end Go.Proofs.YtiialcomflggcaaDoor

