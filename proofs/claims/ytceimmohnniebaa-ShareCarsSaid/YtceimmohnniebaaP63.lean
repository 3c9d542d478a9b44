/- Contracts of functions for this claim: lemmas alone. -/
import Derived.Test.YtceimmohnniebaaP62
set_option linter.unusedSimpArgs false
set_option linter.unusedVariables false
namespace Go.Proofs.Ytceimmohnniebaa
open Go Go.Fi
set_option maxRecDepth 20000

abbrev Fin3 (m : Grid) (l : List Plan) (r : Rider) : (Int × Offer) × Int := match carK m l r l.length with | none => ((0, 0, 0, 0), 12) | some (c, _, x) => (((c : Int), x), 0)
set_option maxHeartbeats 16000000 in
theorem bestCar_c (m : Grid) (hm : GridIn m) (l : List Plan) (hl : PlansIn l) (hll : l.length < 100000) (r : Rider) (hr : r.name.size < 1000000) :
    RealCall Try.prog 46 [aMap m, .sl l.length (cPlans l), .agg (cRider r)] (carP (carS m l r)) true := by
  have c1 := mapErr_c m hm
  have c3 := first3_c (mapS m).2.2 (errUnless (decide (0 < (l.length : Int))) 10) (errUnless (decide ((l.length : Int) ≤ 8)) 8)
  unfold carS
  by_cases h0 : (mapS m).2.2 = 0
  · rw [if_pos h0]
    rw [h0] at c1 c3
    by_cases hz : l.length = 0
    · rw [if_pos hz]
      have e : firstS [0, errUnless (decide (0 < (l.length : Int))) 10, errUnless (decide ((l.length : Int) ≤ 8)) 8] = 10 := by rw [hz]; rfl
      rw [e] at c3
      have hp : ¬ 0 < (l.length : Int) := by omega
      have hq : (l.length : Int) ≤ 8 := by omega
      clear e hm hl h0
      unfold carP aMap cRider at *
      refine realcall_intro Try.func46 (by kernel_rfl) rfl (Nat.le_of_ble_eq_true (by kernel_rfl)) ?_
      simp only [Try.results46, Try.ntmps46]
      repeat' (first | (with_reducible first | refine awp_seq ?_ | refine awp_blockS ?_ | refine awp_blockC ?_ | refine awp_blockR ?_ | refine awp_skip ?_ | refine awp_ret ?_ | refine awp_exit ?_ | refine awp_region ?_ | refine awp_regionD (id := 15) 8 mixed (by decide +kernel) ?_ | refine awp_regionD (id := 17) 5 mixed (by decide +kernel) ?_ | refine awp_regionD (id := 21) 3 mixed (by decide +kernel) ?_ | refine awp_condM ?_ | refine And.intro ?_ ?_ | apply gQ_merge | apply gE_merge | exact EqV_w | exact EqE_w | exact EqV_ptr | exact EqE_ptr | exact EqV_msl | exact EqE_msl | exact EqV_agg | exact EqE_agg | exact EqV_fn | exact EqE_fn | exact EqV_gd | exact EqE_gd | refine gM_splitN ?_ ?_ | refine gM_split ?_ ?_ |  refine condM_splitDN ?_ ?_ | refine condM_splitD ?_ ?_ | refine condM_splitN ?_ ?_ | refine condM_split ?_ ?_ | refine condM_any ?_ ?_ | refine cw (c1) ?_ | refine cw (unless_c _ _) ?_ | refine cw (c3) ?_ | intro _) | (simp [*]) | (refine cw_eq (c1) ?_ ?_; (· (simp [*]; done))) | (refine cw_eq (unless_c _ _) ?_ ?_; (· (simp [*]; done))) | (refine cw_eq (c3) ?_ ?_; (· (simp [*]; done))))
    · rw [if_neg hz]
      by_cases h8 : 8 < l.length
      · rw [if_pos h8]
        have hp : 0 < (l.length : Int) := by omega
        have hq : ¬ (l.length : Int) ≤ 8 := by omega
        have e : firstS [0, errUnless (decide (0 < (l.length : Int))) 10, errUnless (decide ((l.length : Int) ≤ 8)) 8] = 8 := by rw [decide_eq_true hp, decide_eq_false hq]; rfl
        rw [e] at c3
        clear e hm hl h0
        unfold carP aMap cRider at *
        refine realcall_intro Try.func46 (by kernel_rfl) rfl (Nat.le_of_ble_eq_true (by kernel_rfl)) ?_
        simp only [Try.results46, Try.ntmps46]
        repeat' (first | (with_reducible first | refine awp_seq ?_ | refine awp_blockS ?_ | refine awp_blockC ?_ | refine awp_blockR ?_ | refine awp_skip ?_ | refine awp_ret ?_ | refine awp_exit ?_ | refine awp_region ?_ | refine awp_regionD (id := 15) 8 mixed (by decide +kernel) ?_ | refine awp_regionD (id := 17) 5 mixed (by decide +kernel) ?_ | refine awp_regionD (id := 21) 3 mixed (by decide +kernel) ?_ | refine awp_condM ?_ | refine And.intro ?_ ?_ | apply gQ_merge | apply gE_merge | exact EqV_w | exact EqE_w | exact EqV_ptr | exact EqE_ptr | exact EqV_msl | exact EqE_msl | exact EqV_agg | exact EqE_agg | exact EqV_fn | exact EqE_fn | exact EqV_gd | exact EqE_gd | refine gM_splitN ?_ ?_ | refine gM_split ?_ ?_ |  refine condM_splitDN ?_ ?_ | refine condM_splitD ?_ ?_ | refine condM_splitN ?_ ?_ | refine condM_split ?_ ?_ | refine condM_any ?_ ?_ | refine cw (c1) ?_ | refine cw (unless_c _ _) ?_ | refine cw (c3) ?_ | intro _) | (simp [*]) | (refine cw_eq (c1) ?_ ?_; (· (simp [*]; done))) | (refine cw_eq (unless_c _ _) ?_ ?_; (· (simp [*]; done))) | (refine cw_eq (c3) ?_ ?_; (· (simp [*]; done))))
      · rw [if_neg h8]
        have hp : 0 < (l.length : Int) := by omega
        have hq : (l.length : Int) ≤ 8 := by omega
        have e : firstS [0, errUnless (decide (0 < (l.length : Int))) 10, errUnless (decide ((l.length : Int) ≤ 8)) 8] = 0 := by rw [decide_eq_true hp, decide_eq_true hq]; rfl
        rw [e] at c3
        have kH : Keep ((if carsE m r l = 0 then Fin3 m l r else ((0, 0, 0, 0), carsE m r l)) = (if carsE m r (l.drop 0) = 0 then Fin3 m l r else ((0, 0, 0, 0), carsE m r (l.drop 0)))) := by show _ = _; rw [List.drop_zero]
        show RealCall Try.prog 46 [aMap m, .sl l.length (cPlans l), .agg (cRider r)] (carP (if carsE m r l = 0 then Fin3 m l r else ((0, 0, 0, 0), carsE m r l))) true
        rw [show (if carsE m r l = 0 then Fin3 m l r else ((0, 0, 0, 0), carsE m r l)) = _ from kH]
        generalize hR : (if carsE m r (l.drop 0) = 0 then Fin3 m l r else ((0, 0, 0, 0), carsE m r (l.drop 0))) = R
        have kR := keep hR
        clear kH hR e h8 hz
        have cP := fun k (hk : k < l.length) => planErr_c m hm (nth l k) (hl k hk).1
        have cN := fun k (hk : k < l.length) => newErr_c m hm (nth l k) (hl k hk).1 r hr
        have kl := keep hl
        have k0 := keep h0
        clear hl hm h0
        unfold carP aMap cRider at *
        refine realcall_intro Try.func46 (by kernel_rfl) rfl (Nat.le_of_ble_eq_true (by kernel_rfl)) ?_
        simp only [Try.results46, Try.ntmps46]
        repeat' (first | (with_reducible first | refine awp_seq ?_ | refine awp_blockS ?_ | refine awp_blockC ?_ | refine awp_blockR ?_ | refine awp_skip ?_ | refine awp_ret ?_ | refine awp_exit ?_ | refine awp_region ?_ | refine awp_regionD (id := 15) 8 mixed (by decide +kernel) ?_ | refine awp_regionD (id := 17) 5 mixed (by decide +kernel) ?_ | refine awp_regionD (id := 21) 3 mixed (by decide +kernel) ?_ | refine awp_condM ?_ | refine And.intro ?_ ?_ | apply gQ_merge | apply gE_merge | exact EqV_w | exact EqE_w | exact EqV_ptr | exact EqE_ptr | exact EqV_msl | exact EqE_msl | exact EqV_agg | exact EqE_agg | exact EqV_fn | exact EqE_fn | exact EqV_gd | exact EqE_gd | refine gM_splitN ?_ ?_ | refine gM_split ?_ ?_ |  refine condM_splitDN ?_ ?_ | refine condM_splitD ?_ ?_ | refine condM_splitN ?_ ?_ | refine condM_split ?_ ?_ | refine condM_any ?_ ?_ | refine cw (c1) ?_ | refine cw (unless_c _ _) ?_ | refine cw (c3) ?_ | intro _) | (simp [*]) | (refine cw_eq (c1) ?_ ?_; (· (simp [*]; done))) | (refine cw_eq (unless_c _ _) ?_ ?_; (· (simp [*]; done))) | (refine cw_eq (c3) ?_ ?_; (· (simp [*]; done))))
        all_goals try first | exact inI64 (by omega) (by omega) | omega
        refine awp_for4 5 (fun (k : Nat) => k ≤ l.length ∧ (∀ j, j < k → offE m (nth l j) r = 0) ∧ (if carsE m r (l.drop k) = 0 then Fin3 m l r else ((0, 0, 0, 0), carsE m r (l.drop k))) = R) [3, 5, 7, 12, 38, 39] (fun (k : Nat) => [(40, .w false false (.int .i64 k)), (10, .w false false (.int .i64 (numV (carK m l r k)))), (11, .w false false (.int .i64 (extV (carK m l r k))))]) [0, 1, 2] (fun (k : Nat) => [(4, [.w false false (.int .i64 (offV (carK m l r k)).1), .w false false (.int .i64 (offV (carK m l r k)).2.1), .w false false (.int .i64 (offV (carK m l r k)).2.2)])]) (fun (k : Nat) => l.length - k) (fun (b : Choice) => R = (match b with | none => ((0, 0, 0, 0), 12) | some (c, _, x) => (((c : Int), x), 0))) [7, 12] (fun (b : Choice) => [(10, .w false false (.int .i64 (numV b)))]) [2] (fun (b : Choice) => [(4, [.w false false (.int .i64 (offV b).1), .w false false (.int .i64 (offV b).2.1), .w false false (.int .i64 (offV b).2.2)])]) (0) ⟨Nat.zero_le _, fun j hj => absurd hj (Nat.not_lt_zero j), kR⟩ (le_gen [] (by simp) (by simp)) (fun k hk => ?_) (fun b hf => ?_)
        · obtain ⟨hk, hj, hv⟩ := hk
          by_cases hlt : k < l.length
          · have hlI : (k : Int) < (l.length : Int) := by omega
            have c4 := cP k hlt
            have c5 := cN k hlt
            have hbd := carK_bd (m := m) (r := r) kl hk hj
            rw [carsE_step hlt] at hv
            have hpin := kl k hlt
            clear cP cN
            have hstep : carK m l r (k + 1) = carStep m r k (nth l k) (carK m l r k) := rfl
            by_cases h1 : (checkS m (nth l k)).2 = 0
            · have e1 : offE m (nth l k) r = newE m (nth l k) r := if_pos h1
              have e2 : (planS m (nth l k)).2 = 0 := by rw [← planS_of k0]; exact h1
              rw [e1] at hv
              by_cases h2 : newE m (nth l k) r = 0
              · rw [if_pos h2] at hv
                have ok := offer_ok hpin.1 h1 h2 hpin.2
                have hj2 : Keep (∀ j, j < k + 1 → offE m (nth l j) r = 0) := by
                  intro j hj3
                  rcases Nat.lt_or_ge j k with h | h
                  · exact hj j h
                  · have : j = k := by omega
                    subst this; rw [e1]; exact h2
                have c6 := best_c m (nth l k) r ok
                have c7 := plain_c m (nth l k) ok.tour.go
                have c8 := cost_c m (nth l k) (timesS m (nth l k) noDelay) (seatsS (nth l k)) (by rw [timesS_len]; exact ok.tour.go.sl) (ok.tour.go.times noDelay_bd) ok.tour.go.t0 ok.tour.go.t1
                have hC : costS (nth l k) (timesS m (nth l k) noDelay) = costP m (nth l k) := rfl
                rw [hC] at c8
                have hcb := costP_bd ok.tour.go
                have hbb := fun x (h : bestS m (nth l k) r = some x) => best_bd ok h
                unfold carStep at hstep
                rw [h2] at c5
                unfold pairI aTour bestP aPlan at *
                rw [e2] at c4
                have kv := keep hv
                have ks := keep hstep
                clear hC ok hv hj hstep hpin e1 e2 h1 h2 hr kR
                generalize cTour m (nth l k) (timesS m (nth l k) noDelay) (seatsS (nth l k)) = T at *
                generalize (planS m (nth l k)).1 = N at *
                generalize carK m l r k = b at *
                generalize costP m (nth l k) = C at *
                have ksb : ∀ B, bestS m (nth l k) r = B → Keep (carK m l r (k + 1) = chF B C k b) := fun B hB => by subst hB; exact ks
                clear ks
                cases hB : bestS m (nth l k) r with
                | none =>
                  have ks := ksb _ hB
                  rw [hB] at c6
                  clear ksb hbb hB
                  generalize hpl : nth l k = p at *
                  try unfold aMap at *
                  try unfold cRider at *
                  unfold cPlan at *
                  repeat' (first | (with_reducible first | refine awp_seq ?_ | refine awp_blockS ?_ | refine awp_blockC ?_ | refine awp_blockR ?_ | refine awp_skip ?_ | refine awp_ret ?_ | refine awp_exit ?_ | refine awp_region ?_ | refine awp_regionD (id := 15) 8 mixed (by decide +kernel) ?_ | refine awp_regionD (id := 17) 5 mixed (by decide +kernel) ?_ | refine awp_regionD (id := 21) 3 mixed (by decide +kernel) ?_ | refine awp_condM ?_ | refine And.intro ?_ ?_ | apply gQ_merge | apply gE_merge | exact EqV_w | exact EqE_w | exact EqV_ptr | exact EqE_ptr | exact EqV_msl | exact EqE_msl | exact EqV_agg | exact EqE_agg | exact EqV_fn | exact EqE_fn | exact EqV_gd | exact EqE_gd | refine gM_splitN ?_ ?_ | refine gM_split ?_ ?_ |  refine condM_splitDN ?_ ?_ | refine condM_splitD ?_ ?_ | refine condM_splitN ?_ ?_ | refine condM_split ?_ ?_ | refine condM_any ?_ ?_ | refine cw (c4) ?_ | refine cw (c5) ?_ | refine cw (c6) ?_ | refine cw (c7) ?_ | refine cw (c8) ?_ | intro _) | (simp [*, hlI, hlt, hpl, cPlan]) | (refine cw_eq (c4) ?_ ?_; (· (simp [*]; done))) | (refine cw_eq (c5) ?_ ?_; (· (simp [*]; done))) | (refine cw_eq (c6) ?_ ?_; (· (simp [*]; done))) | (refine cw_eq (c7) ?_ ?_; (· (simp [*]; done))) | (refine cw_eq (c8) ?_ ?_; (· (simp [*]; done))))
                  all_goals try first | exact inI64 (by omega) (by omega) | omega
                  all_goals (refine loopK_normal _ _ _ _ _ (k + 1) _ ?_ (by first | omega | (dsimp only; omega) | (simp; omega)) ?_; (· exact ⟨by omega, hj2, kv⟩); (refine le_gen [] ?_ ?_ <;> first | trivial | (simp [*, show carK m l r (k + 1) = b from ks]; done)))
                | some x =>
                  have ks := ksb _ hB
                  have hx := hbb x hB
                  rw [hB] at c6
                  clear ksb hbb hB
                  generalize hpl : nth l k = p at *
                  try unfold aMap at *
                  try unfold cRider at *
                  unfold cPlan at *
                  cases b with
                  | none =>
                    repeat' (first | (with_reducible first | refine awp_seq ?_ | refine awp_blockS ?_ | refine awp_blockC ?_ | refine awp_blockR ?_ | refine awp_skip ?_ | refine awp_ret ?_ | refine awp_exit ?_ | refine awp_region ?_ | refine awp_regionD (id := 15) 8 mixed (by decide +kernel) ?_ | refine awp_regionD (id := 17) 5 mixed (by decide +kernel) ?_ | refine awp_regionD (id := 21) 3 mixed (by decide +kernel) ?_ | refine awp_condM ?_ | refine And.intro ?_ ?_ | apply gQ_merge | apply gE_merge | exact EqV_w | exact EqE_w | exact EqV_ptr | exact EqE_ptr | exact EqV_msl | exact EqE_msl | exact EqV_agg | exact EqE_agg | exact EqV_fn | exact EqE_fn | exact EqV_gd | exact EqE_gd | refine gM_splitN ?_ ?_ | refine gM_split ?_ ?_ |  refine condM_splitDN ?_ ?_ | refine condM_splitD ?_ ?_ | refine condM_splitN ?_ ?_ | refine condM_split ?_ ?_ | refine condM_any ?_ ?_ | refine cw (c4) ?_ | refine cw (c5) ?_ | refine cw (c6) ?_ | refine cw (c7) ?_ | refine cw (c8) ?_ | intro _) | (simp [*, hlI, hlt, hpl, cPlan]) | (refine cw_eq (c4) ?_ ?_; (· (simp [*]; done))) | (refine cw_eq (c5) ?_ ?_; (· (simp [*]; done))) | (refine cw_eq (c6) ?_ ?_; (· (simp [*]; done))) | (refine cw_eq (c7) ?_ ?_; (· (simp [*]; done))) | (refine cw_eq (c8) ?_ ?_; (· (simp [*]; done))))
                    all_goals try first | exact inI64 (by omega) (by omega) | omega
                    all_goals (refine loopK_normal _ _ _ _ _ (k + 1) _ ?_ (by first | omega | (dsimp only; omega) | (simp; omega)) ?_; (· exact ⟨by omega, hj2, kv⟩); (refine le_gen [] ?_ ?_ <;> first | trivial | (simp [*, show carK m l r (k + 1) = some (k, x.2.2 - C, x) from ks, numV, extV, offV]; done)))
                  | some b =>
                    obtain ⟨c, e, y⟩ := b
                    have hc0 : ¬ (c : Int) < 0 := by omega
                    have ks : Keep (carK m l r (k + 1) = if x.2.2 - C < e then some (k, x.2.2 - C, x) else some (c, e, y)) := ks
                    unfold numV extV offV at *
                    dsimp only at hbd
                    by_cases hlt2 : x.2.2 - C < e
                    · rw [if_pos hlt2] at ks
                      repeat' (first | (with_reducible first | refine awp_seq ?_ | refine awp_blockS ?_ | refine awp_blockC ?_ | refine awp_blockR ?_ | refine awp_skip ?_ | refine awp_ret ?_ | refine awp_exit ?_ | refine awp_region ?_ | refine awp_regionD (id := 15) 8 mixed (by decide +kernel) ?_ | refine awp_regionD (id := 17) 5 mixed (by decide +kernel) ?_ | refine awp_regionD (id := 21) 3 mixed (by decide +kernel) ?_ | refine awp_condM ?_ | refine And.intro ?_ ?_ | apply gQ_merge | apply gE_merge | exact EqV_w | exact EqE_w | exact EqV_ptr | exact EqE_ptr | exact EqV_msl | exact EqE_msl | exact EqV_agg | exact EqE_agg | exact EqV_fn | exact EqE_fn | exact EqV_gd | exact EqE_gd | refine gM_splitN ?_ ?_ | refine gM_split ?_ ?_ |  refine condM_splitDN ?_ ?_ | refine condM_splitD ?_ ?_ | refine condM_splitN ?_ ?_ | refine condM_split ?_ ?_ | refine condM_any ?_ ?_ | refine cw (c4) ?_ | refine cw (c5) ?_ | refine cw (c6) ?_ | refine cw (c7) ?_ | refine cw (c8) ?_ | intro _) | (simp [*, hlI, hlt, hpl, cPlan]) | (refine cw_eq (c4) ?_ ?_; (· (simp [*]; done))) | (refine cw_eq (c5) ?_ ?_; (· (simp [*]; done))) | (refine cw_eq (c6) ?_ ?_; (· (simp [*]; done))) | (refine cw_eq (c7) ?_ ?_; (· (simp [*]; done))) | (refine cw_eq (c8) ?_ ?_; (· (simp [*]; done))))
                      all_goals try first | exact inI64 (by omega) (by omega) | omega
                      all_goals (refine loopK_normal _ _ _ _ _ (k + 1) _ ?_ (by first | omega | (dsimp only; omega) | (simp; omega)) ?_; (· exact ⟨by omega, hj2, kv⟩); (refine le_gen [] ?_ ?_ <;> first | trivial | (simp [*, show carK m l r (k + 1) = some (k, x.2.2 - C, x) from ks]; done)))
                    · rw [if_neg hlt2] at ks
                      repeat' (first | (with_reducible first | refine awp_seq ?_ | refine awp_blockS ?_ | refine awp_blockC ?_ | refine awp_blockR ?_ | refine awp_skip ?_ | refine awp_ret ?_ | refine awp_exit ?_ | refine awp_region ?_ | refine awp_regionD (id := 15) 8 mixed (by decide +kernel) ?_ | refine awp_regionD (id := 17) 5 mixed (by decide +kernel) ?_ | refine awp_regionD (id := 21) 3 mixed (by decide +kernel) ?_ | refine awp_condM ?_ | refine And.intro ?_ ?_ | apply gQ_merge | apply gE_merge | exact EqV_w | exact EqE_w | exact EqV_ptr | exact EqE_ptr | exact EqV_msl | exact EqE_msl | exact EqV_agg | exact EqE_agg | exact EqV_fn | exact EqE_fn | exact EqV_gd | exact EqE_gd | refine gM_splitN ?_ ?_ | refine gM_split ?_ ?_ |  refine condM_splitDN ?_ ?_ | refine condM_splitD ?_ ?_ | refine condM_splitN ?_ ?_ | refine condM_split ?_ ?_ | refine condM_any ?_ ?_ | refine cw (c4) ?_ | refine cw (c5) ?_ | refine cw (c6) ?_ | refine cw (c7) ?_ | refine cw (c8) ?_ | intro _) | (simp [*, hlI, hlt, hpl, cPlan]) | (refine cw_eq (c4) ?_ ?_; (· (simp [*]; done))) | (refine cw_eq (c5) ?_ ?_; (· (simp [*]; done))) | (refine cw_eq (c6) ?_ ?_; (· (simp [*]; done))) | (refine cw_eq (c7) ?_ ?_; (· (simp [*]; done))) | (refine cw_eq (c8) ?_ ?_; (· (simp [*]; done))))
                      all_goals try first | exact inI64 (by omega) (by omega) | omega
                      all_goals (refine loopK_normal _ _ _ _ _ (k + 1) _ ?_ (by first | omega | (dsimp only; omega) | (simp; omega)) ?_; (· exact ⟨by omega, hj2, kv⟩); (refine le_gen [] ?_ ?_ <;> first | trivial | (simp [*, show carK m l r (k + 1) = some (c, e, y) from ks]; done)))
              · rw [if_neg h2, if_neg h2] at hv
                subst hv
                unfold pairI aPlan at *
                rw [e2] at c4
                clear hj hstep hpin e1 e2 h1 hr kR hbd
                generalize newE m (nth l k) r = E at *
                generalize (planS m (nth l k)).1 = N at *
                generalize carK m l r k = b at *
                generalize hpl : nth l k = p at *
                try unfold aMap at *
                try unfold cRider at *
                unfold cPlan at *
                repeat' (first | (with_reducible first | refine awp_seq ?_ | refine awp_blockS ?_ | refine awp_blockC ?_ | refine awp_blockR ?_ | refine awp_skip ?_ | refine awp_ret ?_ | refine awp_exit ?_ | refine awp_region ?_ | refine awp_regionD (id := 15) 8 mixed (by decide +kernel) ?_ | refine awp_regionD (id := 17) 5 mixed (by decide +kernel) ?_ | refine awp_regionD (id := 21) 3 mixed (by decide +kernel) ?_ | refine awp_condM ?_ | refine And.intro ?_ ?_ | apply gQ_merge | apply gE_merge | exact EqV_w | exact EqE_w | exact EqV_ptr | exact EqE_ptr | exact EqV_msl | exact EqE_msl | exact EqV_agg | exact EqE_agg | exact EqV_fn | exact EqE_fn | exact EqV_gd | exact EqE_gd | refine gM_splitN ?_ ?_ | refine gM_split ?_ ?_ |  refine condM_splitDN ?_ ?_ | refine condM_splitD ?_ ?_ | refine condM_splitN ?_ ?_ | refine condM_split ?_ ?_ | refine condM_any ?_ ?_ | refine cw (c4) ?_ | refine cw (c5) ?_ | intro _) | (simp [*, hlI, hlt, hpl, cPlan, h2]) | (refine cw_eq (c4) ?_ ?_; (· (simp [*]; done))) | (refine cw_eq (c5) ?_ ?_; (· (simp [*]; done))))
                all_goals try first | exact inI64 (by omega) (by omega) | omega
            · have e1 : offE m (nth l k) r = (planS m (nth l k)).2 := by rw [← planS_of k0]; exact if_neg h1
              rw [planS_of k0] at h1
              rw [e1, if_neg h1, if_neg h1] at hv
              subst hv
              unfold pairI aPlan at *
              clear hj hstep hpin e1 hr kR hbd c5
              generalize planS m (nth l k) = E at *
              generalize carK m l r k = b at *
              generalize hpl : nth l k = p at *
              try unfold aMap at *
              try unfold cRider at *
              unfold cPlan at *
              repeat' (first | (with_reducible first | refine awp_seq ?_ | refine awp_blockS ?_ | refine awp_blockC ?_ | refine awp_blockR ?_ | refine awp_skip ?_ | refine awp_ret ?_ | refine awp_exit ?_ | refine awp_region ?_ | refine awp_regionD (id := 15) 8 mixed (by decide +kernel) ?_ | refine awp_regionD (id := 17) 5 mixed (by decide +kernel) ?_ | refine awp_regionD (id := 21) 3 mixed (by decide +kernel) ?_ | refine awp_condM ?_ | refine And.intro ?_ ?_ | apply gQ_merge | apply gE_merge | exact EqV_w | exact EqE_w | exact EqV_ptr | exact EqE_ptr | exact EqV_msl | exact EqE_msl | exact EqV_agg | exact EqE_agg | exact EqV_fn | exact EqE_fn | exact EqV_gd | exact EqE_gd | refine gM_splitN ?_ ?_ | refine gM_split ?_ ?_ |  refine condM_splitDN ?_ ?_ | refine condM_splitD ?_ ?_ | refine condM_splitN ?_ ?_ | refine condM_split ?_ ?_ | refine condM_any ?_ ?_ | refine cw (c4) ?_ | intro _) | (simp [*, hlI, hlt, hpl, cPlan, h1]) | (refine cw_eq (c4) ?_ ?_; (· (simp [*]; done))))
              all_goals try first | exact inI64 (by omega) (by omega) | omega
          · have hke : k = l.length := by omega
            subst hke
            rw [carsE_end, if_pos rfl] at hv
            have kv := keep hv.symm
            clear hv hj cP cN kR
            repeat' (first | (with_reducible first | refine awp_seq ?_ | refine awp_blockS ?_ | refine awp_blockC ?_ | refine awp_blockR ?_ | refine awp_skip ?_ | refine awp_ret ?_ | refine awp_exit ?_ | refine awp_region ?_ | refine awp_regionD (id := 15) 8 mixed (by decide +kernel) ?_ | refine awp_regionD (id := 17) 5 mixed (by decide +kernel) ?_ | refine awp_regionD (id := 21) 3 mixed (by decide +kernel) ?_ | refine awp_condM ?_ | refine And.intro ?_ ?_ | apply gQ_merge | apply gE_merge | exact EqV_w | exact EqE_w | exact EqV_ptr | exact EqE_ptr | exact EqV_msl | exact EqE_msl | exact EqV_agg | exact EqE_agg | exact EqV_fn | exact EqE_fn | exact EqV_gd | exact EqE_gd | refine gM_splitN ?_ ?_ | refine gM_split ?_ ?_ |  refine condM_splitDN ?_ ?_ | refine condM_splitD ?_ ?_ | refine condM_splitN ?_ ?_ | refine condM_split ?_ ?_ | refine condM_any ?_ ?_ | intro _) | (simp [*]))
            all_goals (refine finW_intro (carK m l r l.length) ?_ ?_; (· exact kv); (refine le_gen [] ?_ ?_ <;> first | trivial | (simp [*]; done)))
        · subst hf
          clear cP cN kR
          cases b with
          | none =>
            repeat' (first | (with_reducible first | refine awp_seq ?_ | refine awp_blockS ?_ | refine awp_blockC ?_ | refine awp_blockR ?_ | refine awp_skip ?_ | refine awp_ret ?_ | refine awp_exit ?_ | refine awp_region ?_ | refine awp_regionD (id := 15) 8 mixed (by decide +kernel) ?_ | refine awp_regionD (id := 17) 5 mixed (by decide +kernel) ?_ | refine awp_regionD (id := 21) 3 mixed (by decide +kernel) ?_ | refine awp_condM ?_ | refine And.intro ?_ ?_ | apply gQ_merge | apply gE_merge | exact EqV_w | exact EqE_w | exact EqV_ptr | exact EqE_ptr | exact EqV_msl | exact EqE_msl | exact EqV_agg | exact EqE_agg | exact EqV_fn | exact EqE_fn | exact EqV_gd | exact EqE_gd | refine gM_splitN ?_ ?_ | refine gM_split ?_ ?_ |  refine condM_splitDN ?_ ?_ | refine condM_splitD ?_ ?_ | refine condM_splitN ?_ ?_ | refine condM_split ?_ ?_ | refine condM_any ?_ ?_ | intro _) | (simp [*]))
          | some b =>
            obtain ⟨c, e, y⟩ := b
            have hc0 : ¬ (c : Int) < 0 := by omega
            unfold numV offV at *
            repeat' (first | (with_reducible first | refine awp_seq ?_ | refine awp_blockS ?_ | refine awp_blockC ?_ | refine awp_blockR ?_ | refine awp_skip ?_ | refine awp_ret ?_ | refine awp_exit ?_ | refine awp_region ?_ | refine awp_regionD (id := 15) 8 mixed (by decide +kernel) ?_ | refine awp_regionD (id := 17) 5 mixed (by decide +kernel) ?_ | refine awp_regionD (id := 21) 3 mixed (by decide +kernel) ?_ | refine awp_condM ?_ | refine And.intro ?_ ?_ | apply gQ_merge | apply gE_merge | exact EqV_w | exact EqE_w | exact EqV_ptr | exact EqE_ptr | exact EqV_msl | exact EqE_msl | exact EqV_agg | exact EqE_agg | exact EqV_fn | exact EqE_fn | exact EqV_gd | exact EqE_gd | refine gM_splitN ?_ ?_ | refine gM_split ?_ ?_ |  refine condM_splitDN ?_ ?_ | refine condM_splitD ?_ ?_ | refine condM_splitN ?_ ?_ | refine condM_split ?_ ?_ | refine condM_any ?_ ?_ | intro _) | (simp [*]))
  · rw [if_neg h0]
    have e : firstS [(mapS m).2.2, errUnless (decide (0 < (l.length : Int))) 10, errUnless (decide ((l.length : Int) ≤ 8)) 8] = (mapS m).2.2 := by
      simp only [firstS]; rw [if_neg h0]
    rw [e] at c3
    clear e hm hl
    generalize (mapS m).2.2 = E at *
    unfold carP aMap cRider at *
    refine realcall_intro Try.func46 (by kernel_rfl) rfl (Nat.le_of_ble_eq_true (by kernel_rfl)) ?_
    simp only [Try.results46, Try.ntmps46]
    repeat' (first | (with_reducible first | refine awp_seq ?_ | refine awp_blockS ?_ | refine awp_blockC ?_ | refine awp_blockR ?_ | refine awp_skip ?_ | refine awp_ret ?_ | refine awp_exit ?_ | refine awp_region ?_ | refine awp_regionD (id := 15) 8 mixed (by decide +kernel) ?_ | refine awp_regionD (id := 17) 5 mixed (by decide +kernel) ?_ | refine awp_regionD (id := 21) 3 mixed (by decide +kernel) ?_ | refine awp_condM ?_ | refine And.intro ?_ ?_ | apply gQ_merge | apply gE_merge | exact EqV_w | exact EqE_w | exact EqV_ptr | exact EqE_ptr | exact EqV_msl | exact EqE_msl | exact EqV_agg | exact EqE_agg | exact EqV_fn | exact EqE_fn | exact EqV_gd | exact EqE_gd | refine gM_splitN ?_ ?_ | refine gM_split ?_ ?_ |  refine condM_splitDN ?_ ?_ | refine condM_splitD ?_ ?_ | refine condM_splitN ?_ ?_ | refine condM_split ?_ ?_ | refine condM_any ?_ ?_ | refine cw (c1) ?_ | refine cw (unless_c _ _) ?_ | refine cw (c3) ?_ | intro _) | (simp [*, h0]) | (refine cw_eq (c1) ?_ ?_; (· (simp [*]; done))) | (refine cw_eq (unless_c _ _) ?_ ?_; (· (simp [*]; done))) | (refine cw_eq (c3) ?_ ?_; (· (simp [*]; done))))
end Go.Proofs.Ytceimmohnniebaa
