/- Contracts of functions for this claim: lemmas alone. -/
import Derived.Test.YtceimmohnniebaaP63
set_option linter.unusedSimpArgs false
set_option linter.unusedVariables false
namespace Go.Proofs.Ytceimmohnniebaa
open Go Go.Fi
set_option maxRecDepth 20000

theorem carsE_all {m : Grid} {r : Rider} : ∀ {l : List Plan}, carsE m r l = 0 → ∀ j, j < l.length → offE m (nth l j) r = 0
  | [], _, j, hj => by simp at hj
  | p :: l, h, j, hj => by
    unfold carsE at h
    by_cases hp : offE m p r = 0
    · rw [if_pos hp] at h
      cases j with
      | zero => exact hp
      | succ j => simpa using carsE_all h j (by simpa using hj)
    · rw [if_neg hp] at h; exact absurd h hp
set_option maxHeartbeats 16000000 in
theorem rBestCar_c (m : Grid) (hm : GridIn m) (l : List Plan) (hl : PlansIn l) (hll : l.length < 100000) (r : Rider) (hr : r.name.size < 1000000) :
    RealCall Try.prog 48 [aMap m, .sl l.length (cPlans l), .agg (cRider r)] (carP (carS m l r)) true := by
  have c1 := rMapErr_c m hm
  unfold carS
  by_cases h0 : (mapS m).2.2 = 0
  · rw [if_pos h0]
    rw [h0] at c1
    by_cases hz : l.length = 0
    · rw [if_pos hz]
      clear hm hl h0
      unfold carP aMap cRider at *
      refine realcall_intro Try.func48 (by kernel_rfl) rfl (Nat.le_of_ble_eq_true (by kernel_rfl)) ?_
      simp only [Try.results48, Try.ntmps48]
      repeat' (first | (with_reducible first | refine awp_seq ?_ | refine awp_blockS ?_ | refine awp_blockC ?_ | refine awp_blockR ?_ | refine awp_skip ?_ | refine awp_ret ?_ | refine awp_exit ?_ | refine awp_region ?_ | refine awp_regionD (id := 11) 7 mixed (by decide +kernel) ?_ | refine awp_regionD (id := 13) 8 mixed (by decide +kernel) ?_ | refine awp_regionS (id := 21) [0, 1, 2, 3, 4, 5, 6, 7, 8, 9, 10] [11, 12] [[], [], [], [], [], [], [], [], [], [.new 0], []] [[.new 0], []] mixed (by decide +kernel) ?_ | refine awp_regionD (id := 23) 10 mixed (by decide +kernel) ?_ | refine awp_regionD (id := 25) 5 mixed (by decide +kernel) ?_ | refine awp_regionD (id := 28) 3 mixed (by decide +kernel) ?_ | refine awp_condM ?_ | refine And.intro ?_ ?_ | apply gQ_merge | apply gE_merge | exact EqV_w | exact EqE_w | exact EqV_ptr | exact EqE_ptr | exact EqV_msl | exact EqE_msl | exact EqV_agg | exact EqE_agg | exact EqV_fn | exact EqE_fn | exact EqV_gd | exact EqE_gd | refine gM_splitN ?_ ?_ | refine gM_split ?_ ?_ |  refine condM_splitDN ?_ ?_ | refine condM_splitD ?_ ?_ | refine condM_splitN ?_ ?_ | refine condM_split ?_ ?_ | refine condM_any ?_ ?_ | refine cw (c1) ?_ | intro _) | (simp [*, hz]) | (refine cw_eq (c1) ?_ ?_; (· (simp [*]; done))))
    · rw [if_neg hz]
      have hz' : ¬ (l.length : Int) = 0 := by omega
      by_cases h8 : 8 < l.length
      · rw [if_pos h8]
        have h8' : (8 : Int) < (l.length : Int) := by omega
        clear hm hl h0
        unfold carP aMap cRider at *
        refine realcall_intro Try.func48 (by kernel_rfl) rfl (Nat.le_of_ble_eq_true (by kernel_rfl)) ?_
        simp only [Try.results48, Try.ntmps48]
        repeat' (first | (with_reducible first | refine awp_seq ?_ | refine awp_blockS ?_ | refine awp_blockC ?_ | refine awp_blockR ?_ | refine awp_skip ?_ | refine awp_ret ?_ | refine awp_exit ?_ | refine awp_region ?_ | refine awp_regionD (id := 11) 7 mixed (by decide +kernel) ?_ | refine awp_regionD (id := 13) 8 mixed (by decide +kernel) ?_ | refine awp_regionS (id := 21) [0, 1, 2, 3, 4, 5, 6, 7, 8, 9, 10] [11, 12] [[], [], [], [], [], [], [], [], [], [.new 0], []] [[.new 0], []] mixed (by decide +kernel) ?_ | refine awp_regionD (id := 23) 10 mixed (by decide +kernel) ?_ | refine awp_regionD (id := 25) 5 mixed (by decide +kernel) ?_ | refine awp_regionD (id := 28) 3 mixed (by decide +kernel) ?_ | refine awp_condM ?_ | refine And.intro ?_ ?_ | apply gQ_merge | apply gE_merge | exact EqV_w | exact EqE_w | exact EqV_ptr | exact EqE_ptr | exact EqV_msl | exact EqE_msl | exact EqV_agg | exact EqE_agg | exact EqV_fn | exact EqE_fn | exact EqV_gd | exact EqE_gd | refine gM_splitN ?_ ?_ | refine gM_split ?_ ?_ |  refine condM_splitDN ?_ ?_ | refine condM_splitD ?_ ?_ | refine condM_splitN ?_ ?_ | refine condM_split ?_ ?_ | refine condM_any ?_ ?_ | refine cw (c1) ?_ | intro _) | (simp [*, hz', h8']) | (refine cw_eq (c1) ?_ ?_; (· (simp [*]; done))))
      · rw [if_neg h8]
        have h8' : ¬ (8 : Int) < (l.length : Int) := by omega
        have cP := fun k (hk : k < l.length) => rPlanErr_c m hm (nth l k) (hl k hk).1
        have cN := fun k (hk : k < l.length) => rNewErr_c m hm (nth l k) (hl k hk).1 r hr
        have cB := fun k (hk : k < l.length) (h : offE m (nth l k) r = 0) => show OfferOk m (nth l k) r from by
          unfold offE at h
          by_cases hc : (checkS m (nth l k)).2 = 0
          · rw [if_pos hc] at h; exact offer_ok (hl k hk).1 hc h (hl k hk).2
          · rw [if_neg hc] at h; exact absurd h hc
        have kl := keep hl
        have kb := keep cB
        clear hl hm h0 cB
        generalize hE : carsE m r l = E
        have kE0 : Keep (carsE m r (l.drop 0) = E) := by show _ = _; rw [List.drop_zero]; exact hE
        have kE := keep hE
        clear hE
        show RealCall Try.prog 48 [aMap m, .sl l.length (cPlans l), .agg (cRider r)] (carP (if E = 0 then Fin3 m l r else ((0, 0, 0, 0), E))) true
        unfold carP aMap cRider at *
        refine realcall_intro Try.func48 (by kernel_rfl) rfl (Nat.le_of_ble_eq_true (by kernel_rfl)) ?_
        simp only [Try.results48, Try.ntmps48]
        repeat' (first | (with_reducible first | refine awp_seq ?_ | refine awp_blockS ?_ | refine awp_blockC ?_ | refine awp_blockR ?_ | refine awp_skip ?_ | refine awp_ret ?_ | refine awp_exit ?_ | refine awp_region ?_ | refine awp_regionD (id := 11) 7 mixed (by decide +kernel) ?_ | refine awp_regionD (id := 13) 8 mixed (by decide +kernel) ?_ | refine awp_regionS (id := 21) [0, 1, 2, 3, 4, 5, 6, 7, 8, 9, 10] [11, 12] [[], [], [], [], [], [], [], [], [], [.new 0], []] [[.new 0], []] mixed (by decide +kernel) ?_ | refine awp_regionD (id := 23) 10 mixed (by decide +kernel) ?_ | refine awp_regionD (id := 25) 5 mixed (by decide +kernel) ?_ | refine awp_regionD (id := 28) 3 mixed (by decide +kernel) ?_ | refine awp_condM ?_ | refine And.intro ?_ ?_ | apply gQ_merge | apply gE_merge | exact EqV_w | exact EqE_w | exact EqV_ptr | exact EqE_ptr | exact EqV_msl | exact EqE_msl | exact EqV_agg | exact EqE_agg | exact EqV_fn | exact EqE_fn | exact EqV_gd | exact EqE_gd | refine gM_splitN ?_ ?_ | refine gM_split ?_ ?_ |  refine condM_splitDN ?_ ?_ | refine condM_splitD ?_ ?_ | refine condM_splitN ?_ ?_ | refine condM_split ?_ ?_ | refine condM_any ?_ ?_ | refine cw (c1) ?_ | intro _) | (simp [*, hz', h8']) | (refine cw_eq (c1) ?_ ?_; (· (simp [*]; done))))
        all_goals try first | exact inI64 (by omega) (by omega) | omega
        refine awp_for3 (fun (k : Nat) => k ≤ l.length ∧ carsE m r (l.drop k) = E) [1, 3, 5, 7] (fun (k : Nat) => [(10, .w false false (.int .i64 k))]) [0, 1, 2] (fun (k : Nat) => []) (fun (k : Nat) => l.length - k) (fun (_u : Unit) => E = 0) [1, 3, 5, 7] (fun (_u : Unit) => []) [0, 1, 2] (fun (_u : Unit) => []) (0) ⟨Nat.zero_le _, kE0⟩ (by simp) (by simp) (fun k hk => ?_) (fun _u hf => ?_)
        · obtain ⟨hk, hv⟩ := hk
          by_cases hlt : k < l.length
          · have hlI : (k : Int) < (l.length : Int) := by omega
            have c4 := cP k hlt
            have c5 := cN k hlt
            rw [carsE_step hlt] at hv
            clear cP cN kb kl
            by_cases h1 : (checkS m (nth l k)).2 = 0
            · have e1 : offE m (nth l k) r = newE m (nth l k) r := if_pos h1
              rw [e1] at hv
              rw [h1] at c4
              by_cases h2 : newE m (nth l k) r = 0
              · rw [if_pos h2] at hv
                rw [h2] at c5
                have kv := keep hv
                unfold aPlan at *
                clear hv e1 h1 h2 hr
                generalize hpl : nth l k = p at *
                unfold cPlan at *
                repeat' (first | (with_reducible first | refine awp_seq ?_ | refine awp_blockS ?_ | refine awp_blockC ?_ | refine awp_blockR ?_ | refine awp_skip ?_ | refine awp_ret ?_ | refine awp_exit ?_ | refine awp_region ?_ | refine awp_regionD (id := 11) 7 mixed (by decide +kernel) ?_ | refine awp_regionD (id := 13) 8 mixed (by decide +kernel) ?_ | refine awp_regionS (id := 21) [0, 1, 2, 3, 4, 5, 6, 7, 8, 9, 10] [11, 12] [[], [], [], [], [], [], [], [], [], [.new 0], []] [[.new 0], []] mixed (by decide +kernel) ?_ | refine awp_regionD (id := 23) 10 mixed (by decide +kernel) ?_ | refine awp_regionD (id := 25) 5 mixed (by decide +kernel) ?_ | refine awp_regionD (id := 28) 3 mixed (by decide +kernel) ?_ | refine awp_condM ?_ | refine And.intro ?_ ?_ | apply gQ_merge | apply gE_merge | exact EqV_w | exact EqE_w | exact EqV_ptr | exact EqE_ptr | exact EqV_msl | exact EqE_msl | exact EqV_agg | exact EqE_agg | exact EqV_fn | exact EqE_fn | exact EqV_gd | exact EqE_gd | refine gM_splitN ?_ ?_ | refine gM_split ?_ ?_ |  refine condM_splitDN ?_ ?_ | refine condM_splitD ?_ ?_ | refine condM_splitN ?_ ?_ | refine condM_split ?_ ?_ | refine condM_any ?_ ?_ | refine cw (c4) ?_ | refine cw (c5) ?_ | intro _) | (simp [*, hlI, hlt, hpl, cPlan]) | (refine cw_eq (c4) ?_ ?_; (· (simp [*]; done))) | (refine cw_eq (c5) ?_ ?_; (· (simp [*]; done))))
                all_goals try first | exact inI64 (by omega) (by omega) | omega
                all_goals (refine loopK_normal _ _ _ _ _ (k + 1) _ ?_ (by first | omega | (dsimp only; omega) | (simp; omega)) ?_; (· exact ⟨by omega, kv⟩); (refine le_of ?_ ?_ <;> first | trivial | (simp [*]; done)))
              · rw [if_neg h2] at hv
                subst hv
                unfold aPlan at *
                clear e1 h1 hr
                generalize newE m (nth l k) r = E at *
                generalize hpl : nth l k = p at *
                unfold cPlan at *
                repeat' (first | (with_reducible first | refine awp_seq ?_ | refine awp_blockS ?_ | refine awp_blockC ?_ | refine awp_blockR ?_ | refine awp_skip ?_ | refine awp_ret ?_ | refine awp_exit ?_ | refine awp_region ?_ | refine awp_regionD (id := 11) 7 mixed (by decide +kernel) ?_ | refine awp_regionD (id := 13) 8 mixed (by decide +kernel) ?_ | refine awp_regionS (id := 21) [0, 1, 2, 3, 4, 5, 6, 7, 8, 9, 10] [11, 12] [[], [], [], [], [], [], [], [], [], [.new 0], []] [[.new 0], []] mixed (by decide +kernel) ?_ | refine awp_regionD (id := 23) 10 mixed (by decide +kernel) ?_ | refine awp_regionD (id := 25) 5 mixed (by decide +kernel) ?_ | refine awp_regionD (id := 28) 3 mixed (by decide +kernel) ?_ | refine awp_condM ?_ | refine And.intro ?_ ?_ | apply gQ_merge | apply gE_merge | exact EqV_w | exact EqE_w | exact EqV_ptr | exact EqE_ptr | exact EqV_msl | exact EqE_msl | exact EqV_agg | exact EqE_agg | exact EqV_fn | exact EqE_fn | exact EqV_gd | exact EqE_gd | refine gM_splitN ?_ ?_ | refine gM_split ?_ ?_ |  refine condM_splitDN ?_ ?_ | refine condM_splitD ?_ ?_ | refine condM_splitN ?_ ?_ | refine condM_split ?_ ?_ | refine condM_any ?_ ?_ | refine cw (c4) ?_ | refine cw (c5) ?_ | intro _) | (simp [*, hlI, hlt, hpl, cPlan, h2]) | (refine cw_eq (c4) ?_ ?_; (· (simp [*]; done))) | (refine cw_eq (c5) ?_ ?_; (· (simp [*]; done))))
                all_goals try first | exact inI64 (by omega) (by omega) | omega
            · have e1 : offE m (nth l k) r = (checkS m (nth l k)).2 := if_neg h1
              rw [e1, if_neg h1] at hv
              subst hv
              unfold aPlan at *
              clear e1 hr c5
              generalize (checkS m (nth l k)).2 = E at *
              generalize hpl : nth l k = p at *
              unfold cPlan at *
              repeat' (first | (with_reducible first | refine awp_seq ?_ | refine awp_blockS ?_ | refine awp_blockC ?_ | refine awp_blockR ?_ | refine awp_skip ?_ | refine awp_ret ?_ | refine awp_exit ?_ | refine awp_region ?_ | refine awp_regionD (id := 11) 7 mixed (by decide +kernel) ?_ | refine awp_regionD (id := 13) 8 mixed (by decide +kernel) ?_ | refine awp_regionS (id := 21) [0, 1, 2, 3, 4, 5, 6, 7, 8, 9, 10] [11, 12] [[], [], [], [], [], [], [], [], [], [.new 0], []] [[.new 0], []] mixed (by decide +kernel) ?_ | refine awp_regionD (id := 23) 10 mixed (by decide +kernel) ?_ | refine awp_regionD (id := 25) 5 mixed (by decide +kernel) ?_ | refine awp_regionD (id := 28) 3 mixed (by decide +kernel) ?_ | refine awp_condM ?_ | refine And.intro ?_ ?_ | apply gQ_merge | apply gE_merge | exact EqV_w | exact EqE_w | exact EqV_ptr | exact EqE_ptr | exact EqV_msl | exact EqE_msl | exact EqV_agg | exact EqE_agg | exact EqV_fn | exact EqE_fn | exact EqV_gd | exact EqE_gd | refine gM_splitN ?_ ?_ | refine gM_split ?_ ?_ |  refine condM_splitDN ?_ ?_ | refine condM_splitD ?_ ?_ | refine condM_splitN ?_ ?_ | refine condM_split ?_ ?_ | refine condM_any ?_ ?_ | refine cw (c4) ?_ | intro _) | (simp [*, hlI, hlt, hpl, cPlan, h1]) | (refine cw_eq (c4) ?_ ?_; (· (simp [*]; done))))
              all_goals try first | exact inI64 (by omega) (by omega) | omega
          · have hke : k = l.length := by omega
            subst hke
            rw [carsE_end] at hv
            have kv := keep hv.symm
            clear hv cP cN
            repeat' (first | (with_reducible first | refine awp_seq ?_ | refine awp_blockS ?_ | refine awp_blockC ?_ | refine awp_blockR ?_ | refine awp_skip ?_ | refine awp_ret ?_ | refine awp_exit ?_ | refine awp_region ?_ | refine awp_regionD (id := 11) 7 mixed (by decide +kernel) ?_ | refine awp_regionD (id := 13) 8 mixed (by decide +kernel) ?_ | refine awp_regionS (id := 21) [0, 1, 2, 3, 4, 5, 6, 7, 8, 9, 10] [11, 12] [[], [], [], [], [], [], [], [], [], [.new 0], []] [[.new 0], []] mixed (by decide +kernel) ?_ | refine awp_regionD (id := 23) 10 mixed (by decide +kernel) ?_ | refine awp_regionD (id := 25) 5 mixed (by decide +kernel) ?_ | refine awp_regionD (id := 28) 3 mixed (by decide +kernel) ?_ | refine awp_condM ?_ | refine And.intro ?_ ?_ | apply gQ_merge | apply gE_merge | exact EqV_w | exact EqE_w | exact EqV_ptr | exact EqE_ptr | exact EqV_msl | exact EqE_msl | exact EqV_agg | exact EqE_agg | exact EqV_fn | exact EqE_fn | exact EqV_gd | exact EqE_gd | refine gM_splitN ?_ ?_ | refine gM_split ?_ ?_ |  refine condM_splitDN ?_ ?_ | refine condM_splitD ?_ ?_ | refine condM_splitN ?_ ?_ | refine condM_split ?_ ?_ | refine condM_any ?_ ?_ | intro _) | (simp [*]))
            all_goals (refine finW_intro () ?_ ?_; (· exact kv); (refine le_of ?_ ?_ <;> first | trivial | (simp [*]; done)))
        · subst hf
          have hall : Keep (∀ j, j < l.length → offE m (nth l j) r = 0) := carsE_all kE
          clear cP cN kE0 kE
          repeat' (first | (with_reducible first | refine awp_seq ?_ | refine awp_blockS ?_ | refine awp_blockC ?_ | refine awp_blockR ?_ | refine awp_skip ?_ | refine awp_ret ?_ | refine awp_exit ?_ | refine awp_region ?_ | refine awp_regionD (id := 11) 7 mixed (by decide +kernel) ?_ | refine awp_regionD (id := 13) 8 mixed (by decide +kernel) ?_ | refine awp_regionS (id := 21) [0, 1, 2, 3, 4, 5, 6, 7, 8, 9, 10] [11, 12] [[], [], [], [], [], [], [], [], [], [.new 0], []] [[.new 0], []] mixed (by decide +kernel) ?_ | refine awp_regionD (id := 23) 10 mixed (by decide +kernel) ?_ | refine awp_regionD (id := 25) 5 mixed (by decide +kernel) ?_ | refine awp_regionD (id := 28) 3 mixed (by decide +kernel) ?_ | refine awp_condM ?_ | refine And.intro ?_ ?_ | apply gQ_merge | apply gE_merge | exact EqV_w | exact EqE_w | exact EqV_ptr | exact EqE_ptr | exact EqV_msl | exact EqE_msl | exact EqV_agg | exact EqE_agg | exact EqV_fn | exact EqE_fn | exact EqV_gd | exact EqE_gd | refine gM_splitN ?_ ?_ | refine gM_split ?_ ?_ |  refine condM_splitDN ?_ ?_ | refine condM_splitD ?_ ?_ | refine condM_splitN ?_ ?_ | refine condM_split ?_ ?_ | refine condM_any ?_ ?_ | intro _) | (simp [*]))
          all_goals try first | exact inI64 (by omega) (by omega) | omega
          refine awp_for4 4 (fun (k : Nat) => k ≤ l.length) [1, 3, 5, 7, 14] (fun (k : Nat) => [(15, .w false false (.int .i64 k)), (12, .w false false (.int .i64 (numV (carK m l r k)))), (13, .w false false (.int .i64 (extV (carK m l r k))))]) [0, 1, 2] (fun (k : Nat) => [(3, [.w false false (.int .i64 (offV (carK m l r k)).1), .w false false (.int .i64 (offV (carK m l r k)).2.1), .w false false (.int .i64 (offV (carK m l r k)).2.2)])]) (fun (k : Nat) => l.length - k) (fun (_u : Unit) => True) [7, 14] (fun (_u : Unit) => [(12, .w false false (.int .i64 (numV (carK m l r l.length))))]) [2] (fun (_u : Unit) => [(3, [.w false false (.int .i64 (offV (carK m l r l.length)).1), .w false false (.int .i64 (offV (carK m l r l.length)).2.1), .w false false (.int .i64 (offV (carK m l r l.length)).2.2)])]) (0) (Nat.zero_le _) (le_gen [] (by simp) (by simp)) (fun k hk => ?_) (fun _u hf => ?_)
          · by_cases hlt : k < l.length
            · have hlI : (k : Int) < (l.length : Int) := by omega
              have ok := kb k hlt (hall k hlt)
              have hbd := carK_bd (m := m) (r := r) kl hk (fun j hj => hall j (by omega))
              have hstep : carK m l r (k + 1) = carStep m r k (nth l k) (carK m l r k) := rfl
              have c6 := rBestInsert_c m (nth l k) r ok
              have c8 := rCostOf_c m (nth l k) ok.tour.go
              have hcb := costP_bd ok.tour.go
              have hbb := fun x (h : bestS m (nth l k) r = some x) => best_bd ok h
              unfold carStep at hstep
              unfold bestP aPlan at *
              have ks := keep hstep
              clear ok hstep kb hr
              generalize carK m l r k = b at *
              generalize costP m (nth l k) = C at *
              have ksb : ∀ B, bestS m (nth l k) r = B → Keep (carK m l r (k + 1) = chF B C k b) := fun B hB => by subst hB; exact ks
              clear ks
              cases hB : bestS m (nth l k) r with
              | none =>
                have ks := ksb _ hB
                rw [hB] at c6
                clear ksb hbb hB
                generalize hpl : nth l k = p at *
                try unfold aMap at *
                try unfold cRider at *
                unfold cPlan at *
                repeat' (first | (with_reducible first | refine awp_seq ?_ | refine awp_blockS ?_ | refine awp_blockC ?_ | refine awp_blockR ?_ | refine awp_skip ?_ | refine awp_ret ?_ | refine awp_exit ?_ | refine awp_region ?_ | refine awp_regionD (id := 11) 7 mixed (by decide +kernel) ?_ | refine awp_regionD (id := 13) 8 mixed (by decide +kernel) ?_ | refine awp_regionS (id := 21) [0, 1, 2, 3, 4, 5, 6, 7, 8, 9, 10] [11, 12] [[], [], [], [], [], [], [], [], [], [.new 0], []] [[.new 0], []] mixed (by decide +kernel) ?_ | refine awp_regionD (id := 23) 10 mixed (by decide +kernel) ?_ | refine awp_regionD (id := 25) 5 mixed (by decide +kernel) ?_ | refine awp_regionD (id := 28) 3 mixed (by decide +kernel) ?_ | refine awp_condM ?_ | refine And.intro ?_ ?_ | apply gQ_merge | apply gE_merge | exact EqV_w | exact EqE_w | exact EqV_ptr | exact EqE_ptr | exact EqV_msl | exact EqE_msl | exact EqV_agg | exact EqE_agg | exact EqV_fn | exact EqE_fn | exact EqV_gd | exact EqE_gd | refine gM_splitN ?_ ?_ | refine gM_split ?_ ?_ |  refine condM_splitDN ?_ ?_ | refine condM_splitD ?_ ?_ | refine condM_splitN ?_ ?_ | refine condM_split ?_ ?_ | refine condM_any ?_ ?_ | refine cw (c6) ?_ | refine cw (c8) ?_ | intro _) | (simp [*, hlI, hlt, hpl, cPlan]) | (refine cw_eq (c6) ?_ ?_; (· (simp [*]; done))) | (refine cw_eq (c8) ?_ ?_; (· (simp [*]; done))))
                all_goals try first | exact inI64 (by omega) (by omega) | omega
                all_goals (refine loopK_normal _ _ _ _ _ (k + 1) _ ?_ (by first | omega | (dsimp only; omega) | (simp; omega)) ?_; (· omega); (refine le_gen [] ?_ ?_ <;> first | trivial | (simp [*, show carK m l r (k + 1) = b from ks]; done)))
              | some x =>
                have ks := ksb _ hB
                have hx := hbb x hB
                rw [hB] at c6
                clear ksb hbb hB
                generalize hpl : nth l k = p at *
                try unfold aMap at *
                try unfold cRider at *
                unfold cPlan at *
                cases b with
                | none =>
                  repeat' (first | (with_reducible first | refine awp_seq ?_ | refine awp_blockS ?_ | refine awp_blockC ?_ | refine awp_blockR ?_ | refine awp_skip ?_ | refine awp_ret ?_ | refine awp_exit ?_ | refine awp_region ?_ | refine awp_regionD (id := 11) 7 mixed (by decide +kernel) ?_ | refine awp_regionD (id := 13) 8 mixed (by decide +kernel) ?_ | refine awp_regionS (id := 21) [0, 1, 2, 3, 4, 5, 6, 7, 8, 9, 10] [11, 12] [[], [], [], [], [], [], [], [], [], [.new 0], []] [[.new 0], []] mixed (by decide +kernel) ?_ | refine awp_regionD (id := 23) 10 mixed (by decide +kernel) ?_ | refine awp_regionD (id := 25) 5 mixed (by decide +kernel) ?_ | refine awp_regionD (id := 28) 3 mixed (by decide +kernel) ?_ | refine awp_condM ?_ | refine And.intro ?_ ?_ | apply gQ_merge | apply gE_merge | exact EqV_w | exact EqE_w | exact EqV_ptr | exact EqE_ptr | exact EqV_msl | exact EqE_msl | exact EqV_agg | exact EqE_agg | exact EqV_fn | exact EqE_fn | exact EqV_gd | exact EqE_gd | refine gM_splitN ?_ ?_ | refine gM_split ?_ ?_ |  refine condM_splitDN ?_ ?_ | refine condM_splitD ?_ ?_ | refine condM_splitN ?_ ?_ | refine condM_split ?_ ?_ | refine condM_any ?_ ?_ | refine cw (c6) ?_ | refine cw (c8) ?_ | intro _) | (simp [*, hlI, hlt, hpl, cPlan]) | (refine cw_eq (c6) ?_ ?_; (· (simp [*]; done))) | (refine cw_eq (c8) ?_ ?_; (· (simp [*]; done))))
                  all_goals try first | exact inI64 (by omega) (by omega) | omega
                  all_goals (refine loopK_normal _ _ _ _ _ (k + 1) _ ?_ (by first | omega | (dsimp only; omega) | (simp; omega)) ?_; (· omega); (refine le_gen [] ?_ ?_ <;> first | trivial | (simp [*, show carK m l r (k + 1) = some (k, x.2.2 - C, x) from ks, numV, extV, offV]; done)))
                | some b =>
                  obtain ⟨c, e, y⟩ := b
                  have hc0 : ¬ (c : Int) < 0 := by omega
                  have ks : Keep (carK m l r (k + 1) = if x.2.2 - C < e then some (k, x.2.2 - C, x) else some (c, e, y)) := ks
                  unfold numV extV offV at *
                  dsimp only at hbd
                  by_cases hlt2 : x.2.2 - C < e
                  · rw [if_pos hlt2] at ks
                    repeat' (first | (with_reducible first | refine awp_seq ?_ | refine awp_blockS ?_ | refine awp_blockC ?_ | refine awp_blockR ?_ | refine awp_skip ?_ | refine awp_ret ?_ | refine awp_exit ?_ | refine awp_region ?_ | refine awp_regionD (id := 11) 7 mixed (by decide +kernel) ?_ | refine awp_regionD (id := 13) 8 mixed (by decide +kernel) ?_ | refine awp_regionS (id := 21) [0, 1, 2, 3, 4, 5, 6, 7, 8, 9, 10] [11, 12] [[], [], [], [], [], [], [], [], [], [.new 0], []] [[.new 0], []] mixed (by decide +kernel) ?_ | refine awp_regionD (id := 23) 10 mixed (by decide +kernel) ?_ | refine awp_regionD (id := 25) 5 mixed (by decide +kernel) ?_ | refine awp_regionD (id := 28) 3 mixed (by decide +kernel) ?_ | refine awp_condM ?_ | refine And.intro ?_ ?_ | apply gQ_merge | apply gE_merge | exact EqV_w | exact EqE_w | exact EqV_ptr | exact EqE_ptr | exact EqV_msl | exact EqE_msl | exact EqV_agg | exact EqE_agg | exact EqV_fn | exact EqE_fn | exact EqV_gd | exact EqE_gd | refine gM_splitN ?_ ?_ | refine gM_split ?_ ?_ |  refine condM_splitDN ?_ ?_ | refine condM_splitD ?_ ?_ | refine condM_splitN ?_ ?_ | refine condM_split ?_ ?_ | refine condM_any ?_ ?_ | refine cw (c6) ?_ | refine cw (c8) ?_ | intro _) | (simp [*, hlI, hlt, hpl, cPlan]) | (refine cw_eq (c6) ?_ ?_; (· (simp [*]; done))) | (refine cw_eq (c8) ?_ ?_; (· (simp [*]; done))))
                    all_goals try first | exact inI64 (by omega) (by omega) | omega
                    all_goals (refine loopK_normal _ _ _ _ _ (k + 1) _ ?_ (by first | omega | (dsimp only; omega) | (simp; omega)) ?_; (· omega); (refine le_gen [] ?_ ?_ <;> first | trivial | (simp [*, show carK m l r (k + 1) = some (k, x.2.2 - C, x) from ks]; done)))
                  · rw [if_neg hlt2] at ks
                    repeat' (first | (with_reducible first | refine awp_seq ?_ | refine awp_blockS ?_ | refine awp_blockC ?_ | refine awp_blockR ?_ | refine awp_skip ?_ | refine awp_ret ?_ | refine awp_exit ?_ | refine awp_region ?_ | refine awp_regionD (id := 11) 7 mixed (by decide +kernel) ?_ | refine awp_regionD (id := 13) 8 mixed (by decide +kernel) ?_ | refine awp_regionS (id := 21) [0, 1, 2, 3, 4, 5, 6, 7, 8, 9, 10] [11, 12] [[], [], [], [], [], [], [], [], [], [.new 0], []] [[.new 0], []] mixed (by decide +kernel) ?_ | refine awp_regionD (id := 23) 10 mixed (by decide +kernel) ?_ | refine awp_regionD (id := 25) 5 mixed (by decide +kernel) ?_ | refine awp_regionD (id := 28) 3 mixed (by decide +kernel) ?_ | refine awp_condM ?_ | refine And.intro ?_ ?_ | apply gQ_merge | apply gE_merge | exact EqV_w | exact EqE_w | exact EqV_ptr | exact EqE_ptr | exact EqV_msl | exact EqE_msl | exact EqV_agg | exact EqE_agg | exact EqV_fn | exact EqE_fn | exact EqV_gd | exact EqE_gd | refine gM_splitN ?_ ?_ | refine gM_split ?_ ?_ |  refine condM_splitDN ?_ ?_ | refine condM_splitD ?_ ?_ | refine condM_splitN ?_ ?_ | refine condM_split ?_ ?_ | refine condM_any ?_ ?_ | refine cw (c6) ?_ | refine cw (c8) ?_ | intro _) | (simp [*, hlI, hlt, hpl, cPlan]) | (refine cw_eq (c6) ?_ ?_; (· (simp [*]; done))) | (refine cw_eq (c8) ?_ ?_; (· (simp [*]; done))))
                    all_goals try first | exact inI64 (by omega) (by omega) | omega
                    all_goals (refine loopK_normal _ _ _ _ _ (k + 1) _ ?_ (by first | omega | (dsimp only; omega) | (simp; omega)) ?_; (· omega); (refine le_gen [] ?_ ?_ <;> first | trivial | (simp [*, show carK m l r (k + 1) = some (c, e, y) from ks]; done)))
            · have hke : k = l.length := by omega
              subst hke
              clear kb
              repeat' (first | (with_reducible first | refine awp_seq ?_ | refine awp_blockS ?_ | refine awp_blockC ?_ | refine awp_blockR ?_ | refine awp_skip ?_ | refine awp_ret ?_ | refine awp_exit ?_ | refine awp_region ?_ | refine awp_regionD (id := 11) 7 mixed (by decide +kernel) ?_ | refine awp_regionD (id := 13) 8 mixed (by decide +kernel) ?_ | refine awp_regionS (id := 21) [0, 1, 2, 3, 4, 5, 6, 7, 8, 9, 10] [11, 12] [[], [], [], [], [], [], [], [], [], [.new 0], []] [[.new 0], []] mixed (by decide +kernel) ?_ | refine awp_regionD (id := 23) 10 mixed (by decide +kernel) ?_ | refine awp_regionD (id := 25) 5 mixed (by decide +kernel) ?_ | refine awp_regionD (id := 28) 3 mixed (by decide +kernel) ?_ | refine awp_condM ?_ | refine And.intro ?_ ?_ | apply gQ_merge | apply gE_merge | exact EqV_w | exact EqE_w | exact EqV_ptr | exact EqE_ptr | exact EqV_msl | exact EqE_msl | exact EqV_agg | exact EqE_agg | exact EqV_fn | exact EqE_fn | exact EqV_gd | exact EqE_gd | refine gM_splitN ?_ ?_ | refine gM_split ?_ ?_ |  refine condM_splitDN ?_ ?_ | refine condM_splitD ?_ ?_ | refine condM_splitN ?_ ?_ | refine condM_split ?_ ?_ | refine condM_any ?_ ?_ | intro _) | (simp [*]))
              all_goals (refine finW_intro () ?_ ?_; (· trivial); (refine le_gen [] ?_ ?_ <;> first | trivial | (simp [*]; done)))
          · clear kb hall
            unfold Fin3
            generalize carK m l r l.length = b at *
            cases b with
            | none =>
              repeat' (first | (with_reducible first | refine awp_seq ?_ | refine awp_blockS ?_ | refine awp_blockC ?_ | refine awp_blockR ?_ | refine awp_skip ?_ | refine awp_ret ?_ | refine awp_exit ?_ | refine awp_region ?_ | refine awp_regionD (id := 11) 7 mixed (by decide +kernel) ?_ | refine awp_regionD (id := 13) 8 mixed (by decide +kernel) ?_ | refine awp_regionS (id := 21) [0, 1, 2, 3, 4, 5, 6, 7, 8, 9, 10] [11, 12] [[], [], [], [], [], [], [], [], [], [.new 0], []] [[.new 0], []] mixed (by decide +kernel) ?_ | refine awp_regionD (id := 23) 10 mixed (by decide +kernel) ?_ | refine awp_regionD (id := 25) 5 mixed (by decide +kernel) ?_ | refine awp_regionD (id := 28) 3 mixed (by decide +kernel) ?_ | refine awp_condM ?_ | refine And.intro ?_ ?_ | apply gQ_merge | apply gE_merge | exact EqV_w | exact EqE_w | exact EqV_ptr | exact EqE_ptr | exact EqV_msl | exact EqE_msl | exact EqV_agg | exact EqE_agg | exact EqV_fn | exact EqE_fn | exact EqV_gd | exact EqE_gd | refine gM_splitN ?_ ?_ | refine gM_split ?_ ?_ |  refine condM_splitDN ?_ ?_ | refine condM_splitD ?_ ?_ | refine condM_splitN ?_ ?_ | refine condM_split ?_ ?_ | refine condM_any ?_ ?_ | intro _) | (simp [*]))
            | some b =>
              obtain ⟨c, e, y⟩ := b
              have hc0 : ¬ (c : Int) < 0 := by omega
              unfold numV offV at *
              repeat' (first | (with_reducible first | refine awp_seq ?_ | refine awp_blockS ?_ | refine awp_blockC ?_ | refine awp_blockR ?_ | refine awp_skip ?_ | refine awp_ret ?_ | refine awp_exit ?_ | refine awp_region ?_ | refine awp_regionD (id := 11) 7 mixed (by decide +kernel) ?_ | refine awp_regionD (id := 13) 8 mixed (by decide +kernel) ?_ | refine awp_regionS (id := 21) [0, 1, 2, 3, 4, 5, 6, 7, 8, 9, 10] [11, 12] [[], [], [], [], [], [], [], [], [], [.new 0], []] [[.new 0], []] mixed (by decide +kernel) ?_ | refine awp_regionD (id := 23) 10 mixed (by decide +kernel) ?_ | refine awp_regionD (id := 25) 5 mixed (by decide +kernel) ?_ | refine awp_regionD (id := 28) 3 mixed (by decide +kernel) ?_ | refine awp_condM ?_ | refine And.intro ?_ ?_ | apply gQ_merge | apply gE_merge | exact EqV_w | exact EqE_w | exact EqV_ptr | exact EqE_ptr | exact EqV_msl | exact EqE_msl | exact EqV_agg | exact EqE_agg | exact EqV_fn | exact EqE_fn | exact EqV_gd | exact EqE_gd | refine gM_splitN ?_ ?_ | refine gM_split ?_ ?_ |  refine condM_splitDN ?_ ?_ | refine condM_splitD ?_ ?_ | refine condM_splitN ?_ ?_ | refine condM_split ?_ ?_ | refine condM_any ?_ ?_ | intro _) | (simp [*]))
  · rw [if_neg h0]
    clear hm hl
    generalize (mapS m).2.2 = E at *
    unfold carP aMap cRider at *
    refine realcall_intro Try.func48 (by kernel_rfl) rfl (Nat.le_of_ble_eq_true (by kernel_rfl)) ?_
    simp only [Try.results48, Try.ntmps48]
    repeat' (first | (with_reducible first | refine awp_seq ?_ | refine awp_blockS ?_ | refine awp_blockC ?_ | refine awp_blockR ?_ | refine awp_skip ?_ | refine awp_ret ?_ | refine awp_exit ?_ | refine awp_region ?_ | refine awp_regionD (id := 11) 7 mixed (by decide +kernel) ?_ | refine awp_regionD (id := 13) 8 mixed (by decide +kernel) ?_ | refine awp_regionS (id := 21) [0, 1, 2, 3, 4, 5, 6, 7, 8, 9, 10] [11, 12] [[], [], [], [], [], [], [], [], [], [.new 0], []] [[.new 0], []] mixed (by decide +kernel) ?_ | refine awp_regionD (id := 23) 10 mixed (by decide +kernel) ?_ | refine awp_regionD (id := 25) 5 mixed (by decide +kernel) ?_ | refine awp_regionD (id := 28) 3 mixed (by decide +kernel) ?_ | refine awp_condM ?_ | refine And.intro ?_ ?_ | apply gQ_merge | apply gE_merge | exact EqV_w | exact EqE_w | exact EqV_ptr | exact EqE_ptr | exact EqV_msl | exact EqE_msl | exact EqV_agg | exact EqE_agg | exact EqV_fn | exact EqE_fn | exact EqV_gd | exact EqE_gd | refine gM_splitN ?_ ?_ | refine gM_split ?_ ?_ |  refine condM_splitDN ?_ ?_ | refine condM_splitD ?_ ?_ | refine condM_splitN ?_ ?_ | refine condM_split ?_ ?_ | refine condM_any ?_ ?_ | refine cw (c1) ?_ | intro _) | (simp [*, h0]) | (refine cw_eq (c1) ?_ ?_; (· (simp [*]; done))))
end Go.Proofs.Ytceimmohnniebaa
