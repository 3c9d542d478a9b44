/- Contracts of functions for this claim: lemmas alone. -/
import Derived.Test.YtceimmohnniebaaP64
set_option linter.unusedSimpArgs false
set_option linter.unusedVariables false
namespace Go.Proofs.Ytceimmohnniebaa
open Go Go.Fi
set_option maxRecDepth 20000

def plansA (l : List Plan) (k : Nat) : List AV := (cPlans (l.take k)).map (.w true false)
theorem plansA_len (l : List Plan) (k : Nat) (h : k ≤ l.length) : (plansA l k).length = k * 5 := by
  simp [plansA, Nat.min_eq_left h]
@[simp] theorem plansA_zero (l : List Plan) : plansA l 0 = [] := rfl
theorem plansA_succ (l : List Plan) (k : Nat) (h : k < l.length) : plansA l (k + 1) = plansA l k ++ (cPlan (nth l k)).map (.w true false) := by
  unfold plansA
  rw [take_succ_nth l k h]
  simp [cPlans]
@[simp] theorem plansA_lt (l : List Plan) (k n : Nat) : AV.lt.ltL n (plansA l k) = true := ltL_map n true false _
@[simp] theorem plansA_self {D : List Nat} {h : Heap} {n n' : Nat} (l : List Plan) (k : Nat) : cellsLe D h n n' (plansA l k) (plansA l k) = True := eq_true (cellsLe_w true false _)
theorem plansA_all (l : List Plan) : plansA l l.length = (cPlans l).map (.w true false) := by simp [plansA]
set_option maxHeartbeats 4000000 in
theorem copyPlans_c (l : List Plan) (hl : PlansIn l) (hll : l.length < 100000) : RealCall Try.prog 47 [.sl l.length (cPlans l)] (.sl l.length (cPlans l)) true := by
  refine realcall_intro Try.func47 (by kernel_rfl) rfl (Nat.le_of_ble_eq_true (by kernel_rfl)) ?_
  simp only [Try.results47, Try.ntmps47]
  repeat' (first | (with_reducible first | refine awp_seq ?_ | refine awp_blockS ?_ | refine awp_blockC ?_ | refine awp_blockR ?_ | refine awp_skip ?_ | refine awp_ret ?_ | refine awp_exit ?_ | refine awp_region ?_ | refine awp_condM ?_ | refine And.intro ?_ ?_ | apply gQ_merge | apply gE_merge | exact EqV_w | exact EqE_w | exact EqV_ptr | exact EqE_ptr | exact EqV_msl | exact EqE_msl | exact EqV_agg | exact EqE_agg | exact EqV_fn | exact EqE_fn | exact EqV_gd | exact EqE_gd | refine gM_splitN ?_ ?_ | refine gM_split ?_ ?_ |  refine condM_splitDN ?_ ?_ | refine condM_splitD ?_ ?_ | refine condM_splitN ?_ ?_ | refine condM_split ?_ ?_ | refine condM_any ?_ ?_ | intro _) | (simp [*]))
  refine awp_for4 1 (fun (k : Nat) => k ≤ l.length) [0] (fun (k : Nat) => [(3, .msl 0 (k * 5) 5 0 k), (4, .w false false (.int .i64 k))]) [] (fun (k : Nat) => [(0, plansA l k)]) (fun (k : Nat) => l.length - k) (fun (_u : Unit) => True) [] (fun (_u : Unit) => [(3, .msl 0 (l.length * 5) 5 0 l.length)]) [] (fun (_u : Unit) => [(0, plansA l l.length)]) (0) (Nat.zero_le _) (le_gen [] (by simp) (by simp)) (fun k hk => ?_) (fun _u hf => ?_)
  · by_cases hlt : k < l.length
    · have hlI : (k : Int) < (l.length : Int) := by omega
      have cc := copyPlan_c (nth l k) (hl k hlt).1
      have hlen := plansA_len l k hk
      have ks := keep (plansA_succ l k hlt)
      clear hl
      unfold aPlan at *
      generalize hpl : nth l k = p at *
      unfold cPlan at *
      repeat' (first | (with_reducible first | refine awp_seq ?_ | refine awp_blockS ?_ | refine awp_blockC ?_ | refine awp_blockR ?_ | refine awp_skip ?_ | refine awp_ret ?_ | refine awp_exit ?_ | refine awp_region ?_ | refine awp_condM ?_ | refine And.intro ?_ ?_ | apply gQ_merge | apply gE_merge | exact EqV_w | exact EqE_w | exact EqV_ptr | exact EqE_ptr | exact EqV_msl | exact EqE_msl | exact EqV_agg | exact EqE_agg | exact EqV_fn | exact EqE_fn | exact EqV_gd | exact EqE_gd | refine gM_splitN ?_ ?_ | refine gM_split ?_ ?_ |  refine condM_splitDN ?_ ?_ | refine condM_splitD ?_ ?_ | refine condM_splitN ?_ ?_ | refine condM_split ?_ ?_ | refine condM_any ?_ ?_ | refine cw (cc) ?_ | intro _) | (simp [*, hlI, hlt, hlen, hpl, cPlan]) | (refine cw_eq (cc) ?_ ?_; (· (simp [*]; done))))
      all_goals try first | exact inI64 (by omega) (by omega) | omega
      all_goals (refine loopK_normal _ _ _ _ _ (k + 1) _ ?_ (by first | omega | (dsimp only; omega) | (simp; omega)) ?_; (· omega); (refine le_gen [] ?_ ?_ <;> first | trivial | (simp [*, show plansA l (k + 1) = _ from ks, Nat.add_mul]; done)))
    · have hke : k = l.length := by omega
      subst hke
      clear hl
      repeat' (first | (with_reducible first | refine awp_seq ?_ | refine awp_blockS ?_ | refine awp_blockC ?_ | refine awp_blockR ?_ | refine awp_skip ?_ | refine awp_ret ?_ | refine awp_exit ?_ | refine awp_region ?_ | refine awp_condM ?_ | refine And.intro ?_ ?_ | apply gQ_merge | apply gE_merge | exact EqV_w | exact EqE_w | exact EqV_ptr | exact EqE_ptr | exact EqV_msl | exact EqE_msl | exact EqV_agg | exact EqE_agg | exact EqV_fn | exact EqE_fn | exact EqV_gd | exact EqE_gd | refine gM_splitN ?_ ?_ | refine gM_split ?_ ?_ |  refine condM_splitDN ?_ ?_ | refine condM_splitD ?_ ?_ | refine condM_splitN ?_ ?_ | refine condM_split ?_ ?_ | refine condM_any ?_ ?_ | intro _) | (simp [*]))
      all_goals (refine finW_intro () ?_ ?_; (· trivial); (refine le_gen [] ?_ ?_ <;> first | trivial | (simp [*]; done)))
  · have hlen := plansA_len l l.length (Nat.le_refl _)
    rw [plansA_all]
    clear hl
    repeat' (first | (with_reducible first | refine awp_seq ?_ | refine awp_blockS ?_ | refine awp_blockC ?_ | refine awp_blockR ?_ | refine awp_skip ?_ | refine awp_ret ?_ | refine awp_exit ?_ | refine awp_region ?_ | refine awp_condM ?_ | refine And.intro ?_ ?_ | apply gQ_merge | apply gE_merge | exact EqV_w | exact EqE_w | exact EqV_ptr | exact EqE_ptr | exact EqV_msl | exact EqE_msl | exact EqV_agg | exact EqE_agg | exact EqV_fn | exact EqE_fn | exact EqV_gd | exact EqE_gd | refine gM_splitN ?_ ?_ | refine gM_split ?_ ?_ |  refine condM_splitDN ?_ ?_ | refine condM_splitD ?_ ?_ | refine condM_splitN ?_ ?_ | refine condM_split ?_ ?_ | refine condM_any ?_ ?_ | intro _) | (simp [*, hlen]))
theorem plans_in {m : Grid} {l : List Plan} (h : ∀ j, j < l.length → smallB m (nth l j) = true) : PlansIn l := fun k hk => ⟨(small_in (h k hk)).2.1, by have := (small_in (h k hk)).2.2; omega⟩
set_option maxHeartbeats 16000000 in
theorem shareCars_c (m : Grid) (l : List Plan) (r : Rider) : RealCall Try.prog 9 [aMap m, .sl l.length (cPlans l), .agg (cRider r)] (.bool true) true := by
  have c0 := awake_c
  have c1 := few_c m
  cases hf : fewB m with
  | false =>
    rw [hf] at c1
    unfold aMap cRider at *
    refine realcall_intro Try.func9 (by kernel_rfl) rfl (Nat.le_of_ble_eq_true (by kernel_rfl)) ?_
    simp only [Try.results9, Try.ntmps9]
    repeat' (first | (with_reducible first | refine awp_seq ?_ | refine awp_blockS ?_ | refine awp_blockC ?_ | refine awp_blockR ?_ | refine awp_skip ?_ | refine awp_ret ?_ | refine awp_exit ?_ | refine awp_region ?_ | refine awp_regionD (id := 8) 7 mixed (by decide +kernel) ?_ | refine awp_regionS (id := 10) [0, 1, 2, 3, 4, 5, 6, 7, 8, 9, 10, 11] [12, 13] [[], [], [], [], [], [], [], [], [], [.new 0], [], []] [[.new 0], []] mixed (by decide +kernel) ?_ | refine awp_condM ?_ | refine And.intro ?_ ?_ | apply gQ_merge | apply gE_merge | exact EqV_w | exact EqE_w | exact EqV_ptr | exact EqE_ptr | exact EqV_msl | exact EqE_msl | exact EqV_agg | exact EqE_agg | exact EqV_fn | exact EqE_fn | exact EqV_gd | exact EqE_gd | refine gM_splitN ?_ ?_ | refine gM_split ?_ ?_ |  refine condM_splitDN ?_ ?_ | refine condM_splitD ?_ ?_ | refine condM_splitN ?_ ?_ | refine condM_split ?_ ?_ | refine condM_any ?_ ?_ | refine cw (c0) ?_ | refine cw (c1) ?_ | intro _) | (simp [*]) | (refine cw_eq (c0) ?_ ?_; (· (simp [*]; done))) | (refine cw_eq (c1) ?_ ?_; (· (simp [*]; done))))
  | true =>
    rw [hf] at c1
    have hm := few_in hf
    by_cases hg : ((3 : Int) < (l.length : Int) ∧ (l.length : Int) ≤ 8) ∨ (10 : Int) < (l.length : Int) ∨ (20 : Int) < (r.name.size : Int)
    · clear hm
      unfold aMap cRider at *
      rcases hg with ⟨h1, h2⟩ | h1 | h1
      · refine realcall_intro Try.func9 (by kernel_rfl) rfl (Nat.le_of_ble_eq_true (by kernel_rfl)) ?_
        simp only [Try.results9, Try.ntmps9]
        repeat' (first | (with_reducible first | refine awp_seq ?_ | refine awp_blockS ?_ | refine awp_blockC ?_ | refine awp_blockR ?_ | refine awp_skip ?_ | refine awp_ret ?_ | refine awp_exit ?_ | refine awp_region ?_ | refine awp_regionD (id := 8) 7 mixed (by decide +kernel) ?_ | refine awp_regionS (id := 10) [0, 1, 2, 3, 4, 5, 6, 7, 8, 9, 10, 11] [12, 13] [[], [], [], [], [], [], [], [], [], [.new 0], [], []] [[.new 0], []] mixed (by decide +kernel) ?_ | refine awp_condM ?_ | refine And.intro ?_ ?_ | apply gQ_merge | apply gE_merge | exact EqV_w | exact EqE_w | exact EqV_ptr | exact EqE_ptr | exact EqV_msl | exact EqE_msl | exact EqV_agg | exact EqE_agg | exact EqV_fn | exact EqE_fn | exact EqV_gd | exact EqE_gd | refine gM_splitN ?_ ?_ | refine gM_split ?_ ?_ |  refine condM_splitDN ?_ ?_ | refine condM_splitD ?_ ?_ | refine condM_splitN ?_ ?_ | refine condM_split ?_ ?_ | refine condM_any ?_ ?_ | refine cw (c0) ?_ | refine cw (c1) ?_ | intro _) | (simp [*, h1, h2]) | (refine cw_eq (c0) ?_ ?_; (· (simp [*]; done))) | (refine cw_eq (c1) ?_ ?_; (· (simp [*]; done))))
      · have h2 : ¬ (l.length : Int) ≤ 8 := by omega
        have h3 : (3 : Int) < (l.length : Int) := by omega
        refine realcall_intro Try.func9 (by kernel_rfl) rfl (Nat.le_of_ble_eq_true (by kernel_rfl)) ?_
        simp only [Try.results9, Try.ntmps9]
        repeat' (first | (with_reducible first | refine awp_seq ?_ | refine awp_blockS ?_ | refine awp_blockC ?_ | refine awp_blockR ?_ | refine awp_skip ?_ | refine awp_ret ?_ | refine awp_exit ?_ | refine awp_region ?_ | refine awp_regionD (id := 8) 7 mixed (by decide +kernel) ?_ | refine awp_regionS (id := 10) [0, 1, 2, 3, 4, 5, 6, 7, 8, 9, 10, 11] [12, 13] [[], [], [], [], [], [], [], [], [], [.new 0], [], []] [[.new 0], []] mixed (by decide +kernel) ?_ | refine awp_condM ?_ | refine And.intro ?_ ?_ | apply gQ_merge | apply gE_merge | exact EqV_w | exact EqE_w | exact EqV_ptr | exact EqE_ptr | exact EqV_msl | exact EqE_msl | exact EqV_agg | exact EqE_agg | exact EqV_fn | exact EqE_fn | exact EqV_gd | exact EqE_gd | refine gM_splitN ?_ ?_ | refine gM_split ?_ ?_ |  refine condM_splitDN ?_ ?_ | refine condM_splitD ?_ ?_ | refine condM_splitN ?_ ?_ | refine condM_split ?_ ?_ | refine condM_any ?_ ?_ | refine cw (c0) ?_ | refine cw (c1) ?_ | intro _) | (simp [*, h1, h2, h3]) | (refine cw_eq (c0) ?_ ?_; (· (simp [*]; done))) | (refine cw_eq (c1) ?_ ?_; (· (simp [*]; done))))
      · refine realcall_intro Try.func9 (by kernel_rfl) rfl (Nat.le_of_ble_eq_true (by kernel_rfl)) ?_
        simp only [Try.results9, Try.ntmps9]
        repeat' (first | (with_reducible first | refine awp_seq ?_ | refine awp_blockS ?_ | refine awp_blockC ?_ | refine awp_blockR ?_ | refine awp_skip ?_ | refine awp_ret ?_ | refine awp_exit ?_ | refine awp_region ?_ | refine awp_regionD (id := 8) 7 mixed (by decide +kernel) ?_ | refine awp_regionS (id := 10) [0, 1, 2, 3, 4, 5, 6, 7, 8, 9, 10, 11] [12, 13] [[], [], [], [], [], [], [], [], [], [.new 0], [], []] [[.new 0], []] mixed (by decide +kernel) ?_ | refine awp_condM ?_ | refine And.intro ?_ ?_ | apply gQ_merge | apply gE_merge | exact EqV_w | exact EqE_w | exact EqV_ptr | exact EqE_ptr | exact EqV_msl | exact EqE_msl | exact EqV_agg | exact EqE_agg | exact EqV_fn | exact EqE_fn | exact EqV_gd | exact EqE_gd | refine gM_splitN ?_ ?_ | refine gM_split ?_ ?_ |  refine condM_splitDN ?_ ?_ | refine condM_splitD ?_ ?_ | refine condM_splitN ?_ ?_ | refine condM_split ?_ ?_ | refine condM_any ?_ ?_ | refine cw (c0) ?_ | refine cw (c1) ?_ | intro _) | (simp [*, h1]) | (refine cw_eq (c0) ?_ ?_; (· (simp [*]; done))) | (refine cw_eq (c1) ?_ ?_; (· (simp [*]; done))))
    · have g1 : (3 : Int) < (l.length : Int) → ¬ (l.length : Int) ≤ 8 := fun a b => hg (.inl ⟨a, b⟩)
      have g2 : ¬ (10 : Int) < (l.length : Int) := fun a => hg (.inr (.inl a))
      have g3 : ¬ (20 : Int) < (r.name.size : Int) := fun a => hg (.inr (.inr a))
      have gg : (!(decide ((3 : Int) < (l.length : Int)) && decide ((l.length : Int) ≤ 8))) = true := by
        by_cases h : (3 : Int) < (l.length : Int)
        · rw [decide_eq_true h, decide_eq_false (g1 h)]; rfl
        · rw [decide_eq_false h]; rfl
      clear hg g1
      have cS := fun k (hk : k < l.length) => small_c m (nth l k)
      have c2 := copyMap_c m hm
      have cX := fun (h : ∀ j, j < l.length → smallB m (nth l j) = true) => copyPlans_c l (plans_in h) (by omega)
      have cY := fun (h : ∀ j, j < l.length → smallB m (nth l j) = true) => bestCar_c m hm l (plans_in h) (by omega) r (by omega)
      have cZ := fun (h : ∀ j, j < l.length → smallB m (nth l j) = true) => rBestCar_c m hm l (plans_in h) (by omega) r (by omega)
      clear hm hf
      unfold carP at cY cZ
      generalize carS m l r = R at *
      unfold aMap cRider at *
      have hor : (3 : Int) < (l.length : Int) ∧ ¬ (l.length : Int) ≤ 8 ∨ ¬ (3 : Int) < (l.length : Int) := by
        by_cases h3 : (3 : Int) < (l.length : Int)
        · refine .inl ⟨h3, fun h => ?_⟩
          rw [decide_eq_true h3, decide_eq_true h] at gg; cases gg
        · exact .inr h3
      clear gg
      rcases hor with ⟨h3, h8⟩ | h3
      · refine realcall_intro Try.func9 (by kernel_rfl) rfl (Nat.le_of_ble_eq_true (by kernel_rfl)) ?_
        simp only [Try.results9, Try.ntmps9]
        repeat' (first | (with_reducible first | refine awp_seq ?_ | refine awp_blockS ?_ | refine awp_blockC ?_ | refine awp_blockR ?_ | refine awp_skip ?_ | refine awp_ret ?_ | refine awp_exit ?_ | refine awp_region ?_ | refine awp_regionD (id := 8) 7 mixed (by decide +kernel) ?_ | refine awp_regionS (id := 10) [0, 1, 2, 3, 4, 5, 6, 7, 8, 9, 10, 11] [12, 13] [[], [], [], [], [], [], [], [], [], [.new 0], [], []] [[.new 0], []] mixed (by decide +kernel) ?_ | refine awp_condM ?_ | refine And.intro ?_ ?_ | apply gQ_merge | apply gE_merge | exact EqV_w | exact EqE_w | exact EqV_ptr | exact EqE_ptr | exact EqV_msl | exact EqE_msl | exact EqV_agg | exact EqE_agg | exact EqV_fn | exact EqE_fn | exact EqV_gd | exact EqE_gd | refine gM_splitN ?_ ?_ | refine gM_split ?_ ?_ |  refine condM_splitDN ?_ ?_ | refine condM_splitD ?_ ?_ | refine condM_splitN ?_ ?_ | refine condM_split ?_ ?_ | refine condM_any ?_ ?_ | refine cw (c0) ?_ | refine cw (c1) ?_ | intro _) | (simp [*, h3, h8]) | (refine cw_eq (c0) ?_ ?_; (· (simp [*]; done))) | (refine cw_eq (c1) ?_ ?_; (· (simp [*]; done))))
        all_goals try first | exact inI64 (by omega) (by omega) | omega
        refine awp_for3 (fun (k : Nat) => k ≤ l.length ∧ ∀ j, j < k → smallB m (nth l j) = true) [1, 3, 5] (fun (k : Nat) => [(7, .w false false (.int .i64 k))]) [0, 1] (fun (k : Nat) => []) (fun (k : Nat) => l.length - k) (fun (_u : Unit) => ∀ j, j < l.length → smallB m (nth l j) = true) [1, 3, 5] (fun (_u : Unit) => []) [0, 1] (fun (_u : Unit) => []) (0) ⟨Nat.zero_le _, fun j hj => absurd hj (Nat.not_lt_zero j)⟩ (by simp) (by simp) (fun k hk => ?_) (fun _u hf => ?_)
        · obtain ⟨hk, hj⟩ := hk
          by_cases hlt : k < l.length
          · have hlI : (k : Int) < (l.length : Int) := by omega
            have c4 := cS k hlt
            clear cS cX cY cZ
            cases hs : smallB m (nth l k) with
            | true =>
              rw [hs] at c4
              have hj2 : Keep (∀ j, j < k + 1 → smallB m (nth l j) = true) := by
                intro j hj3
                rcases Nat.lt_or_ge j k with h | h
                · exact hj j h
                · have : j = k := by omega
                  subst this; exact hs
              clear hj hs
              unfold aPlan at *
              generalize hpl : nth l k = p at *
              unfold cPlan at *
              repeat' (first | (with_reducible first | refine awp_seq ?_ | refine awp_blockS ?_ | refine awp_blockC ?_ | refine awp_blockR ?_ | refine awp_skip ?_ | refine awp_ret ?_ | refine awp_exit ?_ | refine awp_region ?_ | refine awp_regionD (id := 8) 7 mixed (by decide +kernel) ?_ | refine awp_regionS (id := 10) [0, 1, 2, 3, 4, 5, 6, 7, 8, 9, 10, 11] [12, 13] [[], [], [], [], [], [], [], [], [], [.new 0], [], []] [[.new 0], []] mixed (by decide +kernel) ?_ | refine awp_condM ?_ | refine And.intro ?_ ?_ | apply gQ_merge | apply gE_merge | exact EqV_w | exact EqE_w | exact EqV_ptr | exact EqE_ptr | exact EqV_msl | exact EqE_msl | exact EqV_agg | exact EqE_agg | exact EqV_fn | exact EqE_fn | exact EqV_gd | exact EqE_gd | refine gM_splitN ?_ ?_ | refine gM_split ?_ ?_ |  refine condM_splitDN ?_ ?_ | refine condM_splitD ?_ ?_ | refine condM_splitN ?_ ?_ | refine condM_split ?_ ?_ | refine condM_any ?_ ?_ | refine cw (c4) ?_ | intro _) | (simp [*, hlI, hlt, hpl, cPlan]) | (refine cw_eq (c4) ?_ ?_; (· (simp [*]; done))))
              all_goals try first | exact inI64 (by omega) (by omega) | omega
              all_goals (refine loopK_normal _ _ _ _ _ (k + 1) _ ?_ (by first | omega | (dsimp only; omega) | (simp; omega)) ?_; (· exact ⟨by omega, hj2⟩); (refine le_of ?_ ?_ <;> first | trivial | (simp [*]; done)))
            | false =>
              rw [hs] at c4
              clear hj hs
              unfold aPlan at *
              generalize hpl : nth l k = p at *
              unfold cPlan at *
              repeat' (first | (with_reducible first | refine awp_seq ?_ | refine awp_blockS ?_ | refine awp_blockC ?_ | refine awp_blockR ?_ | refine awp_skip ?_ | refine awp_ret ?_ | refine awp_exit ?_ | refine awp_region ?_ | refine awp_regionD (id := 8) 7 mixed (by decide +kernel) ?_ | refine awp_regionS (id := 10) [0, 1, 2, 3, 4, 5, 6, 7, 8, 9, 10, 11] [12, 13] [[], [], [], [], [], [], [], [], [], [.new 0], [], []] [[.new 0], []] mixed (by decide +kernel) ?_ | refine awp_condM ?_ | refine And.intro ?_ ?_ | apply gQ_merge | apply gE_merge | exact EqV_w | exact EqE_w | exact EqV_ptr | exact EqE_ptr | exact EqV_msl | exact EqE_msl | exact EqV_agg | exact EqE_agg | exact EqV_fn | exact EqE_fn | exact EqV_gd | exact EqE_gd | refine gM_splitN ?_ ?_ | refine gM_split ?_ ?_ |  refine condM_splitDN ?_ ?_ | refine condM_splitD ?_ ?_ | refine condM_splitN ?_ ?_ | refine condM_split ?_ ?_ | refine condM_any ?_ ?_ | refine cw (c4) ?_ | intro _) | (simp [*, hlI, hlt, hpl, cPlan]) | (refine cw_eq (c4) ?_ ?_; (· (simp [*]; done))))
              all_goals omega
          · have hke : k = l.length := by omega
            subst hke
            have kj := keep hj
            clear hj cS cX cY cZ
            repeat' (first | (with_reducible first | refine awp_seq ?_ | refine awp_blockS ?_ | refine awp_blockC ?_ | refine awp_blockR ?_ | refine awp_skip ?_ | refine awp_ret ?_ | refine awp_exit ?_ | refine awp_region ?_ | refine awp_regionD (id := 8) 7 mixed (by decide +kernel) ?_ | refine awp_regionS (id := 10) [0, 1, 2, 3, 4, 5, 6, 7, 8, 9, 10, 11] [12, 13] [[], [], [], [], [], [], [], [], [], [.new 0], [], []] [[.new 0], []] mixed (by decide +kernel) ?_ | refine awp_condM ?_ | refine And.intro ?_ ?_ | apply gQ_merge | apply gE_merge | exact EqV_w | exact EqE_w | exact EqV_ptr | exact EqE_ptr | exact EqV_msl | exact EqE_msl | exact EqV_agg | exact EqE_agg | exact EqV_fn | exact EqE_fn | exact EqV_gd | exact EqE_gd | refine gM_splitN ?_ ?_ | refine gM_split ?_ ?_ |  refine condM_splitDN ?_ ?_ | refine condM_splitD ?_ ?_ | refine condM_splitN ?_ ?_ | refine condM_split ?_ ?_ | refine condM_any ?_ ?_ | intro _) | (simp [*]))
            all_goals (refine finW_intro () ?_ ?_; (· exact kj); (refine le_of ?_ ?_ <;> first | trivial | (simp [*]; done)))
        · have c5 := cX hf
          have c6 := cY hf
          have c7 := cZ hf
          clear cX cY cZ cS hf
          repeat' (first | (with_reducible first | refine awp_seq ?_ | refine awp_blockS ?_ | refine awp_blockC ?_ | refine awp_blockR ?_ | refine awp_skip ?_ | refine awp_ret ?_ | refine awp_exit ?_ | refine awp_region ?_ | refine awp_regionD (id := 8) 7 mixed (by decide +kernel) ?_ | refine awp_regionS (id := 10) [0, 1, 2, 3, 4, 5, 6, 7, 8, 9, 10, 11] [12, 13] [[], [], [], [], [], [], [], [], [], [.new 0], [], []] [[.new 0], []] mixed (by decide +kernel) ?_ | refine awp_condM ?_ | refine And.intro ?_ ?_ | apply gQ_merge | apply gE_merge | exact EqV_w | exact EqE_w | exact EqV_ptr | exact EqE_ptr | exact EqV_msl | exact EqE_msl | exact EqV_agg | exact EqE_agg | exact EqV_fn | exact EqE_fn | exact EqV_gd | exact EqE_gd | refine gM_splitN ?_ ?_ | refine gM_split ?_ ?_ |  refine condM_splitDN ?_ ?_ | refine condM_splitD ?_ ?_ | refine condM_splitN ?_ ?_ | refine condM_split ?_ ?_ | refine condM_any ?_ ?_ | refine cw (c2) ?_ | refine cw (c5) ?_ | refine cw (c6) ?_ | refine cw (c7) ?_ | intro _) | (simp [*]) | (refine cw_eq (c2) ?_ ?_; (· (simp [*]; done))) | (refine cw_eq (c5) ?_ ?_; (· (simp [*]; done))) | (refine cw_eq (c6) ?_ ?_; (· (simp [*]; done))) | (refine cw_eq (c7) ?_ ?_; (· (simp [*]; done))))
      · refine realcall_intro Try.func9 (by kernel_rfl) rfl (Nat.le_of_ble_eq_true (by kernel_rfl)) ?_
        simp only [Try.results9, Try.ntmps9]
        repeat' (first | (with_reducible first | refine awp_seq ?_ | refine awp_blockS ?_ | refine awp_blockC ?_ | refine awp_blockR ?_ | refine awp_skip ?_ | refine awp_ret ?_ | refine awp_exit ?_ | refine awp_region ?_ | refine awp_regionD (id := 8) 7 mixed (by decide +kernel) ?_ | refine awp_regionS (id := 10) [0, 1, 2, 3, 4, 5, 6, 7, 8, 9, 10, 11] [12, 13] [[], [], [], [], [], [], [], [], [], [.new 0], [], []] [[.new 0], []] mixed (by decide +kernel) ?_ | refine awp_condM ?_ | refine And.intro ?_ ?_ | apply gQ_merge | apply gE_merge | exact EqV_w | exact EqE_w | exact EqV_ptr | exact EqE_ptr | exact EqV_msl | exact EqE_msl | exact EqV_agg | exact EqE_agg | exact EqV_fn | exact EqE_fn | exact EqV_gd | exact EqE_gd | refine gM_splitN ?_ ?_ | refine gM_split ?_ ?_ |  refine condM_splitDN ?_ ?_ | refine condM_splitD ?_ ?_ | refine condM_splitN ?_ ?_ | refine condM_split ?_ ?_ | refine condM_any ?_ ?_ | refine cw (c0) ?_ | refine cw (c1) ?_ | intro _) | (simp [*, h3]) | (refine cw_eq (c0) ?_ ?_; (· (simp [*]; done))) | (refine cw_eq (c1) ?_ ?_; (· (simp [*]; done))))
        all_goals try first | exact inI64 (by omega) (by omega) | omega
        refine awp_for3 (fun (k : Nat) => k ≤ l.length ∧ ∀ j, j < k → smallB m (nth l j) = true) [1, 3, 5] (fun (k : Nat) => [(7, .w false false (.int .i64 k))]) [0, 1] (fun (k : Nat) => []) (fun (k : Nat) => l.length - k) (fun (_u : Unit) => ∀ j, j < l.length → smallB m (nth l j) = true) [1, 3, 5] (fun (_u : Unit) => []) [0, 1] (fun (_u : Unit) => []) (0) ⟨Nat.zero_le _, fun j hj => absurd hj (Nat.not_lt_zero j)⟩ (by simp) (by simp) (fun k hk => ?_) (fun _u hf => ?_)
        · obtain ⟨hk, hj⟩ := hk
          by_cases hlt : k < l.length
          · have hlI : (k : Int) < (l.length : Int) := by omega
            have c4 := cS k hlt
            clear cS cX cY cZ
            cases hs : smallB m (nth l k) with
            | true =>
              rw [hs] at c4
              have hj2 : Keep (∀ j, j < k + 1 → smallB m (nth l j) = true) := by
                intro j hj3
                rcases Nat.lt_or_ge j k with h | h
                · exact hj j h
                · have : j = k := by omega
                  subst this; exact hs
              clear hj hs
              unfold aPlan at *
              generalize hpl : nth l k = p at *
              unfold cPlan at *
              repeat' (first | (with_reducible first | refine awp_seq ?_ | refine awp_blockS ?_ | refine awp_blockC ?_ | refine awp_blockR ?_ | refine awp_skip ?_ | refine awp_ret ?_ | refine awp_exit ?_ | refine awp_region ?_ | refine awp_regionD (id := 8) 7 mixed (by decide +kernel) ?_ | refine awp_regionS (id := 10) [0, 1, 2, 3, 4, 5, 6, 7, 8, 9, 10, 11] [12, 13] [[], [], [], [], [], [], [], [], [], [.new 0], [], []] [[.new 0], []] mixed (by decide +kernel) ?_ | refine awp_condM ?_ | refine And.intro ?_ ?_ | apply gQ_merge | apply gE_merge | exact EqV_w | exact EqE_w | exact EqV_ptr | exact EqE_ptr | exact EqV_msl | exact EqE_msl | exact EqV_agg | exact EqE_agg | exact EqV_fn | exact EqE_fn | exact EqV_gd | exact EqE_gd | refine gM_splitN ?_ ?_ | refine gM_split ?_ ?_ |  refine condM_splitDN ?_ ?_ | refine condM_splitD ?_ ?_ | refine condM_splitN ?_ ?_ | refine condM_split ?_ ?_ | refine condM_any ?_ ?_ | refine cw (c4) ?_ | intro _) | (simp [*, hlI, hlt, hpl, cPlan]) | (refine cw_eq (c4) ?_ ?_; (· (simp [*]; done))))
              all_goals try first | exact inI64 (by omega) (by omega) | omega
              all_goals (refine loopK_normal _ _ _ _ _ (k + 1) _ ?_ (by first | omega | (dsimp only; omega) | (simp; omega)) ?_; (· exact ⟨by omega, hj2⟩); (refine le_of ?_ ?_ <;> first | trivial | (simp [*]; done)))
            | false =>
              rw [hs] at c4
              clear hj hs
              unfold aPlan at *
              generalize hpl : nth l k = p at *
              unfold cPlan at *
              repeat' (first | (with_reducible first | refine awp_seq ?_ | refine awp_blockS ?_ | refine awp_blockC ?_ | refine awp_blockR ?_ | refine awp_skip ?_ | refine awp_ret ?_ | refine awp_exit ?_ | refine awp_region ?_ | refine awp_regionD (id := 8) 7 mixed (by decide +kernel) ?_ | refine awp_regionS (id := 10) [0, 1, 2, 3, 4, 5, 6, 7, 8, 9, 10, 11] [12, 13] [[], [], [], [], [], [], [], [], [], [.new 0], [], []] [[.new 0], []] mixed (by decide +kernel) ?_ | refine awp_condM ?_ | refine And.intro ?_ ?_ | apply gQ_merge | apply gE_merge | exact EqV_w | exact EqE_w | exact EqV_ptr | exact EqE_ptr | exact EqV_msl | exact EqE_msl | exact EqV_agg | exact EqE_agg | exact EqV_fn | exact EqE_fn | exact EqV_gd | exact EqE_gd | refine gM_splitN ?_ ?_ | refine gM_split ?_ ?_ |  refine condM_splitDN ?_ ?_ | refine condM_splitD ?_ ?_ | refine condM_splitN ?_ ?_ | refine condM_split ?_ ?_ | refine condM_any ?_ ?_ | refine cw (c4) ?_ | intro _) | (simp [*, hlI, hlt, hpl, cPlan]) | (refine cw_eq (c4) ?_ ?_; (· (simp [*]; done))))
              all_goals omega
          · have hke : k = l.length := by omega
            subst hke
            have kj := keep hj
            clear hj cS cX cY cZ
            repeat' (first | (with_reducible first | refine awp_seq ?_ | refine awp_blockS ?_ | refine awp_blockC ?_ | refine awp_blockR ?_ | refine awp_skip ?_ | refine awp_ret ?_ | refine awp_exit ?_ | refine awp_region ?_ | refine awp_regionD (id := 8) 7 mixed (by decide +kernel) ?_ | refine awp_regionS (id := 10) [0, 1, 2, 3, 4, 5, 6, 7, 8, 9, 10, 11] [12, 13] [[], [], [], [], [], [], [], [], [], [.new 0], [], []] [[.new 0], []] mixed (by decide +kernel) ?_ | refine awp_condM ?_ | refine And.intro ?_ ?_ | apply gQ_merge | apply gE_merge | exact EqV_w | exact EqE_w | exact EqV_ptr | exact EqE_ptr | exact EqV_msl | exact EqE_msl | exact EqV_agg | exact EqE_agg | exact EqV_fn | exact EqE_fn | exact EqV_gd | exact EqE_gd | refine gM_splitN ?_ ?_ | refine gM_split ?_ ?_ |  refine condM_splitDN ?_ ?_ | refine condM_splitD ?_ ?_ | refine condM_splitN ?_ ?_ | refine condM_split ?_ ?_ | refine condM_any ?_ ?_ | intro _) | (simp [*]))
            all_goals (refine finW_intro () ?_ ?_; (· exact kj); (refine le_of ?_ ?_ <;> first | trivial | (simp [*]; done)))
        · have c5 := cX hf
          have c6 := cY hf
          have c7 := cZ hf
          clear cX cY cZ cS hf
          repeat' (first | (with_reducible first | refine awp_seq ?_ | refine awp_blockS ?_ | refine awp_blockC ?_ | refine awp_blockR ?_ | refine awp_skip ?_ | refine awp_ret ?_ | refine awp_exit ?_ | refine awp_region ?_ | refine awp_regionD (id := 8) 7 mixed (by decide +kernel) ?_ | refine awp_regionS (id := 10) [0, 1, 2, 3, 4, 5, 6, 7, 8, 9, 10, 11] [12, 13] [[], [], [], [], [], [], [], [], [], [.new 0], [], []] [[.new 0], []] mixed (by decide +kernel) ?_ | refine awp_condM ?_ | refine And.intro ?_ ?_ | apply gQ_merge | apply gE_merge | exact EqV_w | exact EqE_w | exact EqV_ptr | exact EqE_ptr | exact EqV_msl | exact EqE_msl | exact EqV_agg | exact EqE_agg | exact EqV_fn | exact EqE_fn | exact EqV_gd | exact EqE_gd | refine gM_splitN ?_ ?_ | refine gM_split ?_ ?_ |  refine condM_splitDN ?_ ?_ | refine condM_splitD ?_ ?_ | refine condM_splitN ?_ ?_ | refine condM_split ?_ ?_ | refine condM_any ?_ ?_ | refine cw (c2) ?_ | refine cw (c5) ?_ | refine cw (c6) ?_ | refine cw (c7) ?_ | intro _) | (simp [*]) | (refine cw_eq (c2) ?_ ?_; (· (simp [*]; done))) | (refine cw_eq (c5) ?_ ?_; (· (simp [*]; done))) | (refine cw_eq (c6) ?_ ?_; (· (simp [*]; done))) | (refine cw_eq (c7) ?_ ?_; (· (simp [*]; done))))
end Go.Proofs.Ytceimmohnniebaa
