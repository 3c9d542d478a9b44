/- Contracts of functions for this claim: lemmas alone. -/
import Derived.Test.YtceimmohnniebaaP51
import Derived.Test.YtceimmohnniebaaP38
set_option linter.unusedSimpArgs false
set_option linter.unusedVariables false
namespace Go.Proofs.Ytceimmohnniebaa
open Go Go.Fi
set_option maxRecDepth 20000

theorem insS_in {p : Plan} (hp : PlanIn p) {r : Rider} (hr : r.name.size < 1000000) (i o : Nat) (h1 : p.riders.length < 9000) (h2 : p.stops.length < 5000) : PlanIn (insS p r i o) := by
  have hrl : (insS p r i o).riders.length = p.riders.length + 1 := by simp [insS]
  refine ⟨by omega, by rw [insS_stops_len]; omega, fun k hk => ?_⟩
  rw [hrl] at hk
  show (nth (p.riders ++ [r]) k).name.size < 1000000
  by_cases e : k < p.riders.length
  · rw [riders_app p r e]; exact hp.names k e
  · have e : k = p.riders.length := by omega
    subst e
    rw [nth_app_one]; exact hr
theorem keepsS_false {m : Grid} {q : Plan} : (brokenS m q (timesS m q noDelay) (seatsS q)).2 = !keepsS m q := by unfold keepsS; rw [Bool.not_not]
set_option maxHeartbeats 16000000 in
theorem shareNoneCheaper_c (m : Grid) (p : Plan) (x : Insert) : RealCall Try.prog 11 [aMap m, aPlan p, .agg (cInsert x)] (.bool true) true := by
  have c0 := awake_c
  have c1 := small_c m p
  cases hs : smallB m p with
  | false =>
    rw [hs] at c1
    unfold aMap aPlan cPlan cInsert at *
    refine realcall_intro Try.func11 (by kernel_rfl) rfl (Nat.le_of_ble_eq_true (by kernel_rfl)) ?_
    simp only [Try.results11, Try.ntmps11]
    repeat' (first | (with_reducible first | refine awp_seq ?_ | refine awp_blockS ?_ | refine awp_blockC ?_ | refine awp_blockR ?_ | refine awp_skip ?_ | refine awp_ret ?_ | refine awp_exit ?_ | refine awp_region ?_ | refine awp_regionS (id := 5) [0, 1, 2, 3, 4, 5, 6, 7, 8, 9, 10] [11, 12] [[], [], [], [], [], [], [], [], [], [.new 0], []] [[.new 0], []] mixed (by decide +kernel) ?_ | refine awp_regionD (id := 6) 12 mixed (by decide +kernel) ?_ | refine awp_regionS (id := 7) [0, 1, 2, 3, 4, 5, 6, 7, 8, 9] [10, 11] [[], [], [], [], [], [], [], [], [.new 0], []] [[.new 0], []] mixed (by decide +kernel) ?_ | refine awp_regionS (id := 10) [0, 1, 2, 3, 4, 5, 6, 7, 8] [9, 10] [[], [], [], [], [], [], [], [.new 0], []] [[.new 0], []] mixed (by decide +kernel) ?_ | refine awp_regionD (id := 11) 10 mixed (by decide +kernel) ?_ | refine awp_regionD (id := 18) 14 mixed (by decide +kernel) ?_ | refine awp_regionS (id := 23) [0, 1, 2, 3, 4, 5, 6, 7, 8, 9, 10, 11, 12, 13, 14, 15] [16, 17] [[], [], [], [], [], [], [], [], [], [], [], [], [], [], [.new 0], []] [[.new 0], []] mixed (by decide +kernel) ?_ | refine awp_regionS (id := 26) [0, 1, 2, 3, 4, 5, 6, 7, 8] [9, 10] [[], [], [], [], [], [], [], [.new 0], []] [[.new 0], []] mixed (by decide +kernel) ?_ | refine awp_regionD (id := 27) 9 mixed (by decide +kernel) ?_ | refine awp_condM ?_ | refine And.intro ?_ ?_ | apply gQ_merge | apply gE_merge | exact EqV_w | exact EqE_w | exact EqV_ptr | exact EqE_ptr | exact EqV_msl | exact EqE_msl | exact EqV_agg | exact EqE_agg | exact EqV_fn | exact EqE_fn | exact EqV_gd | exact EqE_gd | refine gM_splitN ?_ ?_ | refine gM_split ?_ ?_ |  refine condM_splitDN ?_ ?_ | refine condM_splitD ?_ ?_ | refine condM_splitN ?_ ?_ | refine condM_split ?_ ?_ | refine condM_any ?_ ?_ | refine cw (c0) ?_ | refine cw (c1) ?_ | intro _) | (simp [*]) | (refine cw_eq (c0) ?_ ?_; (· (simp [*]; done))) | (refine cw_eq (c1) ?_ ?_; (· (simp [*]; done))))
  | true =>
    rw [hs] at c1
    obtain ⟨hm, hp, hs16⟩ := small_in hs
    have c2 := copyMap_c m hm
    have c3 := copyPlan_c p hp
    have c4 := rPlanErr_c m hm p hp
    by_cases hname : (20 : Int) < (x.r.name.size : Int)
    · clear hm hp hs hs16
      unfold aMap aPlan cPlan cInsert at *
      refine realcall_intro Try.func11 (by kernel_rfl) rfl (Nat.le_of_ble_eq_true (by kernel_rfl)) ?_
      simp only [Try.results11, Try.ntmps11]
      repeat' (first | (with_reducible first | refine awp_seq ?_ | refine awp_blockS ?_ | refine awp_blockC ?_ | refine awp_blockR ?_ | refine awp_skip ?_ | refine awp_ret ?_ | refine awp_exit ?_ | refine awp_region ?_ | refine awp_regionS (id := 5) [0, 1, 2, 3, 4, 5, 6, 7, 8, 9, 10] [11, 12] [[], [], [], [], [], [], [], [], [], [.new 0], []] [[.new 0], []] mixed (by decide +kernel) ?_ | refine awp_regionD (id := 6) 12 mixed (by decide +kernel) ?_ | refine awp_regionS (id := 7) [0, 1, 2, 3, 4, 5, 6, 7, 8, 9] [10, 11] [[], [], [], [], [], [], [], [], [.new 0], []] [[.new 0], []] mixed (by decide +kernel) ?_ | refine awp_regionS (id := 10) [0, 1, 2, 3, 4, 5, 6, 7, 8] [9, 10] [[], [], [], [], [], [], [], [.new 0], []] [[.new 0], []] mixed (by decide +kernel) ?_ | refine awp_regionD (id := 11) 10 mixed (by decide +kernel) ?_ | refine awp_regionD (id := 18) 14 mixed (by decide +kernel) ?_ | refine awp_regionS (id := 23) [0, 1, 2, 3, 4, 5, 6, 7, 8, 9, 10, 11, 12, 13, 14, 15] [16, 17] [[], [], [], [], [], [], [], [], [], [], [], [], [], [], [.new 0], []] [[.new 0], []] mixed (by decide +kernel) ?_ | refine awp_regionS (id := 26) [0, 1, 2, 3, 4, 5, 6, 7, 8] [9, 10] [[], [], [], [], [], [], [], [.new 0], []] [[.new 0], []] mixed (by decide +kernel) ?_ | refine awp_regionD (id := 27) 9 mixed (by decide +kernel) ?_ | refine awp_condM ?_ | refine And.intro ?_ ?_ | apply gQ_merge | apply gE_merge | exact EqV_w | exact EqE_w | exact EqV_ptr | exact EqE_ptr | exact EqV_msl | exact EqE_msl | exact EqV_agg | exact EqE_agg | exact EqV_fn | exact EqE_fn | exact EqV_gd | exact EqE_gd | refine gM_splitN ?_ ?_ | refine gM_split ?_ ?_ |  refine condM_splitDN ?_ ?_ | refine condM_splitD ?_ ?_ | refine condM_splitN ?_ ?_ | refine condM_split ?_ ?_ | refine condM_any ?_ ?_ | refine cw (c0) ?_ | refine cw (c1) ?_ | intro _) | (simp [*, hname]) | (refine cw_eq (c0) ?_ ?_; (· (simp [*]; done))) | (refine cw_eq (c1) ?_ ?_; (· (simp [*]; done))))
    have hnm : x.r.name.size < 1000000 := by omega
    by_cases h : (checkS m p).2 = 0
    · have h1 := checkS_ok.1 h
      have c5 := rNewErr_c m hm p hp x.r hnm
      have c6 := rInsErr_c p hp x
      rw [h] at c4
      by_cases hn : newE m p x.r = 0
      · rw [hn] at c5
        by_cases hi : insE p x = 0
        · rw [hi] at c6
          obtain ⟨i, o, e1, e2, hio, ho⟩ := insE_zero hi
          obtain ⟨r, xi, xo⟩ := x
          dsimp only at e1 e2 hname hnm hn c5
          subst e1
          subst e2
          have hrl := h1.2.rl
          have c7 := bestInsert_c m hm p hp (by omega) r hnm
          have c8 := inserts_c m hm p hp (by omega) r hnm
          have hoff : offE m p r = 0 := by unfold offE; rw [if_pos h]; exact hn
          have hins : ∀ a b : Nat, a < b → b ≤ p.stops.length + 1 → insertedS m p ⟨r, (a : Int), (b : Int)⟩ = (insS p r a b, 0) := by
            intro a b hab hb
            have h2 : insE p ⟨r, (a : Int), (b : Int)⟩ = 0 := by
              unfold insE
              rw [errU_zero (by decide), Bool.and_eq_true, winB_iff, winB_iff]
              dsimp only
              omega
            unfold insertedS insPlan
            dsimp only
            rw [hn, h2, show firstS [0, 0] = 0 from rfl, if_pos rfl, Int.toNat_natCast, Int.toNat_natCast]
          -- the contracts of a plan with the rider
          have hq : ∀ a b : Nat, a < b → b ≤ p.stops.length + 1 →
              RealCall Try.prog 50 [aMap m, aPlan p, .agg (cInsert ⟨r, (a : Int), (b : Int)⟩)] (planP (insS p r a b, 0)) true ∧
              RealCall Try.prog 30 [aMap m, aPlan (insS p r a b)] (.int .i64 0) true ∧
              RealCall Try.prog 19 [aPlan (insS p r a b)] (aPlan (insS p r a b)) true ∧
              RealCall Try.prog 36 [aMap m, aPlan (insS p r a b)] (brokE (brokenS m (insS p r a b) (timesS m (insS p r a b) noDelay) (seatsS (insS p r a b)))) true ∧
              RealCall Try.prog 22 [aMap m, aPlan (insS p r a b)] (.tup [.int .i64 (costP m (insS p r a b)), .int .i64 0]) true := by
            intro a b hab hb
            have g1 := inserted_ok m hm p hp h ⟨r, (a : Int), (b : Int)⟩ hnm
            rw [hins a b hab hb] at g1
            have hpq := insS_in hp hnm a b (by omega) (by omega)
            have hz := checkS_zero h1.1 (insS_ok h1.2 hn hab hb)
            have hz2 : (checkS m (insS p r a b)).2 = 0 := by rw [hz]
            have g2 := rPlanErr_c m hm _ hpq
            rw [hz2] at g2
            exact ⟨g1, g2, copyPlan_c _ hpq, firstBroken_ok m hm _ hpq hz2, costOf_ok m hm _ hpq hz2⟩
          obtain ⟨d1, d2, d3, d4, d5⟩ := hq i o hio ho
          have hO := offO_len m p r (by omega : p.stops.length < 5000) (p.stops.length + 1)
          have hOl : (offersS m p r).length < 100000000 := by unfold offersS; omega
          have hmem : ((i : Int), (o : Int), costP m (insS p r i o)) ∈ offersS m p r ↔ keepsS m (insS p r i o) = true := by
            rw [mem_offers]
            constructor
            · rintro ⟨a, b, _, _, hk, e⟩
              injection e with e1 e2
              injection e2 with e2 e3
              have : a = i := by omega
              subst this
              have : b = o := by omega
              subst this
              exact hk
            · intro hk
              exact ⟨i, o, hio, ho, hk, rfl⟩
          have hfe : foundK (offersS m p r) ((i : Int), (o : Int), costP m (insS p r i o)) (offersS m p r).length = keepsS m (insS p r i o) := by
            rw [foundK_end, Bool.eq_iff_iff, decide_eq_true_eq]; exact hmem
          have hbest : (bestS m p r = none ∧ offersS m p r = []) ∨ ∃ (a b : Nat), bestS m p r = some ((a : Int), (b : Int), costP m (insS p r a b)) ∧ a < b ∧ b ≤ p.stops.length + 1 ∧ keepsS m (insS p r a b) = true ∧ (keepsS m (insS p r i o) = true → costP m (insS p r a b) ≤ costP m (insS p r i o)) := by
            rcases bestS_cases (m := m) (p := p) (r := r) with hb | ⟨y, hy1, hy2, hy3⟩
            · exact .inl hb
            · obtain ⟨a, b, hab, hb, hk, rfl⟩ := mem_offers.1 hy2
              exact .inr ⟨a, b, hy1, hab, hb, hk, fun hk2 => hy3 _ (hmem.2 hk2)⟩
          unfold bestE at c7
          unfold insertsS at c8
          rw [hoff, if_pos rfl] at c7 c8
          unfold planP at d1
          unfold brokE at d4
          have hB : (brokenS m (insS p r i o) (timesS m (insS p r i o) noDelay) (seatsS (insS p r i o))).2 = !keepsS m (insS p r i o) := keepsS_false
          have kq := keep hq
          clear hq hins hoff hmem hs h h1 hi hO hn
          generalize brokenS m (insS p r i o) (timesS m (insS p r i o) noDelay) (seatsS (insS p r i o)) = B at *
          obtain ⟨⟨u1, u2⟩, u⟩ := B
          dsimp only at hB
          generalize keepsS m (insS p r i o) = K at *
          generalize costP m (insS p r i o) = C at *
          generalize insS p r i o = q at *
          subst hB
          rcases hbest with ⟨hb, hO⟩ | ⟨a, b, hb, hab, hbl, hkb, hle⟩
          · rw [hb] at c7
            rw [hO] at c8 hfe
            have hK : K = false := by rw [← hfe]; rfl
            subst hK
            clear hfe kq hb hO hOl hm hp hs16
            unfold bestEP aMap aPlan cPlan cInsert cRider at *
            refine realcall_intro Try.func11 (by kernel_rfl) rfl (Nat.le_of_ble_eq_true (by kernel_rfl)) ?_
            simp only [Try.results11, Try.ntmps11]
            repeat' (first | (with_reducible first | refine awp_seq ?_ | refine awp_blockS ?_ | refine awp_blockC ?_ | refine awp_blockR ?_ | refine awp_skip ?_ | refine awp_ret ?_ | refine awp_exit ?_ | refine awp_region ?_ | refine awp_regionS (id := 5) [0, 1, 2, 3, 4, 5, 6, 7, 8, 9, 10] [11, 12] [[], [], [], [], [], [], [], [], [], [.new 0], []] [[.new 0], []] mixed (by decide +kernel) ?_ | refine awp_regionD (id := 6) 12 mixed (by decide +kernel) ?_ | refine awp_regionS (id := 7) [0, 1, 2, 3, 4, 5, 6, 7, 8, 9] [10, 11] [[], [], [], [], [], [], [], [], [.new 0], []] [[.new 0], []] mixed (by decide +kernel) ?_ | refine awp_regionS (id := 10) [0, 1, 2, 3, 4, 5, 6, 7, 8] [9, 10] [[], [], [], [], [], [], [], [.new 0], []] [[.new 0], []] mixed (by decide +kernel) ?_ | refine awp_regionD (id := 11) 10 mixed (by decide +kernel) ?_ | refine awp_regionD (id := 18) 14 mixed (by decide +kernel) ?_ | refine awp_regionS (id := 23) [0, 1, 2, 3, 4, 5, 6, 7, 8, 9, 10, 11, 12, 13, 14, 15] [16, 17] [[], [], [], [], [], [], [], [], [], [], [], [], [], [], [.new 0], []] [[.new 0], []] mixed (by decide +kernel) ?_ | refine awp_regionS (id := 26) [0, 1, 2, 3, 4, 5, 6, 7, 8] [9, 10] [[], [], [], [], [], [], [], [.new 0], []] [[.new 0], []] mixed (by decide +kernel) ?_ | refine awp_regionD (id := 27) 9 mixed (by decide +kernel) ?_ | refine awp_condM ?_ | refine And.intro ?_ ?_ | apply gQ_merge | apply gE_merge | exact EqV_w | exact EqE_w | exact EqV_ptr | exact EqE_ptr | exact EqV_msl | exact EqE_msl | exact EqV_agg | exact EqE_agg | exact EqV_fn | exact EqE_fn | exact EqV_gd | exact EqE_gd | refine gM_splitN ?_ ?_ | refine gM_split ?_ ?_ |  refine condM_splitDN ?_ ?_ | refine condM_splitD ?_ ?_ | refine condM_splitN ?_ ?_ | refine condM_split ?_ ?_ | refine condM_any ?_ ?_ | refine cw (c0) ?_ | refine cw (c1) ?_ | refine cw (c2) ?_ | refine cw (c3) ?_ | refine cw (c4) ?_ | refine cw (c5) ?_ | refine cw (c6) ?_ | refine cw (c7) ?_ | refine cw (c8) ?_ | refine cw (d1) ?_ | refine cw (d2) ?_ | refine cw (d3) ?_ | refine cw (d4) ?_ | refine cw (d5) ?_ | intro _) | (simp [*, hname, errUnless]) | (refine cw_eq (c0) ?_ ?_; (· (simp [*]; done))) | (refine cw_eq (c1) ?_ ?_; (· (simp [*]; done))) | (refine cw_eq (c2) ?_ ?_; (· (simp [*]; done))) | (refine cw_eq (c3) ?_ ?_; (· (simp [*]; done))) | (refine cw_eq (c4) ?_ ?_; (· (simp [*]; done))) | (refine cw_eq (c5) ?_ ?_; (· (simp [*]; done))) | (refine cw_eq (c6) ?_ ?_; (· (simp [*]; done))) | (refine cw_eq (c7) ?_ ?_; (· (simp [*]; done))) | (refine cw_eq (c8) ?_ ?_; (· (simp [*]; done))) | (refine cw_eq (d1) ?_ ?_; (· (simp [*]; done))) | (refine cw_eq (d2) ?_ ?_; (· (simp [*]; done))) | (refine cw_eq (d3) ?_ ?_; (· (simp [*]; done))) | (refine cw_eq (d4) ?_ ?_; (· (simp [*]; done))) | (refine cw_eq (d5) ?_ ?_; (· (simp [*]; done))))
            refine awp_for3 (fun (k : Nat) => k ≤ 0) [3, 4, 5, 7, 8, 9, 14, 15, 17] (fun (k : Nat) => [(18, .w false false (.int .i64 0))]) [0, 1, 2, 3, 4, 5] (fun (k : Nat) => []) (fun (k : Nat) => 0) (fun (_u : Unit) => True) [3, 4, 5, 7, 8, 9, 14, 15, 17] (fun (_u : Unit) => []) [0, 1, 2, 3, 4, 5] (fun (_u : Unit) => []) (0) (Nat.zero_le _) (by simp) (by simp) (fun k hk => ?_) (fun _u hf => ?_)
            · repeat' (first | (with_reducible first | refine awp_seq ?_ | refine awp_blockS ?_ | refine awp_blockC ?_ | refine awp_blockR ?_ | refine awp_skip ?_ | refine awp_ret ?_ | refine awp_exit ?_ | refine awp_region ?_ | refine awp_regionS (id := 5) [0, 1, 2, 3, 4, 5, 6, 7, 8, 9, 10] [11, 12] [[], [], [], [], [], [], [], [], [], [.new 0], []] [[.new 0], []] mixed (by decide +kernel) ?_ | refine awp_regionD (id := 6) 12 mixed (by decide +kernel) ?_ | refine awp_regionS (id := 7) [0, 1, 2, 3, 4, 5, 6, 7, 8, 9] [10, 11] [[], [], [], [], [], [], [], [], [.new 0], []] [[.new 0], []] mixed (by decide +kernel) ?_ | refine awp_regionS (id := 10) [0, 1, 2, 3, 4, 5, 6, 7, 8] [9, 10] [[], [], [], [], [], [], [], [.new 0], []] [[.new 0], []] mixed (by decide +kernel) ?_ | refine awp_regionD (id := 11) 10 mixed (by decide +kernel) ?_ | refine awp_regionD (id := 18) 14 mixed (by decide +kernel) ?_ | refine awp_regionS (id := 23) [0, 1, 2, 3, 4, 5, 6, 7, 8, 9, 10, 11, 12, 13, 14, 15] [16, 17] [[], [], [], [], [], [], [], [], [], [], [], [], [], [], [.new 0], []] [[.new 0], []] mixed (by decide +kernel) ?_ | refine awp_regionS (id := 26) [0, 1, 2, 3, 4, 5, 6, 7, 8] [9, 10] [[], [], [], [], [], [], [], [.new 0], []] [[.new 0], []] mixed (by decide +kernel) ?_ | refine awp_regionD (id := 27) 9 mixed (by decide +kernel) ?_ | refine awp_condM ?_ | refine And.intro ?_ ?_ | apply gQ_merge | apply gE_merge | exact EqV_w | exact EqE_w | exact EqV_ptr | exact EqE_ptr | exact EqV_msl | exact EqE_msl | exact EqV_agg | exact EqE_agg | exact EqV_fn | exact EqE_fn | exact EqV_gd | exact EqE_gd | refine gM_splitN ?_ ?_ | refine gM_split ?_ ?_ |  refine condM_splitDN ?_ ?_ | refine condM_splitD ?_ ?_ | refine condM_splitN ?_ ?_ | refine condM_split ?_ ?_ | refine condM_any ?_ ?_ | intro _) | (simp [*]))
              all_goals (refine finW_intro () ?_ ?_; (· trivial); (refine le_of ?_ ?_ <;> first | trivial | (simp [*]; done)))
            · repeat' (first | (with_reducible first | refine awp_seq ?_ | refine awp_blockS ?_ | refine awp_blockC ?_ | refine awp_blockR ?_ | refine awp_skip ?_ | refine awp_ret ?_ | refine awp_exit ?_ | refine awp_region ?_ | refine awp_regionS (id := 5) [0, 1, 2, 3, 4, 5, 6, 7, 8, 9, 10] [11, 12] [[], [], [], [], [], [], [], [], [], [.new 0], []] [[.new 0], []] mixed (by decide +kernel) ?_ | refine awp_regionD (id := 6) 12 mixed (by decide +kernel) ?_ | refine awp_regionS (id := 7) [0, 1, 2, 3, 4, 5, 6, 7, 8, 9] [10, 11] [[], [], [], [], [], [], [], [], [.new 0], []] [[.new 0], []] mixed (by decide +kernel) ?_ | refine awp_regionS (id := 10) [0, 1, 2, 3, 4, 5, 6, 7, 8] [9, 10] [[], [], [], [], [], [], [], [.new 0], []] [[.new 0], []] mixed (by decide +kernel) ?_ | refine awp_regionD (id := 11) 10 mixed (by decide +kernel) ?_ | refine awp_regionD (id := 18) 14 mixed (by decide +kernel) ?_ | refine awp_regionS (id := 23) [0, 1, 2, 3, 4, 5, 6, 7, 8, 9, 10, 11, 12, 13, 14, 15] [16, 17] [[], [], [], [], [], [], [], [], [], [], [], [], [], [], [.new 0], []] [[.new 0], []] mixed (by decide +kernel) ?_ | refine awp_regionS (id := 26) [0, 1, 2, 3, 4, 5, 6, 7, 8] [9, 10] [[], [], [], [], [], [], [], [.new 0], []] [[.new 0], []] mixed (by decide +kernel) ?_ | refine awp_regionD (id := 27) 9 mixed (by decide +kernel) ?_ | refine awp_condM ?_ | refine And.intro ?_ ?_ | apply gQ_merge | apply gE_merge | exact EqV_w | exact EqE_w | exact EqV_ptr | exact EqE_ptr | exact EqV_msl | exact EqE_msl | exact EqV_agg | exact EqE_agg | exact EqV_fn | exact EqE_fn | exact EqV_gd | exact EqE_gd | refine gM_splitN ?_ ?_ | refine gM_split ?_ ?_ |  refine condM_splitDN ?_ ?_ | refine condM_splitD ?_ ?_ | refine condM_splitN ?_ ?_ | refine condM_split ?_ ?_ | refine condM_any ?_ ?_ | refine cw (c2) ?_ | refine cw (c3) ?_ | intro _) | (simp [*]) | (refine cw_eq (c2) ?_ ?_; (· (simp [*]; done))) | (refine cw_eq (c3) ?_ ?_; (· (simp [*]; done))))
          · obtain ⟨k1, k2, k3, k4, k5⟩ := (show ∀ a b : Nat, a < b → b ≤ p.stops.length + 1 → _ ∧ _ ∧ _ ∧ _ ∧ _ from kq) a b hab hbl
            clear kq
            have hB2 : (brokenS m (insS p r a b) (timesS m (insS p r a b) noDelay) (seatsS (insS p r a b))).2 = false := by rw [keepsS_false, hkb]; rfl
            unfold planP at k1
            unfold brokE at k4
            rw [hb] at c7
            generalize brokenS m (insS p r a b) (timesS m (insS p r a b) noDelay) (seatsS (insS p r a b)) = B2 at *
            obtain ⟨⟨v1, v2⟩, v⟩ := B2
            dsimp only at hB2
            subst hB2
            generalize costP m (insS p r a b) = C2 at *
            generalize insS p r a b = q2 at *
            generalize offersS m p r = O at *
            clear hkb hb hm hp hs16 hab hbl hio ho
            have kfe := keep hfe
            have kle := keep hle
            clear hfe hle
            unfold bestEP aMap aPlan cPlan cInsert cRider at *
            refine realcall_intro Try.func11 (by kernel_rfl) rfl (Nat.le_of_ble_eq_true (by kernel_rfl)) ?_
            simp only [Try.results11, Try.ntmps11]
            repeat' (first | (with_reducible first | refine awp_seq ?_ | refine awp_blockS ?_ | refine awp_blockC ?_ | refine awp_blockR ?_ | refine awp_skip ?_ | refine awp_ret ?_ | refine awp_exit ?_ | refine awp_region ?_ | refine awp_regionS (id := 5) [0, 1, 2, 3, 4, 5, 6, 7, 8, 9, 10] [11, 12] [[], [], [], [], [], [], [], [], [], [.new 0], []] [[.new 0], []] mixed (by decide +kernel) ?_ | refine awp_regionD (id := 6) 12 mixed (by decide +kernel) ?_ | refine awp_regionS (id := 7) [0, 1, 2, 3, 4, 5, 6, 7, 8, 9] [10, 11] [[], [], [], [], [], [], [], [], [.new 0], []] [[.new 0], []] mixed (by decide +kernel) ?_ | refine awp_regionS (id := 10) [0, 1, 2, 3, 4, 5, 6, 7, 8] [9, 10] [[], [], [], [], [], [], [], [.new 0], []] [[.new 0], []] mixed (by decide +kernel) ?_ | refine awp_regionD (id := 11) 10 mixed (by decide +kernel) ?_ | refine awp_regionD (id := 18) 14 mixed (by decide +kernel) ?_ | refine awp_regionS (id := 23) [0, 1, 2, 3, 4, 5, 6, 7, 8, 9, 10, 11, 12, 13, 14, 15] [16, 17] [[], [], [], [], [], [], [], [], [], [], [], [], [], [], [.new 0], []] [[.new 0], []] mixed (by decide +kernel) ?_ | refine awp_regionS (id := 26) [0, 1, 2, 3, 4, 5, 6, 7, 8] [9, 10] [[], [], [], [], [], [], [], [.new 0], []] [[.new 0], []] mixed (by decide +kernel) ?_ | refine awp_regionD (id := 27) 9 mixed (by decide +kernel) ?_ | refine awp_condM ?_ | refine And.intro ?_ ?_ | apply gQ_merge | apply gE_merge | exact EqV_w | exact EqE_w | exact EqV_ptr | exact EqE_ptr | exact EqV_msl | exact EqE_msl | exact EqV_agg | exact EqE_agg | exact EqV_fn | exact EqE_fn | exact EqV_gd | exact EqE_gd | refine gM_splitN ?_ ?_ | refine gM_split ?_ ?_ |  refine condM_splitDN ?_ ?_ | refine condM_splitD ?_ ?_ | refine condM_splitN ?_ ?_ | refine condM_split ?_ ?_ | refine condM_any ?_ ?_ | refine cw (c0) ?_ | refine cw (c1) ?_ | refine cw (c2) ?_ | refine cw (c3) ?_ | refine cw (c4) ?_ | refine cw (c5) ?_ | refine cw (c6) ?_ | refine cw (c7) ?_ | refine cw (c8) ?_ | refine cw (d1) ?_ | refine cw (d2) ?_ | refine cw (d3) ?_ | refine cw (d4) ?_ | refine cw (d5) ?_ | intro _) | (simp [*, hname, errUnless]) | (refine cw_eq (c0) ?_ ?_; (· (simp [*]; done))) | (refine cw_eq (c1) ?_ ?_; (· (simp [*]; done))) | (refine cw_eq (c2) ?_ ?_; (· (simp [*]; done))) | (refine cw_eq (c3) ?_ ?_; (· (simp [*]; done))) | (refine cw_eq (c4) ?_ ?_; (· (simp [*]; done))) | (refine cw_eq (c5) ?_ ?_; (· (simp [*]; done))) | (refine cw_eq (c6) ?_ ?_; (· (simp [*]; done))) | (refine cw_eq (c7) ?_ ?_; (· (simp [*]; done))) | (refine cw_eq (c8) ?_ ?_; (· (simp [*]; done))) | (refine cw_eq (d1) ?_ ?_; (· (simp [*]; done))) | (refine cw_eq (d2) ?_ ?_; (· (simp [*]; done))) | (refine cw_eq (d3) ?_ ?_; (· (simp [*]; done))) | (refine cw_eq (d4) ?_ ?_; (· (simp [*]; done))) | (refine cw_eq (d5) ?_ ?_; (· (simp [*]; done))))
            refine awp_for3 (fun (k : Nat) => k ≤ O.length) [3, 4, 5, 7, 8, 9, 14, 15] (fun (k : Nat) => [(17, .w false false (.bool (foundK O ((i : Int), (o : Int), C) k))), (18, .w false false (.int .i64 k))]) [0, 1, 2, 3, 4, 5] (fun (k : Nat) => []) (fun (k : Nat) => O.length - k) (fun (_u : Unit) => True) [3, 4, 5, 7, 8, 9, 14, 15] (fun (_u : Unit) => [(17, .w false false (.bool K))]) [0, 1, 2, 3, 4, 5] (fun (_u : Unit) => []) (0) (Nat.zero_le _) (by simp) (by simp) (fun k hk => ?_) (fun _u hf => ?_)
            · by_cases hlt : k < O.length
              · have hlI : (k : Int) < (O.length : Int) := by omega
                have hyes := foundK_yes (t := ((i : Int), (o : Int), C)) hlt
                have hno := foundK_no (t := ((i : Int), (o : Int), C)) hlt
                obtain ⟨y1, y2, y3, hy⟩ : ∃ a b c, nth O k = (a, b, c) := ⟨_, _, _, rfl⟩
                cases hf : foundK O ((i : Int), (o : Int), C) k with
                | true =>
                  have hn2 : foundK O ((i : Int), (o : Int), C) (k + 1) = true := by
                    by_cases e : nth O k = ((i : Int), (o : Int), C)
                    · exact hyes e
                    · rw [hno e]; exact hf
                  clear hyes hno
                  repeat' (first | (with_reducible first | refine awp_seq ?_ | refine awp_blockS ?_ | refine awp_blockC ?_ | refine awp_blockR ?_ | refine awp_skip ?_ | refine awp_ret ?_ | refine awp_exit ?_ | refine awp_region ?_ | refine awp_regionS (id := 5) [0, 1, 2, 3, 4, 5, 6, 7, 8, 9, 10] [11, 12] [[], [], [], [], [], [], [], [], [], [.new 0], []] [[.new 0], []] mixed (by decide +kernel) ?_ | refine awp_regionD (id := 6) 12 mixed (by decide +kernel) ?_ | refine awp_regionS (id := 7) [0, 1, 2, 3, 4, 5, 6, 7, 8, 9] [10, 11] [[], [], [], [], [], [], [], [], [.new 0], []] [[.new 0], []] mixed (by decide +kernel) ?_ | refine awp_regionS (id := 10) [0, 1, 2, 3, 4, 5, 6, 7, 8] [9, 10] [[], [], [], [], [], [], [], [.new 0], []] [[.new 0], []] mixed (by decide +kernel) ?_ | refine awp_regionD (id := 11) 10 mixed (by decide +kernel) ?_ | refine awp_regionD (id := 18) 14 mixed (by decide +kernel) ?_ | refine awp_regionS (id := 23) [0, 1, 2, 3, 4, 5, 6, 7, 8, 9, 10, 11, 12, 13, 14, 15] [16, 17] [[], [], [], [], [], [], [], [], [], [], [], [], [], [], [.new 0], []] [[.new 0], []] mixed (by decide +kernel) ?_ | refine awp_regionS (id := 26) [0, 1, 2, 3, 4, 5, 6, 7, 8] [9, 10] [[], [], [], [], [], [], [], [.new 0], []] [[.new 0], []] mixed (by decide +kernel) ?_ | refine awp_regionD (id := 27) 9 mixed (by decide +kernel) ?_ | refine awp_condM ?_ | refine And.intro ?_ ?_ | apply gQ_merge | apply gE_merge | exact EqV_w | exact EqE_w | exact EqV_ptr | exact EqE_ptr | exact EqV_msl | exact EqE_msl | exact EqV_agg | exact EqE_agg | exact EqV_fn | exact EqE_fn | exact EqV_gd | exact EqE_gd | refine gM_splitN ?_ ?_ | refine gM_split ?_ ?_ |  refine condM_splitDN ?_ ?_ | refine condM_splitD ?_ ?_ | refine condM_splitN ?_ ?_ | refine condM_split ?_ ?_ | refine condM_any ?_ ?_ | intro _) | (simp [*, hlt, hf, hy, cOffer]))
                  all_goals first
                    | exact inI64 (by omega) (by omega)
                    | omega
                    | (refine loopK_normal _ _ _ _ _ (k + 1) _ ?_ (by first | omega | (dsimp only; omega) | (simp; omega)) ?_; (· omega); (refine le_of ?_ ?_ <;> first | trivial | (simp [*, hn2]; done)))
                    | skip
                | false =>
                  by_cases e1 : y1 = (i : Int)
                  · by_cases e2 : y2 = (o : Int)
                    · by_cases e3 : y3 = C
                      · have hn2 := hyes (by rw [hy, e1, e2, e3])
                        clear hyes hno
                        repeat' (first | (with_reducible first | refine awp_seq ?_ | refine awp_blockS ?_ | refine awp_blockC ?_ | refine awp_blockR ?_ | refine awp_skip ?_ | refine awp_ret ?_ | refine awp_exit ?_ | refine awp_region ?_ | refine awp_regionS (id := 5) [0, 1, 2, 3, 4, 5, 6, 7, 8, 9, 10] [11, 12] [[], [], [], [], [], [], [], [], [], [.new 0], []] [[.new 0], []] mixed (by decide +kernel) ?_ | refine awp_regionD (id := 6) 12 mixed (by decide +kernel) ?_ | refine awp_regionS (id := 7) [0, 1, 2, 3, 4, 5, 6, 7, 8, 9] [10, 11] [[], [], [], [], [], [], [], [], [.new 0], []] [[.new 0], []] mixed (by decide +kernel) ?_ | refine awp_regionS (id := 10) [0, 1, 2, 3, 4, 5, 6, 7, 8] [9, 10] [[], [], [], [], [], [], [], [.new 0], []] [[.new 0], []] mixed (by decide +kernel) ?_ | refine awp_regionD (id := 11) 10 mixed (by decide +kernel) ?_ | refine awp_regionD (id := 18) 14 mixed (by decide +kernel) ?_ | refine awp_regionS (id := 23) [0, 1, 2, 3, 4, 5, 6, 7, 8, 9, 10, 11, 12, 13, 14, 15] [16, 17] [[], [], [], [], [], [], [], [], [], [], [], [], [], [], [.new 0], []] [[.new 0], []] mixed (by decide +kernel) ?_ | refine awp_regionS (id := 26) [0, 1, 2, 3, 4, 5, 6, 7, 8] [9, 10] [[], [], [], [], [], [], [], [.new 0], []] [[.new 0], []] mixed (by decide +kernel) ?_ | refine awp_regionD (id := 27) 9 mixed (by decide +kernel) ?_ | refine awp_condM ?_ | refine And.intro ?_ ?_ | apply gQ_merge | apply gE_merge | exact EqV_w | exact EqE_w | exact EqV_ptr | exact EqE_ptr | exact EqV_msl | exact EqE_msl | exact EqV_agg | exact EqE_agg | exact EqV_fn | exact EqE_fn | exact EqV_gd | exact EqE_gd | refine gM_splitN ?_ ?_ | refine gM_split ?_ ?_ |  refine condM_splitDN ?_ ?_ | refine condM_splitD ?_ ?_ | refine condM_splitN ?_ ?_ | refine condM_split ?_ ?_ | refine condM_any ?_ ?_ | intro _) | (simp [*, hlt, hf, hy, e1, e2, e3, cOffer]))
                        all_goals first
                          | exact inI64 (by omega) (by omega)
                          | omega
                          | (refine loopK_normal _ _ _ _ _ (k + 1) _ ?_ (by first | omega | (dsimp only; omega) | (simp; omega)) ?_; (· omega); (refine le_of ?_ ?_ <;> first | trivial | (simp [*, hn2]; done)))
                          | skip
                      · have hn2 : foundK O ((i : Int), (o : Int), C) (k + 1) = false := by rw [hno (by rw [hy]; intro e; injection e with _ e; injection e with _ e; exact e3 e)]; exact hf
                        clear hyes hno
                        repeat' (first | (with_reducible first | refine awp_seq ?_ | refine awp_blockS ?_ | refine awp_blockC ?_ | refine awp_blockR ?_ | refine awp_skip ?_ | refine awp_ret ?_ | refine awp_exit ?_ | refine awp_region ?_ | refine awp_regionS (id := 5) [0, 1, 2, 3, 4, 5, 6, 7, 8, 9, 10] [11, 12] [[], [], [], [], [], [], [], [], [], [.new 0], []] [[.new 0], []] mixed (by decide +kernel) ?_ | refine awp_regionD (id := 6) 12 mixed (by decide +kernel) ?_ | refine awp_regionS (id := 7) [0, 1, 2, 3, 4, 5, 6, 7, 8, 9] [10, 11] [[], [], [], [], [], [], [], [], [.new 0], []] [[.new 0], []] mixed (by decide +kernel) ?_ | refine awp_regionS (id := 10) [0, 1, 2, 3, 4, 5, 6, 7, 8] [9, 10] [[], [], [], [], [], [], [], [.new 0], []] [[.new 0], []] mixed (by decide +kernel) ?_ | refine awp_regionD (id := 11) 10 mixed (by decide +kernel) ?_ | refine awp_regionD (id := 18) 14 mixed (by decide +kernel) ?_ | refine awp_regionS (id := 23) [0, 1, 2, 3, 4, 5, 6, 7, 8, 9, 10, 11, 12, 13, 14, 15] [16, 17] [[], [], [], [], [], [], [], [], [], [], [], [], [], [], [.new 0], []] [[.new 0], []] mixed (by decide +kernel) ?_ | refine awp_regionS (id := 26) [0, 1, 2, 3, 4, 5, 6, 7, 8] [9, 10] [[], [], [], [], [], [], [], [.new 0], []] [[.new 0], []] mixed (by decide +kernel) ?_ | refine awp_regionD (id := 27) 9 mixed (by decide +kernel) ?_ | refine awp_condM ?_ | refine And.intro ?_ ?_ | apply gQ_merge | apply gE_merge | exact EqV_w | exact EqE_w | exact EqV_ptr | exact EqE_ptr | exact EqV_msl | exact EqE_msl | exact EqV_agg | exact EqE_agg | exact EqV_fn | exact EqE_fn | exact EqV_gd | exact EqE_gd | refine gM_splitN ?_ ?_ | refine gM_split ?_ ?_ |  refine condM_splitDN ?_ ?_ | refine condM_splitD ?_ ?_ | refine condM_splitN ?_ ?_ | refine condM_split ?_ ?_ | refine condM_any ?_ ?_ | intro _) | (simp [*, hlt, hf, hy, e1, e2, e3, cOffer]))
                        all_goals first
                          | exact inI64 (by omega) (by omega)
                          | omega
                          | (refine loopK_normal _ _ _ _ _ (k + 1) _ ?_ (by first | omega | (dsimp only; omega) | (simp; omega)) ?_; (· omega); (refine le_of ?_ ?_ <;> first | trivial | (simp [*, hn2]; done)))
                          | skip
                    · have hn2 : foundK O ((i : Int), (o : Int), C) (k + 1) = false := by rw [hno (by rw [hy]; intro e; injection e with _ e; injection e with e _; exact e2 e)]; exact hf
                      clear hyes hno
                      repeat' (first | (with_reducible first | refine awp_seq ?_ | refine awp_blockS ?_ | refine awp_blockC ?_ | refine awp_blockR ?_ | refine awp_skip ?_ | refine awp_ret ?_ | refine awp_exit ?_ | refine awp_region ?_ | refine awp_regionS (id := 5) [0, 1, 2, 3, 4, 5, 6, 7, 8, 9, 10] [11, 12] [[], [], [], [], [], [], [], [], [], [.new 0], []] [[.new 0], []] mixed (by decide +kernel) ?_ | refine awp_regionD (id := 6) 12 mixed (by decide +kernel) ?_ | refine awp_regionS (id := 7) [0, 1, 2, 3, 4, 5, 6, 7, 8, 9] [10, 11] [[], [], [], [], [], [], [], [], [.new 0], []] [[.new 0], []] mixed (by decide +kernel) ?_ | refine awp_regionS (id := 10) [0, 1, 2, 3, 4, 5, 6, 7, 8] [9, 10] [[], [], [], [], [], [], [], [.new 0], []] [[.new 0], []] mixed (by decide +kernel) ?_ | refine awp_regionD (id := 11) 10 mixed (by decide +kernel) ?_ | refine awp_regionD (id := 18) 14 mixed (by decide +kernel) ?_ | refine awp_regionS (id := 23) [0, 1, 2, 3, 4, 5, 6, 7, 8, 9, 10, 11, 12, 13, 14, 15] [16, 17] [[], [], [], [], [], [], [], [], [], [], [], [], [], [], [.new 0], []] [[.new 0], []] mixed (by decide +kernel) ?_ | refine awp_regionS (id := 26) [0, 1, 2, 3, 4, 5, 6, 7, 8] [9, 10] [[], [], [], [], [], [], [], [.new 0], []] [[.new 0], []] mixed (by decide +kernel) ?_ | refine awp_regionD (id := 27) 9 mixed (by decide +kernel) ?_ | refine awp_condM ?_ | refine And.intro ?_ ?_ | apply gQ_merge | apply gE_merge | exact EqV_w | exact EqE_w | exact EqV_ptr | exact EqE_ptr | exact EqV_msl | exact EqE_msl | exact EqV_agg | exact EqE_agg | exact EqV_fn | exact EqE_fn | exact EqV_gd | exact EqE_gd | refine gM_splitN ?_ ?_ | refine gM_split ?_ ?_ |  refine condM_splitDN ?_ ?_ | refine condM_splitD ?_ ?_ | refine condM_splitN ?_ ?_ | refine condM_split ?_ ?_ | refine condM_any ?_ ?_ | intro _) | (simp [*, hlt, hf, hy, e1, e2, cOffer]))
                      all_goals first
                        | exact inI64 (by omega) (by omega)
                        | omega
                        | (refine loopK_normal _ _ _ _ _ (k + 1) _ ?_ (by first | omega | (dsimp only; omega) | (simp; omega)) ?_; (· omega); (refine le_of ?_ ?_ <;> first | trivial | (simp [*, hn2]; done)))
                        | skip
                  · have hn2 : foundK O ((i : Int), (o : Int), C) (k + 1) = false := by rw [hno (by rw [hy]; intro e; injection e with e _; exact e1 e)]; exact hf
                    clear hyes hno
                    repeat' (first | (with_reducible first | refine awp_seq ?_ | refine awp_blockS ?_ | refine awp_blockC ?_ | refine awp_blockR ?_ | refine awp_skip ?_ | refine awp_ret ?_ | refine awp_exit ?_ | refine awp_region ?_ | refine awp_regionS (id := 5) [0, 1, 2, 3, 4, 5, 6, 7, 8, 9, 10] [11, 12] [[], [], [], [], [], [], [], [], [], [.new 0], []] [[.new 0], []] mixed (by decide +kernel) ?_ | refine awp_regionD (id := 6) 12 mixed (by decide +kernel) ?_ | refine awp_regionS (id := 7) [0, 1, 2, 3, 4, 5, 6, 7, 8, 9] [10, 11] [[], [], [], [], [], [], [], [], [.new 0], []] [[.new 0], []] mixed (by decide +kernel) ?_ | refine awp_regionS (id := 10) [0, 1, 2, 3, 4, 5, 6, 7, 8] [9, 10] [[], [], [], [], [], [], [], [.new 0], []] [[.new 0], []] mixed (by decide +kernel) ?_ | refine awp_regionD (id := 11) 10 mixed (by decide +kernel) ?_ | refine awp_regionD (id := 18) 14 mixed (by decide +kernel) ?_ | refine awp_regionS (id := 23) [0, 1, 2, 3, 4, 5, 6, 7, 8, 9, 10, 11, 12, 13, 14, 15] [16, 17] [[], [], [], [], [], [], [], [], [], [], [], [], [], [], [.new 0], []] [[.new 0], []] mixed (by decide +kernel) ?_ | refine awp_regionS (id := 26) [0, 1, 2, 3, 4, 5, 6, 7, 8] [9, 10] [[], [], [], [], [], [], [], [.new 0], []] [[.new 0], []] mixed (by decide +kernel) ?_ | refine awp_regionD (id := 27) 9 mixed (by decide +kernel) ?_ | refine awp_condM ?_ | refine And.intro ?_ ?_ | apply gQ_merge | apply gE_merge | exact EqV_w | exact EqE_w | exact EqV_ptr | exact EqE_ptr | exact EqV_msl | exact EqE_msl | exact EqV_agg | exact EqE_agg | exact EqV_fn | exact EqE_fn | exact EqV_gd | exact EqE_gd | refine gM_splitN ?_ ?_ | refine gM_split ?_ ?_ |  refine condM_splitDN ?_ ?_ | refine condM_splitD ?_ ?_ | refine condM_splitN ?_ ?_ | refine condM_split ?_ ?_ | refine condM_any ?_ ?_ | intro _) | (simp [*, hlt, hf, hy, e1, cOffer]))
                    all_goals first
                      | exact inI64 (by omega) (by omega)
                      | omega
                      | (refine loopK_normal _ _ _ _ _ (k + 1) _ ?_ (by first | omega | (dsimp only; omega) | (simp; omega)) ?_; (· omega); (refine le_of ?_ ?_ <;> first | trivial | (simp [*, hn2]; done)))
                      | skip
              · have hke : k = O.length := by omega
                subst hke
                have hfe2 := (show foundK O _ O.length = K from kfe)
                repeat' (first | (with_reducible first | refine awp_seq ?_ | refine awp_blockS ?_ | refine awp_blockC ?_ | refine awp_blockR ?_ | refine awp_skip ?_ | refine awp_ret ?_ | refine awp_exit ?_ | refine awp_region ?_ | refine awp_regionS (id := 5) [0, 1, 2, 3, 4, 5, 6, 7, 8, 9, 10] [11, 12] [[], [], [], [], [], [], [], [], [], [.new 0], []] [[.new 0], []] mixed (by decide +kernel) ?_ | refine awp_regionD (id := 6) 12 mixed (by decide +kernel) ?_ | refine awp_regionS (id := 7) [0, 1, 2, 3, 4, 5, 6, 7, 8, 9] [10, 11] [[], [], [], [], [], [], [], [], [.new 0], []] [[.new 0], []] mixed (by decide +kernel) ?_ | refine awp_regionS (id := 10) [0, 1, 2, 3, 4, 5, 6, 7, 8] [9, 10] [[], [], [], [], [], [], [], [.new 0], []] [[.new 0], []] mixed (by decide +kernel) ?_ | refine awp_regionD (id := 11) 10 mixed (by decide +kernel) ?_ | refine awp_regionD (id := 18) 14 mixed (by decide +kernel) ?_ | refine awp_regionS (id := 23) [0, 1, 2, 3, 4, 5, 6, 7, 8, 9, 10, 11, 12, 13, 14, 15] [16, 17] [[], [], [], [], [], [], [], [], [], [], [], [], [], [], [.new 0], []] [[.new 0], []] mixed (by decide +kernel) ?_ | refine awp_regionS (id := 26) [0, 1, 2, 3, 4, 5, 6, 7, 8] [9, 10] [[], [], [], [], [], [], [], [.new 0], []] [[.new 0], []] mixed (by decide +kernel) ?_ | refine awp_regionD (id := 27) 9 mixed (by decide +kernel) ?_ | refine awp_condM ?_ | refine And.intro ?_ ?_ | apply gQ_merge | apply gE_merge | exact EqV_w | exact EqE_w | exact EqV_ptr | exact EqE_ptr | exact EqV_msl | exact EqE_msl | exact EqV_agg | exact EqE_agg | exact EqV_fn | exact EqE_fn | exact EqV_gd | exact EqE_gd | refine gM_splitN ?_ ?_ | refine gM_split ?_ ?_ |  refine condM_splitDN ?_ ?_ | refine condM_splitD ?_ ?_ | refine condM_splitN ?_ ?_ | refine condM_split ?_ ?_ | refine condM_any ?_ ?_ | intro _) | (simp [*]))
                all_goals (refine finW_intro () ?_ ?_; (· trivial); (refine le_of ?_ ?_ <;> first | trivial | (simp [*, hfe2]; done)))
            · cases K with
              | true =>
                have hle2 : ¬ C < C2 := by have := (show true = true → C2 ≤ C from kle) rfl; omega
                clear kle kfe
                repeat' (first | (with_reducible first | refine awp_seq ?_ | refine awp_blockS ?_ | refine awp_blockC ?_ | refine awp_blockR ?_ | refine awp_skip ?_ | refine awp_ret ?_ | refine awp_exit ?_ | refine awp_region ?_ | refine awp_regionS (id := 5) [0, 1, 2, 3, 4, 5, 6, 7, 8, 9, 10] [11, 12] [[], [], [], [], [], [], [], [], [], [.new 0], []] [[.new 0], []] mixed (by decide +kernel) ?_ | refine awp_regionD (id := 6) 12 mixed (by decide +kernel) ?_ | refine awp_regionS (id := 7) [0, 1, 2, 3, 4, 5, 6, 7, 8, 9] [10, 11] [[], [], [], [], [], [], [], [], [.new 0], []] [[.new 0], []] mixed (by decide +kernel) ?_ | refine awp_regionS (id := 10) [0, 1, 2, 3, 4, 5, 6, 7, 8] [9, 10] [[], [], [], [], [], [], [], [.new 0], []] [[.new 0], []] mixed (by decide +kernel) ?_ | refine awp_regionD (id := 11) 10 mixed (by decide +kernel) ?_ | refine awp_regionD (id := 18) 14 mixed (by decide +kernel) ?_ | refine awp_regionS (id := 23) [0, 1, 2, 3, 4, 5, 6, 7, 8, 9, 10, 11, 12, 13, 14, 15] [16, 17] [[], [], [], [], [], [], [], [], [], [], [], [], [], [], [.new 0], []] [[.new 0], []] mixed (by decide +kernel) ?_ | refine awp_regionS (id := 26) [0, 1, 2, 3, 4, 5, 6, 7, 8] [9, 10] [[], [], [], [], [], [], [], [.new 0], []] [[.new 0], []] mixed (by decide +kernel) ?_ | refine awp_regionD (id := 27) 9 mixed (by decide +kernel) ?_ | refine awp_condM ?_ | refine And.intro ?_ ?_ | apply gQ_merge | apply gE_merge | exact EqV_w | exact EqE_w | exact EqV_ptr | exact EqE_ptr | exact EqV_msl | exact EqE_msl | exact EqV_agg | exact EqE_agg | exact EqV_fn | exact EqE_fn | exact EqV_gd | exact EqE_gd | refine gM_splitN ?_ ?_ | refine gM_split ?_ ?_ |  refine condM_splitDN ?_ ?_ | refine condM_splitD ?_ ?_ | refine condM_splitN ?_ ?_ | refine condM_split ?_ ?_ | refine condM_any ?_ ?_ | refine cw (c2) ?_ | refine cw (c3) ?_ | refine cw (k1) ?_ | refine cw (k2) ?_ | refine cw (k3) ?_ | refine cw (k4) ?_ | refine cw (k5) ?_ | intro _) | (simp [*, hle2, errUnless]) | (refine cw_eq (c2) ?_ ?_; (· (simp [*]; done))) | (refine cw_eq (c3) ?_ ?_; (· (simp [*]; done))) | (refine cw_eq (k1) ?_ ?_; (· (simp [*]; done))) | (refine cw_eq (k2) ?_ ?_; (· (simp [*]; done))) | (refine cw_eq (k3) ?_ ?_; (· (simp [*]; done))) | (refine cw_eq (k4) ?_ ?_; (· (simp [*]; done))) | (refine cw_eq (k5) ?_ ?_; (· (simp [*]; done))))
              | false =>
                clear kle kfe
                repeat' (first | (with_reducible first | refine awp_seq ?_ | refine awp_blockS ?_ | refine awp_blockC ?_ | refine awp_blockR ?_ | refine awp_skip ?_ | refine awp_ret ?_ | refine awp_exit ?_ | refine awp_region ?_ | refine awp_regionS (id := 5) [0, 1, 2, 3, 4, 5, 6, 7, 8, 9, 10] [11, 12] [[], [], [], [], [], [], [], [], [], [.new 0], []] [[.new 0], []] mixed (by decide +kernel) ?_ | refine awp_regionD (id := 6) 12 mixed (by decide +kernel) ?_ | refine awp_regionS (id := 7) [0, 1, 2, 3, 4, 5, 6, 7, 8, 9] [10, 11] [[], [], [], [], [], [], [], [], [.new 0], []] [[.new 0], []] mixed (by decide +kernel) ?_ | refine awp_regionS (id := 10) [0, 1, 2, 3, 4, 5, 6, 7, 8] [9, 10] [[], [], [], [], [], [], [], [.new 0], []] [[.new 0], []] mixed (by decide +kernel) ?_ | refine awp_regionD (id := 11) 10 mixed (by decide +kernel) ?_ | refine awp_regionD (id := 18) 14 mixed (by decide +kernel) ?_ | refine awp_regionS (id := 23) [0, 1, 2, 3, 4, 5, 6, 7, 8, 9, 10, 11, 12, 13, 14, 15] [16, 17] [[], [], [], [], [], [], [], [], [], [], [], [], [], [], [.new 0], []] [[.new 0], []] mixed (by decide +kernel) ?_ | refine awp_regionS (id := 26) [0, 1, 2, 3, 4, 5, 6, 7, 8] [9, 10] [[], [], [], [], [], [], [], [.new 0], []] [[.new 0], []] mixed (by decide +kernel) ?_ | refine awp_regionD (id := 27) 9 mixed (by decide +kernel) ?_ | refine awp_condM ?_ | refine And.intro ?_ ?_ | apply gQ_merge | apply gE_merge | exact EqV_w | exact EqE_w | exact EqV_ptr | exact EqE_ptr | exact EqV_msl | exact EqE_msl | exact EqV_agg | exact EqE_agg | exact EqV_fn | exact EqE_fn | exact EqV_gd | exact EqE_gd | refine gM_splitN ?_ ?_ | refine gM_split ?_ ?_ |  refine condM_splitDN ?_ ?_ | refine condM_splitD ?_ ?_ | refine condM_splitN ?_ ?_ | refine condM_split ?_ ?_ | refine condM_any ?_ ?_ | refine cw (c2) ?_ | refine cw (c3) ?_ | refine cw (k1) ?_ | refine cw (k2) ?_ | refine cw (k3) ?_ | refine cw (k4) ?_ | refine cw (k5) ?_ | intro _) | (simp [*, errUnless]) | (refine cw_eq (c2) ?_ ?_; (· (simp [*]; done))) | (refine cw_eq (c3) ?_ ?_; (· (simp [*]; done))) | (refine cw_eq (k1) ?_ ?_; (· (simp [*]; done))) | (refine cw_eq (k2) ?_ ?_; (· (simp [*]; done))) | (refine cw_eq (k3) ?_ ?_; (· (simp [*]; done))) | (refine cw_eq (k4) ?_ ?_; (· (simp [*]; done))) | (refine cw_eq (k5) ?_ ?_; (· (simp [*]; done))))
        · clear hm hp hs h h1 hs16
          generalize insE p x = E at *
          unfold aMap aPlan cPlan cInsert cRider at *
          refine realcall_intro Try.func11 (by kernel_rfl) rfl (Nat.le_of_ble_eq_true (by kernel_rfl)) ?_
          simp only [Try.results11, Try.ntmps11]
          repeat' (first | (with_reducible first | refine awp_seq ?_ | refine awp_blockS ?_ | refine awp_blockC ?_ | refine awp_blockR ?_ | refine awp_skip ?_ | refine awp_ret ?_ | refine awp_exit ?_ | refine awp_region ?_ | refine awp_regionS (id := 5) [0, 1, 2, 3, 4, 5, 6, 7, 8, 9, 10] [11, 12] [[], [], [], [], [], [], [], [], [], [.new 0], []] [[.new 0], []] mixed (by decide +kernel) ?_ | refine awp_regionD (id := 6) 12 mixed (by decide +kernel) ?_ | refine awp_regionS (id := 7) [0, 1, 2, 3, 4, 5, 6, 7, 8, 9] [10, 11] [[], [], [], [], [], [], [], [], [.new 0], []] [[.new 0], []] mixed (by decide +kernel) ?_ | refine awp_regionS (id := 10) [0, 1, 2, 3, 4, 5, 6, 7, 8] [9, 10] [[], [], [], [], [], [], [], [.new 0], []] [[.new 0], []] mixed (by decide +kernel) ?_ | refine awp_regionD (id := 11) 10 mixed (by decide +kernel) ?_ | refine awp_regionD (id := 18) 14 mixed (by decide +kernel) ?_ | refine awp_regionS (id := 23) [0, 1, 2, 3, 4, 5, 6, 7, 8, 9, 10, 11, 12, 13, 14, 15] [16, 17] [[], [], [], [], [], [], [], [], [], [], [], [], [], [], [.new 0], []] [[.new 0], []] mixed (by decide +kernel) ?_ | refine awp_regionS (id := 26) [0, 1, 2, 3, 4, 5, 6, 7, 8] [9, 10] [[], [], [], [], [], [], [], [.new 0], []] [[.new 0], []] mixed (by decide +kernel) ?_ | refine awp_regionD (id := 27) 9 mixed (by decide +kernel) ?_ | refine awp_condM ?_ | refine And.intro ?_ ?_ | apply gQ_merge | apply gE_merge | exact EqV_w | exact EqE_w | exact EqV_ptr | exact EqE_ptr | exact EqV_msl | exact EqE_msl | exact EqV_agg | exact EqE_agg | exact EqV_fn | exact EqE_fn | exact EqV_gd | exact EqE_gd | refine gM_splitN ?_ ?_ | refine gM_split ?_ ?_ |  refine condM_splitDN ?_ ?_ | refine condM_splitD ?_ ?_ | refine condM_splitN ?_ ?_ | refine condM_split ?_ ?_ | refine condM_any ?_ ?_ | refine cw (c0) ?_ | refine cw (c1) ?_ | refine cw (c4) ?_ | refine cw (c5) ?_ | refine cw (c6) ?_ | intro _) | (simp [*, hname, hi]) | (refine cw_eq (c0) ?_ ?_; (· (simp [*]; done))) | (refine cw_eq (c1) ?_ ?_; (· (simp [*]; done))) | (refine cw_eq (c4) ?_ ?_; (· (simp [*]; done))) | (refine cw_eq (c5) ?_ ?_; (· (simp [*]; done))) | (refine cw_eq (c6) ?_ ?_; (· (simp [*]; done))))
      · clear hm hp hs h h1 hs16
        generalize newE m p x.r = E at *
        unfold aMap aPlan cPlan cInsert cRider at *
        refine realcall_intro Try.func11 (by kernel_rfl) rfl (Nat.le_of_ble_eq_true (by kernel_rfl)) ?_
        simp only [Try.results11, Try.ntmps11]
        repeat' (first | (with_reducible first | refine awp_seq ?_ | refine awp_blockS ?_ | refine awp_blockC ?_ | refine awp_blockR ?_ | refine awp_skip ?_ | refine awp_ret ?_ | refine awp_exit ?_ | refine awp_region ?_ | refine awp_regionS (id := 5) [0, 1, 2, 3, 4, 5, 6, 7, 8, 9, 10] [11, 12] [[], [], [], [], [], [], [], [], [], [.new 0], []] [[.new 0], []] mixed (by decide +kernel) ?_ | refine awp_regionD (id := 6) 12 mixed (by decide +kernel) ?_ | refine awp_regionS (id := 7) [0, 1, 2, 3, 4, 5, 6, 7, 8, 9] [10, 11] [[], [], [], [], [], [], [], [], [.new 0], []] [[.new 0], []] mixed (by decide +kernel) ?_ | refine awp_regionS (id := 10) [0, 1, 2, 3, 4, 5, 6, 7, 8] [9, 10] [[], [], [], [], [], [], [], [.new 0], []] [[.new 0], []] mixed (by decide +kernel) ?_ | refine awp_regionD (id := 11) 10 mixed (by decide +kernel) ?_ | refine awp_regionD (id := 18) 14 mixed (by decide +kernel) ?_ | refine awp_regionS (id := 23) [0, 1, 2, 3, 4, 5, 6, 7, 8, 9, 10, 11, 12, 13, 14, 15] [16, 17] [[], [], [], [], [], [], [], [], [], [], [], [], [], [], [.new 0], []] [[.new 0], []] mixed (by decide +kernel) ?_ | refine awp_regionS (id := 26) [0, 1, 2, 3, 4, 5, 6, 7, 8] [9, 10] [[], [], [], [], [], [], [], [.new 0], []] [[.new 0], []] mixed (by decide +kernel) ?_ | refine awp_regionD (id := 27) 9 mixed (by decide +kernel) ?_ | refine awp_condM ?_ | refine And.intro ?_ ?_ | apply gQ_merge | apply gE_merge | exact EqV_w | exact EqE_w | exact EqV_ptr | exact EqE_ptr | exact EqV_msl | exact EqE_msl | exact EqV_agg | exact EqE_agg | exact EqV_fn | exact EqE_fn | exact EqV_gd | exact EqE_gd | refine gM_splitN ?_ ?_ | refine gM_split ?_ ?_ |  refine condM_splitDN ?_ ?_ | refine condM_splitD ?_ ?_ | refine condM_splitN ?_ ?_ | refine condM_split ?_ ?_ | refine condM_any ?_ ?_ | refine cw (c0) ?_ | refine cw (c1) ?_ | refine cw (c4) ?_ | refine cw (c5) ?_ | intro _) | (simp [*, hname, hn]) | (refine cw_eq (c0) ?_ ?_; (· (simp [*]; done))) | (refine cw_eq (c1) ?_ ?_; (· (simp [*]; done))) | (refine cw_eq (c4) ?_ ?_; (· (simp [*]; done))) | (refine cw_eq (c5) ?_ ?_; (· (simp [*]; done))))
    · generalize (checkS m p).2 = e at *
      have h : ¬ e = 0 := h
      clear hm hp hs
      unfold aMap aPlan cPlan cInsert at *
      refine realcall_intro Try.func11 (by kernel_rfl) rfl (Nat.le_of_ble_eq_true (by kernel_rfl)) ?_
      simp only [Try.results11, Try.ntmps11]
      repeat' (first | (with_reducible first | refine awp_seq ?_ | refine awp_blockS ?_ | refine awp_blockC ?_ | refine awp_blockR ?_ | refine awp_skip ?_ | refine awp_ret ?_ | refine awp_exit ?_ | refine awp_region ?_ | refine awp_regionS (id := 5) [0, 1, 2, 3, 4, 5, 6, 7, 8, 9, 10] [11, 12] [[], [], [], [], [], [], [], [], [], [.new 0], []] [[.new 0], []] mixed (by decide +kernel) ?_ | refine awp_regionD (id := 6) 12 mixed (by decide +kernel) ?_ | refine awp_regionS (id := 7) [0, 1, 2, 3, 4, 5, 6, 7, 8, 9] [10, 11] [[], [], [], [], [], [], [], [], [.new 0], []] [[.new 0], []] mixed (by decide +kernel) ?_ | refine awp_regionS (id := 10) [0, 1, 2, 3, 4, 5, 6, 7, 8] [9, 10] [[], [], [], [], [], [], [], [.new 0], []] [[.new 0], []] mixed (by decide +kernel) ?_ | refine awp_regionD (id := 11) 10 mixed (by decide +kernel) ?_ | refine awp_regionD (id := 18) 14 mixed (by decide +kernel) ?_ | refine awp_regionS (id := 23) [0, 1, 2, 3, 4, 5, 6, 7, 8, 9, 10, 11, 12, 13, 14, 15] [16, 17] [[], [], [], [], [], [], [], [], [], [], [], [], [], [], [.new 0], []] [[.new 0], []] mixed (by decide +kernel) ?_ | refine awp_regionS (id := 26) [0, 1, 2, 3, 4, 5, 6, 7, 8] [9, 10] [[], [], [], [], [], [], [], [.new 0], []] [[.new 0], []] mixed (by decide +kernel) ?_ | refine awp_regionD (id := 27) 9 mixed (by decide +kernel) ?_ | refine awp_condM ?_ | refine And.intro ?_ ?_ | apply gQ_merge | apply gE_merge | exact EqV_w | exact EqE_w | exact EqV_ptr | exact EqE_ptr | exact EqV_msl | exact EqE_msl | exact EqV_agg | exact EqE_agg | exact EqV_fn | exact EqE_fn | exact EqV_gd | exact EqE_gd | refine gM_splitN ?_ ?_ | refine gM_split ?_ ?_ |  refine condM_splitDN ?_ ?_ | refine condM_splitD ?_ ?_ | refine condM_splitN ?_ ?_ | refine condM_split ?_ ?_ | refine condM_any ?_ ?_ | refine cw (c0) ?_ | refine cw (c1) ?_ | refine cw (c4) ?_ | intro _) | (simp [*, hname, h]) | (refine cw_eq (c0) ?_ ?_; (· (simp [*]; done))) | (refine cw_eq (c1) ?_ ?_; (· (simp [*]; done))) | (refine cw_eq (c4) ?_ ?_; (· (simp [*]; done))))
end Go.Proofs.Ytceimmohnniebaa
