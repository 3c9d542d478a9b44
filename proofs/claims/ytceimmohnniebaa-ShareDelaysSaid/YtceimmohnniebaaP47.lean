/- Contracts of functions for this claim: lemmas alone. -/
import Derived.Test.YtceimmohnniebaaP38
import Derived.Test.YtceimmohnniebaaP26
set_option linter.unusedSimpArgs false
set_option linter.unusedVariables false
namespace Go.Proofs.Ytceimmohnniebaa
open Go Go.Fi
set_option maxRecDepth 20000

set_option maxHeartbeats 8000000 in
theorem rGreat_c (m : Grid) (p : Plan) (po : PlanOk m p) (ok : TourOk m p) (s : Int) : RealCall Try.prog 31 [aMap m, aPlan p, .int .i64 s] (pairI (greatS m p s)) true := by
  have c0 := rWithin_c s 0 ((p.stops.length : Int) - 1)
  have c1 := rKeeps_c m p ok
  have hsl := ok.go.sl
  unfold pairI greatS greatE
  cases hw : winB s 0 ((p.stops.length : Int) - 1) with
  | false =>
    rw [hw] at c0
    clear po ok hw
    unfold aMap aPlan cPlan at *
    refine realcall_intro Try.func31 (by kernel_rfl) rfl (Nat.le_of_ble_eq_true (by kernel_rfl)) ?_
    simp only [Try.results31, Try.ntmps31]
    repeat' (first | (with_reducible first | refine awp_seq ?_ | refine awp_blockS ?_ | refine awp_blockC ?_ | refine awp_blockR ?_ | refine awp_skip ?_ | refine awp_ret ?_ | refine awp_exit ?_ | refine awp_region ?_ | refine awp_regionS (id := 8) [0, 1, 2, 3, 4, 5, 6, 7, 8, 9, 10, 11, 12] [13, 14] [[], [], [], [], [], [], [], [], [], [], [], [.new 0], []] [[.new 0], []] mixed (by decide +kernel) ?_ | refine awp_condM ?_ | refine And.intro ?_ ?_ | apply gQ_merge | apply gE_merge | exact EqV_w | exact EqE_w | exact EqV_ptr | exact EqE_ptr | exact EqV_msl | exact EqE_msl | exact EqV_agg | exact EqE_agg | exact EqV_fn | exact EqE_fn | exact EqV_gd | exact EqE_gd | refine gM_splitN ?_ ?_ | refine gM_split ?_ ?_ |  refine condM_splitDN ?_ ?_ | refine condM_splitD ?_ ?_ | refine condM_splitN ?_ ?_ | refine condM_split ?_ ?_ | refine condM_any ?_ ?_ | refine cw (c0) ?_ | refine cw (c1) ?_ | intro _) | (simp [*, firstS, errUnless]) | (refine cw_eq (c0) ?_ ?_; (· (simp [*]; done))) | (refine cw_eq (c1) ?_ ?_; (· (simp [*]; done))))
    all_goals exact inI64 (by omega) (by omega)
  | true =>
    rw [hw] at c0
    cases hk : keepsS m p with
    | false =>
      rw [hk] at c1
      clear po ok hw hk
      unfold aMap aPlan cPlan at *
      refine realcall_intro Try.func31 (by kernel_rfl) rfl (Nat.le_of_ble_eq_true (by kernel_rfl)) ?_
      simp only [Try.results31, Try.ntmps31]
      repeat' (first | (with_reducible first | refine awp_seq ?_ | refine awp_blockS ?_ | refine awp_blockC ?_ | refine awp_blockR ?_ | refine awp_skip ?_ | refine awp_ret ?_ | refine awp_exit ?_ | refine awp_region ?_ | refine awp_regionS (id := 8) [0, 1, 2, 3, 4, 5, 6, 7, 8, 9, 10, 11, 12] [13, 14] [[], [], [], [], [], [], [], [], [], [], [], [.new 0], []] [[.new 0], []] mixed (by decide +kernel) ?_ | refine awp_condM ?_ | refine And.intro ?_ ?_ | apply gQ_merge | apply gE_merge | exact EqV_w | exact EqE_w | exact EqV_ptr | exact EqE_ptr | exact EqV_msl | exact EqE_msl | exact EqV_agg | exact EqE_agg | exact EqV_fn | exact EqE_fn | exact EqV_gd | exact EqE_gd | refine gM_splitN ?_ ?_ | refine gM_split ?_ ?_ |  refine condM_splitDN ?_ ?_ | refine condM_splitD ?_ ?_ | refine condM_splitN ?_ ?_ | refine condM_split ?_ ?_ | refine condM_any ?_ ?_ | refine cw (c0) ?_ | refine cw (c1) ?_ | intro _) | (simp [*, firstS, errUnless]) | (refine cw_eq (c0) ?_ ?_; (· (simp [*]; done))) | (refine cw_eq (c1) ?_ ?_; (· (simp [*]; done))))
      all_goals exact inI64 (by omega) (by omega)
    | true =>
      rw [hk] at c1
      have h0 : keepsD m p s 0 = true := by rw [keepsD_zero]; exact hk
      have hN := gdN_le m p s
      have hG : Keep (∀ c : Nat, c ≤ 20000 → ((brokenS m p (timesS m p ⟨s, (c : Int)⟩) (seatsS p)).2 = true → gdN m p s < c) ∧ ((brokenS m p (timesS m p ⟨s, (c : Int)⟩) (seatsS p)).2 = false → c ≤ gdN m p s)) := by
        intro c hc
        constructor
        · intro hb
          rcases Nat.lt_or_ge (gdN m p s) c with h | h
          · exact h
          · have := gdN_keeps h0 h
            unfold keepsD at this
            rw [hb] at this; cases this
        · intro hb
          rcases Nat.lt_or_ge (gdN m p s) c with h | h
          · have := gdN_over po h0 h hc
            unfold keepsD at this
            rw [hb] at this; cases this
          · exact h
      have cB : Keep (∀ c : Nat, c ≤ 20000 → RealCall Try.prog 33 [aMap m, aPlan p, .agg [.int .i64 s, .int .i64 c]] (.sl p.stops.length (ints (timesS m p ⟨s, (c : Int)⟩))) true ∧ RealCall Try.prog 90 [aMap m, aPlan p, .sl p.stops.length (ints (timesS m p ⟨s, (c : Int)⟩))] (brokP (brokenS m p (timesS m p ⟨s, (c : Int)⟩) (seatsS p))) true) := by
        intro c hc
        have hd : 0 ≤ (⟨s, (c : Int)⟩ : Delay).by_ ∧ (⟨s, (c : Int)⟩ : Delay).by_ ≤ 30000 := ⟨by show (0 : Int) ≤ (c : Int); omega, by show (c : Int) ≤ 30000; omega⟩
        have e1 := timesWith_c m p ok.go ⟨s, (c : Int)⟩ hd
        have e2 := rBrokenBy_c m p ok (timesS m p ⟨s, (c : Int)⟩) (timesS_len _ _ _) (ok.go.times hd)
        rw [timesS_len] at e1 e2
        exact ⟨e1, e2⟩
      clear po ok hw hk h0
      generalize gdN m p s = G at *
      unfold aMap aPlan cPlan brokP at *
      refine realcall_intro Try.func31 (by kernel_rfl) rfl (Nat.le_of_ble_eq_true (by kernel_rfl)) ?_
      simp only [Try.results31, Try.ntmps31]
      repeat' (first | (with_reducible first | refine awp_seq ?_ | refine awp_blockS ?_ | refine awp_blockC ?_ | refine awp_blockR ?_ | refine awp_skip ?_ | refine awp_ret ?_ | refine awp_exit ?_ | refine awp_region ?_ | refine awp_regionS (id := 8) [0, 1, 2, 3, 4, 5, 6, 7, 8, 9, 10, 11, 12] [13, 14] [[], [], [], [], [], [], [], [], [], [], [], [.new 0], []] [[.new 0], []] mixed (by decide +kernel) ?_ | refine awp_condM ?_ | refine And.intro ?_ ?_ | apply gQ_merge | apply gE_merge | exact EqV_w | exact EqE_w | exact EqV_ptr | exact EqE_ptr | exact EqV_msl | exact EqE_msl | exact EqV_agg | exact EqE_agg | exact EqV_fn | exact EqE_fn | exact EqV_gd | exact EqE_gd | refine gM_splitN ?_ ?_ | refine gM_split ?_ ?_ |  refine condM_splitDN ?_ ?_ | refine condM_splitD ?_ ?_ | refine condM_splitN ?_ ?_ | refine condM_split ?_ ?_ | refine condM_any ?_ ?_ | refine cw (c0) ?_ | refine cw (c1) ?_ | intro _) | (simp [*, firstS, errUnless]) | (refine cw_eq (c0) ?_ ?_; (· (simp [*]; done))) | (refine cw_eq (c1) ?_ ?_; (· (simp [*]; done))))
      · exact inI64 (by omega) (by omega)
      refine awp_for3 (fun (x : Nat × Nat) => x.1 ≤ G ∧ G ≤ x.2 ∧ x.2 ≤ 20000) [2, 3, 4] (fun (x : Nat × Nat) => [(8, .w false false (.int .i64 x.1)), (9, .w false false (.int .i64 x.2))]) [0, 1] (fun (x : Nat × Nat) => []) (fun (x : Nat × Nat) => x.2 - x.1) (fun (_u : Unit) => True) [] (fun (_u : Unit) => [(8, .w false false (.int .i64 G))]) [0, 1] (fun (_u : Unit) => []) (((0 : Nat), (20000 : Nat))) ⟨Nat.zero_le _, hN, Nat.le_refl _⟩ (by simp) (by simp) (fun x hk => ?_) (fun _u hf => ?_)
      · obtain ⟨i, j⟩ := x
        obtain ⟨h1, h2, h3⟩ := hk
        have h1 : i ≤ G := h1
        have h2 : G ≤ j := h2
        have h3 : j ≤ 20000 := h3
        by_cases hlt : i < j
        · obtain ⟨c, hc⟩ : ∃ c, c = (i + j + 1) / 2 := ⟨_, rfl⟩
          have hc2 : ((i : Int) + (j : Int) + 1).tdiv 2 = (c : Int) := by rw [Int.tdiv_eq_ediv_of_nonneg (by omega)]; omega
          have hcj : c ≤ j := by omega
          have hic : i < c := by omega
          have hGc := (show ∀ c : Nat, c ≤ 20000 → _ from hG) c (by omega)
          obtain ⟨c2, c3⟩ := (show ∀ c : Nat, c ≤ 20000 → RealCall _ _ _ _ _ ∧ RealCall _ _ _ _ _ from cB) c (by omega)
          clear hc hG cB
          generalize timesS m p ⟨s, (c : Int)⟩ = L at *
          generalize brokenS m p L (seatsS p) = B at *
          obtain ⟨⟨b1, b2⟩, b⟩ := B
          have hcc : ((c - 1 : Nat) : Int) = (c : Int) - 1 := by omega
          cases b with
          | true =>
            have hx : G < c := hGc.1 rfl
            clear hGc
            repeat' (first | (with_reducible first | refine awp_seq ?_ | refine awp_blockS ?_ | refine awp_blockC ?_ | refine awp_blockR ?_ | refine awp_skip ?_ | refine awp_ret ?_ | refine awp_exit ?_ | refine awp_region ?_ | refine awp_regionS (id := 8) [0, 1, 2, 3, 4, 5, 6, 7, 8, 9, 10, 11, 12] [13, 14] [[], [], [], [], [], [], [], [], [], [], [], [.new 0], []] [[.new 0], []] mixed (by decide +kernel) ?_ | refine awp_condM ?_ | refine And.intro ?_ ?_ | apply gQ_merge | apply gE_merge | exact EqV_w | exact EqE_w | exact EqV_ptr | exact EqE_ptr | exact EqV_msl | exact EqE_msl | exact EqV_agg | exact EqE_agg | exact EqV_fn | exact EqE_fn | exact EqV_gd | exact EqE_gd | refine gM_splitN ?_ ?_ | refine gM_split ?_ ?_ |  refine condM_splitDN ?_ ?_ | refine condM_splitD ?_ ?_ | refine condM_splitN ?_ ?_ | refine condM_split ?_ ?_ | refine condM_any ?_ ?_ | refine cw (c2) ?_ | refine cw (c3) ?_ | intro _) | (simp [*, hlt, hc2]) | (refine cw_eq (c2) ?_ ?_; (· (simp [*]; done))) | (refine cw_eq (c3) ?_ ?_; (· (simp [*]; done))))
            all_goals first
              | exact inI64 (by omega) (by omega)
              | omega
              | (refine loopK_normal _ _ _ _ _ (i, c - 1) _ ?_ (by first | omega | (dsimp only; omega) | (simp; omega)) ?_; (· exact ⟨h1, by dsimp only; omega, by dsimp only; omega⟩); (refine le_of ?_ ?_ <;> first | trivial | (simp [*, hcc]; done)))
              | skip
          | false =>
            have hx : c ≤ G := hGc.2 rfl
            clear hGc
            repeat' (first | (with_reducible first | refine awp_seq ?_ | refine awp_blockS ?_ | refine awp_blockC ?_ | refine awp_blockR ?_ | refine awp_skip ?_ | refine awp_ret ?_ | refine awp_exit ?_ | refine awp_region ?_ | refine awp_regionS (id := 8) [0, 1, 2, 3, 4, 5, 6, 7, 8, 9, 10, 11, 12] [13, 14] [[], [], [], [], [], [], [], [], [], [], [], [.new 0], []] [[.new 0], []] mixed (by decide +kernel) ?_ | refine awp_condM ?_ | refine And.intro ?_ ?_ | apply gQ_merge | apply gE_merge | exact EqV_w | exact EqE_w | exact EqV_ptr | exact EqE_ptr | exact EqV_msl | exact EqE_msl | exact EqV_agg | exact EqE_agg | exact EqV_fn | exact EqE_fn | exact EqV_gd | exact EqE_gd | refine gM_splitN ?_ ?_ | refine gM_split ?_ ?_ |  refine condM_splitDN ?_ ?_ | refine condM_splitD ?_ ?_ | refine condM_splitN ?_ ?_ | refine condM_split ?_ ?_ | refine condM_any ?_ ?_ | refine cw (c2) ?_ | refine cw (c3) ?_ | intro _) | (simp [*, hlt, hc2]) | (refine cw_eq (c2) ?_ ?_; (· (simp [*]; done))) | (refine cw_eq (c3) ?_ ?_; (· (simp [*]; done))))
            all_goals first
              | exact inI64 (by omega) (by omega)
              | omega
              | (refine loopK_normal _ _ _ _ _ (c, j) _ ?_ (by first | omega | (dsimp only; omega) | (simp; omega)) ?_; (· exact ⟨hx, h2, h3⟩); (refine le_of ?_ ?_ <;> first | trivial | (simp [*]; done)))
              | skip
        · have e : i = G := by omega
          subst e
          repeat' (first | (with_reducible first | refine awp_seq ?_ | refine awp_blockS ?_ | refine awp_blockC ?_ | refine awp_blockR ?_ | refine awp_skip ?_ | refine awp_ret ?_ | refine awp_exit ?_ | refine awp_region ?_ | refine awp_regionS (id := 8) [0, 1, 2, 3, 4, 5, 6, 7, 8, 9, 10, 11, 12] [13, 14] [[], [], [], [], [], [], [], [], [], [], [], [.new 0], []] [[.new 0], []] mixed (by decide +kernel) ?_ | refine awp_condM ?_ | refine And.intro ?_ ?_ | apply gQ_merge | apply gE_merge | exact EqV_w | exact EqE_w | exact EqV_ptr | exact EqE_ptr | exact EqV_msl | exact EqE_msl | exact EqV_agg | exact EqE_agg | exact EqV_fn | exact EqE_fn | exact EqV_gd | exact EqE_gd | refine gM_splitN ?_ ?_ | refine gM_split ?_ ?_ |  refine condM_splitDN ?_ ?_ | refine condM_splitD ?_ ?_ | refine condM_splitN ?_ ?_ | refine condM_split ?_ ?_ | refine condM_any ?_ ?_ | intro _) | (simp [*, hlt]))
          all_goals (refine finW_intro () ?_ ?_; (· trivial); (refine le_of ?_ ?_ <;> first | trivial | (simp [*]; done)))
      · repeat' (first | (with_reducible first | refine awp_seq ?_ | refine awp_blockS ?_ | refine awp_blockC ?_ | refine awp_blockR ?_ | refine awp_skip ?_ | refine awp_ret ?_ | refine awp_exit ?_ | refine awp_region ?_ | refine awp_regionS (id := 8) [0, 1, 2, 3, 4, 5, 6, 7, 8, 9, 10, 11, 12] [13, 14] [[], [], [], [], [], [], [], [], [], [], [], [.new 0], []] [[.new 0], []] mixed (by decide +kernel) ?_ | refine awp_condM ?_ | refine And.intro ?_ ?_ | apply gQ_merge | apply gE_merge | exact EqV_w | exact EqE_w | exact EqV_ptr | exact EqE_ptr | exact EqV_msl | exact EqE_msl | exact EqV_agg | exact EqE_agg | exact EqV_fn | exact EqE_fn | exact EqV_gd | exact EqE_gd | refine gM_splitN ?_ ?_ | refine gM_split ?_ ?_ |  refine condM_splitDN ?_ ?_ | refine condM_splitD ?_ ?_ | refine condM_splitN ?_ ?_ | refine condM_split ?_ ?_ | refine condM_any ?_ ?_ | intro _) | (simp [*]))
end Go.Proofs.Ytceimmohnniebaa
