/- Contracts of functions for this claim: lemmas alone. -/
import Derived.Test.YtceimmohnniebaaP51
set_option linter.unusedSimpArgs false
set_option linter.unusedVariables false
namespace Go.Proofs.Ytceimmohnniebaa
open Go Go.Fi
set_option maxRecDepth 20000

theorem rA_snoc (l : List Rider) (r : Rider) : List.map (AV.w false false) (cRiders l) ++ [.w false false (.str r.name), .w false false (.int .i64 r.frm), .w false false (.int .i64 r.to), .w false false (.int .i64 r.seats), .w false false (.int .i64 r.detour), .w false false (.int .i64 r.ready), .w false false (.bool r.aboard), .w false false (.int .i64 r.ridden)] = rA (l ++ [r]) := by
  simp [rA, cRiders_app, cRiders, cRider]
@[simp] theorem cntK_0 (i o : Nat) : cntK i o 0 = 0 := by simp [cntK]
set_option maxHeartbeats 8000000 in
theorem rInserted_c (p : Plan) (hp : PlanIn p) (r : Rider) (i o : Nat) (hio : i < o) (ho : o ≤ p.stops.length + 1) : RealCall Try.prog 54 [aPlan p, .agg (cInsert ⟨r, (i : Int), (o : Int)⟩)] (aPlan (insS p r i o)) true := by
  have hrl := hp.riders
  have hsl := hp.stops
  clear hp
  unfold insS aPlan cPlan cInsert at *
  refine realcall_intro Try.func54 (by kernel_rfl) rfl (Nat.le_of_ble_eq_true (by kernel_rfl)) ?_
  simp only [Try.results54, Try.ntmps54]
  repeat' (first | (with_reducible first | refine awp_seq ?_ | refine awp_blockS ?_ | refine awp_blockC ?_ | refine awp_blockR ?_ | refine awp_skip ?_ | refine awp_ret ?_ | refine awp_exit ?_ | refine awp_region ?_ | refine awp_regionS (id := 1) [0, 1, 2, 3, 4, 6, 7, 8, 11] [5, 9, 10, 12] [[.new 0], [.new 0], [], [], [], [.new 0], [.new 0], [.new 0], [.new 0]] [[.new 0], [.new 0], [], [.new 2]] mixed (by decide +kernel) ?_ | refine awp_regionD (id := 8) 8 mixed (by decide +kernel) ?_ | refine awp_condM ?_ | refine And.intro ?_ ?_ | apply gQ_merge | apply gE_merge | exact EqV_w | exact EqE_w | exact EqV_ptr | exact EqE_ptr | exact EqV_msl | exact EqE_msl | exact EqV_agg | exact EqE_agg | exact EqV_fn | exact EqE_fn | exact EqV_gd | exact EqE_gd | refine gM_splitN ?_ ?_ | refine gM_split ?_ ?_ |  refine condM_splitDN ?_ ?_ | refine condM_splitD ?_ ?_ | refine condM_splitN ?_ ?_ | refine condM_split ?_ ?_ | refine condM_any ?_ ?_ | intro _) | (simp [*, cRider]))
  all_goals try first | exact inI64 (by omega) (by omega) | omega
  rw [rA_snoc]
  refine awp_for4 7 (fun (k : Nat) => k ≤ p.stops.length + 2) [2, 3, 4, 5] (fun (k : Nat) => [(7, .w false false (.int .i64 k)), (6, .w false false (.int .i64 (cntK i o k)))]) [0, 1, 2] (fun (k : Nat) => [(5, [.w false false (.int .i64 p.car.at_), .w false false (.int .i64 p.car.time), .w false false (.int .i64 p.car.seats), .msl 3 (p.riders.length * 8 + 8) 8 0 (p.riders.length + 1), .msl 6 (k * 2) 2 0 (k)]), (3, rA (p.riders ++ [r])), (6, sA (insK p i o (k)))]) (fun (k : Nat) => p.stops.length + 2 - k) (fun (_u : Unit) => True) [4, 5] (fun (_u : Unit) => []) [2] (fun (_u : Unit) => [(5, [.w false false (.int .i64 p.car.at_), .w false false (.int .i64 p.car.time), .w false false (.int .i64 p.car.seats), .msl 3 (p.riders.length * 8 + 8) 8 0 (p.riders.length + 1), .msl 6 (p.stops.length * 2 + 4) 2 0 (p.stops.length + 2)]), (3, rA (p.riders ++ [r])), (6, sA (insK p i o (p.stops.length + 2)))]) (0) (Nat.zero_le _) (le_gen [] (by simp) (by simp)) (fun k hk => ?_) (fun _u hf => ?_)
  · by_cases hlt : k < p.stops.length + 2
    · have hL : insK p i o (k + 1) = insK p i o k ++ [insAt p i o k] := rfl
      have hlt' : (k : Int) < (p.stops.length : Int) + 2 := by omega
      by_cases h1 : k = i
      · subst h1
        have h3 : ¬ (k : Int) = (o : Int) := by omega
        have e : insAt p k o k = ⟨(p.riders.length : Int), false⟩ := if_pos rfl
        rw [e] at hL
        have hc := cntK_i hio
        have kL := keep hL
        clear hL e
        repeat' (first | (with_reducible first | refine awp_seq ?_ | refine awp_blockS ?_ | refine awp_blockC ?_ | refine awp_blockR ?_ | refine awp_skip ?_ | refine awp_ret ?_ | refine awp_exit ?_ | refine awp_region ?_ | refine awp_regionS (id := 1) [0, 1, 2, 3, 4, 6, 7, 8, 11] [5, 9, 10, 12] [[.new 0], [.new 0], [], [], [], [.new 0], [.new 0], [.new 0], [.new 0]] [[.new 0], [.new 0], [], [.new 2]] mixed (by decide +kernel) ?_ | refine awp_regionD (id := 8) 8 mixed (by decide +kernel) ?_ | refine awp_condM ?_ | refine And.intro ?_ ?_ | apply gQ_merge | apply gE_merge | exact EqV_w | exact EqE_w | exact EqV_ptr | exact EqE_ptr | exact EqV_msl | exact EqE_msl | exact EqV_agg | exact EqE_agg | exact EqV_fn | exact EqE_fn | exact EqV_gd | exact EqE_gd | refine gM_splitN ?_ ?_ | refine gM_split ?_ ?_ |  refine condM_splitDN ?_ ?_ | refine condM_splitD ?_ ?_ | refine condM_splitN ?_ ?_ | refine condM_split ?_ ?_ | refine condM_any ?_ ?_ | intro _) | (simp [*, hlt', h3]))
        all_goals first
          | exact inI64 (by omega) (by omega)
          | omega
          | (refine loopK_normal _ _ _ _ _ (k + 1) _ ?_ (by first | omega | (dsimp only; omega) | (simp; omega)) ?_; (· omega); (refine le_gen [] ?_ ?_ <;> first | trivial | (simp [*, show insK p k o (k + 1) = _ from kL, hc, Nat.add_mul]; done)))
          | skip
      · have h1' : ¬ (k : Int) = (i : Int) := by omega
        by_cases h2 : k = o
        · subst h2
          have e : insAt p i k k = ⟨(p.riders.length : Int), true⟩ := by unfold insAt; rw [if_neg h1, if_pos rfl]
          rw [e] at hL
          have hc := cntK_o hio
          have kL := keep hL
          clear hL e
          repeat' (first | (with_reducible first | refine awp_seq ?_ | refine awp_blockS ?_ | refine awp_blockC ?_ | refine awp_blockR ?_ | refine awp_skip ?_ | refine awp_ret ?_ | refine awp_exit ?_ | refine awp_region ?_ | refine awp_regionS (id := 1) [0, 1, 2, 3, 4, 6, 7, 8, 11] [5, 9, 10, 12] [[.new 0], [.new 0], [], [], [], [.new 0], [.new 0], [.new 0], [.new 0]] [[.new 0], [.new 0], [], [.new 2]] mixed (by decide +kernel) ?_ | refine awp_regionD (id := 8) 8 mixed (by decide +kernel) ?_ | refine awp_condM ?_ | refine And.intro ?_ ?_ | apply gQ_merge | apply gE_merge | exact EqV_w | exact EqE_w | exact EqV_ptr | exact EqE_ptr | exact EqV_msl | exact EqE_msl | exact EqV_agg | exact EqE_agg | exact EqV_fn | exact EqE_fn | exact EqV_gd | exact EqE_gd | refine gM_splitN ?_ ?_ | refine gM_split ?_ ?_ |  refine condM_splitDN ?_ ?_ | refine condM_splitD ?_ ?_ | refine condM_splitN ?_ ?_ | refine condM_split ?_ ?_ | refine condM_any ?_ ?_ | intro _) | (simp [*, hlt', h1']))
          all_goals first
            | exact inI64 (by omega) (by omega)
            | omega
            | (refine loopK_normal _ _ _ _ _ (k + 1) _ ?_ (by first | omega | (dsimp only; omega) | (simp; omega)) ?_; (· omega); (refine le_gen [] ?_ ?_ <;> first | trivial | (simp [*, show insK p i k (k + 1) = _ from kL, hc, Nat.add_mul]; done)))
            | skip
        · have h2' : ¬ (k : Int) = (o : Int) := by omega
          have hc := cntK_lt hio ho h1 h2 hlt
          have hcr := cntK_r hio h1 h2
          have e : insAt p i o k = nth p.stops (cntK i o k) := by unfold insAt; rw [if_neg h1, if_neg h2]
          rw [e] at hL
          generalize hst : nth p.stops (cntK i o k) = s at *
          obtain ⟨sr, so⟩ := s
          have kL := keep hL
          clear hL e
          repeat' (first | (with_reducible first | refine awp_seq ?_ | refine awp_blockS ?_ | refine awp_blockC ?_ | refine awp_blockR ?_ | refine awp_skip ?_ | refine awp_ret ?_ | refine awp_exit ?_ | refine awp_region ?_ | refine awp_regionS (id := 1) [0, 1, 2, 3, 4, 6, 7, 8, 11] [5, 9, 10, 12] [[.new 0], [.new 0], [], [], [], [.new 0], [.new 0], [.new 0], [.new 0]] [[.new 0], [.new 0], [], [.new 2]] mixed (by decide +kernel) ?_ | refine awp_regionD (id := 8) 8 mixed (by decide +kernel) ?_ | refine awp_condM ?_ | refine And.intro ?_ ?_ | apply gQ_merge | apply gE_merge | exact EqV_w | exact EqE_w | exact EqV_ptr | exact EqE_ptr | exact EqV_msl | exact EqE_msl | exact EqV_agg | exact EqE_agg | exact EqV_fn | exact EqE_fn | exact EqV_gd | exact EqE_gd | refine gM_splitN ?_ ?_ | refine gM_split ?_ ?_ |  refine condM_splitDN ?_ ?_ | refine condM_splitD ?_ ?_ | refine condM_splitN ?_ ?_ | refine condM_split ?_ ?_ | refine condM_any ?_ ?_ | intro _) | (simp [*, hlt', h1', h2', hc, hst, cStop]))
          all_goals first
            | exact inI64 (by omega) (by omega)
            | omega
            | (refine loopK_normal _ _ _ _ _ (k + 1) _ ?_ (by first | omega | (dsimp only; omega) | (simp; omega)) ?_; (· omega); (refine le_gen [] ?_ ?_ <;> first | trivial | (simp [*, show insK p i o (k + 1) = _ from kL, hcr, Nat.add_mul]; done)))
            | skip
    · have hke : k = p.stops.length + 2 := by omega
      have hlt' : ¬ (k : Int) < (p.stops.length : Int) + 2 := by omega
      have kk := keep hke
      clear hke
      repeat' (first | (with_reducible first | refine awp_seq ?_ | refine awp_blockS ?_ | refine awp_blockC ?_ | refine awp_blockR ?_ | refine awp_skip ?_ | refine awp_ret ?_ | refine awp_exit ?_ | refine awp_region ?_ | refine awp_regionS (id := 1) [0, 1, 2, 3, 4, 6, 7, 8, 11] [5, 9, 10, 12] [[.new 0], [.new 0], [], [], [], [.new 0], [.new 0], [.new 0], [.new 0]] [[.new 0], [.new 0], [], [.new 2]] mixed (by decide +kernel) ?_ | refine awp_regionD (id := 8) 8 mixed (by decide +kernel) ?_ | refine awp_condM ?_ | refine And.intro ?_ ?_ | apply gQ_merge | apply gE_merge | exact EqV_w | exact EqE_w | exact EqV_ptr | exact EqE_ptr | exact EqV_msl | exact EqE_msl | exact EqV_agg | exact EqE_agg | exact EqV_fn | exact EqE_fn | exact EqV_gd | exact EqE_gd | refine gM_splitN ?_ ?_ | refine gM_split ?_ ?_ |  refine condM_splitDN ?_ ?_ | refine condM_splitD ?_ ?_ | refine condM_splitN ?_ ?_ | refine condM_split ?_ ?_ | refine condM_any ?_ ?_ | intro _) | (simp [*, hlt']))
      all_goals try exact inI64 (by omega) (by omega)
      all_goals (refine finW_intro () ?_ ?_; (· trivial); (refine le_gen [] ?_ ?_ <;> first | trivial | (simp [*, show k = p.stops.length + 2 from kk, Nat.add_mul]; done)))
  · repeat' (first | (with_reducible first | refine awp_seq ?_ | refine awp_blockS ?_ | refine awp_blockC ?_ | refine awp_blockR ?_ | refine awp_skip ?_ | refine awp_ret ?_ | refine awp_exit ?_ | refine awp_region ?_ | refine awp_regionS (id := 1) [0, 1, 2, 3, 4, 6, 7, 8, 11] [5, 9, 10, 12] [[.new 0], [.new 0], [], [], [], [.new 0], [.new 0], [.new 0], [.new 0]] [[.new 0], [.new 0], [], [.new 2]] mixed (by decide +kernel) ?_ | refine awp_regionD (id := 8) 8 mixed (by decide +kernel) ?_ | refine awp_condM ?_ | refine And.intro ?_ ?_ | apply gQ_merge | apply gE_merge | exact EqV_w | exact EqE_w | exact EqV_ptr | exact EqE_ptr | exact EqV_msl | exact EqE_msl | exact EqV_agg | exact EqE_agg | exact EqV_fn | exact EqE_fn | exact EqV_gd | exact EqE_gd | refine gM_splitN ?_ ?_ | refine gM_split ?_ ?_ |  refine condM_splitDN ?_ ?_ | refine condM_splitD ?_ ?_ | refine condM_splitN ?_ ?_ | refine condM_split ?_ ?_ | refine condM_any ?_ ?_ | intro _) | (simp [*, Nat.add_mul]))
end Go.Proofs.Ytceimmohnniebaa
