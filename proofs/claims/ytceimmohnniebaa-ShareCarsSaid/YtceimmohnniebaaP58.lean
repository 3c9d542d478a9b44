/- Contracts of functions for this claim: lemmas alone. -/
import Derived.Test.YtceimmohnniebaaP54
import Derived.Test.YtceimmohnniebaaP51
set_option linter.unusedSimpArgs false
set_option linter.unusedVariables false
namespace Go.Proofs.Ytceimmohnniebaa
open Go Go.Fi
set_option maxRecDepth 20000

set_option maxHeartbeats 16000000 in
theorem rInserts_c (m : Grid) (p : Plan) (r : Rider) (ok : OfferOk m p r) : RealCall Try.prog 44 [aMap m, aPlan p, .agg (cRider r)] (.sl (offersS m p r).length (cOffers (offersS m p r))) true := by
  have hsl := ok.sl
  have hrl := ok.rl
  have ko := keep ok
  clear ok
  unfold aMap aPlan cPlan cRider
  refine realcall_intro Try.func44 (by kernel_rfl) rfl (Nat.le_of_ble_eq_true (by kernel_rfl)) ?_
  simp only [Try.results44, Try.ntmps44]
  repeat' (first | (with_reducible first | refine awp_seq ?_ | refine awp_blockS ?_ | refine awp_blockC ?_ | refine awp_blockR ?_ | refine awp_skip ?_ | refine awp_ret ?_ | refine awp_exit ?_ | refine awp_region ?_ | refine awp_condM ?_ | refine And.intro ?_ ?_ | apply gQ_merge | apply gE_merge | exact EqV_w | exact EqE_w | exact EqV_ptr | exact EqE_ptr | exact EqV_msl | exact EqE_msl | exact EqV_agg | exact EqE_agg | exact EqV_fn | exact EqE_fn | exact EqV_gd | exact EqE_gd | refine gM_splitN ?_ ?_ | refine gM_split ?_ ?_ |  refine condM_splitDN ?_ ?_ | refine condM_splitD ?_ ?_ | refine condM_splitN ?_ ?_ | refine condM_split ?_ ?_ | refine condM_any ?_ ?_ | intro _) | (simp [*]))
  refine awp_for4 4 (fun (i : Nat) => i ≤ p.stops.length + 1) [3, 4, 5] (fun (i : Nat) => [(8, .w false false (.int .i64 i)), (7, .msl 3 ((offO m p r i).length * 3) 3 0 (offO m p r i).length)]) [0, 1, 2] (fun (i : Nat) => [(3, oA (offO m p r i))]) (fun (i : Nat) => p.stops.length + 1 - i) (fun (_u : Unit) => True) [] (fun (_u : Unit) => [(7, .msl 3 ((offersS m p r).length * 3) 3 0 (offersS m p r).length)]) [] (fun (_u : Unit) => [(3, oA (offersS m p r))]) (0) (Nat.zero_le _) (le_gen [] (by simp) (by simp)) (fun i hk => ?_) (fun _u hf => ?_)
  · by_cases hlt : i < p.stops.length + 1
    · have hlt' : (i : Int) ≤ (p.stops.length : Int) := by omega
      repeat' (first | (with_reducible first | refine awp_seq ?_ | refine awp_blockS ?_ | refine awp_blockC ?_ | refine awp_blockR ?_ | refine awp_skip ?_ | refine awp_ret ?_ | refine awp_exit ?_ | refine awp_region ?_ | refine awp_condM ?_ | refine And.intro ?_ ?_ | apply gQ_merge | apply gE_merge | exact EqV_w | exact EqE_w | exact EqV_ptr | exact EqE_ptr | exact EqV_msl | exact EqE_msl | exact EqV_agg | exact EqE_agg | exact EqV_fn | exact EqE_fn | exact EqV_gd | exact EqE_gd | refine gM_splitN ?_ ?_ | refine gM_split ?_ ?_ |  refine condM_splitDN ?_ ?_ | refine condM_splitD ?_ ?_ | refine condM_splitN ?_ ?_ | refine condM_split ?_ ?_ | refine condM_any ?_ ?_ | intro _) | (simp [*, hlt']))
      all_goals try first | exact inI64 (by omega) (by omega) | omega
      refine awp_for3 (fun (c : Nat) => c ≤ p.stops.length + 1 - i) [3, 4, 5, 8] (fun (c : Nat) => [(9, .w false false (.int .i64 ((i : Int) + 1 + (c : Int)))), (7, .msl 3 ((accO m p r i c).length * 3) 3 0 (accO m p r i c).length)]) [0, 1, 2] (fun (c : Nat) => [(3, oA (accO m p r i c))]) (fun (c : Nat) => p.stops.length + 1 - i - c) (fun (_u : Unit) => True) [3, 4, 5, 8] (fun (_u : Unit) => [(7, .msl 3 ((offO m p r (i + 1)).length * 3) 3 0 (offO m p r (i + 1)).length)]) [0, 1, 2] (fun (_u : Unit) => [(3, oA (offO m p r (i + 1)))]) ((0 : Nat)) (Nat.zero_le _) (by simp) (by simp) (fun c hk => ?_) (fun _u hf => ?_)
      · have hlt2 : (i : Int) + 1 + (c : Int) ≤ (p.stops.length : Int) + 1 ∨ ¬ ((i : Int) + 1 + (c : Int) ≤ (p.stops.length : Int) + 1) := by omega
        rcases hlt2 with hlt2 | hlt2
        · have hal := accO_len m p r hsl i c
          have hio : i < i + 1 + c := by omega
          have hoo : i + 1 + c ≤ p.stops.length + 1 := by omega
          have hcast : ((i + 1 + c : Nat) : Int) = (i : Int) + 1 + (c : Int) := by omega
          have hq := insS_tour ko.tour ko.r hio hoo (by omega) (by omega)
          have c1 := rInserted_c p ko.pin r i (i + 1 + c) hio hoo
          have eA := accO_step m p r i c
          unfold offAt at eA
          rw [hcast] at c1 eA
          generalize insS p r i (i + 1 + c) = q at *
          have c2 := rKeeps_c m q hq
          have c3 := rCostOf_c m q hq.go
          clear hq hcast
          generalize costP m q = C at *
          cases hk2 : keepsS m q with
          | true =>
            rw [hk2] at c2
            rw [hk2, if_pos rfl] at eA
            have kA := keep eA
            clear eA hk2
            unfold aPlan aMap cPlan cInsert at *
            repeat' (first | (with_reducible first | refine awp_seq ?_ | refine awp_blockS ?_ | refine awp_blockC ?_ | refine awp_blockR ?_ | refine awp_skip ?_ | refine awp_ret ?_ | refine awp_exit ?_ | refine awp_region ?_ | refine awp_condM ?_ | refine And.intro ?_ ?_ | apply gQ_merge | apply gE_merge | exact EqV_w | exact EqE_w | exact EqV_ptr | exact EqE_ptr | exact EqV_msl | exact EqE_msl | exact EqV_agg | exact EqE_agg | exact EqV_fn | exact EqE_fn | exact EqV_gd | exact EqE_gd | refine gM_splitN ?_ ?_ | refine gM_split ?_ ?_ |  refine condM_splitDN ?_ ?_ | refine condM_splitD ?_ ?_ | refine condM_splitN ?_ ?_ | refine condM_split ?_ ?_ | refine condM_any ?_ ?_ | refine cw (c1) ?_ | refine cw (c2) ?_ | refine cw (c3) ?_ | intro _) | (simp [*, hlt2]) | (refine cw_eq (c1) ?_ ?_; (· (simp [*]; done))) | (refine cw_eq (c2) ?_ ?_; (· (simp [*]; done))) | (refine cw_eq (c3) ?_ ?_; (· (simp [*]; done))))
            all_goals try first | exact inI64 (by omega) (by omega) | omega
            all_goals (refine loopK_normal _ _ _ _ _ (c + 1) _ ?_ (by first | omega | (dsimp only; omega) | (simp; omega)) ?_; (· omega); (refine le_gen [] ?_ ?_ <;> first | trivial | (simp [*, show accO m p r i (c + 1) = _ from kA, Nat.add_mul, (by omega : (i : Int) + 1 + ((c : Int) + 1) = (i : Int) + 1 + (c : Int) + 1)]; done)))
          | false =>
            rw [hk2] at c2
            rw [hk2, if_neg (by decide), List.append_nil] at eA
            have kA := keep eA
            clear eA hk2
            unfold aPlan aMap cPlan cInsert at *
            repeat' (first | (with_reducible first | refine awp_seq ?_ | refine awp_blockS ?_ | refine awp_blockC ?_ | refine awp_blockR ?_ | refine awp_skip ?_ | refine awp_ret ?_ | refine awp_exit ?_ | refine awp_region ?_ | refine awp_condM ?_ | refine And.intro ?_ ?_ | apply gQ_merge | apply gE_merge | exact EqV_w | exact EqE_w | exact EqV_ptr | exact EqE_ptr | exact EqV_msl | exact EqE_msl | exact EqV_agg | exact EqE_agg | exact EqV_fn | exact EqE_fn | exact EqV_gd | exact EqE_gd | refine gM_splitN ?_ ?_ | refine gM_split ?_ ?_ |  refine condM_splitDN ?_ ?_ | refine condM_splitD ?_ ?_ | refine condM_splitN ?_ ?_ | refine condM_split ?_ ?_ | refine condM_any ?_ ?_ | refine cw (c1) ?_ | refine cw (c2) ?_ | refine cw (c3) ?_ | intro _) | (simp [*, hlt2]) | (refine cw_eq (c1) ?_ ?_; (· (simp [*]; done))) | (refine cw_eq (c2) ?_ ?_; (· (simp [*]; done))) | (refine cw_eq (c3) ?_ ?_; (· (simp [*]; done))))
            all_goals try first | exact inI64 (by omega) (by omega) | omega
            all_goals (refine loopK_normal _ _ _ _ _ (c + 1) _ ?_ (by first | omega | (dsimp only; omega) | (simp; omega)) ?_; (· omega); (refine le_gen [] ?_ ?_ <;> first | trivial | (simp [*, show accO m p r i (c + 1) = accO m p r i c from kA, (by omega : (i : Int) + 1 + ((c : Int) + 1) = (i : Int) + 1 + (c : Int) + 1)]; done)))
        · have hce : c = p.stops.length + 1 - i := by omega
          have kE := keep (accO_end m p r i)
          have kc := keep hce
          clear hce
          repeat' (first | (with_reducible first | refine awp_seq ?_ | refine awp_blockS ?_ | refine awp_blockC ?_ | refine awp_blockR ?_ | refine awp_skip ?_ | refine awp_ret ?_ | refine awp_exit ?_ | refine awp_region ?_ | refine awp_condM ?_ | refine And.intro ?_ ?_ | apply gQ_merge | apply gE_merge | exact EqV_w | exact EqE_w | exact EqV_ptr | exact EqE_ptr | exact EqV_msl | exact EqE_msl | exact EqV_agg | exact EqE_agg | exact EqV_fn | exact EqE_fn | exact EqV_gd | exact EqE_gd | refine gM_splitN ?_ ?_ | refine gM_split ?_ ?_ |  refine condM_splitDN ?_ ?_ | refine condM_splitD ?_ ?_ | refine condM_splitN ?_ ?_ | refine condM_split ?_ ?_ | refine condM_any ?_ ?_ | intro _) | (simp [*, hlt2]))
          all_goals try first | exact inI64 (by omega) (by omega) | omega
          all_goals (refine finW_intro () ?_ ?_; (· trivial); (refine le_gen [] ?_ ?_ <;> first | trivial | (simp [*, show c = p.stops.length + 1 - i from kc, show accO m p r i (p.stops.length + 1 - i) = offO m p r (i + 1) from kE]; done)))
      · repeat' (first | (with_reducible first | refine awp_seq ?_ | refine awp_blockS ?_ | refine awp_blockC ?_ | refine awp_blockR ?_ | refine awp_skip ?_ | refine awp_ret ?_ | refine awp_exit ?_ | refine awp_region ?_ | refine awp_condM ?_ | refine And.intro ?_ ?_ | apply gQ_merge | apply gE_merge | exact EqV_w | exact EqE_w | exact EqV_ptr | exact EqE_ptr | exact EqV_msl | exact EqE_msl | exact EqV_agg | exact EqE_agg | exact EqV_fn | exact EqE_fn | exact EqV_gd | exact EqE_gd | refine gM_splitN ?_ ?_ | refine gM_split ?_ ?_ |  refine condM_splitDN ?_ ?_ | refine condM_splitD ?_ ?_ | refine condM_splitN ?_ ?_ | refine condM_split ?_ ?_ | refine condM_any ?_ ?_ | intro _) | (simp [*]))
        all_goals first
          | exact inI64 (by omega) (by omega)
          | omega
          | (refine loopK_normal _ _ _ _ _ (i + 1) _ ?_ (by first | omega | (dsimp only; omega) | (simp; omega)) ?_; (· omega); (refine le_gen [] ?_ ?_ <;> first | trivial | (simp [*]; done)))
    · have hie : i = p.stops.length + 1 := by omega
      have hlt' : ¬ (i : Int) ≤ (p.stops.length : Int) := by omega
      have kc := keep hie
      clear hie
      repeat' (first | (with_reducible first | refine awp_seq ?_ | refine awp_blockS ?_ | refine awp_blockC ?_ | refine awp_blockR ?_ | refine awp_skip ?_ | refine awp_ret ?_ | refine awp_exit ?_ | refine awp_region ?_ | refine awp_condM ?_ | refine And.intro ?_ ?_ | apply gQ_merge | apply gE_merge | exact EqV_w | exact EqE_w | exact EqV_ptr | exact EqE_ptr | exact EqV_msl | exact EqE_msl | exact EqV_agg | exact EqE_agg | exact EqV_fn | exact EqE_fn | exact EqV_gd | exact EqE_gd | refine gM_splitN ?_ ?_ | refine gM_split ?_ ?_ |  refine condM_splitDN ?_ ?_ | refine condM_splitD ?_ ?_ | refine condM_splitN ?_ ?_ | refine condM_split ?_ ?_ | refine condM_any ?_ ?_ | intro _) | (simp [*, hlt']))
      all_goals (refine finW_intro () ?_ ?_; (· trivial); (refine le_gen [] ?_ ?_ <;> first | trivial | (simp [*, show i = p.stops.length + 1 from kc, offersS]; done)))
  · repeat' (first | (with_reducible first | refine awp_seq ?_ | refine awp_blockS ?_ | refine awp_blockC ?_ | refine awp_blockR ?_ | refine awp_skip ?_ | refine awp_ret ?_ | refine awp_exit ?_ | refine awp_region ?_ | refine awp_condM ?_ | refine And.intro ?_ ?_ | apply gQ_merge | apply gE_merge | exact EqV_w | exact EqE_w | exact EqV_ptr | exact EqE_ptr | exact EqV_msl | exact EqE_msl | exact EqV_agg | exact EqE_agg | exact EqV_fn | exact EqE_fn | exact EqV_gd | exact EqE_gd | refine gM_splitN ?_ ?_ | refine gM_split ?_ ?_ |  refine condM_splitDN ?_ ?_ | refine condM_splitD ?_ ?_ | refine condM_splitN ?_ ?_ | refine condM_split ?_ ?_ | refine condM_any ?_ ?_ | intro _) | (simp [*]))
end Go.Proofs.Ytceimmohnniebaa
