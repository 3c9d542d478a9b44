/- Contracts of functions for this claim: lemmas alone. -/
import Derived.Test.YtceimmohnniebaaP54
set_option linter.unusedSimpArgs false
set_option linter.unusedVariables false
namespace Go.Proofs.Ytceimmohnniebaa
open Go Go.Fi
set_option maxRecDepth 20000

/-! ### the reference's plan without a rider -/
def wr (l : List Rider) (j k : Nat) : List Rider := (l.take j).take k ++ (l.drop (j + 1)).take (k - (j + 1))
@[simp] theorem wr_zero (l : List Rider) (j : Nat) : wr l j 0 = [] := by simp [wr]
theorem wr_skip (l : List Rider) (j : Nat) : wr l j (j + 1) = wr l j j := by
  unfold wr
  rw [List.take_take, List.take_take, Nat.sub_self, show j - (j + 1) = 0 by omega, Nat.min_eq_right (by omega), Nat.min_self]
theorem wr_low {l : List Rider} {j k : Nat} (hk : k < l.length) (h : k < j) : wr l j (k + 1) = wr l j k ++ [nth l k] := by
  unfold wr
  rw [List.take_take, List.take_take, show k + 1 - (j + 1) = 0 by omega, show k - (j + 1) = 0 by omega, Nat.min_eq_left (by omega), Nat.min_eq_left (by omega), List.take_zero, List.append_nil, List.append_nil, take_succ_nth l k hk]
theorem wr_high {l : List Rider} {j k : Nat} (hk : k < l.length) (h : j < k) : wr l j (k + 1) = wr l j k ++ [nth l k] := by
  unfold wr
  rw [List.take_take, List.take_take, Nat.min_eq_right (by omega), Nat.min_eq_right (by omega), List.append_assoc, show k + 1 - (j + 1) = (k - (j + 1)) + 1 by omega]
  rw [take_succ_nth (l.drop (j + 1)) (k - (j + 1)) (by rw [List.length_drop]; omega)]
  congr 3
  simp [nth, List.getD_eq_getElem?_getD, List.getElem?_drop]
  congr 2
  omega
theorem wr_end (l : List Rider) {j : Nat} (h : j < l.length) : wr l j l.length = l.take j ++ l.drop (j + 1) := by
  unfold wr
  rw [List.take_of_length_le (l := l.take j) (by rw [List.length_take]; omega), List.take_of_length_le (l := l.drop (j + 1)) (by rw [List.length_drop]; omega)]
theorem wr_len (l : List Rider) (j k : Nat) : (wr l j k).length ≤ l.length + l.length := by
  unfold wr
  rw [List.length_append, List.length_take, List.length_take, List.length_take, List.length_drop]
  omega
theorem rA_one (l : List Rider) (r : Rider) : rA l ++ [.w false false (.str r.name), .w false false (.int .i64 r.frm), .w false false (.int .i64 r.to), .w false false (.int .i64 r.seats), .w false false (.int .i64 r.detour), .w false false (.int .i64 r.ready), .w false false (.bool r.aboard), .w false false (.int .i64 r.ridden)] = rA (l ++ [r]) := rA_snoc l r
set_option maxHeartbeats 16000000 in
theorem rWithout_c (p : Plan) (hp : PlanIn p) (hso : ∀ i, i < p.stops.length → (nth p.stops i).rider < p.riders.length) (r : Int) : RealCall Try.prog 52 [aPlan p, .int .i64 r] (planP (withoutS p r)) true := by
  have hrl := hp.riders
  have hsl := hp.stops
  have c0 := rWithin_c r 0 ((p.riders.length : Int) - 1)
  clear hp
  unfold withoutS planP
  cases hw : winB r 0 ((p.riders.length : Int) - 1) with
  | false =>
    rw [if_neg (by decide)]
    rw [hw] at c0
    clear hw
    unfold aPlan cPlan noPlan
    refine realcall_intro Try.func52 (by kernel_rfl) rfl (Nat.le_of_ble_eq_true (by kernel_rfl)) ?_
    simp only [Try.results52, Try.ntmps52]
    repeat' (first | (with_reducible first | refine awp_seq ?_ | refine awp_blockS ?_ | refine awp_blockC ?_ | refine awp_blockR ?_ | refine awp_skip ?_ | refine awp_ret ?_ | refine awp_exit ?_ | refine awp_region ?_ | refine awp_regionD (id := 10) 8 mixed (by decide +kernel) ?_ | refine awp_condM ?_ | refine And.intro ?_ ?_ | apply gQ_merge | apply gE_merge | exact EqV_w | exact EqE_w | exact EqV_ptr | exact EqE_ptr | exact EqV_msl | exact EqE_msl | exact EqV_agg | exact EqE_agg | exact EqV_fn | exact EqE_fn | exact EqV_gd | exact EqE_gd | refine gM_splitN ?_ ?_ | refine gM_split ?_ ?_ |  refine condM_splitDN ?_ ?_ | refine condM_splitD ?_ ?_ | refine condM_splitN ?_ ?_ | refine condM_split ?_ ?_ | refine condM_any ?_ ?_ | refine cw (c0) ?_ | intro _) | (simp [*]) | (refine cw_eq (c0) ?_ ?_; (· (simp [*]; done))))
    all_goals exact inI64 (by omega) (by omega)
  | true =>
    rw [if_pos rfl]
    rw [hw] at c0
    obtain ⟨j, rfl, hj⟩ := winB_nat hw
    clear hw
    rw [Int.toNat_natCast]
    cases hab : (nth p.riders j).aboard with
    | true =>
      rw [if_pos rfl]
      unfold aPlan cPlan noPlan
      refine realcall_intro Try.func52 (by kernel_rfl) rfl (Nat.le_of_ble_eq_true (by kernel_rfl)) ?_
      simp only [Try.results52, Try.ntmps52]
      repeat' (first | (with_reducible first | refine awp_seq ?_ | refine awp_blockS ?_ | refine awp_blockC ?_ | refine awp_blockR ?_ | refine awp_skip ?_ | refine awp_ret ?_ | refine awp_exit ?_ | refine awp_region ?_ | refine awp_regionD (id := 10) 8 mixed (by decide +kernel) ?_ | refine awp_condM ?_ | refine And.intro ?_ ?_ | apply gQ_merge | apply gE_merge | exact EqV_w | exact EqE_w | exact EqV_ptr | exact EqE_ptr | exact EqV_msl | exact EqE_msl | exact EqV_agg | exact EqE_agg | exact EqV_fn | exact EqE_fn | exact EqV_gd | exact EqE_gd | refine gM_splitN ?_ ?_ | refine gM_split ?_ ?_ |  refine condM_splitDN ?_ ?_ | refine condM_splitD ?_ ?_ | refine condM_splitN ?_ ?_ | refine condM_split ?_ ?_ | refine condM_any ?_ ?_ | refine cw (c0) ?_ | intro _) | (simp [*, hj, hab]) | (refine cw_eq (c0) ?_ ?_; (· (simp [*]; done))))
      all_goals first | exact inI64 (by omega) (by omega) | omega
    | false =>
      rw [if_neg (by decide)]
      unfold woS aPlan cPlan
      dsimp only
      refine realcall_intro Try.func52 (by kernel_rfl) rfl (Nat.le_of_ble_eq_true (by kernel_rfl)) ?_
      simp only [Try.results52, Try.ntmps52]
      repeat' (first | (with_reducible first | refine awp_seq ?_ | refine awp_blockS ?_ | refine awp_blockC ?_ | refine awp_blockR ?_ | refine awp_skip ?_ | refine awp_ret ?_ | refine awp_exit ?_ | refine awp_region ?_ | refine awp_regionD (id := 10) 8 mixed (by decide +kernel) ?_ | refine awp_condM ?_ | refine And.intro ?_ ?_ | apply gQ_merge | apply gE_merge | exact EqV_w | exact EqE_w | exact EqV_ptr | exact EqE_ptr | exact EqV_msl | exact EqE_msl | exact EqV_agg | exact EqE_agg | exact EqV_fn | exact EqE_fn | exact EqV_gd | exact EqE_gd | refine gM_splitN ?_ ?_ | refine gM_split ?_ ?_ |  refine condM_splitDN ?_ ?_ | refine condM_splitD ?_ ?_ | refine condM_splitN ?_ ?_ | refine condM_split ?_ ?_ | refine condM_any ?_ ?_ | refine cw (c0) ?_ | intro _) | (simp [*, hj, hab]) | (refine cw_eq (c0) ?_ ?_; (· (simp [*]; done))))
      all_goals try first | exact inI64 (by omega) (by omega) | omega
      have hE := wr_end p.riders hj
      have hAl : Keep ((p.riders.take j ++ p.riders.drop (j + 1)).length = min j p.riders.length + (p.riders.length - (j + 1))) := by
        show _ = _
        rw [List.length_append, List.length_take, List.length_drop]
      generalize hA : p.riders.take j ++ p.riders.drop (j + 1) = A at *
      clear hA
      refine awp_for4 4 (fun (k : Nat) => k ≤ p.riders.length) [1, 2, 4, 6] (fun (k : Nat) => [(7, .w false false (.int .i64 k))]) [0, 1] (fun (k : Nat) => [(2, [.w false false (.int .i64 p.car.at_), .w false false (.int .i64 p.car.time), .w false false (.int .i64 p.car.seats), .msl 3 ((wr p.riders j k).length * 8) 8 0 (wr p.riders j k).length, .w true true (.sl 0 [])]), (3, rA (wr p.riders j k))]) (fun (k : Nat) => p.riders.length - k) (fun (_u : Unit) => True) [1, 2, 4, 6] (fun (_u : Unit) => []) [0, 1] (fun (_u : Unit) => [(2, [.w false false (.int .i64 p.car.at_), .w false false (.int .i64 p.car.time), .w false false (.int .i64 p.car.seats), .msl 3 (A.length * 8) 8 0 A.length, .w true true (.sl 0 [])]), (3, rA A)]) (0) (Nat.zero_le _) (le_gen [] (by simp) (by simp)) (fun k hk => ?_) (fun _u hf => ?_)
      · by_cases hlt : k < p.riders.length
        · have hlI : (k : Int) < (p.riders.length : Int) := by omega
          have hwl := wr_len p.riders j k
          by_cases h1 : k = j
          · subst h1
            have hs := keep (wr_skip p.riders k)
            repeat' (first | (with_reducible first | refine awp_seq ?_ | refine awp_blockS ?_ | refine awp_blockC ?_ | refine awp_blockR ?_ | refine awp_skip ?_ | refine awp_ret ?_ | refine awp_exit ?_ | refine awp_region ?_ | refine awp_regionD (id := 10) 8 mixed (by decide +kernel) ?_ | refine awp_condM ?_ | refine And.intro ?_ ?_ | apply gQ_merge | apply gE_merge | exact EqV_w | exact EqE_w | exact EqV_ptr | exact EqE_ptr | exact EqV_msl | exact EqE_msl | exact EqV_agg | exact EqE_agg | exact EqV_fn | exact EqE_fn | exact EqV_gd | exact EqE_gd | refine gM_splitN ?_ ?_ | refine gM_split ?_ ?_ |  refine condM_splitDN ?_ ?_ | refine condM_splitD ?_ ?_ | refine condM_splitN ?_ ?_ | refine condM_split ?_ ?_ | refine condM_any ?_ ?_ | intro _) | (simp [*, hlt, hlI]))
            all_goals try first | exact inI64 (by omega) (by omega) | omega
            all_goals (refine loopK_normal _ _ _ _ _ (k + 1) _ ?_ (by first | omega | (dsimp only; omega) | (simp; omega)) ?_; (· omega); (refine le_gen [] ?_ ?_ <;> first | trivial | (simp [*, show wr p.riders k (k + 1) = _ from hs]; done)))
          · have hn : ¬ (k : Int) = (j : Int) := by omega
            have hs : Keep (wr p.riders j (k + 1) = wr p.riders j k ++ [nth p.riders k]) := by
              rcases Nat.lt_or_ge k j with h2 | h2
              · exact wr_low hlt h2
              · exact wr_high hlt (by omega)
            repeat' (first | (with_reducible first | refine awp_seq ?_ | refine awp_blockS ?_ | refine awp_blockC ?_ | refine awp_blockR ?_ | refine awp_skip ?_ | refine awp_ret ?_ | refine awp_exit ?_ | refine awp_region ?_ | refine awp_regionD (id := 10) 8 mixed (by decide +kernel) ?_ | refine awp_condM ?_ | refine And.intro ?_ ?_ | apply gQ_merge | apply gE_merge | exact EqV_w | exact EqE_w | exact EqV_ptr | exact EqE_ptr | exact EqV_msl | exact EqE_msl | exact EqV_agg | exact EqE_agg | exact EqV_fn | exact EqE_fn | exact EqV_gd | exact EqE_gd | refine gM_splitN ?_ ?_ | refine gM_split ?_ ?_ |  refine condM_splitDN ?_ ?_ | refine condM_splitD ?_ ?_ | refine condM_splitN ?_ ?_ | refine condM_split ?_ ?_ | refine condM_any ?_ ?_ | intro _) | (simp [*, hlt, hlI, hn, cRider]))
            all_goals try first | exact inI64 (by omega) (by omega) | omega
            all_goals (refine loopK_normal _ _ _ _ _ (k + 1) _ ?_ (by first | omega | (dsimp only; omega) | (simp; omega)) ?_; (· omega); (refine le_gen [] ?_ ?_ <;> first | trivial | (simp [*, show wr p.riders j (k + 1) = _ from hs, rA_one, Nat.add_mul]; done)))
        · have hke : k = p.riders.length := by omega
          subst hke
          repeat' (first | (with_reducible first | refine awp_seq ?_ | refine awp_blockS ?_ | refine awp_blockC ?_ | refine awp_blockR ?_ | refine awp_skip ?_ | refine awp_ret ?_ | refine awp_exit ?_ | refine awp_region ?_ | refine awp_regionD (id := 10) 8 mixed (by decide +kernel) ?_ | refine awp_condM ?_ | refine And.intro ?_ ?_ | apply gQ_merge | apply gE_merge | exact EqV_w | exact EqE_w | exact EqV_ptr | exact EqE_ptr | exact EqV_msl | exact EqE_msl | exact EqV_agg | exact EqE_agg | exact EqV_fn | exact EqE_fn | exact EqV_gd | exact EqE_gd | refine gM_splitN ?_ ?_ | refine gM_split ?_ ?_ |  refine condM_splitDN ?_ ?_ | refine condM_splitD ?_ ?_ | refine condM_splitN ?_ ?_ | refine condM_split ?_ ?_ | refine condM_any ?_ ?_ | intro _) | (simp [*]))
          all_goals (refine finW_intro () ?_ ?_; (· trivial); (refine le_gen [] ?_ ?_ <;> first | trivial | (simp [*, hE]; done)))
      · clear hE
        repeat' (first | (with_reducible first | refine awp_seq ?_ | refine awp_blockS ?_ | refine awp_blockC ?_ | refine awp_blockR ?_ | refine awp_skip ?_ | refine awp_ret ?_ | refine awp_exit ?_ | refine awp_region ?_ | refine awp_regionD (id := 10) 8 mixed (by decide +kernel) ?_ | refine awp_condM ?_ | refine And.intro ?_ ?_ | apply gQ_merge | apply gE_merge | exact EqV_w | exact EqE_w | exact EqV_ptr | exact EqE_ptr | exact EqV_msl | exact EqE_msl | exact EqV_agg | exact EqE_agg | exact EqV_fn | exact EqE_fn | exact EqV_gd | exact EqE_gd | refine gM_splitN ?_ ?_ | refine gM_split ?_ ?_ |  refine condM_splitDN ?_ ?_ | refine condM_splitD ?_ ?_ | refine condM_splitN ?_ ?_ | refine condM_split ?_ ?_ | refine condM_any ?_ ?_ | intro _) | (simp [*]))
        refine awp_for4 5 (fun (k : Nat) => k ≤ p.stops.length) [1, 2, 4, 6] (fun (k : Nat) => [(8, .w false false (.int .i64 k))]) [0, 1] (fun (k : Nat) => [(2, [.w false false (.int .i64 p.car.at_), .w false false (.int .i64 p.car.time), .w false false (.int .i64 p.car.seats), .msl 3 (A.length * 8) 8 0 A.length, .msl 4 ((woF (j : Int) (p.stops.take k)).length * 2) 2 0 (woF (j : Int) (p.stops.take k)).length]), (3, rA A), (4, sA (woF (j : Int) (p.stops.take k)))]) (fun (k : Nat) => p.stops.length - k) (fun (_u : Unit) => True) [4, 6] (fun (_u : Unit) => []) [1] (fun (_u : Unit) => [(2, [.w false false (.int .i64 p.car.at_), .w false false (.int .i64 p.car.time), .w false false (.int .i64 p.car.seats), .msl 3 (A.length * 8) 8 0 A.length, .msl 4 ((woF (j : Int) p.stops).length * 2) 2 0 (woF (j : Int) p.stops).length]), (3, rA A), (4, sA (woF (j : Int) p.stops))]) (0) (Nat.zero_le _) (le_gen [] (by simp) (by simp)) (fun k hk => ?_) (fun _u hf => ?_)
        · by_cases hlt : k < p.stops.length
          · have hs := woF_snoc (j : Int) (nth p.stops k) (p.stops.take k)
            rw [← take_succ_nth p.stops k hlt] at hs
            have hwl := woF_len (j : Int) (p.stops.take k)
            rw [take_len _ _ hk] at hwl
            unfold decS at hs
            have hsk := hso k hlt
            clear hso
            generalize hst : nth p.stops k = s at *
            obtain ⟨sr, so⟩ := s
            dsimp only at hs hsk
            by_cases h1 : sr = (j : Int)
            · rw [if_pos h1, List.append_nil] at hs
              have ks := keep hs
              clear hs
              repeat' (first | (with_reducible first | refine awp_seq ?_ | refine awp_blockS ?_ | refine awp_blockC ?_ | refine awp_blockR ?_ | refine awp_skip ?_ | refine awp_ret ?_ | refine awp_exit ?_ | refine awp_region ?_ | refine awp_regionD (id := 10) 8 mixed (by decide +kernel) ?_ | refine awp_condM ?_ | refine And.intro ?_ ?_ | apply gQ_merge | apply gE_merge | exact EqV_w | exact EqE_w | exact EqV_ptr | exact EqE_ptr | exact EqV_msl | exact EqE_msl | exact EqV_agg | exact EqE_agg | exact EqV_fn | exact EqE_fn | exact EqV_gd | exact EqE_gd | refine gM_splitN ?_ ?_ | refine gM_split ?_ ?_ |  refine condM_splitDN ?_ ?_ | refine condM_splitD ?_ ?_ | refine condM_splitN ?_ ?_ | refine condM_split ?_ ?_ | refine condM_any ?_ ?_ | intro _) | (simp [*, hlt, h1, cStop]))
              all_goals try first | exact inI64 (by omega) (by omega) | omega
              all_goals (refine loopK_normal _ _ _ _ _ (k + 1) _ ?_ (by first | omega | (dsimp only; omega) | (simp; omega)) ?_; (· omega); (refine le_gen [] ?_ ?_ <;> first | trivial | (simp [*, show woF (j : Int) (p.stops.take (k + 1)) = _ from ks]; done)))
            · rw [if_neg h1] at hs
              by_cases h2 : (j : Int) < sr
              · rw [if_pos h2] at hs
                have ks := keep hs
                clear hs
                repeat' (first | (with_reducible first | refine awp_seq ?_ | refine awp_blockS ?_ | refine awp_blockC ?_ | refine awp_blockR ?_ | refine awp_skip ?_ | refine awp_ret ?_ | refine awp_exit ?_ | refine awp_region ?_ | refine awp_regionD (id := 10) 8 mixed (by decide +kernel) ?_ | refine awp_condM ?_ | refine And.intro ?_ ?_ | apply gQ_merge | apply gE_merge | exact EqV_w | exact EqE_w | exact EqV_ptr | exact EqE_ptr | exact EqV_msl | exact EqE_msl | exact EqV_agg | exact EqE_agg | exact EqV_fn | exact EqE_fn | exact EqV_gd | exact EqE_gd | refine gM_splitN ?_ ?_ | refine gM_split ?_ ?_ |  refine condM_splitDN ?_ ?_ | refine condM_splitD ?_ ?_ | refine condM_splitN ?_ ?_ | refine condM_split ?_ ?_ | refine condM_any ?_ ?_ | intro _) | (simp [*, hlt, h1, h2, cStop]))
                all_goals try first | exact inI64 (by omega) (by omega) | omega
                all_goals (refine loopK_normal _ _ _ _ _ (k + 1) _ ?_ (by first | omega | (dsimp only; omega) | (simp; omega)) ?_; (· omega); (refine le_gen [] ?_ ?_ <;> first | trivial | (simp [*, show woF (j : Int) (p.stops.take (k + 1)) = _ from ks, Nat.add_mul]; done)))
              · rw [if_neg h2] at hs
                have ks := keep hs
                clear hs
                repeat' (first | (with_reducible first | refine awp_seq ?_ | refine awp_blockS ?_ | refine awp_blockC ?_ | refine awp_blockR ?_ | refine awp_skip ?_ | refine awp_ret ?_ | refine awp_exit ?_ | refine awp_region ?_ | refine awp_regionD (id := 10) 8 mixed (by decide +kernel) ?_ | refine awp_condM ?_ | refine And.intro ?_ ?_ | apply gQ_merge | apply gE_merge | exact EqV_w | exact EqE_w | exact EqV_ptr | exact EqE_ptr | exact EqV_msl | exact EqE_msl | exact EqV_agg | exact EqE_agg | exact EqV_fn | exact EqE_fn | exact EqV_gd | exact EqE_gd | refine gM_splitN ?_ ?_ | refine gM_split ?_ ?_ |  refine condM_splitDN ?_ ?_ | refine condM_splitD ?_ ?_ | refine condM_splitN ?_ ?_ | refine condM_split ?_ ?_ | refine condM_any ?_ ?_ | intro _) | (simp [*, hlt, h1, h2, cStop]))
                all_goals try first | exact inI64 (by omega) (by omega) | omega
                all_goals (refine loopK_normal _ _ _ _ _ (k + 1) _ ?_ (by first | omega | (dsimp only; omega) | (simp; omega)) ?_; (· omega); (refine le_gen [] ?_ ?_ <;> first | trivial | (simp [*, show woF (j : Int) (p.stops.take (k + 1)) = _ from ks, Nat.add_mul]; done)))
          · have hke : k = p.stops.length := by omega
            subst hke
            repeat' (first | (with_reducible first | refine awp_seq ?_ | refine awp_blockS ?_ | refine awp_blockC ?_ | refine awp_blockR ?_ | refine awp_skip ?_ | refine awp_ret ?_ | refine awp_exit ?_ | refine awp_region ?_ | refine awp_regionD (id := 10) 8 mixed (by decide +kernel) ?_ | refine awp_condM ?_ | refine And.intro ?_ ?_ | apply gQ_merge | apply gE_merge | exact EqV_w | exact EqE_w | exact EqV_ptr | exact EqE_ptr | exact EqV_msl | exact EqE_msl | exact EqV_agg | exact EqE_agg | exact EqV_fn | exact EqE_fn | exact EqV_gd | exact EqE_gd | refine gM_splitN ?_ ?_ | refine gM_split ?_ ?_ |  refine condM_splitDN ?_ ?_ | refine condM_splitD ?_ ?_ | refine condM_splitN ?_ ?_ | refine condM_split ?_ ?_ | refine condM_any ?_ ?_ | intro _) | (simp [*]))
            all_goals (refine finW_intro () ?_ ?_; (· trivial); (refine le_gen [] ?_ ?_ <;> first | trivial | (simp [*, List.take_length]; done)))
        · repeat' (first | (with_reducible first | refine awp_seq ?_ | refine awp_blockS ?_ | refine awp_blockC ?_ | refine awp_blockR ?_ | refine awp_skip ?_ | refine awp_ret ?_ | refine awp_exit ?_ | refine awp_region ?_ | refine awp_regionD (id := 10) 8 mixed (by decide +kernel) ?_ | refine awp_condM ?_ | refine And.intro ?_ ?_ | apply gQ_merge | apply gE_merge | exact EqV_w | exact EqE_w | exact EqV_ptr | exact EqE_ptr | exact EqV_msl | exact EqE_msl | exact EqV_agg | exact EqE_agg | exact EqV_fn | exact EqE_fn | exact EqV_gd | exact EqE_gd | refine gM_splitN ?_ ?_ | refine gM_split ?_ ?_ |  refine condM_splitDN ?_ ?_ | refine condM_splitD ?_ ?_ | refine condM_splitN ?_ ?_ | refine condM_split ?_ ?_ | refine condM_any ?_ ?_ | intro _) | (simp [*]))
          all_goals exact hAl
end Go.Proofs.Ytceimmohnniebaa
