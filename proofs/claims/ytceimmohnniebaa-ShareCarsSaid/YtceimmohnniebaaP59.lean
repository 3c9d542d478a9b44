/- Contracts of functions for this claim: lemmas alone. -/
import Derived.Test.YtceimmohnniebaaP58
import Derived.Test.YtceimmohnniebaaP56
set_option linter.unusedSimpArgs false
set_option linter.unusedVariables false
namespace Go.Proofs.Ytceimmohnniebaa
open Go Go.Fi
set_option maxRecDepth 20000

theorem bestF_step (x b : Offer) : bestF [x] (some b) = some (if x.2.2 < b.2.2 then x else b) := by
  unfold bestF
  split <;> rfl
set_option maxHeartbeats 16000000 in
theorem rBestInsert_c (m : Grid) (p : Plan) (r : Rider) (ok : OfferOk m p r) : RealCall Try.prog 42 [aMap m, aPlan p, .agg (cRider r)] (bestP (bestS m p r)) true := by
  have c1 := rInserts_c m p r ok
  have hlen : (offersS m p r).length < 100000000 := by
    have h := offO_len m p r ok.sl (p.stops.length + 1)
    have := ok.sl
    unfold offersS
    omega
  clear ok
  have hB : bestS m p r = bestF (offersS m p r) none := rfl
  unfold bestP
  generalize bestS m p r = R at *
  generalize offersS m p r = l at *
  cases l with
  | nil =>
    rw [bestF_nil] at hB
    subst hB
    clear hlen
    unfold aMap aPlan cPlan cRider at *
    refine realcall_intro Try.func42 (by kernel_rfl) rfl (Nat.le_of_ble_eq_true (by kernel_rfl)) ?_
    simp only [Try.results42, Try.ntmps42]
    repeat' (first | (with_reducible first | refine awp_seq ?_ | refine awp_blockS ?_ | refine awp_blockC ?_ | refine awp_blockR ?_ | refine awp_skip ?_ | refine awp_ret ?_ | refine awp_exit ?_ | refine awp_region ?_ | refine awp_regionD (id := 8) 8 mixed (by decide +kernel) ?_ | refine awp_condM ?_ | refine And.intro ?_ ?_ | apply gQ_merge | apply gE_merge | exact EqV_w | exact EqE_w | exact EqV_ptr | exact EqE_ptr | exact EqV_msl | exact EqE_msl | exact EqV_agg | exact EqE_agg | exact EqV_fn | exact EqE_fn | exact EqV_gd | exact EqE_gd | refine gM_splitN ?_ ?_ | refine gM_split ?_ ?_ |  refine condM_splitDN ?_ ?_ | refine condM_splitD ?_ ?_ | refine condM_splitN ?_ ?_ | refine condM_split ?_ ?_ | refine condM_any ?_ ?_ | refine cw (c1) ?_ | intro _) | (simp [*]) | (refine cw_eq (c1) ?_ ?_; (· (simp [*]; done))))
  | cons y l' =>
    have h1 : bestF ((y :: l').take 1) none = some y := rfl
    have hpos : 0 < (y :: l').length := Nat.zero_lt_succ _
    have hn : ¬ (y :: l').length = 0 := Nat.succ_ne_zero _
    have hn' : ¬ ((y :: l').length : Int) = 0 := by omega
    have hy : nth (y :: l') 0 = y := rfl
    generalize y :: l' = l at *
    have kB := keep hB
    have kh := keep h1
    clear hB h1
    have kd := cOffers_drop l 0 hpos
    rw [Nat.zero_mul, List.drop_zero, hy] at kd
    unfold aMap aPlan cPlan cRider at *
    refine realcall_intro Try.func42 (by kernel_rfl) rfl (Nat.le_of_ble_eq_true (by kernel_rfl)) ?_
    simp only [Try.results42, Try.ntmps42]
    repeat' (first | (with_reducible first | refine awp_seq ?_ | refine awp_blockS ?_ | refine awp_blockC ?_ | refine awp_blockR ?_ | refine awp_skip ?_ | refine awp_ret ?_ | refine awp_exit ?_ | refine awp_region ?_ | refine awp_regionD (id := 8) 8 mixed (by decide +kernel) ?_ | refine awp_condM ?_ | refine And.intro ?_ ?_ | apply gQ_merge | apply gE_merge | exact EqV_w | exact EqE_w | exact EqV_ptr | exact EqE_ptr | exact EqV_msl | exact EqE_msl | exact EqV_agg | exact EqE_agg | exact EqV_fn | exact EqE_fn | exact EqV_gd | exact EqE_gd | refine gM_splitN ?_ ?_ | refine gM_split ?_ ?_ |  refine condM_splitDN ?_ ?_ | refine condM_splitD ?_ ?_ | refine condM_splitN ?_ ?_ | refine condM_split ?_ ?_ | refine condM_any ?_ ?_ | refine cw (c1) ?_ | intro _) | (simp [*, hn', hpos, kd, cOffer]) | (refine cw_eq (c1) ?_ ?_; (· (simp [*]; done))))
    all_goals try first | exact inI64 (by omega) (by omega) | omega
    refine awp_for3 (fun (x : Nat × Offer) => (1 ≤ x.1 ∧ x.1 ≤ l.length) ∧ bestF (l.take x.1) none = some x.2) [6, 8, 9] (fun (x : Nat × Offer) => [(10, .w false false (.int .i64 x.1))]) [0, 1, 2, 3] (fun (x : Nat × Offer) => [(4, [.w true false (.int .i64 x.2.1), .w true false (.int .i64 x.2.2.1), .w true false (.int .i64 x.2.2.2)])]) (fun (x : Nat × Offer) => l.length - x.1) (fun (b : Offer) => R = some b) [6, 9] (fun (b : Offer) => []) [3] (fun (b : Offer) => [(4, [.w true false (.int .i64 b.1), .w true false (.int .i64 b.2.1), .w true false (.int .i64 b.2.2)])]) (((1 : Nat), y)) ⟨⟨Nat.le_refl _, hpos⟩, kh⟩ (by simp) (by simp) (fun x hk => ?_) (fun b hf => ?_)
    · obtain ⟨k, b⟩ := x
      obtain ⟨⟨hk1, hk⟩, hb⟩ := hk
      have hk1 : 1 ≤ k := hk1
      have hk : k ≤ l.length := hk
      have hb : bestF (l.take k) none = some b := hb
      by_cases hlt : k < l.length
      · have hs : Keep (bestF (l.take (k + 1)) none = some (if (nth l k).2.2 < b.2.2 then nth l k else b)) := by
          show _ = _
          rw [take_succ_nth l k hlt, bestF_snoc, hb, bestF_step]
        have hlI : (k : Int) < (l.length : Int) := by omega
        clear hb kd hy
        by_cases hc : (nth l k).2.2 < b.2.2
        · have hs2 : Keep (bestF (l.take (k + 1)) none = some (nth l k)) := by rw [if_pos hc] at hs; exact hs
          clear hs
          repeat' (first | (with_reducible first | refine awp_seq ?_ | refine awp_blockS ?_ | refine awp_blockC ?_ | refine awp_blockR ?_ | refine awp_skip ?_ | refine awp_ret ?_ | refine awp_exit ?_ | refine awp_region ?_ | refine awp_regionD (id := 8) 8 mixed (by decide +kernel) ?_ | refine awp_condM ?_ | refine And.intro ?_ ?_ | apply gQ_merge | apply gE_merge | exact EqV_w | exact EqE_w | exact EqV_ptr | exact EqE_ptr | exact EqV_msl | exact EqE_msl | exact EqV_agg | exact EqE_agg | exact EqV_fn | exact EqE_fn | exact EqV_gd | exact EqE_gd | refine gM_splitN ?_ ?_ | refine gM_split ?_ ?_ |  refine condM_splitDN ?_ ?_ | refine condM_splitD ?_ ?_ | refine condM_splitN ?_ ?_ | refine condM_split ?_ ?_ | refine condM_any ?_ ?_ | intro _) | (simp [*, hlt, hlI, hc, cOffer]))
          all_goals try first | exact inI64 (by omega) (by omega) | omega
          all_goals (refine loopK_normal _ _ _ _ _ (k + 1, nth l k) _ ?_ (by first | omega | (dsimp only; omega) | (simp; omega)) ?_; (· exact ⟨⟨by dsimp only; omega, by dsimp only; omega⟩, hs2⟩); (refine le_of ?_ ?_ <;> first | trivial | (simp [*]; done)))
        · have hs2 : Keep (bestF (l.take (k + 1)) none = some b) := by rw [if_neg hc] at hs; exact hs
          clear hs
          repeat' (first | (with_reducible first | refine awp_seq ?_ | refine awp_blockS ?_ | refine awp_blockC ?_ | refine awp_blockR ?_ | refine awp_skip ?_ | refine awp_ret ?_ | refine awp_exit ?_ | refine awp_region ?_ | refine awp_regionD (id := 8) 8 mixed (by decide +kernel) ?_ | refine awp_condM ?_ | refine And.intro ?_ ?_ | apply gQ_merge | apply gE_merge | exact EqV_w | exact EqE_w | exact EqV_ptr | exact EqE_ptr | exact EqV_msl | exact EqE_msl | exact EqV_agg | exact EqE_agg | exact EqV_fn | exact EqE_fn | exact EqV_gd | exact EqE_gd | refine gM_splitN ?_ ?_ | refine gM_split ?_ ?_ |  refine condM_splitDN ?_ ?_ | refine condM_splitD ?_ ?_ | refine condM_splitN ?_ ?_ | refine condM_split ?_ ?_ | refine condM_any ?_ ?_ | intro _) | (simp [*, hlt, hlI, hc, cOffer]))
          all_goals try first | exact inI64 (by omega) (by omega) | omega
          all_goals (refine loopK_normal _ _ _ _ _ (k + 1, b) _ ?_ (by first | omega | (dsimp only; omega) | (simp; omega)) ?_; (· exact ⟨⟨by dsimp only; omega, by dsimp only; omega⟩, hs2⟩); (refine le_of ?_ ?_ <;> first | trivial | (simp [*]; done)))
      · have hke : k = l.length := by omega
        subst hke
        rw [List.take_length] at hb
        have kR : Keep (R = some b) := by show R = some b; rw [← hb]; exact kB
        clear hb kd hy
        repeat' (first | (with_reducible first | refine awp_seq ?_ | refine awp_blockS ?_ | refine awp_blockC ?_ | refine awp_blockR ?_ | refine awp_skip ?_ | refine awp_ret ?_ | refine awp_exit ?_ | refine awp_region ?_ | refine awp_regionD (id := 8) 8 mixed (by decide +kernel) ?_ | refine awp_condM ?_ | refine And.intro ?_ ?_ | apply gQ_merge | apply gE_merge | exact EqV_w | exact EqE_w | exact EqV_ptr | exact EqE_ptr | exact EqV_msl | exact EqE_msl | exact EqV_agg | exact EqE_agg | exact EqV_fn | exact EqE_fn | exact EqV_gd | exact EqE_gd | refine gM_splitN ?_ ?_ | refine gM_split ?_ ?_ |  refine condM_splitDN ?_ ?_ | refine condM_splitD ?_ ?_ | refine condM_splitN ?_ ?_ | refine condM_split ?_ ?_ | refine condM_any ?_ ?_ | intro _) | (simp [*]))
        all_goals (refine finW_intro b ?_ ?_; (· exact kR); (refine le_of ?_ ?_ <;> first | trivial | (simp [*]; done)))
    · subst hf
      clear kd hy kB
      repeat' (first | (with_reducible first | refine awp_seq ?_ | refine awp_blockS ?_ | refine awp_blockC ?_ | refine awp_blockR ?_ | refine awp_skip ?_ | refine awp_ret ?_ | refine awp_exit ?_ | refine awp_region ?_ | refine awp_regionD (id := 8) 8 mixed (by decide +kernel) ?_ | refine awp_condM ?_ | refine And.intro ?_ ?_ | apply gQ_merge | apply gE_merge | exact EqV_w | exact EqE_w | exact EqV_ptr | exact EqE_ptr | exact EqV_msl | exact EqE_msl | exact EqV_agg | exact EqE_agg | exact EqV_fn | exact EqE_fn | exact EqV_gd | exact EqE_gd | refine gM_splitN ?_ ?_ | refine gM_split ?_ ?_ |  refine condM_splitDN ?_ ?_ | refine condM_splitD ?_ ?_ | refine condM_splitN ?_ ?_ | refine condM_split ?_ ?_ | refine condM_any ?_ ?_ | intro _) | (simp [*]))
end Go.Proofs.Ytceimmohnniebaa
