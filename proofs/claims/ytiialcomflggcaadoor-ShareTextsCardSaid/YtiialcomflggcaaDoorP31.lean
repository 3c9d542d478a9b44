/- Contracts of functions for this claim: lemmas alone. -/
import Derived.Test.YtiialcomflggcaaDoorP29
set_option linter.unusedSimpArgs false
set_option linter.unusedVariables false
namespace Go.Proofs.YtiialcomflggcaaDoor
open Go Go.Fi
set_option maxRecDepth 20000

theorem int_ext {x y : Int} : x = y ↔ x = y := Iff.rfl
theorem offer_ext {x y : Offer} : x = y ↔ x.1 = y.1 ∧ x.2.1 = y.2.1 ∧ x.2.2 = y.2.2 := by
  obtain ⟨a, b, c⟩ := x; obtain ⟨d, e, f⟩ := y; simp
theorem stop_ext {x y : Stop} : x = y ↔ x.rider = y.rider ∧ x.out = y.out := by
  obtain ⟨a, b⟩ := x; obtain ⟨d, e⟩ := y; simp
theorem rider_ext {x y : Rider} : x = y ↔ x.name = y.name ∧ x.frm = y.frm ∧ x.to = y.to ∧ x.seats = y.seats ∧ x.detour = y.detour ∧ x.ready = y.ready ∧ x.aboard = y.aboard ∧ x.ridden = y.ridden := by
  obtain ⟨a1, a2, a3, a4, a5, a6, a7, a8⟩ := x; obtain ⟨b1, b2, b3, b4, b5, b6, b7, b8⟩ := y; simp
theorem car_ext {x y : Car} : x = y ↔ x.at_ = y.at_ ∧ x.time = y.time ∧ x.seats = y.seats := by
  obtain ⟨a, b, c⟩ := x; obtain ⟨d, e, f⟩ := y; simp
theorem plan_ext {x y : Plan} : x = y ↔ x.car = y.car ∧ x.riders = y.riders ∧ x.stops = y.stops := by
  obtain ⟨a, b, c⟩ := x; obtain ⟨d, e, f⟩ := y; simp
instance : DecidableEq Rider := fun _ _ => decidable_of_iff _ rider_ext.symm
instance : DecidableEq Car := fun _ _ => decidable_of_iff _ car_ext.symm
instance : DecidableEq Plan := fun _ _ => decidable_of_iff _ plan_ext.symm
set_option maxHeartbeats 4000000 in
theorem ints_c (a b : List Int) (ha : a.length < 10000000) : RealCall Tryd.prog 20 [.sl a.length (ints a), .sl b.length (ints b)] (.bool (decide (a = b))) true := by
  generalize hR : decide (a = b) = R
  by_cases hl : a.length = b.length
  · have kR := keep hR
    clear hR
    have hbl : b.length < 10000000 := by omega
    have hli : ¬ ¬ (a.length : Int) = (b.length : Int) := by omega
    refine realcall_intro Tryd.func20 (by kernel_rfl) rfl (Nat.le_of_ble_eq_true (by kernel_rfl)) ?_
    simp only [Tryd.results20, Tryd.ntmps20]
    repeat' (first | (with_reducible first | refine awp_seq ?_ | refine awp_blockS ?_ | refine awp_blockC ?_ | refine awp_blockR ?_ | refine awp_skip ?_ | refine awp_ret ?_ | refine awp_exit ?_ | refine awp_region ?_ | refine awp_regionD (id := 6) 9 mixed (by decide +kernel) ?_ | refine awp_condM ?_ | refine And.intro ?_ ?_ | apply gQ_merge | apply gE_merge | exact EqV_w | exact EqE_w | exact EqV_ptr | exact EqE_ptr | exact EqV_msl | exact EqE_msl | exact EqV_agg | exact EqE_agg | exact EqV_fn | exact EqE_fn | exact EqV_gd | exact EqE_gd | refine gM_splitN ?_ ?_ | refine gM_split ?_ ?_ |  refine condM_splitDN ?_ ?_ | refine condM_splitD ?_ ?_ | refine condM_splitN ?_ ?_ | refine condM_split ?_ ?_ | refine condM_any ?_ ?_ | intro _) | (simp [*, hl]))
    refine awp_for3 (fun (k : Nat) => k ≤ b.length ∧ a.take k = b.take k) [0, 1] (fun (k : Nat) => [(5, .w false false (.int .i64 k))]) [] (fun (k : Nat) => []) (fun (k : Nat) => b.length - k) (fun (_u : Unit) => Keep (a = b)) [] (fun (_u : Unit) => []) [] (fun (_u : Unit) => []) (0) ⟨Nat.zero_le _, rfl⟩ (by simp) (by simp) (fun k hk => ?_) (fun _u hf => ?_)
    · obtain ⟨hk, hj⟩ := hk
      by_cases hlt : k < b.length
      · have hla : k < a.length := by omega
        have t1 := take_succ_nth a k hla
        have t2 := take_succ_nth b k hlt
        by_cases heq : nth a k = nth b k
        · have kj : Keep (a.take (k + 1) = b.take (k + 1)) := keep (by rw [t1, t2, hj, heq])
          clear hj t1 t2
          repeat' (first | (with_reducible first | refine awp_seq ?_ | refine awp_blockS ?_ | refine awp_blockC ?_ | refine awp_blockR ?_ | refine awp_skip ?_ | refine awp_ret ?_ | refine awp_exit ?_ | refine awp_region ?_ | refine awp_regionD (id := 6) 9 mixed (by decide +kernel) ?_ | refine awp_condM ?_ | refine And.intro ?_ ?_ | apply gQ_merge | apply gE_merge | exact EqV_w | exact EqE_w | exact EqV_ptr | exact EqE_ptr | exact EqV_msl | exact EqE_msl | exact EqV_agg | exact EqE_agg | exact EqV_fn | exact EqE_fn | exact EqV_gd | exact EqE_gd | refine gM_splitN ?_ ?_ | refine gM_split ?_ ?_ |  refine condM_splitDN ?_ ?_ | refine condM_splitD ?_ ?_ | refine condM_splitN ?_ ?_ | refine condM_split ?_ ?_ | refine condM_any ?_ ?_ | intro _) | (simp [*, hlt, hla, hl,]))
          all_goals first
            | exact inI64 (by omega) (by omega)
            | omega
            | (refine loopK_normal _ _ _ _ _ (k + 1) _ ?_ (by first | omega | (dsimp only; omega) | (simp; omega)) ?_; (· exact ⟨by omega, kj⟩); (refine le_of ?_ ?_ <;> first | trivial | (simp [*]; done)))
            | skip
        · have hne : ¬ a = b := fun e => heq (by rw [e])
          have hR : R = false := by have h : decide (a = b) = R := kR; rw [← h]; exact decide_eq_false hne
          subst hR
          clear hj t1 t2 kR hne
          repeat' (first | (with_reducible first | refine awp_seq ?_ | refine awp_blockS ?_ | refine awp_blockC ?_ | refine awp_blockR ?_ | refine awp_skip ?_ | refine awp_ret ?_ | refine awp_exit ?_ | refine awp_region ?_ | refine awp_regionD (id := 6) 9 mixed (by decide +kernel) ?_ | refine awp_condM ?_ | refine And.intro ?_ ?_ | apply gQ_merge | apply gE_merge | exact EqV_w | exact EqE_w | exact EqV_ptr | exact EqE_ptr | exact EqV_msl | exact EqE_msl | exact EqV_agg | exact EqE_agg | exact EqV_fn | exact EqE_fn | exact EqV_gd | exact EqE_gd | refine gM_splitN ?_ ?_ | refine gM_split ?_ ?_ |  refine condM_splitDN ?_ ?_ | refine condM_splitD ?_ ?_ | refine condM_splitN ?_ ?_ | refine condM_split ?_ ?_ | refine condM_any ?_ ?_ | intro _) | (simp [*, hlt, hla, hl,]))
          all_goals first
            | exact inI64 (by omega) (by omega)
            | omega
            | (rename_i hc; exact absurd (int_ext.2 (by simpa using hc)) heq)
            | skip
      · have hke : k = b.length := by omega
        subst hke
        have kj : Keep (a = b) := keep (by rw [← hl, List.take_length, hl, List.take_length] at hj; exact hj)
        clear hj
        repeat' (first | (with_reducible first | refine awp_seq ?_ | refine awp_blockS ?_ | refine awp_blockC ?_ | refine awp_blockR ?_ | refine awp_skip ?_ | refine awp_ret ?_ | refine awp_exit ?_ | refine awp_region ?_ | refine awp_regionD (id := 6) 9 mixed (by decide +kernel) ?_ | refine awp_condM ?_ | refine And.intro ?_ ?_ | apply gQ_merge | apply gE_merge | exact EqV_w | exact EqE_w | exact EqV_ptr | exact EqE_ptr | exact EqV_msl | exact EqE_msl | exact EqV_agg | exact EqE_agg | exact EqV_fn | exact EqE_fn | exact EqV_gd | exact EqE_gd | refine gM_splitN ?_ ?_ | refine gM_split ?_ ?_ |  refine condM_splitDN ?_ ?_ | refine condM_splitD ?_ ?_ | refine condM_splitN ?_ ?_ | refine condM_split ?_ ?_ | refine condM_any ?_ ?_ | intro _) | (simp [*, hl]))
        all_goals (refine finW_intro () ?_ ?_; (· first | exact kj | trivial); (refine le_of ?_ ?_ <;> first | trivial | (simp [*]; done)))
    · have hR : R = true := by have h : decide (a = b) = R := kR; rw [← h]; exact decide_eq_true hf
      clear hf kR
      subst hR
      repeat' (first | (with_reducible first | refine awp_seq ?_ | refine awp_blockS ?_ | refine awp_blockC ?_ | refine awp_blockR ?_ | refine awp_skip ?_ | refine awp_ret ?_ | refine awp_exit ?_ | refine awp_region ?_ | refine awp_regionD (id := 6) 9 mixed (by decide +kernel) ?_ | refine awp_condM ?_ | refine And.intro ?_ ?_ | apply gQ_merge | apply gE_merge | exact EqV_w | exact EqE_w | exact EqV_ptr | exact EqE_ptr | exact EqV_msl | exact EqE_msl | exact EqV_agg | exact EqE_agg | exact EqV_fn | exact EqE_fn | exact EqV_gd | exact EqE_gd | refine gM_splitN ?_ ?_ | refine gM_split ?_ ?_ |  refine condM_splitDN ?_ ?_ | refine condM_splitD ?_ ?_ | refine condM_splitN ?_ ?_ | refine condM_split ?_ ?_ | refine condM_any ?_ ?_ | intro _) | (simp [*]))
  · have hne : ¬ a = b := fun e => hl (by rw [e])
    have hR : R = false := by rw [← hR]; exact decide_eq_false hne
    clear hne
    subst hR
    have hli : ¬ (a.length : Int) = (b.length : Int) := by omega
    refine realcall_intro Tryd.func20 (by kernel_rfl) rfl (Nat.le_of_ble_eq_true (by kernel_rfl)) ?_
    simp only [Tryd.results20, Tryd.ntmps20]
    repeat' (first | (with_reducible first | refine awp_seq ?_ | refine awp_blockS ?_ | refine awp_blockC ?_ | refine awp_blockR ?_ | refine awp_skip ?_ | refine awp_ret ?_ | refine awp_exit ?_ | refine awp_region ?_ | refine awp_regionD (id := 6) 9 mixed (by decide +kernel) ?_ | refine awp_condM ?_ | refine And.intro ?_ ?_ | apply gQ_merge | apply gE_merge | exact EqV_w | exact EqE_w | exact EqV_ptr | exact EqE_ptr | exact EqV_msl | exact EqE_msl | exact EqV_agg | exact EqE_agg | exact EqV_fn | exact EqE_fn | exact EqV_gd | exact EqE_gd | refine gM_splitN ?_ ?_ | refine gM_split ?_ ?_ |  refine condM_splitDN ?_ ?_ | refine condM_splitD ?_ ?_ | refine condM_splitN ?_ ?_ | refine condM_split ?_ ?_ | refine condM_any ?_ ?_ | intro _) | (simp [*, hli]))
set_option maxHeartbeats 4000000 in
theorem sameOffers_c (a b : List Offer) (ha : a.length < 10000000) : RealCall Tryd.prog 21 [.sl a.length (cOffers a), .sl b.length (cOffers b)] (.bool (decide (a = b))) true := by
  generalize hR : decide (a = b) = R
  by_cases hl : a.length = b.length
  · have kR := keep hR
    clear hR
    have hbl : b.length < 10000000 := by omega
    have hli : ¬ ¬ (a.length : Int) = (b.length : Int) := by omega
    refine realcall_intro Tryd.func21 (by kernel_rfl) rfl (Nat.le_of_ble_eq_true (by kernel_rfl)) ?_
    simp only [Tryd.results21, Tryd.ntmps21]
    repeat' (first | (with_reducible first | refine awp_seq ?_ | refine awp_blockS ?_ | refine awp_blockC ?_ | refine awp_blockR ?_ | refine awp_skip ?_ | refine awp_ret ?_ | refine awp_exit ?_ | refine awp_region ?_ | refine awp_regionD (id := 6) 9 mixed (by decide +kernel) ?_ | refine awp_condM ?_ | refine And.intro ?_ ?_ | apply gQ_merge | apply gE_merge | exact EqV_w | exact EqE_w | exact EqV_ptr | exact EqE_ptr | exact EqV_msl | exact EqE_msl | exact EqV_agg | exact EqE_agg | exact EqV_fn | exact EqE_fn | exact EqV_gd | exact EqE_gd | refine gM_splitN ?_ ?_ | refine gM_split ?_ ?_ |  refine condM_splitDN ?_ ?_ | refine condM_splitD ?_ ?_ | refine condM_splitN ?_ ?_ | refine condM_split ?_ ?_ | refine condM_any ?_ ?_ | intro _) | (simp [*, hl]))
    refine awp_for3 (fun (k : Nat) => k ≤ b.length ∧ a.take k = b.take k) [0, 1] (fun (k : Nat) => [(5, .w false false (.int .i64 k))]) [] (fun (k : Nat) => []) (fun (k : Nat) => b.length - k) (fun (_u : Unit) => Keep (a = b)) [] (fun (_u : Unit) => []) [] (fun (_u : Unit) => []) (0) ⟨Nat.zero_le _, rfl⟩ (by simp) (by simp) (fun k hk => ?_) (fun _u hf => ?_)
    · obtain ⟨hk, hj⟩ := hk
      by_cases hlt : k < b.length
      · have hla : k < a.length := by omega
        have t1 := take_succ_nth a k hla
        have t2 := take_succ_nth b k hlt
        by_cases heq : nth a k = nth b k
        · have kj : Keep (a.take (k + 1) = b.take (k + 1)) := keep (by rw [t1, t2, hj, heq])
          clear hj t1 t2
          repeat' (first | (with_reducible first | refine awp_seq ?_ | refine awp_blockS ?_ | refine awp_blockC ?_ | refine awp_blockR ?_ | refine awp_skip ?_ | refine awp_ret ?_ | refine awp_exit ?_ | refine awp_region ?_ | refine awp_regionD (id := 6) 9 mixed (by decide +kernel) ?_ | refine awp_condM ?_ | refine And.intro ?_ ?_ | apply gQ_merge | apply gE_merge | exact EqV_w | exact EqE_w | exact EqV_ptr | exact EqE_ptr | exact EqV_msl | exact EqE_msl | exact EqV_agg | exact EqE_agg | exact EqV_fn | exact EqE_fn | exact EqV_gd | exact EqE_gd | refine gM_splitN ?_ ?_ | refine gM_split ?_ ?_ |  refine condM_splitDN ?_ ?_ | refine condM_splitD ?_ ?_ | refine condM_splitN ?_ ?_ | refine condM_split ?_ ?_ | refine condM_any ?_ ?_ | intro _) | (simp [*, hlt, hla, hl, cOffer]))
          all_goals first
            | exact inI64 (by omega) (by omega)
            | omega
            | (refine loopK_normal _ _ _ _ _ (k + 1) _ ?_ (by first | omega | (dsimp only; omega) | (simp; omega)) ?_; (· exact ⟨by omega, kj⟩); (refine le_of ?_ ?_ <;> first | trivial | (simp [*]; done)))
            | skip
        · have hne : ¬ a = b := fun e => heq (by rw [e])
          have hR : R = false := by have h : decide (a = b) = R := kR; rw [← h]; exact decide_eq_false hne
          subst hR
          clear hj t1 t2 kR hne
          repeat' (first | (with_reducible first | refine awp_seq ?_ | refine awp_blockS ?_ | refine awp_blockC ?_ | refine awp_blockR ?_ | refine awp_skip ?_ | refine awp_ret ?_ | refine awp_exit ?_ | refine awp_region ?_ | refine awp_regionD (id := 6) 9 mixed (by decide +kernel) ?_ | refine awp_condM ?_ | refine And.intro ?_ ?_ | apply gQ_merge | apply gE_merge | exact EqV_w | exact EqE_w | exact EqV_ptr | exact EqE_ptr | exact EqV_msl | exact EqE_msl | exact EqV_agg | exact EqE_agg | exact EqV_fn | exact EqE_fn | exact EqV_gd | exact EqE_gd | refine gM_splitN ?_ ?_ | refine gM_split ?_ ?_ |  refine condM_splitDN ?_ ?_ | refine condM_splitD ?_ ?_ | refine condM_splitN ?_ ?_ | refine condM_split ?_ ?_ | refine condM_any ?_ ?_ | intro _) | (simp [*, hlt, hla, hl, cOffer]))
          all_goals first
            | exact inI64 (by omega) (by omega)
            | omega
            | (rename_i hc; exact absurd (offer_ext.2 (by simpa using hc)) heq)
            | skip
      · have hke : k = b.length := by omega
        subst hke
        have kj : Keep (a = b) := keep (by rw [← hl, List.take_length, hl, List.take_length] at hj; exact hj)
        clear hj
        repeat' (first | (with_reducible first | refine awp_seq ?_ | refine awp_blockS ?_ | refine awp_blockC ?_ | refine awp_blockR ?_ | refine awp_skip ?_ | refine awp_ret ?_ | refine awp_exit ?_ | refine awp_region ?_ | refine awp_regionD (id := 6) 9 mixed (by decide +kernel) ?_ | refine awp_condM ?_ | refine And.intro ?_ ?_ | apply gQ_merge | apply gE_merge | exact EqV_w | exact EqE_w | exact EqV_ptr | exact EqE_ptr | exact EqV_msl | exact EqE_msl | exact EqV_agg | exact EqE_agg | exact EqV_fn | exact EqE_fn | exact EqV_gd | exact EqE_gd | refine gM_splitN ?_ ?_ | refine gM_split ?_ ?_ |  refine condM_splitDN ?_ ?_ | refine condM_splitD ?_ ?_ | refine condM_splitN ?_ ?_ | refine condM_split ?_ ?_ | refine condM_any ?_ ?_ | intro _) | (simp [*, hl]))
        all_goals (refine finW_intro () ?_ ?_; (· first | exact kj | trivial); (refine le_of ?_ ?_ <;> first | trivial | (simp [*]; done)))
    · have hR : R = true := by have h : decide (a = b) = R := kR; rw [← h]; exact decide_eq_true hf
      clear hf kR
      subst hR
      repeat' (first | (with_reducible first | refine awp_seq ?_ | refine awp_blockS ?_ | refine awp_blockC ?_ | refine awp_blockR ?_ | refine awp_skip ?_ | refine awp_ret ?_ | refine awp_exit ?_ | refine awp_region ?_ | refine awp_regionD (id := 6) 9 mixed (by decide +kernel) ?_ | refine awp_condM ?_ | refine And.intro ?_ ?_ | apply gQ_merge | apply gE_merge | exact EqV_w | exact EqE_w | exact EqV_ptr | exact EqE_ptr | exact EqV_msl | exact EqE_msl | exact EqV_agg | exact EqE_agg | exact EqV_fn | exact EqE_fn | exact EqV_gd | exact EqE_gd | refine gM_splitN ?_ ?_ | refine gM_split ?_ ?_ |  refine condM_splitDN ?_ ?_ | refine condM_splitD ?_ ?_ | refine condM_splitN ?_ ?_ | refine condM_split ?_ ?_ | refine condM_any ?_ ?_ | intro _) | (simp [*]))
  · have hne : ¬ a = b := fun e => hl (by rw [e])
    have hR : R = false := by rw [← hR]; exact decide_eq_false hne
    clear hne
    subst hR
    have hli : ¬ (a.length : Int) = (b.length : Int) := by omega
    refine realcall_intro Tryd.func21 (by kernel_rfl) rfl (Nat.le_of_ble_eq_true (by kernel_rfl)) ?_
    simp only [Tryd.results21, Tryd.ntmps21]
    repeat' (first | (with_reducible first | refine awp_seq ?_ | refine awp_blockS ?_ | refine awp_blockC ?_ | refine awp_blockR ?_ | refine awp_skip ?_ | refine awp_ret ?_ | refine awp_exit ?_ | refine awp_region ?_ | refine awp_regionD (id := 6) 9 mixed (by decide +kernel) ?_ | refine awp_condM ?_ | refine And.intro ?_ ?_ | apply gQ_merge | apply gE_merge | exact EqV_w | exact EqE_w | exact EqV_ptr | exact EqE_ptr | exact EqV_msl | exact EqE_msl | exact EqV_agg | exact EqE_agg | exact EqV_fn | exact EqE_fn | exact EqV_gd | exact EqE_gd | refine gM_splitN ?_ ?_ | refine gM_split ?_ ?_ |  refine condM_splitDN ?_ ?_ | refine condM_splitD ?_ ?_ | refine condM_splitN ?_ ?_ | refine condM_split ?_ ?_ | refine condM_any ?_ ?_ | intro _) | (simp [*, hli]))
set_option maxHeartbeats 4000000 in
theorem sameStops_c (a b : List Stop) (ha : a.length < 10000000) : RealCall Tryd.prog 11 [.sl a.length (cStops a), .sl b.length (cStops b)] (.bool (decide (a = b))) true := by
  generalize hR : decide (a = b) = R
  by_cases hl : a.length = b.length
  · have kR := keep hR
    clear hR
    have hbl : b.length < 10000000 := by omega
    have hli : ¬ ¬ (a.length : Int) = (b.length : Int) := by omega
    refine realcall_intro Tryd.func11 (by kernel_rfl) rfl (Nat.le_of_ble_eq_true (by kernel_rfl)) ?_
    simp only [Tryd.results11, Tryd.ntmps11]
    repeat' (first | (with_reducible first | refine awp_seq ?_ | refine awp_blockS ?_ | refine awp_blockC ?_ | refine awp_blockR ?_ | refine awp_skip ?_ | refine awp_ret ?_ | refine awp_exit ?_ | refine awp_region ?_ | refine awp_regionD (id := 6) 9 mixed (by decide +kernel) ?_ | refine awp_condM ?_ | refine And.intro ?_ ?_ | apply gQ_merge | apply gE_merge | exact EqV_w | exact EqE_w | exact EqV_ptr | exact EqE_ptr | exact EqV_msl | exact EqE_msl | exact EqV_agg | exact EqE_agg | exact EqV_fn | exact EqE_fn | exact EqV_gd | exact EqE_gd | refine gM_splitN ?_ ?_ | refine gM_split ?_ ?_ |  refine condM_splitDN ?_ ?_ | refine condM_splitD ?_ ?_ | refine condM_splitN ?_ ?_ | refine condM_split ?_ ?_ | refine condM_any ?_ ?_ | intro _) | (simp [*, hl]))
    refine awp_for3 (fun (k : Nat) => k ≤ b.length ∧ a.take k = b.take k) [0, 1] (fun (k : Nat) => [(5, .w false false (.int .i64 k))]) [] (fun (k : Nat) => []) (fun (k : Nat) => b.length - k) (fun (_u : Unit) => Keep (a = b)) [] (fun (_u : Unit) => []) [] (fun (_u : Unit) => []) (0) ⟨Nat.zero_le _, rfl⟩ (by simp) (by simp) (fun k hk => ?_) (fun _u hf => ?_)
    · obtain ⟨hk, hj⟩ := hk
      by_cases hlt : k < b.length
      · have hla : k < a.length := by omega
        have t1 := take_succ_nth a k hla
        have t2 := take_succ_nth b k hlt
        by_cases heq : nth a k = nth b k
        · have kj : Keep (a.take (k + 1) = b.take (k + 1)) := keep (by rw [t1, t2, hj, heq])
          clear hj t1 t2
          repeat' (first | (with_reducible first | refine awp_seq ?_ | refine awp_blockS ?_ | refine awp_blockC ?_ | refine awp_blockR ?_ | refine awp_skip ?_ | refine awp_ret ?_ | refine awp_exit ?_ | refine awp_region ?_ | refine awp_regionD (id := 6) 9 mixed (by decide +kernel) ?_ | refine awp_condM ?_ | refine And.intro ?_ ?_ | apply gQ_merge | apply gE_merge | exact EqV_w | exact EqE_w | exact EqV_ptr | exact EqE_ptr | exact EqV_msl | exact EqE_msl | exact EqV_agg | exact EqE_agg | exact EqV_fn | exact EqE_fn | exact EqV_gd | exact EqE_gd | refine gM_splitN ?_ ?_ | refine gM_split ?_ ?_ |  refine condM_splitDN ?_ ?_ | refine condM_splitD ?_ ?_ | refine condM_splitN ?_ ?_ | refine condM_split ?_ ?_ | refine condM_any ?_ ?_ | intro _) | (simp [*, hlt, hla, hl, cStop]))
          all_goals first
            | exact inI64 (by omega) (by omega)
            | omega
            | (refine loopK_normal _ _ _ _ _ (k + 1) _ ?_ (by first | omega | (dsimp only; omega) | (simp; omega)) ?_; (· exact ⟨by omega, kj⟩); (refine le_of ?_ ?_ <;> first | trivial | (simp [*]; done)))
            | skip
        · have hne : ¬ a = b := fun e => heq (by rw [e])
          have hR : R = false := by have h : decide (a = b) = R := kR; rw [← h]; exact decide_eq_false hne
          subst hR
          clear hj t1 t2 kR hne
          repeat' (first | (with_reducible first | refine awp_seq ?_ | refine awp_blockS ?_ | refine awp_blockC ?_ | refine awp_blockR ?_ | refine awp_skip ?_ | refine awp_ret ?_ | refine awp_exit ?_ | refine awp_region ?_ | refine awp_regionD (id := 6) 9 mixed (by decide +kernel) ?_ | refine awp_condM ?_ | refine And.intro ?_ ?_ | apply gQ_merge | apply gE_merge | exact EqV_w | exact EqE_w | exact EqV_ptr | exact EqE_ptr | exact EqV_msl | exact EqE_msl | exact EqV_agg | exact EqE_agg | exact EqV_fn | exact EqE_fn | exact EqV_gd | exact EqE_gd | refine gM_splitN ?_ ?_ | refine gM_split ?_ ?_ |  refine condM_splitDN ?_ ?_ | refine condM_splitD ?_ ?_ | refine condM_splitN ?_ ?_ | refine condM_split ?_ ?_ | refine condM_any ?_ ?_ | intro _) | (simp [*, hlt, hla, hl, cStop]))
          all_goals first
            | exact inI64 (by omega) (by omega)
            | omega
            | (rename_i hc; exact absurd (stop_ext.2 (by simpa using hc)) heq)
            | skip
      · have hke : k = b.length := by omega
        subst hke
        have kj : Keep (a = b) := keep (by rw [← hl, List.take_length, hl, List.take_length] at hj; exact hj)
        clear hj
        repeat' (first | (with_reducible first | refine awp_seq ?_ | refine awp_blockS ?_ | refine awp_blockC ?_ | refine awp_blockR ?_ | refine awp_skip ?_ | refine awp_ret ?_ | refine awp_exit ?_ | refine awp_region ?_ | refine awp_regionD (id := 6) 9 mixed (by decide +kernel) ?_ | refine awp_condM ?_ | refine And.intro ?_ ?_ | apply gQ_merge | apply gE_merge | exact EqV_w | exact EqE_w | exact EqV_ptr | exact EqE_ptr | exact EqV_msl | exact EqE_msl | exact EqV_agg | exact EqE_agg | exact EqV_fn | exact EqE_fn | exact EqV_gd | exact EqE_gd | refine gM_splitN ?_ ?_ | refine gM_split ?_ ?_ |  refine condM_splitDN ?_ ?_ | refine condM_splitD ?_ ?_ | refine condM_splitN ?_ ?_ | refine condM_split ?_ ?_ | refine condM_any ?_ ?_ | intro _) | (simp [*, hl]))
        all_goals (refine finW_intro () ?_ ?_; (· first | exact kj | trivial); (refine le_of ?_ ?_ <;> first | trivial | (simp [*]; done)))
    · have hR : R = true := by have h : decide (a = b) = R := kR; rw [← h]; exact decide_eq_true hf
      clear hf kR
      subst hR
      repeat' (first | (with_reducible first | refine awp_seq ?_ | refine awp_blockS ?_ | refine awp_blockC ?_ | refine awp_blockR ?_ | refine awp_skip ?_ | refine awp_ret ?_ | refine awp_exit ?_ | refine awp_region ?_ | refine awp_regionD (id := 6) 9 mixed (by decide +kernel) ?_ | refine awp_condM ?_ | refine And.intro ?_ ?_ | apply gQ_merge | apply gE_merge | exact EqV_w | exact EqE_w | exact EqV_ptr | exact EqE_ptr | exact EqV_msl | exact EqE_msl | exact EqV_agg | exact EqE_agg | exact EqV_fn | exact EqE_fn | exact EqV_gd | exact EqE_gd | refine gM_splitN ?_ ?_ | refine gM_split ?_ ?_ |  refine condM_splitDN ?_ ?_ | refine condM_splitD ?_ ?_ | refine condM_splitN ?_ ?_ | refine condM_split ?_ ?_ | refine condM_any ?_ ?_ | intro _) | (simp [*]))
  · have hne : ¬ a = b := fun e => hl (by rw [e])
    have hR : R = false := by rw [← hR]; exact decide_eq_false hne
    clear hne
    subst hR
    have hli : ¬ (a.length : Int) = (b.length : Int) := by omega
    refine realcall_intro Tryd.func11 (by kernel_rfl) rfl (Nat.le_of_ble_eq_true (by kernel_rfl)) ?_
    simp only [Tryd.results11, Tryd.ntmps11]
    repeat' (first | (with_reducible first | refine awp_seq ?_ | refine awp_blockS ?_ | refine awp_blockC ?_ | refine awp_blockR ?_ | refine awp_skip ?_ | refine awp_ret ?_ | refine awp_exit ?_ | refine awp_region ?_ | refine awp_regionD (id := 6) 9 mixed (by decide +kernel) ?_ | refine awp_condM ?_ | refine And.intro ?_ ?_ | apply gQ_merge | apply gE_merge | exact EqV_w | exact EqE_w | exact EqV_ptr | exact EqE_ptr | exact EqV_msl | exact EqE_msl | exact EqV_agg | exact EqE_agg | exact EqV_fn | exact EqE_fn | exact EqV_gd | exact EqE_gd | refine gM_splitN ?_ ?_ | refine gM_split ?_ ?_ |  refine condM_splitDN ?_ ?_ | refine condM_splitD ?_ ?_ | refine condM_splitN ?_ ?_ | refine condM_split ?_ ?_ | refine condM_any ?_ ?_ | intro _) | (simp [*, hli]))
end Go.Proofs.YtiialcomflggcaaDoor
namespace Go.Proofs.YtiialcomflggcaaDoor
open Go Go.Fi
set_option maxRecDepth 20000

theorem copyPlan_c (p : Plan) (hp : PlanIn p) : RealCall Tryd.prog 7 [aPlan p] (aPlan p) true := by
  have hrl := hp.riders
  have hsl := hp.stops
  clear hp
  unfold aPlan cPlan
  refine realcall_intro Tryd.func7 (by kernel_rfl) rfl (Nat.le_of_ble_eq_true (by kernel_rfl)) ?_
  simp only [Tryd.results7, Tryd.ntmps7]
  repeat' (first | (with_reducible first | refine awp_seq ?_ | refine awp_blockS ?_ | refine awp_blockC ?_ | refine awp_blockR ?_ | refine awp_skip ?_ | refine awp_ret ?_ | refine awp_exit ?_ | refine awp_region ?_ | refine awp_regionS (id := 1) [0, 1, 2, 4, 5, 6, 8, 10] [3, 7, 9, 11] [[], [], [], [.new 0], [.new 0], [.new 0], [.new 0, .new 1], [.new 0, .new 1, .slot 1]] [[.new 0], [.new 1], [.slot 1], [.slot 1]] mixed (by decide +kernel) ?_ | refine awp_condM ?_ | refine And.intro ?_ ?_ | apply gQ_merge | apply gE_merge | exact EqV_w | exact EqE_w | exact EqV_ptr | exact EqE_ptr | exact EqV_msl | exact EqE_msl | exact EqV_agg | exact EqE_agg | exact EqV_fn | exact EqE_fn | exact EqV_gd | exact EqE_gd | refine gM_splitN ?_ ?_ | refine gM_split ?_ ?_ |  refine condM_splitDN ?_ ?_ | refine condM_splitD ?_ ?_ | refine condM_splitN ?_ ?_ | refine condM_split ?_ ?_ | refine condM_any ?_ ?_ | intro _) | (simp [*]))
  all_goals try omega
/-! ### the guards -/
def fewB (m : Grid) : Bool := (!(decide (5 < (m.length : Int)) && decide ((m.length : Int) ≤ 12)) && !decide (14 < (m.length : Int))) && m.all (fun r => decide (r.length ≤ 14))
def allD {α : Type} (p : α → Bool) (l : List α) (k : Nat) : Bool := (l.drop k).all p
theorem allD_step {α : Type} [Inhabited α] {p : α → Bool} {l : List α} {k : Nat} (h : k < l.length) : allD p l k = (p (nth l k) && allD p l (k + 1)) := by
  unfold allD; rw [drop_nth l k h]; rfl
theorem allD_end {α : Type} (p : α → Bool) (l : List α) : allD p l l.length = true := by
  unfold allD; rw [List.drop_length]; rfl
set_option maxHeartbeats 4000000 in
theorem few_c (m : Grid) : RealCall Tryd.prog 22 [aMap m] (.bool (fewB m)) true := by
  unfold fewB
  have hA : m.all (fun r => decide (r.length ≤ 14)) = allD (fun r => decide (r.length ≤ 14)) m 0 := rfl
  rw [hA]
  generalize hA' : allD (fun r : List Int => decide (r.length ≤ 14)) m 0 = A
  have kA := keep hA'
  clear hA hA'
  by_cases h : (5 < (m.length : Int) ∧ (m.length : Int) ≤ 12) ∨ 14 < (m.length : Int)
  · have e : ((!(decide (5 < (m.length : Int)) && decide ((m.length : Int) ≤ 12)) && !decide (14 < (m.length : Int))) && A) = false := by
      rcases h with ⟨h1, h2⟩ | h1
      · simp [h1, h2]
      · simp [h1]
    rw [e]
    clear e
    unfold aMap
    refine realcall_intro Tryd.func22 (by kernel_rfl) rfl (Nat.le_of_ble_eq_true (by kernel_rfl)) ?_
    simp only [Tryd.results22, Tryd.ntmps22]
    repeat' (first | (with_reducible first | refine awp_seq ?_ | refine awp_blockS ?_ | refine awp_blockC ?_ | refine awp_blockR ?_ | refine awp_skip ?_ | refine awp_ret ?_ | refine awp_exit ?_ | refine awp_region ?_ | refine awp_condM ?_ | refine And.intro ?_ ?_ | apply gQ_merge | apply gE_merge | exact EqV_w | exact EqE_w | exact EqV_ptr | exact EqE_ptr | exact EqV_msl | exact EqE_msl | exact EqV_agg | exact EqE_agg | exact EqV_fn | exact EqE_fn | exact EqV_gd | exact EqE_gd | refine gM_splitN ?_ ?_ | refine gM_split ?_ ?_ |  refine condM_splitDN ?_ ?_ | refine condM_splitD ?_ ?_ | refine condM_splitN ?_ ?_ | refine condM_split ?_ ?_ | refine condM_any ?_ ?_ | intro _) | (simp [*]))
    all_goals (rename_i hc; exfalso; simp at hc; omega)
  · have h1 : (!(decide (5 < (m.length : Int)) && decide ((m.length : Int) ≤ 12)) && !decide (14 < (m.length : Int))) = true := by
      simp; omega
    rw [h1, Bool.true_and]
    clear h1
    have hml : m.length < 1000 := by omega
    have h2 : ((5 < (m.length : Int)) ∧ ¬ (m.length : Int) ≤ 12 ∧ ¬ 14 < (m.length : Int)) ∨ (¬ (5 < (m.length : Int)) ∧ ¬ 14 < (m.length : Int)) := by omega
    clear h
    unfold aMap
    rcases h2 with ⟨q1, q2, q3⟩ | ⟨q1, q3⟩
    all_goals
      refine realcall_intro Tryd.func22 (by kernel_rfl) rfl (Nat.le_of_ble_eq_true (by kernel_rfl)) ?_
      simp only [Tryd.results22, Tryd.ntmps22]
      repeat' (first | (with_reducible first | refine awp_seq ?_ | refine awp_blockS ?_ | refine awp_blockC ?_ | refine awp_blockR ?_ | refine awp_skip ?_ | refine awp_ret ?_ | refine awp_exit ?_ | refine awp_region ?_ | refine awp_condM ?_ | refine And.intro ?_ ?_ | apply gQ_merge | apply gE_merge | exact EqV_w | exact EqE_w | exact EqV_ptr | exact EqE_ptr | exact EqV_msl | exact EqE_msl | exact EqV_agg | exact EqE_agg | exact EqV_fn | exact EqE_fn | exact EqV_gd | exact EqE_gd | refine gM_splitN ?_ ?_ | refine gM_split ?_ ?_ |  refine condM_splitDN ?_ ?_ | refine condM_splitD ?_ ?_ | refine condM_splitN ?_ ?_ | refine condM_split ?_ ?_ | refine condM_any ?_ ?_ | intro _) | (simp [*]))
      refine awp_for3 (fun (k : Nat) => k ≤ m.length ∧ allD (fun r => decide (r.length ≤ 14)) m k = A) [1] (fun (k : Nat) => [(3, .w false false (.int .i64 k))]) [0] (fun (k : Nat) => []) (fun (k : Nat) => m.length - k) (fun (_u : Unit) => A = true) [] (fun (_u : Unit) => []) [0] (fun (_u : Unit) => []) (0) ⟨Nat.zero_le _, kA⟩ (by simp) (by simp) (fun k hk => ?_) (fun _u hf => ?_)
      · obtain ⟨hk, hj⟩ := hk
        by_cases hlt : k < m.length
        · rw [allD_step hlt] at hj
          by_cases hr : 14 < ((nth m k).length : Int)
          · have hA : A = false := by rw [← hj]; simp; omega
            clear hj kA
            subst hA
            repeat' (first | (with_reducible first | refine awp_seq ?_ | refine awp_blockS ?_ | refine awp_blockC ?_ | refine awp_blockR ?_ | refine awp_skip ?_ | refine awp_ret ?_ | refine awp_exit ?_ | refine awp_region ?_ | refine awp_condM ?_ | refine And.intro ?_ ?_ | apply gQ_merge | apply gE_merge | exact EqV_w | exact EqE_w | exact EqV_ptr | exact EqE_ptr | exact EqV_msl | exact EqE_msl | exact EqV_agg | exact EqE_agg | exact EqV_fn | exact EqE_fn | exact EqV_gd | exact EqE_gd | refine gM_splitN ?_ ?_ | refine gM_split ?_ ?_ |  refine condM_splitDN ?_ ?_ | refine condM_splitD ?_ ?_ | refine condM_splitN ?_ ?_ | refine condM_split ?_ ?_ | refine condM_any ?_ ?_ | intro _) | (simp [*, hlt, hr]))
            all_goals try first | exact inI64 (by omega) (by omega) | omega
          · have kj : Keep (allD (fun r : List Int => decide (r.length ≤ 14)) m (k + 1) = A) := keep (by rw [← hj, decide_eq_true (show (nth m k).length ≤ 14 by omega), Bool.true_and])
            clear hj
            repeat' (first | (with_reducible first | refine awp_seq ?_ | refine awp_blockS ?_ | refine awp_blockC ?_ | refine awp_blockR ?_ | refine awp_skip ?_ | refine awp_ret ?_ | refine awp_exit ?_ | refine awp_region ?_ | refine awp_condM ?_ | refine And.intro ?_ ?_ | apply gQ_merge | apply gE_merge | exact EqV_w | exact EqE_w | exact EqV_ptr | exact EqE_ptr | exact EqV_msl | exact EqE_msl | exact EqV_agg | exact EqE_agg | exact EqV_fn | exact EqE_fn | exact EqV_gd | exact EqE_gd | refine gM_splitN ?_ ?_ | refine gM_split ?_ ?_ |  refine condM_splitDN ?_ ?_ | refine condM_splitD ?_ ?_ | refine condM_splitN ?_ ?_ | refine condM_split ?_ ?_ | refine condM_any ?_ ?_ | intro _) | (simp [*, hlt, hr]))
            all_goals first
              | exact inI64 (by omega) (by omega)
              | omega
              | (refine loopK_normal _ _ _ _ _ (k + 1) _ ?_ (by first | omega | (dsimp only; omega) | (simp; omega)) ?_; (· exact ⟨by omega, kj⟩); (refine le_of ?_ ?_ <;> first | trivial | (simp [*]; done)))
              | skip
        · have hke : k = m.length := by omega
          subst hke
          rw [allD_end] at hj
          have kj := keep hj.symm
          clear hj kA
          repeat' (first | (with_reducible first | refine awp_seq ?_ | refine awp_blockS ?_ | refine awp_blockC ?_ | refine awp_blockR ?_ | refine awp_skip ?_ | refine awp_ret ?_ | refine awp_exit ?_ | refine awp_region ?_ | refine awp_condM ?_ | refine And.intro ?_ ?_ | apply gQ_merge | apply gE_merge | exact EqV_w | exact EqE_w | exact EqV_ptr | exact EqE_ptr | exact EqV_msl | exact EqE_msl | exact EqV_agg | exact EqE_agg | exact EqV_fn | exact EqE_fn | exact EqV_gd | exact EqE_gd | refine gM_splitN ?_ ?_ | refine gM_split ?_ ?_ |  refine condM_splitDN ?_ ?_ | refine condM_splitD ?_ ?_ | refine condM_splitN ?_ ?_ | refine condM_split ?_ ?_ | refine condM_any ?_ ?_ | intro _) | (simp [*]))
          all_goals (refine finW_intro () ?_ ?_; (· exact kj); (refine le_of ?_ ?_ <;> first | trivial | (simp [*]; done)))
      · subst hf
        repeat' (first | (with_reducible first | refine awp_seq ?_ | refine awp_blockS ?_ | refine awp_blockC ?_ | refine awp_blockR ?_ | refine awp_skip ?_ | refine awp_ret ?_ | refine awp_exit ?_ | refine awp_region ?_ | refine awp_condM ?_ | refine And.intro ?_ ?_ | apply gQ_merge | apply gE_merge | exact EqV_w | exact EqE_w | exact EqV_ptr | exact EqE_ptr | exact EqV_msl | exact EqE_msl | exact EqV_agg | exact EqE_agg | exact EqV_fn | exact EqE_fn | exact EqV_gd | exact EqE_gd | refine gM_splitN ?_ ?_ | refine gM_split ?_ ?_ |  refine condM_splitDN ?_ ?_ | refine condM_splitD ?_ ?_ | refine condM_splitN ?_ ?_ | refine condM_split ?_ ?_ | refine condM_any ?_ ?_ | intro _) | (simp [*]))
def smallB (m : Grid) (p : Plan) : Bool := fewB m && decide (p.riders.length ≤ 8) && decide (p.stops.length ≤ 16) && p.riders.all (fun r => decide (r.name.size ≤ 20))
set_option maxHeartbeats 4000000 in
theorem small_c (m : Grid) (p : Plan) : RealCall Tryd.prog 5 [aMap m, aPlan p] (.bool (smallB m p)) true := by
  have c1 := few_c m
  unfold smallB
  have hA : p.riders.all (fun r => decide (r.name.size ≤ 20)) = allD (fun r => decide (r.name.size ≤ 20)) p.riders 0 := rfl
  rw [hA]
  generalize hA' : allD (fun r : Rider => decide (r.name.size ≤ 20)) p.riders 0 = A
  have kA := keep hA'
  clear hA hA'
  by_cases h : fewB m = true ∧ p.riders.length ≤ 8 ∧ p.stops.length ≤ 16
  · obtain ⟨h1, h2, h3⟩ := h
    rw [h1, decide_eq_true h2, decide_eq_true h3]
    simp only [Bool.true_and]
    rw [h1] at c1
    clear h1
    have q1 : ¬ 8 < (p.riders.length : Int) := by omega
    have q2 : ¬ 16 < (p.stops.length : Int) := by omega
    clear h3
    unfold aMap aPlan cPlan at *
    refine realcall_intro Tryd.func5 (by kernel_rfl) rfl (Nat.le_of_ble_eq_true (by kernel_rfl)) ?_
    simp only [Tryd.results5, Tryd.ntmps5]
    repeat' (first | (with_reducible first | refine awp_seq ?_ | refine awp_blockS ?_ | refine awp_blockC ?_ | refine awp_blockR ?_ | refine awp_skip ?_ | refine awp_ret ?_ | refine awp_exit ?_ | refine awp_region ?_ | refine awp_condM ?_ | refine And.intro ?_ ?_ | apply gQ_merge | apply gE_merge | exact EqV_w | exact EqE_w | exact EqV_ptr | exact EqE_ptr | exact EqV_msl | exact EqE_msl | exact EqV_agg | exact EqE_agg | exact EqV_fn | exact EqE_fn | exact EqV_gd | exact EqE_gd | refine gM_splitN ?_ ?_ | refine gM_split ?_ ?_ |  refine condM_splitDN ?_ ?_ | refine condM_splitD ?_ ?_ | refine condM_splitN ?_ ?_ | refine condM_split ?_ ?_ | refine condM_any ?_ ?_ | refine cw (c1) ?_ | intro _) | (simp [*, q1, q2]) | (refine cw_eq (c1) ?_ ?_; (· (simp [*]; done))))
    clear c1
    refine awp_for3 (fun (k : Nat) => k ≤ p.riders.length ∧ allD (fun r => decide (r.name.size ≤ 20)) p.riders k = A) [3] (fun (k : Nat) => [(5, .w false false (.int .i64 k))]) [1] (fun (k : Nat) => []) (fun (k : Nat) => p.riders.length - k) (fun (_u : Unit) => A = true) [] (fun (_u : Unit) => []) [1] (fun (_u : Unit) => []) (0) ⟨Nat.zero_le _, kA⟩ (by simp) (by simp) (fun k hk => ?_) (fun _u hf => ?_)
    · obtain ⟨hk, hj⟩ := hk
      by_cases hlt : k < p.riders.length
      · rw [allD_step hlt] at hj
        by_cases hr : 20 < ((nth p.riders k).name.size : Int)
        · have hA : A = false := by rw [← hj]; simp; omega
          clear hj kA
          subst hA
          repeat' (first | (with_reducible first | refine awp_seq ?_ | refine awp_blockS ?_ | refine awp_blockC ?_ | refine awp_blockR ?_ | refine awp_skip ?_ | refine awp_ret ?_ | refine awp_exit ?_ | refine awp_region ?_ | refine awp_condM ?_ | refine And.intro ?_ ?_ | apply gQ_merge | apply gE_merge | exact EqV_w | exact EqE_w | exact EqV_ptr | exact EqE_ptr | exact EqV_msl | exact EqE_msl | exact EqV_agg | exact EqE_agg | exact EqV_fn | exact EqE_fn | exact EqV_gd | exact EqE_gd | refine gM_splitN ?_ ?_ | refine gM_split ?_ ?_ |  refine condM_splitDN ?_ ?_ | refine condM_splitD ?_ ?_ | refine condM_splitN ?_ ?_ | refine condM_split ?_ ?_ | refine condM_any ?_ ?_ | intro _) | (simp [*, hlt, hr]))
          all_goals try first | exact inI64 (by omega) (by omega) | omega
        · have kj : Keep (allD (fun r : Rider => decide (r.name.size ≤ 20)) p.riders (k + 1) = A) := keep (by rw [← hj, decide_eq_true (show (nth p.riders k).name.size ≤ 20 by omega), Bool.true_and])
          clear hj
          repeat' (first | (with_reducible first | refine awp_seq ?_ | refine awp_blockS ?_ | refine awp_blockC ?_ | refine awp_blockR ?_ | refine awp_skip ?_ | refine awp_ret ?_ | refine awp_exit ?_ | refine awp_region ?_ | refine awp_condM ?_ | refine And.intro ?_ ?_ | apply gQ_merge | apply gE_merge | exact EqV_w | exact EqE_w | exact EqV_ptr | exact EqE_ptr | exact EqV_msl | exact EqE_msl | exact EqV_agg | exact EqE_agg | exact EqV_fn | exact EqE_fn | exact EqV_gd | exact EqE_gd | refine gM_splitN ?_ ?_ | refine gM_split ?_ ?_ |  refine condM_splitDN ?_ ?_ | refine condM_splitD ?_ ?_ | refine condM_splitN ?_ ?_ | refine condM_split ?_ ?_ | refine condM_any ?_ ?_ | intro _) | (simp [*, hlt, hr]))
          all_goals first
            | exact inI64 (by omega) (by omega)
            | omega
            | (refine loopK_normal _ _ _ _ _ (k + 1) _ ?_ (by first | omega | (dsimp only; omega) | (simp; omega)) ?_; (· exact ⟨by omega, kj⟩); (refine le_of ?_ ?_ <;> first | trivial | (simp [*]; done)))
            | skip
      · have hke : k = p.riders.length := by omega
        subst hke
        rw [allD_end] at hj
        have kj := keep hj.symm
        clear hj kA
        repeat' (first | (with_reducible first | refine awp_seq ?_ | refine awp_blockS ?_ | refine awp_blockC ?_ | refine awp_blockR ?_ | refine awp_skip ?_ | refine awp_ret ?_ | refine awp_exit ?_ | refine awp_region ?_ | refine awp_condM ?_ | refine And.intro ?_ ?_ | apply gQ_merge | apply gE_merge | exact EqV_w | exact EqE_w | exact EqV_ptr | exact EqE_ptr | exact EqV_msl | exact EqE_msl | exact EqV_agg | exact EqE_agg | exact EqV_fn | exact EqE_fn | exact EqV_gd | exact EqE_gd | refine gM_splitN ?_ ?_ | refine gM_split ?_ ?_ |  refine condM_splitDN ?_ ?_ | refine condM_splitD ?_ ?_ | refine condM_splitN ?_ ?_ | refine condM_split ?_ ?_ | refine condM_any ?_ ?_ | intro _) | (simp [*]))
        all_goals (refine finW_intro () ?_ ?_; (· exact kj); (refine le_of ?_ ?_ <;> first | trivial | (simp [*]; done)))
    · subst hf
      repeat' (first | (with_reducible first | refine awp_seq ?_ | refine awp_blockS ?_ | refine awp_blockC ?_ | refine awp_blockR ?_ | refine awp_skip ?_ | refine awp_ret ?_ | refine awp_exit ?_ | refine awp_region ?_ | refine awp_condM ?_ | refine And.intro ?_ ?_ | apply gQ_merge | apply gE_merge | exact EqV_w | exact EqE_w | exact EqV_ptr | exact EqE_ptr | exact EqV_msl | exact EqE_msl | exact EqV_agg | exact EqE_agg | exact EqV_fn | exact EqE_fn | exact EqV_gd | exact EqE_gd | refine gM_splitN ?_ ?_ | refine gM_split ?_ ?_ |  refine condM_splitDN ?_ ?_ | refine condM_splitD ?_ ?_ | refine condM_splitN ?_ ?_ | refine condM_split ?_ ?_ | refine condM_any ?_ ?_ | intro _) | (simp [*]))
  · have e : (fewB m && decide (p.riders.length ≤ 8) && decide (p.stops.length ≤ 16) && A) = false := by
      cases hf : fewB m with
      | false => rfl
      | true =>
        by_cases h2 : p.riders.length ≤ 8
        · by_cases h3 : p.stops.length ≤ 16
          · exact absurd ⟨hf, h2, h3⟩ h
          · simp [h3]
        · simp [h2]
    rw [e]
    clear e
    generalize fewB m = b at *
    unfold aMap aPlan cPlan at *
    refine realcall_intro Tryd.func5 (by kernel_rfl) rfl (Nat.le_of_ble_eq_true (by kernel_rfl)) ?_
    simp only [Tryd.results5, Tryd.ntmps5]
    repeat' (first | (with_reducible first | refine awp_seq ?_ | refine awp_blockS ?_ | refine awp_blockC ?_ | refine awp_blockR ?_ | refine awp_skip ?_ | refine awp_ret ?_ | refine awp_exit ?_ | refine awp_region ?_ | refine awp_condM ?_ | refine And.intro ?_ ?_ | apply gQ_merge | apply gE_merge | exact EqV_w | exact EqE_w | exact EqV_ptr | exact EqE_ptr | exact EqV_msl | exact EqE_msl | exact EqV_agg | exact EqE_agg | exact EqV_fn | exact EqE_fn | exact EqV_gd | exact EqE_gd | refine gM_splitN ?_ ?_ | refine gM_split ?_ ?_ |  refine condM_splitDN ?_ ?_ | refine condM_splitD ?_ ?_ | refine condM_splitN ?_ ?_ | refine condM_split ?_ ?_ | refine condM_any ?_ ?_ | refine cw (c1) ?_ | intro _) | (simp [*]) | (refine cw_eq (c1) ?_ ?_; (· (simp [*]; done))))
    rename_i hc
    exfalso
    simp at hc
    exact h ⟨hc.1.1, by omega, by omega⟩
theorem few_in {m : Grid} (h : fewB m = true) : GridIn m := by
  unfold fewB at h
  simp only [Bool.and_eq_true, Bool.not_eq_true', Bool.and_eq_false_iff, decide_eq_false_iff_not, List.all_eq_true, decide_eq_true_eq] at h
  obtain ⟨⟨h1, h2⟩, h3⟩ := h
  refine ⟨by omega, fun k hk => ?_⟩
  have := h3 _ (nth_mem hk)
  omega
theorem small_in {m : Grid} {p : Plan} (h : smallB m p = true) : GridIn m ∧ PlanIn p ∧ p.stops.length ≤ 16 := by
  unfold smallB at h
  simp only [Bool.and_eq_true, List.all_eq_true, decide_eq_true_eq] at h
  obtain ⟨⟨⟨h1, h2⟩, h3⟩, h4⟩ := h
  refine ⟨few_in h1, ⟨by omega, by omega, fun k hk => ?_⟩, h3⟩
  have := h4 _ (nth_mem hk)
  omega
end Go.Proofs.YtiialcomflggcaaDoor

