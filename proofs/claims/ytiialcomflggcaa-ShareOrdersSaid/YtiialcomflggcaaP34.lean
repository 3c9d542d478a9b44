/- Contracts of functions for this claim: lemmas alone. -/
import Derived.Test.YtiialcomflggcaaP33
set_option linter.unusedSimpArgs false
set_option linter.unusedVariables false
namespace Go.Proofs.Ytiialcomflggcaa
open Go Go.Fi
set_option maxRecDepth 20000

/-! ### the reference's drive -/
set_option maxHeartbeats 8000000 in
theorem timesWith_c (m : Grid) (p : Plan) (ok : DriveOk m p) (d : Delay) (hd : 0 ≤ d.by_ ∧ d.by_ ≤ 30000) : RealCall Try.prog 82 [aMap m, aPlan p, .agg [.int .i64 d.stop, .int .i64 d.by_]] (.sl (timesS m p d).length (ints (timesS m p d))) true := by
  have hml := ok.ml
  have hrl := ok.rl
  have hsl := ok.sl
  have ko := keep ok
  clear ok
  unfold aMap aPlan cPlan
  refine realcall_intro Try.func82 (by kernel_rfl) rfl (Nat.le_of_ble_eq_true (by kernel_rfl)) ?_
  simp only [Try.results82, Try.ntmps82]
  repeat' (first | (with_reducible first | refine awp_seq ?_ | refine awp_blockS ?_ | refine awp_blockC ?_ | refine awp_blockR ?_ | refine awp_skip ?_ | refine awp_ret ?_ | refine awp_exit ?_ | refine awp_region ?_ | refine awp_regionD (id := 2) 8 mixed (by decide +kernel) ?_ | refine awp_regionD (id := 6) 11 mixed (by decide +kernel) ?_ | refine awp_regionD (id := 7) 6 mixed (by decide +kernel) ?_ | refine awp_condM ?_ | refine And.intro ?_ ?_ | apply gQ_merge | apply gE_merge | exact EqV_w | exact EqE_w | exact EqV_ptr | exact EqE_ptr | exact EqV_msl | exact EqE_msl | exact EqV_agg | exact EqE_agg | exact EqV_fn | exact EqE_fn | exact EqV_gd | exact EqE_gd | refine gM_splitN ?_ ?_ | refine gM_split ?_ ?_ |  refine condM_splitDN ?_ ?_ | refine condM_splitD ?_ ?_ | refine condM_splitN ?_ ?_ | refine condM_split ?_ ?_ | refine condM_any ?_ ?_ | intro _) | (simp [*]))
  refine awp_for4 4 (fun (k : Nat) => k ≤ p.stops.length) [3, 4, 5] (fun (k : Nat) => [(10, .w false false (.int .i64 k)), (8, .w false false (.int .i64 (atK p k))), (9, .w false false (.int .i64 (clockK m p d k))), (7, .msl 3 k 1 0 k)]) [0, 1, 2] (fun (k : Nat) => [(3, iA (timesK m p d k))]) (fun (k : Nat) => p.stops.length - k) (fun (_u : Unit) => True) [] (fun (_u : Unit) => [(7, .msl 3 (timesS m p d).length 1 0 (timesS m p d).length)]) [] (fun (_u : Unit) => [(3, iA (timesS m p d))]) (0) (Nat.zero_le _) (le_gen [] (by simp) (by simp)) (fun k hk => ?_) (fun _u hf => ?_)
  · by_cases hlt : k < p.stops.length
    · have hst := ko.stops k hlt
      have hat := ko.at_ (k := k) hk
      have hto := ko.to hlt
      have hgo := ko.go hlt
      have hcl := ko.clock hd (k := k) hk
      have hle := ko.least hlt
      have eA : atK p (k + 1) = placeOf p (nth p.stops k) := rfl
      have eC : clockK m p d (k + 1) = mxI (clockK m p d k + cellM m (atK p k) (placeOf p (nth p.stops k)) + (if (k : Int) = d.stop then d.by_ else 0)) (leastOf p (nth p.stops k)) := rfl
      have eL1 : timesK m p d (k + 1) = timesK m p d k ++ [clockK m p d (k + 1)] := rfl
      have l1 := timesK_len m p d k
      have hsq := fun a (h : a < m.length) => ko.sq a h
      clear ko
      rw [eC] at eL1
      generalize hss : nth p.stops k = s at *
      obtain ⟨sr, so⟩ := s
      obtain ⟨j, rfl⟩ := Int.eq_ofNat_of_zero_le hst.1
      generalize hA : atK p k = A at *
      obtain ⟨a, rfl⟩ := Int.eq_ofNat_of_zero_le hat.1
      have hst2 : (j : Int) < (p.riders.length : Int) := hst.2
      have hjl : j < p.riders.length := by omega
      have hal : a < m.length := by omega
      have hrow := hsq a hal
      clear hsq hst hat hst2
      obtain ⟨b, hb⟩ := Int.eq_ofNat_of_zero_le hto.1
      rw [hb] at hto eC hgo eA eL1
      have hbl : b < m.length := by omega
      have hcm : cellM m (a : Int) (b : Int) = nth (nth m a) b := rfl
      rw [hcm] at hgo eC eL1
      clear hcm hto
      generalize hv : nth (nth m a) b = v at *
      by_cases hds : (k : Int) = d.stop
      · rw [if_pos hds] at eC eL1
        have hds' := hds.symm
        clear hds
        cases so with
        | true =>
          have hb2 : (nth p.riders j).to = (b : Int) := hb
          have hl0 : leastOf p ⟨(j : Int), true⟩ = 0 := rfl
          rw [hl0] at eC eL1 hle
          have ke := keep (And.intro eA (And.intro eC eL1))
          clear eA eC eL1 hb hl0
          repeat' (first | (with_reducible first | refine awp_seq ?_ | refine awp_blockS ?_ | refine awp_blockC ?_ | refine awp_blockR ?_ | refine awp_skip ?_ | refine awp_ret ?_ | refine awp_exit ?_ | refine awp_region ?_ | refine awp_regionD (id := 2) 8 mixed (by decide +kernel) ?_ | refine awp_regionD (id := 6) 11 mixed (by decide +kernel) ?_ | refine awp_regionD (id := 7) 6 mixed (by decide +kernel) ?_ | refine awp_condM ?_ | refine And.intro ?_ ?_ | apply gQ_merge | apply gE_merge | exact EqV_w | exact EqE_w | exact EqV_ptr | exact EqE_ptr | exact EqV_msl | exact EqE_msl | exact EqV_agg | exact EqE_agg | exact EqV_fn | exact EqE_fn | exact EqV_gd | exact EqE_gd | refine gM_splitN ?_ ?_ | refine gM_split ?_ ?_ |  refine condM_splitDN ?_ ?_ | refine condM_splitD ?_ ?_ | refine condM_splitN ?_ ?_ | refine condM_split ?_ ?_ | refine condM_any ?_ ?_ | intro _) | (simp [*, hlt, cRider, cStop]))
          all_goals first
            | exact inI64 (by omega) (by omega)
            | omega
            | (refine loopK_normal _ _ _ _ _ (k + 1) _ ?_ (by first | omega | (dsimp only; omega) | (simp; omega)) ?_; (· omega); (refine le_gen [] ?_ ?_ <;> first | trivial | (simp [*, ke.1, ke.2.1, ke.2.2, mxI]; done)))
            | skip
        | false =>
          have hb2 : (nth p.riders j).frm = (b : Int) := hb
          have hl0 : leastOf p ⟨(j : Int), false⟩ = (nth p.riders j).ready := rfl
          rw [hl0] at eC eL1 hle
          have ke := keep (And.intro eA (And.intro eC eL1))
          clear eA eC eL1 hb hl0
          repeat' (first | (with_reducible first | refine awp_seq ?_ | refine awp_blockS ?_ | refine awp_blockC ?_ | refine awp_blockR ?_ | refine awp_skip ?_ | refine awp_ret ?_ | refine awp_exit ?_ | refine awp_region ?_ | refine awp_regionD (id := 2) 8 mixed (by decide +kernel) ?_ | refine awp_regionD (id := 6) 11 mixed (by decide +kernel) ?_ | refine awp_regionD (id := 7) 6 mixed (by decide +kernel) ?_ | refine awp_condM ?_ | refine And.intro ?_ ?_ | apply gQ_merge | apply gE_merge | exact EqV_w | exact EqE_w | exact EqV_ptr | exact EqE_ptr | exact EqV_msl | exact EqE_msl | exact EqV_agg | exact EqE_agg | exact EqV_fn | exact EqE_fn | exact EqV_gd | exact EqE_gd | refine gM_splitN ?_ ?_ | refine gM_split ?_ ?_ |  refine condM_splitDN ?_ ?_ | refine condM_splitD ?_ ?_ | refine condM_splitN ?_ ?_ | refine condM_split ?_ ?_ | refine condM_any ?_ ?_ | intro _) | (simp [*, hlt, cRider, cStop]))
          all_goals first
            | exact inI64 (by omega) (by omega)
            | omega
            | (refine loopK_normal _ _ _ _ _ (k + 1) _ ?_ (by first | omega | (dsimp only; omega) | (simp; omega)) ?_; (· omega); (refine le_gen [] ?_ ?_ <;> first | trivial | (simp [*, ke.1, ke.2.1, ke.2.2, mxI]; done)))
            | skip
      · rw [if_neg hds, Int.add_zero] at eC eL1
        cases so with
        | true =>
          have hb2 : (nth p.riders j).to = (b : Int) := hb
          have hl0 : leastOf p ⟨(j : Int), true⟩ = 0 := rfl
          rw [hl0] at eC eL1 hle
          have ke := keep (And.intro eA (And.intro eC eL1))
          clear eA eC eL1 hb hl0
          repeat' (first | (with_reducible first | refine awp_seq ?_ | refine awp_blockS ?_ | refine awp_blockC ?_ | refine awp_blockR ?_ | refine awp_skip ?_ | refine awp_ret ?_ | refine awp_exit ?_ | refine awp_region ?_ | refine awp_regionD (id := 2) 8 mixed (by decide +kernel) ?_ | refine awp_regionD (id := 6) 11 mixed (by decide +kernel) ?_ | refine awp_regionD (id := 7) 6 mixed (by decide +kernel) ?_ | refine awp_condM ?_ | refine And.intro ?_ ?_ | apply gQ_merge | apply gE_merge | exact EqV_w | exact EqE_w | exact EqV_ptr | exact EqE_ptr | exact EqV_msl | exact EqE_msl | exact EqV_agg | exact EqE_agg | exact EqV_fn | exact EqE_fn | exact EqV_gd | exact EqE_gd | refine gM_splitN ?_ ?_ | refine gM_split ?_ ?_ |  refine condM_splitDN ?_ ?_ | refine condM_splitD ?_ ?_ | refine condM_splitN ?_ ?_ | refine condM_split ?_ ?_ | refine condM_any ?_ ?_ | intro _) | (simp [*, hlt, cRider, cStop]))
          all_goals first
            | exact inI64 (by omega) (by omega)
            | omega
            | (refine loopK_normal _ _ _ _ _ (k + 1) _ ?_ (by first | omega | (dsimp only; omega) | (simp; omega)) ?_; (· omega); (refine le_gen [] ?_ ?_ <;> first | trivial | (simp [*, ke.1, ke.2.1, ke.2.2, mxI]; done)))
            | skip
        | false =>
          have hb2 : (nth p.riders j).frm = (b : Int) := hb
          have hl0 : leastOf p ⟨(j : Int), false⟩ = (nth p.riders j).ready := rfl
          rw [hl0] at eC eL1 hle
          have ke := keep (And.intro eA (And.intro eC eL1))
          clear eA eC eL1 hb hl0
          repeat' (first | (with_reducible first | refine awp_seq ?_ | refine awp_blockS ?_ | refine awp_blockC ?_ | refine awp_blockR ?_ | refine awp_skip ?_ | refine awp_ret ?_ | refine awp_exit ?_ | refine awp_region ?_ | refine awp_regionD (id := 2) 8 mixed (by decide +kernel) ?_ | refine awp_regionD (id := 6) 11 mixed (by decide +kernel) ?_ | refine awp_regionD (id := 7) 6 mixed (by decide +kernel) ?_ | refine awp_condM ?_ | refine And.intro ?_ ?_ | apply gQ_merge | apply gE_merge | exact EqV_w | exact EqE_w | exact EqV_ptr | exact EqE_ptr | exact EqV_msl | exact EqE_msl | exact EqV_agg | exact EqE_agg | exact EqV_fn | exact EqE_fn | exact EqV_gd | exact EqE_gd | refine gM_splitN ?_ ?_ | refine gM_split ?_ ?_ |  refine condM_splitDN ?_ ?_ | refine condM_splitD ?_ ?_ | refine condM_splitN ?_ ?_ | refine condM_split ?_ ?_ | refine condM_any ?_ ?_ | intro _) | (simp [*, hlt, cRider, cStop]))
          all_goals first
            | exact inI64 (by omega) (by omega)
            | omega
            | (refine loopK_normal _ _ _ _ _ (k + 1) _ ?_ (by first | omega | (dsimp only; omega) | (simp; omega)) ?_; (· omega); (refine le_gen [] ?_ ?_ <;> first | trivial | (simp [*, ke.1, ke.2.1, ke.2.2, mxI]; done)))
            | skip
    · have hke : k = p.stops.length := by omega
      subst hke
      repeat' (first | (with_reducible first | refine awp_seq ?_ | refine awp_blockS ?_ | refine awp_blockC ?_ | refine awp_blockR ?_ | refine awp_skip ?_ | refine awp_ret ?_ | refine awp_exit ?_ | refine awp_region ?_ | refine awp_regionD (id := 2) 8 mixed (by decide +kernel) ?_ | refine awp_regionD (id := 6) 11 mixed (by decide +kernel) ?_ | refine awp_regionD (id := 7) 6 mixed (by decide +kernel) ?_ | refine awp_condM ?_ | refine And.intro ?_ ?_ | apply gQ_merge | apply gE_merge | exact EqV_w | exact EqE_w | exact EqV_ptr | exact EqE_ptr | exact EqV_msl | exact EqE_msl | exact EqV_agg | exact EqE_agg | exact EqV_fn | exact EqE_fn | exact EqV_gd | exact EqE_gd | refine gM_splitN ?_ ?_ | refine gM_split ?_ ?_ |  refine condM_splitDN ?_ ?_ | refine condM_splitD ?_ ?_ | refine condM_splitN ?_ ?_ | refine condM_split ?_ ?_ | refine condM_any ?_ ?_ | intro _) | (simp [*]))
      all_goals (refine finW_intro () ?_ ?_; (· trivial); (refine le_gen [] ?_ ?_ <;> first | trivial | (simp [*, timesS]; done)))
  · repeat' (first | (with_reducible first | refine awp_seq ?_ | refine awp_blockS ?_ | refine awp_blockC ?_ | refine awp_blockR ?_ | refine awp_skip ?_ | refine awp_ret ?_ | refine awp_exit ?_ | refine awp_region ?_ | refine awp_regionD (id := 2) 8 mixed (by decide +kernel) ?_ | refine awp_regionD (id := 6) 11 mixed (by decide +kernel) ?_ | refine awp_regionD (id := 7) 6 mixed (by decide +kernel) ?_ | refine awp_condM ?_ | refine And.intro ?_ ?_ | apply gQ_merge | apply gE_merge | exact EqV_w | exact EqE_w | exact EqV_ptr | exact EqE_ptr | exact EqV_msl | exact EqE_msl | exact EqV_agg | exact EqE_agg | exact EqV_fn | exact EqE_fn | exact EqV_gd | exact EqE_gd | refine gM_splitN ?_ ?_ | refine gM_split ?_ ?_ |  refine condM_splitDN ?_ ?_ | refine condM_splitD ?_ ?_ | refine condM_splitN ?_ ?_ | refine condM_split ?_ ?_ | refine condM_any ?_ ?_ | intro _) | (simp [*]))
theorem rTimesOf_c (m : Grid) (p : Plan) (ok : DriveOk m p) : RealCall Try.prog 45 [aMap m, aPlan p] (.sl (timesS m p noDelay).length (ints (timesS m p noDelay))) true := by
  have c1 := timesWith_c m p ok noDelay noDelay_bd
  generalize timesS m p noDelay = L at *
  clear ok
  unfold aMap aPlan cPlan noDelay at *
  refine realcall_intro Try.func45 (by kernel_rfl) rfl (Nat.le_of_ble_eq_true (by kernel_rfl)) ?_
  simp only [Try.results45, Try.ntmps45]
  repeat' (first | (with_reducible first | refine awp_seq ?_ | refine awp_blockS ?_ | refine awp_blockC ?_ | refine awp_blockR ?_ | refine awp_skip ?_ | refine awp_ret ?_ | refine awp_exit ?_ | refine awp_region ?_ | refine awp_condM ?_ | refine And.intro ?_ ?_ | apply gQ_merge | apply gE_merge | exact EqV_w | exact EqE_w | exact EqV_ptr | exact EqE_ptr | exact EqV_msl | exact EqE_msl | exact EqV_agg | exact EqE_agg | exact EqV_fn | exact EqE_fn | exact EqV_gd | exact EqE_gd | refine gM_splitN ?_ ?_ | refine gM_split ?_ ?_ |  refine condM_splitDN ?_ ?_ | refine condM_splitD ?_ ?_ | refine condM_splitN ?_ ?_ | refine condM_split ?_ ?_ | refine condM_any ?_ ?_ | refine cw (c1) ?_ | intro _) | (simp [*]) | (refine cw_eq (c1) ?_ ?_; (· (simp [*]; done))))
set_option maxHeartbeats 8000000 in
theorem rSeatsAt_c (m : Grid) (p : Plan) (ok : DriveOk m p) : RealCall Try.prog 96 [aPlan p] (.sl (seatsS p).length (ints (seatsS p))) true := by
  have hrl := ok.rl
  have hsl := ok.sl
  have ko := keep ok
  clear ok
  unfold aPlan cPlan
  refine realcall_intro Try.func96 (by kernel_rfl) rfl (Nat.le_of_ble_eq_true (by kernel_rfl)) ?_
  simp only [Try.results96, Try.ntmps96]
  repeat' (first | (with_reducible first | refine awp_seq ?_ | refine awp_blockS ?_ | refine awp_blockC ?_ | refine awp_blockR ?_ | refine awp_skip ?_ | refine awp_ret ?_ | refine awp_exit ?_ | refine awp_region ?_ | refine awp_regionD (id := 12) 13 mixed (by decide +kernel) ?_ | refine awp_regionD (id := 13) 13 mixed (by decide +kernel) ?_ | refine awp_condM ?_ | refine And.intro ?_ ?_ | apply gQ_merge | apply gE_merge | exact EqV_w | exact EqE_w | exact EqV_ptr | exact EqE_ptr | exact EqV_msl | exact EqE_msl | exact EqV_agg | exact EqE_agg | exact EqV_fn | exact EqE_fn | exact EqV_gd | exact EqE_gd | refine gM_splitN ?_ ?_ | refine gM_split ?_ ?_ |  refine condM_splitDN ?_ ?_ | refine condM_splitD ?_ ?_ | refine condM_splitN ?_ ?_ | refine condM_split ?_ ?_ | refine condM_any ?_ ?_ | intro _) | (simp [*]))
  refine awp_for3 (fun (k : Nat) => k ≤ p.riders.length) [1, 3] (fun (k : Nat) => [(5, .w false false (.int .i64 k)), (4, .w false false (.int .i64 (aboardS (p.riders.take k))))]) [0] (fun (k : Nat) => []) (fun (k : Nat) => p.riders.length - k) (fun (_u : Unit) => True) [1, 3] (fun (_u : Unit) => [(4, .w false false (.int .i64 (aboardS p.riders)))]) [0] (fun (_u : Unit) => []) (0) (Nat.zero_le _) (by simp) (by simp) (fun k hk => ?_) (fun _u hf => ?_)
  · by_cases hlt : k < p.riders.length
    · have h1 := aboardS_bd (m := m) (l := p.riders.take k) (fun j hj => by
        rw [take_len _ _ hk] at hj
        have := ko.riders j (by omega)
        rw [nth_take _ _ _ hj]; exact this)
      rw [take_len _ _ hk] at h1
      have s0 := (ko.riders k hlt).s0
      have s1 := (ko.riders k hlt).s1
      have kS := keep (aboardS_succ p.riders k hlt)
      cases hab : (nth p.riders k).aboard with
      | true =>
        have kS2 : Keep (aboardS (p.riders.take (k + 1)) = aboardS (p.riders.take k) + (nth p.riders k).seats) := by rw [seatsAb, if_pos hab] at kS; exact kS
        clear kS
        repeat' (first | (with_reducible first | refine awp_seq ?_ | refine awp_blockS ?_ | refine awp_blockC ?_ | refine awp_blockR ?_ | refine awp_skip ?_ | refine awp_ret ?_ | refine awp_exit ?_ | refine awp_region ?_ | refine awp_regionD (id := 12) 13 mixed (by decide +kernel) ?_ | refine awp_regionD (id := 13) 13 mixed (by decide +kernel) ?_ | refine awp_condM ?_ | refine And.intro ?_ ?_ | apply gQ_merge | apply gE_merge | exact EqV_w | exact EqE_w | exact EqV_ptr | exact EqE_ptr | exact EqV_msl | exact EqE_msl | exact EqV_agg | exact EqE_agg | exact EqV_fn | exact EqE_fn | exact EqV_gd | exact EqE_gd | refine gM_splitN ?_ ?_ | refine gM_split ?_ ?_ |  refine condM_splitDN ?_ ?_ | refine condM_splitD ?_ ?_ | refine condM_splitN ?_ ?_ | refine condM_split ?_ ?_ | refine condM_any ?_ ?_ | intro _) | (simp [*, hlt]))
        all_goals first
          | exact inI64 (by omega) (by omega)
          | omega
          | (refine loopK_normal _ _ _ _ _ (k + 1) _ ?_ (by first | omega | (dsimp only; omega) | (simp; omega)) ?_; (· omega); (refine le_of ?_ ?_ <;> first | trivial | (simp [*, show aboardS (p.riders.take (k + 1)) = aboardS (p.riders.take k) + (nth p.riders k).seats from kS2]; done)))
          | skip
      | false =>
        have kS2 : Keep (aboardS (p.riders.take (k + 1)) = aboardS (p.riders.take k)) := by rw [seatsAb, if_neg (by rw [hab]; decide), Int.add_zero] at kS; exact kS
        clear kS
        repeat' (first | (with_reducible first | refine awp_seq ?_ | refine awp_blockS ?_ | refine awp_blockC ?_ | refine awp_blockR ?_ | refine awp_skip ?_ | refine awp_ret ?_ | refine awp_exit ?_ | refine awp_region ?_ | refine awp_regionD (id := 12) 13 mixed (by decide +kernel) ?_ | refine awp_regionD (id := 13) 13 mixed (by decide +kernel) ?_ | refine awp_condM ?_ | refine And.intro ?_ ?_ | apply gQ_merge | apply gE_merge | exact EqV_w | exact EqE_w | exact EqV_ptr | exact EqE_ptr | exact EqV_msl | exact EqE_msl | exact EqV_agg | exact EqE_agg | exact EqV_fn | exact EqE_fn | exact EqV_gd | exact EqE_gd | refine gM_splitN ?_ ?_ | refine gM_split ?_ ?_ |  refine condM_splitDN ?_ ?_ | refine condM_splitD ?_ ?_ | refine condM_splitN ?_ ?_ | refine condM_split ?_ ?_ | refine condM_any ?_ ?_ | intro _) | (simp [*, hlt]))
        all_goals first
          | exact inI64 (by omega) (by omega)
          | omega
          | (refine loopK_normal _ _ _ _ _ (k + 1) _ ?_ (by first | omega | (dsimp only; omega) | (simp; omega)) ?_; (· omega); (refine le_of ?_ ?_ <;> first | trivial | (simp [*, show aboardS (p.riders.take (k + 1)) = aboardS (p.riders.take k) from kS2]; done)))
          | skip
    · have hke : k = p.riders.length := by omega
      subst hke
      repeat' (first | (with_reducible first | refine awp_seq ?_ | refine awp_blockS ?_ | refine awp_blockC ?_ | refine awp_blockR ?_ | refine awp_skip ?_ | refine awp_ret ?_ | refine awp_exit ?_ | refine awp_region ?_ | refine awp_regionD (id := 12) 13 mixed (by decide +kernel) ?_ | refine awp_regionD (id := 13) 13 mixed (by decide +kernel) ?_ | refine awp_condM ?_ | refine And.intro ?_ ?_ | apply gQ_merge | apply gE_merge | exact EqV_w | exact EqE_w | exact EqV_ptr | exact EqE_ptr | exact EqV_msl | exact EqE_msl | exact EqV_agg | exact EqE_agg | exact EqV_fn | exact EqE_fn | exact EqV_gd | exact EqE_gd | refine gM_splitN ?_ ?_ | refine gM_split ?_ ?_ |  refine condM_splitDN ?_ ?_ | refine condM_splitD ?_ ?_ | refine condM_splitN ?_ ?_ | refine condM_split ?_ ?_ | refine condM_any ?_ ?_ | intro _) | (simp [*]))
      all_goals (refine finW_intro () ?_ ?_; (· trivial); (refine le_of ?_ ?_ <;> first | trivial | (simp [*, List.take_length]; done)))
  · repeat' (first | (with_reducible first | refine awp_seq ?_ | refine awp_blockS ?_ | refine awp_blockC ?_ | refine awp_blockR ?_ | refine awp_skip ?_ | refine awp_ret ?_ | refine awp_exit ?_ | refine awp_region ?_ | refine awp_regionD (id := 12) 13 mixed (by decide +kernel) ?_ | refine awp_regionD (id := 13) 13 mixed (by decide +kernel) ?_ | refine awp_condM ?_ | refine And.intro ?_ ?_ | apply gQ_merge | apply gE_merge | exact EqV_w | exact EqE_w | exact EqV_ptr | exact EqE_ptr | exact EqV_msl | exact EqE_msl | exact EqV_agg | exact EqE_agg | exact EqV_fn | exact EqE_fn | exact EqV_gd | exact EqE_gd | refine gM_splitN ?_ ?_ | refine gM_split ?_ ?_ |  refine condM_splitDN ?_ ?_ | refine condM_splitD ?_ ?_ | refine condM_splitN ?_ ?_ | refine condM_split ?_ ?_ | refine condM_any ?_ ?_ | intro _) | (simp [*]))
    refine awp_for4 2 (fun (k : Nat) => k ≤ p.stops.length) [1] (fun (k : Nat) => [(6, .w false false (.int .i64 k)), (4, .w false false (.int .i64 (takenK p k))), (3, .msl 1 k 1 0 k)]) [0] (fun (k : Nat) => [(1, iA (seatsK p k))]) (fun (k : Nat) => p.stops.length - k) (fun (_u : Unit) => True) [] (fun (_u : Unit) => [(3, .msl 1 (seatsS p).length 1 0 (seatsS p).length)]) [] (fun (_u : Unit) => [(1, iA (seatsS p))]) (0) (Nat.zero_le _) (le_gen [] (by simp) (by simp)) (fun k hk => ?_) (fun _u hf => ?_)
    · by_cases hlt : k < p.stops.length
      · have hst := ko.stops k hlt
        have htk := ko.taken (k := k) hk
        have hpl := ko.place hlt
        have s0 := hpl.s0
        have s1 := hpl.s1
        have eT : takenK p (k + 1) = takenK p k + seatsOf p (nth p.stops k) := rfl
        have eL2 : seatsK p (k + 1) = seatsK p k ++ [takenK p (k + 1)] := rfl
        have l2 := seatsK_len p k
        clear ko hpl
        rw [eT] at eL2
        generalize hss : nth p.stops k = s at *
        obtain ⟨sr, so⟩ := s
        obtain ⟨j, rfl⟩ := Int.eq_ofNat_of_zero_le hst.1
        have hst2 : (j : Int) < (p.riders.length : Int) := hst.2
        have hjl : j < p.riders.length := by omega
        have hri : (riderOf p ⟨(j : Int), so⟩).seats = (nth p.riders j).seats := rfl
        rw [hri] at s0 s1
        clear hri hst hst2
        cases so with
        | true =>
          have hse : seatsOf p ⟨(j : Int), true⟩ = -(nth p.riders j).seats := rfl
          rw [hse, ← Int.sub_eq_add_neg] at eT eL2
          have ke := keep (And.intro eT eL2)
          clear eT eL2 hse
          repeat' (first | (with_reducible first | refine awp_seq ?_ | refine awp_blockS ?_ | refine awp_blockC ?_ | refine awp_blockR ?_ | refine awp_skip ?_ | refine awp_ret ?_ | refine awp_exit ?_ | refine awp_region ?_ | refine awp_regionD (id := 12) 13 mixed (by decide +kernel) ?_ | refine awp_regionD (id := 13) 13 mixed (by decide +kernel) ?_ | refine awp_condM ?_ | refine And.intro ?_ ?_ | apply gQ_merge | apply gE_merge | exact EqV_w | exact EqE_w | exact EqV_ptr | exact EqE_ptr | exact EqV_msl | exact EqE_msl | exact EqV_agg | exact EqE_agg | exact EqV_fn | exact EqE_fn | exact EqV_gd | exact EqE_gd | refine gM_splitN ?_ ?_ | refine gM_split ?_ ?_ |  refine condM_splitDN ?_ ?_ | refine condM_splitD ?_ ?_ | refine condM_splitN ?_ ?_ | refine condM_split ?_ ?_ | refine condM_any ?_ ?_ | intro _) | (simp [*, hlt]))
          all_goals first
            | exact inI64 (by omega) (by omega)
            | omega
            | (refine loopK_normal _ _ _ _ _ (k + 1) _ ?_ (by first | omega | (dsimp only; omega) | (simp; omega)) ?_; (· omega); (refine le_gen [] ?_ ?_ <;> first | trivial | (simp [*, ke.1, ke.2]; done)))
            | skip
        | false =>
          have hse : seatsOf p ⟨(j : Int), false⟩ = (nth p.riders j).seats := rfl
          rw [hse] at eT eL2
          have ke := keep (And.intro eT eL2)
          clear eT eL2 hse
          repeat' (first | (with_reducible first | refine awp_seq ?_ | refine awp_blockS ?_ | refine awp_blockC ?_ | refine awp_blockR ?_ | refine awp_skip ?_ | refine awp_ret ?_ | refine awp_exit ?_ | refine awp_region ?_ | refine awp_regionD (id := 12) 13 mixed (by decide +kernel) ?_ | refine awp_regionD (id := 13) 13 mixed (by decide +kernel) ?_ | refine awp_condM ?_ | refine And.intro ?_ ?_ | apply gQ_merge | apply gE_merge | exact EqV_w | exact EqE_w | exact EqV_ptr | exact EqE_ptr | exact EqV_msl | exact EqE_msl | exact EqV_agg | exact EqE_agg | exact EqV_fn | exact EqE_fn | exact EqV_gd | exact EqE_gd | refine gM_splitN ?_ ?_ | refine gM_split ?_ ?_ |  refine condM_splitDN ?_ ?_ | refine condM_splitD ?_ ?_ | refine condM_splitN ?_ ?_ | refine condM_split ?_ ?_ | refine condM_any ?_ ?_ | intro _) | (simp [*, hlt]))
          all_goals first
            | exact inI64 (by omega) (by omega)
            | omega
            | (refine loopK_normal _ _ _ _ _ (k + 1) _ ?_ (by first | omega | (dsimp only; omega) | (simp; omega)) ?_; (· omega); (refine le_gen [] ?_ ?_ <;> first | trivial | (simp [*, ke.1, ke.2]; done)))
            | skip
      · have hke : k = p.stops.length := by omega
        subst hke
        repeat' (first | (with_reducible first | refine awp_seq ?_ | refine awp_blockS ?_ | refine awp_blockC ?_ | refine awp_blockR ?_ | refine awp_skip ?_ | refine awp_ret ?_ | refine awp_exit ?_ | refine awp_region ?_ | refine awp_regionD (id := 12) 13 mixed (by decide +kernel) ?_ | refine awp_regionD (id := 13) 13 mixed (by decide +kernel) ?_ | refine awp_condM ?_ | refine And.intro ?_ ?_ | apply gQ_merge | apply gE_merge | exact EqV_w | exact EqE_w | exact EqV_ptr | exact EqE_ptr | exact EqV_msl | exact EqE_msl | exact EqV_agg | exact EqE_agg | exact EqV_fn | exact EqE_fn | exact EqV_gd | exact EqE_gd | refine gM_splitN ?_ ?_ | refine gM_split ?_ ?_ |  refine condM_splitDN ?_ ?_ | refine condM_splitD ?_ ?_ | refine condM_splitN ?_ ?_ | refine condM_split ?_ ?_ | refine condM_any ?_ ?_ | intro _) | (simp [*]))
        all_goals (refine finW_intro () ?_ ?_; (· trivial); (refine le_gen [] ?_ ?_ <;> first | trivial | (simp [*, seatsS]; done)))
    · repeat' (first | (with_reducible first | refine awp_seq ?_ | refine awp_blockS ?_ | refine awp_blockC ?_ | refine awp_blockR ?_ | refine awp_skip ?_ | refine awp_ret ?_ | refine awp_exit ?_ | refine awp_region ?_ | refine awp_regionD (id := 12) 13 mixed (by decide +kernel) ?_ | refine awp_regionD (id := 13) 13 mixed (by decide +kernel) ?_ | refine awp_condM ?_ | refine And.intro ?_ ?_ | apply gQ_merge | apply gE_merge | exact EqV_w | exact EqE_w | exact EqV_ptr | exact EqE_ptr | exact EqV_msl | exact EqE_msl | exact EqV_agg | exact EqE_agg | exact EqV_fn | exact EqE_fn | exact EqV_gd | exact EqE_gd | refine gM_splitN ?_ ?_ | refine gM_split ?_ ?_ |  refine condM_splitDN ?_ ?_ | refine condM_splitD ?_ ?_ | refine condM_splitN ?_ ?_ | refine condM_split ?_ ?_ | refine condM_any ?_ ?_ | intro _) | (simp [*]))
theorem rCostOf_c (m : Grid) (p : Plan) (ok : DriveOk m p) : RealCall Try.prog 14 [aMap m, aPlan p] (.int .i64 (costP m p)) true := by
  have c1 := rTimesOf_c m p ok
  have ht := ok.times noDelay_bd
  have hl := timesS_len m p noDelay
  have h0 := ok.t0
  have h1 := ok.t1
  have hsl := ok.sl
  clear ok
  unfold costP costS
  generalize timesS m p noDelay = ts at *
  by_cases hz : ts.length = 0
  · rw [if_pos hz]
    have hz2 : p.stops.length = 0 := by omega
    clear ht hl
    unfold aMap aPlan cPlan at *
    refine realcall_intro Try.func14 (by kernel_rfl) rfl (Nat.le_of_ble_eq_true (by kernel_rfl)) ?_
    simp only [Try.results14, Try.ntmps14]
    repeat' (first | (with_reducible first | refine awp_seq ?_ | refine awp_blockS ?_ | refine awp_blockC ?_ | refine awp_blockR ?_ | refine awp_skip ?_ | refine awp_ret ?_ | refine awp_exit ?_ | refine awp_region ?_ | refine awp_regionD (id := 4) 11 mixed (by decide +kernel) ?_ | refine awp_condM ?_ | refine And.intro ?_ ?_ | apply gQ_merge | apply gE_merge | exact EqV_w | exact EqE_w | exact EqV_ptr | exact EqE_ptr | exact EqV_msl | exact EqE_msl | exact EqV_agg | exact EqE_agg | exact EqV_fn | exact EqE_fn | exact EqV_gd | exact EqE_gd | refine gM_splitN ?_ ?_ | refine gM_split ?_ ?_ |  refine condM_splitDN ?_ ?_ | refine condM_splitD ?_ ?_ | refine condM_splitN ?_ ?_ | refine condM_split ?_ ?_ | refine condM_any ?_ ?_ | refine cw (c1) ?_ | intro _) | (simp [*, hz2]) | (refine cw_eq (c1) ?_ ?_; (· (simp [*]; done))))
  · rw [if_neg hz]
    have hb := ht (ts.length - 1) (by omega)
    obtain ⟨n, hn⟩ : ∃ n, ts.length = n + 1 := ⟨ts.length - 1, by omega⟩
    have hz2 : ¬ p.stops.length = 0 := by omega
    have hz3 : ¬ (p.stops.length : Int) = 0 := by omega
    have e : ((n : Int) + 1 - 1) = (n : Int) := by omega
    have hnl : n < 100000 := by omega
    rw [hn] at hb c1
    simp only [Nat.add_sub_cancel] at hb
    clear ht hl hz hsl
    unfold aMap aPlan cPlan at *
    refine realcall_intro Try.func14 (by kernel_rfl) rfl (Nat.le_of_ble_eq_true (by kernel_rfl)) ?_
    simp only [Try.results14, Try.ntmps14]
    repeat' (first | (with_reducible first | refine awp_seq ?_ | refine awp_blockS ?_ | refine awp_blockC ?_ | refine awp_blockR ?_ | refine awp_skip ?_ | refine awp_ret ?_ | refine awp_exit ?_ | refine awp_region ?_ | refine awp_regionD (id := 4) 11 mixed (by decide +kernel) ?_ | refine awp_condM ?_ | refine And.intro ?_ ?_ | apply gQ_merge | apply gE_merge | exact EqV_w | exact EqE_w | exact EqV_ptr | exact EqE_ptr | exact EqV_msl | exact EqE_msl | exact EqV_agg | exact EqE_agg | exact EqV_fn | exact EqE_fn | exact EqV_gd | exact EqE_gd | refine gM_splitN ?_ ?_ | refine gM_split ?_ ?_ |  refine condM_splitDN ?_ ?_ | refine condM_splitD ?_ ?_ | refine condM_splitN ?_ ?_ | refine condM_split ?_ ?_ | refine condM_any ?_ ?_ | refine cw (c1) ?_ | intro _) | (simp [*, hz2, hz3, hn, e]) | (refine cw_eq (c1) ?_ ?_; (· (simp [*]; done))))
    all_goals first
      | exact inI64 (by omega) (by omega)
      | omega
      | skip
set_option maxHeartbeats 8000000 in
theorem rBrokenBy_c (m : Grid) (p : Plan) (ok : TourOk m p) (ts : List Int) (hl : ts.length = p.stops.length) (ht : TimesIn ts) : RealCall Try.prog 81 [aMap m, aPlan p, .sl ts.length (ints ts)] (brokP (brokenS m p ts (seatsS p))) true := by
  have hsl := ok.go.sl
  have c0 := rSeatsAt_c m p ok.go
  have hl2 := seatsS_len p
  unfold brokP
  generalize hS : seatsS p = ss at *
  generalize hR : brokenS m p ts ss = R
  have hR : brokK m p ts ss 0 = R := hR
  have kR := keep hR
  have c2 := fun j (h : Rides p j) => rRideBy_c m p ok.go ts hl ht j h
  clear hR hS
  unfold aMap aPlan cPlan at *
  refine realcall_intro Try.func81 (by kernel_rfl) rfl (Nat.le_of_ble_eq_true (by kernel_rfl)) ?_
  simp only [Try.results81, Try.ntmps81]
  repeat' (first | (with_reducible first | refine awp_seq ?_ | refine awp_blockS ?_ | refine awp_blockC ?_ | refine awp_blockR ?_ | refine awp_skip ?_ | refine awp_ret ?_ | refine awp_exit ?_ | refine awp_region ?_ | refine awp_regionD (id := 5) 8 mixed (by decide +kernel) ?_ | refine awp_condM ?_ | refine And.intro ?_ ?_ | apply gQ_merge | apply gE_merge | exact EqV_w | exact EqE_w | exact EqV_ptr | exact EqE_ptr | exact EqV_msl | exact EqE_msl | exact EqV_agg | exact EqE_agg | exact EqV_fn | exact EqE_fn | exact EqV_gd | exact EqE_gd | refine gM_splitN ?_ ?_ | refine gM_split ?_ ?_ |  refine condM_splitDN ?_ ?_ | refine condM_splitD ?_ ?_ | refine condM_splitN ?_ ?_ | refine condM_split ?_ ?_ | refine condM_any ?_ ?_ | refine cw (c0) ?_ | intro _) | (simp [*]) | (refine cw_eq (c0) ?_ ?_; (· (simp [*]; done))))
  refine awp_for3 (fun (k : Nat) => k ≤ p.stops.length ∧ brokK m p ts ss k = R) [2, 3, 4, 6, 8] (fun (k : Nat) => [(9, .w false false (.int .i64 k))]) [0, 1, 2] (fun (k : Nat) => []) (fun (k : Nat) => p.stops.length - k) (fun (_u : Unit) => R = ((0, 0), false)) [6] (fun (_u : Unit) => []) [0, 1, 2] (fun (_u : Unit) => []) (0) ⟨Nat.zero_le _, kR⟩ (by simp) (by simp) (fun k hk => ?_) (fun _u hf => ?_)
  · obtain ⟨hk, hj⟩ := hk
    by_cases hlt : k < p.stops.length
    · by_cases hc : p.car.seats < nth ss k
      · rw [brokK_seats hlt hc] at hj
        subst hj
        clear c2 c0
        repeat' (first | (with_reducible first | refine awp_seq ?_ | refine awp_blockS ?_ | refine awp_blockC ?_ | refine awp_blockR ?_ | refine awp_skip ?_ | refine awp_ret ?_ | refine awp_exit ?_ | refine awp_region ?_ | refine awp_regionD (id := 5) 8 mixed (by decide +kernel) ?_ | refine awp_condM ?_ | refine And.intro ?_ ?_ | apply gQ_merge | apply gE_merge | exact EqV_w | exact EqE_w | exact EqV_ptr | exact EqE_ptr | exact EqV_msl | exact EqE_msl | exact EqV_agg | exact EqE_agg | exact EqV_fn | exact EqE_fn | exact EqV_gd | exact EqE_gd | refine gM_splitN ?_ ?_ | refine gM_split ?_ ?_ |  refine condM_splitDN ?_ ?_ | refine condM_splitD ?_ ?_ | refine condM_splitN ?_ ?_ | refine condM_split ?_ ?_ | refine condM_any ?_ ?_ | intro _) | (simp [*, hlt, hl2, cStop]))
        all_goals first
          | exact inI64 (by omega) (by omega)
          | omega
          | skip
      · cases ho : (nth p.stops k).out with
        | false =>
          rw [brokK_ok hlt hc (by rw [ho]; rintro ⟨h, _⟩; cases h)] at hj
          have kj := keep hj
          clear hj c2 c0
          repeat' (first | (with_reducible first | refine awp_seq ?_ | refine awp_blockS ?_ | refine awp_blockC ?_ | refine awp_blockR ?_ | refine awp_skip ?_ | refine awp_ret ?_ | refine awp_exit ?_ | refine awp_region ?_ | refine awp_regionD (id := 5) 8 mixed (by decide +kernel) ?_ | refine awp_condM ?_ | refine And.intro ?_ ?_ | apply gQ_merge | apply gE_merge | exact EqV_w | exact EqE_w | exact EqV_ptr | exact EqE_ptr | exact EqV_msl | exact EqE_msl | exact EqV_agg | exact EqE_agg | exact EqV_fn | exact EqE_fn | exact EqV_gd | exact EqE_gd | refine gM_splitN ?_ ?_ | refine gM_split ?_ ?_ |  refine condM_splitDN ?_ ?_ | refine condM_splitD ?_ ?_ | refine condM_splitN ?_ ?_ | refine condM_split ?_ ?_ | refine condM_any ?_ ?_ | intro _) | (simp [*, hlt, hl2, cStop]))
          all_goals first
            | exact inI64 (by omega) (by omega)
            | omega
            | (refine loopK_normal _ _ _ _ _ (k + 1) _ ?_ (by first | omega | (dsimp only; omega) | (simp; omega)) ?_; (· exact ⟨by omega, kj⟩); (refine le_of ?_ ?_ <;> first | trivial | (simp [*]; done)))
            | skip
        | true =>
          obtain ⟨j, hs, hrd⟩ := ok.rides hlt ho
          have c1 := c2 j hrd
          have hX : rideX m p ts (nth p.stops k) = rideS m p ts j := by rw [hs]; rfl
          by_cases hr : (rideX m p ts (nth p.stops k)).2 < (rideX m p ts (nth p.stops k)).1
          · rw [brokK_ride hlt hc ho hr, hs] at hj
            rw [hX] at hr
            subst hj
            clear hX hrd ho c2 c0
            generalize rideS m p ts j = X at *
            repeat' (first | (with_reducible first | refine awp_seq ?_ | refine awp_blockS ?_ | refine awp_blockC ?_ | refine awp_blockR ?_ | refine awp_skip ?_ | refine awp_ret ?_ | refine awp_exit ?_ | refine awp_region ?_ | refine awp_regionD (id := 5) 8 mixed (by decide +kernel) ?_ | refine awp_condM ?_ | refine And.intro ?_ ?_ | apply gQ_merge | apply gE_merge | exact EqV_w | exact EqE_w | exact EqV_ptr | exact EqE_ptr | exact EqV_msl | exact EqE_msl | exact EqV_agg | exact EqE_agg | exact EqV_fn | exact EqE_fn | exact EqV_gd | exact EqE_gd | refine gM_splitN ?_ ?_ | refine gM_split ?_ ?_ |  refine condM_splitDN ?_ ?_ | refine condM_splitD ?_ ?_ | refine condM_splitN ?_ ?_ | refine condM_split ?_ ?_ | refine condM_any ?_ ?_ | refine cw (c1) ?_ | intro _) | (simp [*, hlt, hl2, cStop]) | (refine cw_eq (c1) ?_ ?_; (· (simp [*]; done))))
            all_goals first
              | exact inI64 (by omega) (by omega)
              | omega
              | skip
          · rw [brokK_ok hlt hc (fun h => hr h.2)] at hj
            rw [hX] at hr
            have kj := keep hj
            clear hX hrd ho hj c2 c0
            generalize rideS m p ts j = X at *
            repeat' (first | (with_reducible first | refine awp_seq ?_ | refine awp_blockS ?_ | refine awp_blockC ?_ | refine awp_blockR ?_ | refine awp_skip ?_ | refine awp_ret ?_ | refine awp_exit ?_ | refine awp_region ?_ | refine awp_regionD (id := 5) 8 mixed (by decide +kernel) ?_ | refine awp_condM ?_ | refine And.intro ?_ ?_ | apply gQ_merge | apply gE_merge | exact EqV_w | exact EqE_w | exact EqV_ptr | exact EqE_ptr | exact EqV_msl | exact EqE_msl | exact EqV_agg | exact EqE_agg | exact EqV_fn | exact EqE_fn | exact EqV_gd | exact EqE_gd | refine gM_splitN ?_ ?_ | refine gM_split ?_ ?_ |  refine condM_splitDN ?_ ?_ | refine condM_splitD ?_ ?_ | refine condM_splitN ?_ ?_ | refine condM_split ?_ ?_ | refine condM_any ?_ ?_ | refine cw (c1) ?_ | intro _) | (simp [*, hlt, hl2, cStop]) | (refine cw_eq (c1) ?_ ?_; (· (simp [*]; done))))
            all_goals first
              | exact inI64 (by omega) (by omega)
              | omega
              | (refine loopK_normal _ _ _ _ _ (k + 1) _ ?_ (by first | omega | (dsimp only; omega) | (simp; omega)) ?_; (· exact ⟨by omega, kj⟩); (refine le_of ?_ ?_ <;> first | trivial | (simp [*]; done)))
              | skip
    · have hke : k = p.stops.length := by omega
      subst hke
      rw [brokK_end] at hj
      have kj := keep hj
      clear hj c2
      repeat' (first | (with_reducible first | refine awp_seq ?_ | refine awp_blockS ?_ | refine awp_blockC ?_ | refine awp_blockR ?_ | refine awp_skip ?_ | refine awp_ret ?_ | refine awp_exit ?_ | refine awp_region ?_ | refine awp_regionD (id := 5) 8 mixed (by decide +kernel) ?_ | refine awp_condM ?_ | refine And.intro ?_ ?_ | apply gQ_merge | apply gE_merge | exact EqV_w | exact EqE_w | exact EqV_ptr | exact EqE_ptr | exact EqV_msl | exact EqE_msl | exact EqV_agg | exact EqE_agg | exact EqV_fn | exact EqE_fn | exact EqV_gd | exact EqE_gd | refine gM_splitN ?_ ?_ | refine gM_split ?_ ?_ |  refine condM_splitDN ?_ ?_ | refine condM_splitD ?_ ?_ | refine condM_splitN ?_ ?_ | refine condM_split ?_ ?_ | refine condM_any ?_ ?_ | intro _) | (simp [*]))
      all_goals (refine finW_intro () ?_ ?_; (· exact kj.symm); (refine le_of ?_ ?_ <;> first | trivial | (simp [*]; done)))
  · subst hf
    clear c2
    repeat' (first | (with_reducible first | refine awp_seq ?_ | refine awp_blockS ?_ | refine awp_blockC ?_ | refine awp_blockR ?_ | refine awp_skip ?_ | refine awp_ret ?_ | refine awp_exit ?_ | refine awp_region ?_ | refine awp_regionD (id := 5) 8 mixed (by decide +kernel) ?_ | refine awp_condM ?_ | refine And.intro ?_ ?_ | apply gQ_merge | apply gE_merge | exact EqV_w | exact EqE_w | exact EqV_ptr | exact EqE_ptr | exact EqV_msl | exact EqE_msl | exact EqV_agg | exact EqE_agg | exact EqV_fn | exact EqE_fn | exact EqV_gd | exact EqE_gd | refine gM_splitN ?_ ?_ | refine gM_split ?_ ?_ |  refine condM_splitDN ?_ ?_ | refine condM_splitD ?_ ?_ | refine condM_splitN ?_ ?_ | refine condM_split ?_ ?_ | refine condM_any ?_ ?_ | intro _) | (simp [*]))
def brokQ (m : Grid) (p : Plan) : (Int × Int) × Bool := brokenS m p (timesS m p noDelay) (seatsS p)
theorem rFirstBroken_c (m : Grid) (p : Plan) (ok : TourOk m p) : RealCall Try.prog 44 [aMap m, aPlan p] (brokP (brokQ m p)) true := by
  have c1 := rTimesOf_c m p ok.go
  have c2 := rBrokenBy_c m p ok (timesS m p noDelay) (timesS_len _ _ _) (ok.go.times noDelay_bd)
  clear ok
  unfold brokQ
  unfold brokP at *
  generalize brokenS m p (timesS m p noDelay) (seatsS p) = B at *
  generalize timesS m p noDelay = L at *
  unfold aMap aPlan cPlan at *
  refine realcall_intro Try.func44 (by kernel_rfl) rfl (Nat.le_of_ble_eq_true (by kernel_rfl)) ?_
  simp only [Try.results44, Try.ntmps44]
  repeat' (first | (with_reducible first | refine awp_seq ?_ | refine awp_blockS ?_ | refine awp_blockC ?_ | refine awp_blockR ?_ | refine awp_skip ?_ | refine awp_ret ?_ | refine awp_exit ?_ | refine awp_region ?_ | refine awp_regionD (id := 1) 8 mixed (by decide +kernel) ?_ | refine awp_condM ?_ | refine And.intro ?_ ?_ | apply gQ_merge | apply gE_merge | exact EqV_w | exact EqE_w | exact EqV_ptr | exact EqE_ptr | exact EqV_msl | exact EqE_msl | exact EqV_agg | exact EqE_agg | exact EqV_fn | exact EqE_fn | exact EqV_gd | exact EqE_gd | refine gM_splitN ?_ ?_ | refine gM_split ?_ ?_ |  refine condM_splitDN ?_ ?_ | refine condM_splitD ?_ ?_ | refine condM_splitN ?_ ?_ | refine condM_split ?_ ?_ | refine condM_any ?_ ?_ | refine cw (c1) ?_ | refine cw (c2) ?_ | intro _) | (simp [*]) | (refine cw_eq (c1) ?_ ?_; (· (simp [*]; done))) | (refine cw_eq (c2) ?_ ?_; (· (simp [*]; done))))
theorem rKeeps_c (m : Grid) (p : Plan) (ok : TourOk m p) : RealCall Try.prog 13 [aMap m, aPlan p] (.bool (keepsS m p)) true := by
  have c1 := rFirstBroken_c m p ok
  have e : keepsS m p = !(brokQ m p).2 := rfl
  rw [e]
  clear ok e
  unfold brokP at *
  generalize brokQ m p = B at *
  unfold aMap aPlan cPlan at *
  refine realcall_intro Try.func13 (by kernel_rfl) rfl (Nat.le_of_ble_eq_true (by kernel_rfl)) ?_
  simp only [Try.results13, Try.ntmps13]
  repeat' (first | (with_reducible first | refine awp_seq ?_ | refine awp_blockS ?_ | refine awp_blockC ?_ | refine awp_blockR ?_ | refine awp_skip ?_ | refine awp_ret ?_ | refine awp_exit ?_ | refine awp_region ?_ | refine awp_condM ?_ | refine And.intro ?_ ?_ | apply gQ_merge | apply gE_merge | exact EqV_w | exact EqE_w | exact EqV_ptr | exact EqE_ptr | exact EqV_msl | exact EqE_msl | exact EqV_agg | exact EqE_agg | exact EqV_fn | exact EqE_fn | exact EqV_gd | exact EqE_gd | refine gM_splitN ?_ ?_ | refine gM_split ?_ ?_ |  refine condM_splitDN ?_ ?_ | refine condM_splitD ?_ ?_ | refine condM_splitN ?_ ?_ | refine condM_split ?_ ?_ | refine condM_any ?_ ?_ | refine cw (c1) ?_ | intro _) | (simp [*]) | (refine cw_eq (c1) ?_ ?_; (· (simp [*]; done))))
theorem rPlanErr_c (m : Grid) (hm : GridIn m) (p : Plan) (hp : PlanIn p) : RealCall Try.prog 10 [aMap m, aPlan p] (.int .i64 (checkS m p).2) true := by
  have c1 := rCheckPlan_c m hm p hp
  clear hm hp
  unfold pairI at *
  generalize checkS m p = X at *
  unfold aMap aPlan cPlan at *
  refine realcall_intro Try.func10 (by kernel_rfl) rfl (Nat.le_of_ble_eq_true (by kernel_rfl)) ?_
  simp only [Try.results10, Try.ntmps10]
  repeat' (first | (with_reducible first | refine awp_seq ?_ | refine awp_blockS ?_ | refine awp_blockC ?_ | refine awp_blockR ?_ | refine awp_skip ?_ | refine awp_ret ?_ | refine awp_exit ?_ | refine awp_region ?_ | refine awp_condM ?_ | refine And.intro ?_ ?_ | apply gQ_merge | apply gE_merge | exact EqV_w | exact EqE_w | exact EqV_ptr | exact EqE_ptr | exact EqV_msl | exact EqE_msl | exact EqV_agg | exact EqE_agg | exact EqV_fn | exact EqE_fn | exact EqV_gd | exact EqE_gd | refine gM_splitN ?_ ?_ | refine gM_split ?_ ?_ |  refine condM_splitDN ?_ ?_ | refine condM_splitD ?_ ?_ | refine condM_splitN ?_ ?_ | refine condM_split ?_ ?_ | refine condM_any ?_ ?_ | refine cw (c1) ?_ | intro _) | (simp [*]) | (refine cw_eq (c1) ?_ ?_; (· (simp [*]; done))))
end Go.Proofs.Ytiialcomflggcaa

