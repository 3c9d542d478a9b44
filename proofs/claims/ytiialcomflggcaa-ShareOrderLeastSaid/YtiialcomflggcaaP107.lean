/- Contracts of functions for this claim: lemmas alone. -/
import Derived.Test.YtiialcomflggcaaP105
import Derived.Test.YtiialcomflggcaaP14
import Derived.Test.YtiialcomflggcaaLj
set_option linter.unusedSimpArgs false
set_option linter.unusedVariables false
namespace Go.Proofs.Ytiialcomflggcaa
open Go Go.Fi
set_option maxRecDepth 20000

@[simp] theorem stA2_at : ∀ (S : List Stop) (k : Nat), k < S.length → ((stA2 S).drop (k * 2)).take 2 = [.w false false (.int .i64 (nth S k).rider), .w false false (.bool (nth S k).out)]
  | [], k, h => by simp at h
  | s :: S, 0, _ => by simp [stA2, cStops, cStop]
  | s :: S, k + 1, h => by
    have ih := stA2_at S k (by simpa using h)
    rw [show s :: S = [s] ++ S from rfl, stA2_app, show (k + 1) * 2 = 2 + k * 2 by omega, ← List.drop_drop]
    have e : (stA2 [s] ++ stA2 S).drop 2 = stA2 S := by simp [stA2, cStops, cStop]
    rw [e, ih]; rfl
set_option maxHeartbeats 8000000 in
/-- the drive of a plan whose stops are still the program's own -/
theorem plain_w (m : Grid) (p0 p : Plan) (S : List Stop) (lp : Nat) (acc : Option (List Stop × Int)) (ok : DriveOk m p) (hS : S.take p.stops.length = p.stops) (hS2 : p.stops.length ≤ S.length) (K : AV → Heap → Nat → Prop)
    (hK : K (.ptr 16 8 0) ([(16, [.w false false (.int .i64 p.car.at_), .w false false (.int .i64 p.car.time), .w false false (.int .i64 p.car.seats), .w false false (.sl p.riders.length (cRiders p.riders)), .msl 10 (S.length * 2) 2 0 p.stops.length, .w false false (.sl m.length (cRows m)), .msl 17 (timesS m p noDelay).length 1 0 (timesS m p noDelay).length, .msl 18 (seatsS p).length 1 0 (seatsS p).length]), (17, iA (timesS m p noDelay)), (18, iA (seatsS p))] ++ ordH m p0 lp acc S p.stops.length) 19) :
    AWPk ⟨11, none⟩ Try.prog (Try.f36.body.getD .skip) ⟨envA 0 [.agg [.w false false (.sl m.length (cRows m))], .agg [.w false false (.int .i64 p.car.at_), .w false false (.int .i64 p.car.time), .w false false (.int .i64 p.car.seats), .w false false (.sl p.riders.length (cRiders p.riders)), .msl 10 (S.length * 2) 2 0 p.stops.length]], ordH m p0 lp acc S p.stops.length, 11, Try.f36.ntmps⟩ (inlK Try.prog Try.f36.results.toList K) := by
  replace hK := keep hK
  unfold ordH moreCaps cPlan at *
  have hb : Try.f36.body = some _ := rfl
  rw [hb]
  clear hb
  simp only [Option.getD_some, Try.ntmps36, Try.results36]
  have hml := ok.ml
  have hrl := ok.rl
  have hsl := ok.sl
  have ko := keep ok
  clear ok
  repeat' (first | (with_reducible first | refine stop_at (id := 1) ?_ | refine awp_seq ?_ | refine awp_blockS ?_ | refine awp_blockC ?_ | refine awp_blockR ?_ | refine awp_skip ?_ | refine awp_ret ?_ | refine awp_exit ?_ | refine awp_region ?_ | refine awp_condM ?_ | refine And.intro ?_ ?_ | apply gQ_merge | apply gE_merge | exact EqV_w | exact EqE_w | exact EqV_ptr | exact EqE_ptr | exact EqV_msl | exact EqE_msl | exact EqV_agg | exact EqE_agg | exact EqV_fn | exact EqE_fn | exact EqV_gd | exact EqE_gd | refine gM_splitN ?_ ?_ | refine gM_split ?_ ?_ |  refine condM_splitDN ?_ ?_ | refine condM_splitD ?_ ?_ | refine condM_splitN ?_ ?_ | refine condM_split ?_ ?_ | refine condM_any ?_ ?_ | intro _) | (simp [*]))
  refine ⟨awp_regionL (id := 1) 3 70 Try.func70 (by kernel_rfl) rfl (by decide) rfl ?_⟩
  simp
  refine inlY_intro [] rfl (Nat.le_of_ble_eq_true (by kernel_rfl)) (by simp) rfl ?_
  simp
  obtain ⟨d, hd0⟩ : ∃ d : Delay, d = noDelay := ⟨_, rfl⟩
  have hd : 0 ≤ d.by_ ∧ d.by_ ≤ 30000 := by rw [hd0]; exact noDelay_bd
  refine awp_le (st' := ⟨[(0, .agg [.w false false (.sl m.length (cRows m))]), (1, .agg [.w false false (.int .i64 p.car.at_), .w false false (.int .i64 p.car.time), .w false false (.int .i64 p.car.seats), .w false false (.sl p.riders.length (cRiders p.riders)), .msl 10 (S.length * 2) 2 0 p.stops.length]), (2, .agg [.w false false (.int .i64 d.stop), .w false false (.int .i64 d.by_)])], ordH m p0 lp acc S p.stops.length, 13, 117⟩) (le_gen [] (by simp [hd0, noDelay]) (by simp [ordH, moreCaps, cPlan])) ?_
  have kd0 := keep hd0
  clear hd0
  unfold ordH moreCaps cPlan at *
  repeat' (first | (with_reducible first | refine awp_seq ?_ | refine awp_blockS ?_ | refine awp_blockC ?_ | refine awp_blockR ?_ | refine awp_skip ?_ | refine awp_ret ?_ | refine awp_exit ?_ | refine awp_region ?_ | refine awp_regionD (id := 2) 9 mixed (by decide +kernel) ?_ | refine awp_regionD (id := 13) 9 mixed (by decide +kernel) ?_ | refine awp_regionD (id := 15) 8 mixed (by decide +kernel) ?_ | refine awp_regionS (id := 20) [0, 1, 2, 3, 4, 5, 6, 7, 9, 10, 11, 12, 13, 14] [8, 15, 16, 17, 18, 19, 20, 21] [[.fld 7 112 2, .fld 7 112 3], [.fld 7 112 2, .fld 7 112 3, .slot 7], [], [], [], [], [], [], [.fld 7 112 2], [.fld 7 112 2], [.fld 7 112 2], [.fld 7 112 2], [.fld 7 112 2], [.fld 7 112 2]] [[.fld 7 112 2], [.fld 7 112 3], [], [], [.slot 7], [], [], [.slot 7]] mixed (by decide +kernel) ?_ | refine awp_condM ?_ | refine And.intro ?_ ?_ | apply gQ_merge | apply gE_merge | exact EqV_w | exact EqE_w | exact EqV_ptr | exact EqE_ptr | exact EqV_msl | exact EqE_msl | exact EqV_agg | exact EqE_agg | exact EqV_fn | exact EqE_fn | exact EqV_gd | exact EqE_gd | refine gM_splitN ?_ ?_ | refine gM_split ?_ ?_ |  refine condM_splitDN ?_ ?_ | refine condM_splitD ?_ ?_ | refine condM_splitN ?_ ?_ | refine condM_split ?_ ?_ | refine condM_any ?_ ?_ | intro _) | (simp [*]))
  refine awp_for3 (fun (k : Nat) => k ≤ p.riders.length) [3, 4, 5, 7, 8, 9, 30, 31] (fun (k : Nat) => [(32, .w false false (.int .i64 k)), (10, .w false false (.int .i64 (aboardS (p.riders.take k))))]) [10, 8, 4, 5, 6, 9, 7, 0, 1, 2, 13, 14, 15, 16] (fun (k : Nat) => []) (fun (k : Nat) => p.riders.length - k) (fun (_u : Unit) => True) [3, 4, 5, 7, 8, 9] (fun (_u : Unit) => [(10, .w false false (.int .i64 (aboardS p.riders)))]) [10, 8, 4, 5, 6, 9, 7, 0, 1, 2, 13, 14, 15, 16] (fun (_u : Unit) => []) (0) (Nat.zero_le _) (by simp) (by simp) (fun k hk => ?_) (fun _u hf => ?_)
  · by_cases hlt : k < p.riders.length
    · have h1 := aboardS_bd (m := m) (l := p.riders.take k) (fun j hj => by
        rw [take_len _ _ hk] at hj
        have := ko.riders j (by omega)
        have e : nth (p.riders.take k) j = nth p.riders j := by simp [nth, List.getD_eq_getElem?_getD, List.getElem?_take, hj]
        rw [e]; exact this)
      rw [take_len _ _ hk] at h1
      have s0 := (ko.riders k hlt).s0
      have s1 := (ko.riders k hlt).s1
      have kS := keep (aboardS_succ p.riders k hlt)
      cases hab : (nth p.riders k).aboard with
      | true =>
        have kS2 : Keep (aboardS (p.riders.take (k + 1)) = aboardS (p.riders.take k) + (nth p.riders k).seats) := by rw [seatsAb, if_pos hab] at kS; exact kS
        clear kS
        repeat' (first | (with_reducible first | refine awp_seq ?_ | refine awp_blockS ?_ | refine awp_blockC ?_ | refine awp_blockR ?_ | refine awp_skip ?_ | refine awp_ret ?_ | refine awp_exit ?_ | refine awp_region ?_ | refine awp_regionD (id := 2) 9 mixed (by decide +kernel) ?_ | refine awp_regionD (id := 13) 9 mixed (by decide +kernel) ?_ | refine awp_regionD (id := 15) 8 mixed (by decide +kernel) ?_ | refine awp_regionS (id := 20) [0, 1, 2, 3, 4, 5, 6, 7, 9, 10, 11, 12, 13, 14] [8, 15, 16, 17, 18, 19, 20, 21] [[.fld 7 112 2, .fld 7 112 3], [.fld 7 112 2, .fld 7 112 3, .slot 7], [], [], [], [], [], [], [.fld 7 112 2], [.fld 7 112 2], [.fld 7 112 2], [.fld 7 112 2], [.fld 7 112 2], [.fld 7 112 2]] [[.fld 7 112 2], [.fld 7 112 3], [], [], [.slot 7], [], [], [.slot 7]] mixed (by decide +kernel) ?_ | refine awp_condM ?_ | refine And.intro ?_ ?_ | apply gQ_merge | apply gE_merge | exact EqV_w | exact EqE_w | exact EqV_ptr | exact EqE_ptr | exact EqV_msl | exact EqE_msl | exact EqV_agg | exact EqE_agg | exact EqV_fn | exact EqE_fn | exact EqV_gd | exact EqE_gd | refine gM_splitN ?_ ?_ | refine gM_split ?_ ?_ |  refine condM_splitDN ?_ ?_ | refine condM_splitD ?_ ?_ | refine condM_splitN ?_ ?_ | refine condM_split ?_ ?_ | refine condM_any ?_ ?_ | intro _) | (simp [*, hlt, cRider]))
        all_goals first
          | exact inI64 (by omega) (by omega)
          | omega
          | (refine loopK_normal _ _ _ _ _ (k + 1) _ ?_ (by first | omega | (dsimp only; omega) | (simp; omega)) ?_; (· omega); (refine le_of ?_ ?_ <;> first | trivial | (simp [*, show aboardS (p.riders.take (k + 1)) = aboardS (p.riders.take k) + (nth p.riders k).seats from kS2]; done)))
          | skip
      | false =>
        have kS2 : Keep (aboardS (p.riders.take (k + 1)) = aboardS (p.riders.take k)) := by rw [seatsAb, if_neg (by rw [hab]; decide), Int.add_zero] at kS; exact kS
        clear kS
        repeat' (first | (with_reducible first | refine awp_seq ?_ | refine awp_blockS ?_ | refine awp_blockC ?_ | refine awp_blockR ?_ | refine awp_skip ?_ | refine awp_ret ?_ | refine awp_exit ?_ | refine awp_region ?_ | refine awp_regionD (id := 2) 9 mixed (by decide +kernel) ?_ | refine awp_regionD (id := 13) 9 mixed (by decide +kernel) ?_ | refine awp_regionD (id := 15) 8 mixed (by decide +kernel) ?_ | refine awp_regionS (id := 20) [0, 1, 2, 3, 4, 5, 6, 7, 9, 10, 11, 12, 13, 14] [8, 15, 16, 17, 18, 19, 20, 21] [[.fld 7 112 2, .fld 7 112 3], [.fld 7 112 2, .fld 7 112 3, .slot 7], [], [], [], [], [], [], [.fld 7 112 2], [.fld 7 112 2], [.fld 7 112 2], [.fld 7 112 2], [.fld 7 112 2], [.fld 7 112 2]] [[.fld 7 112 2], [.fld 7 112 3], [], [], [.slot 7], [], [], [.slot 7]] mixed (by decide +kernel) ?_ | refine awp_condM ?_ | refine And.intro ?_ ?_ | apply gQ_merge | apply gE_merge | exact EqV_w | exact EqE_w | exact EqV_ptr | exact EqE_ptr | exact EqV_msl | exact EqE_msl | exact EqV_agg | exact EqE_agg | exact EqV_fn | exact EqE_fn | exact EqV_gd | exact EqE_gd | refine gM_splitN ?_ ?_ | refine gM_split ?_ ?_ |  refine condM_splitDN ?_ ?_ | refine condM_splitD ?_ ?_ | refine condM_splitN ?_ ?_ | refine condM_split ?_ ?_ | refine condM_any ?_ ?_ | intro _) | (simp [*, hlt, cRider]))
        all_goals first
          | exact inI64 (by omega) (by omega)
          | omega
          | (refine loopK_normal _ _ _ _ _ (k + 1) _ ?_ (by first | omega | (dsimp only; omega) | (simp; omega)) ?_; (· omega); (refine le_of ?_ ?_ <;> first | trivial | (simp [*, show aboardS (p.riders.take (k + 1)) = aboardS (p.riders.take k) from kS2]; done)))
          | skip
    · have hke : k = p.riders.length := by omega
      subst hke
      repeat' (first | (with_reducible first | refine awp_seq ?_ | refine awp_blockS ?_ | refine awp_blockC ?_ | refine awp_blockR ?_ | refine awp_skip ?_ | refine awp_ret ?_ | refine awp_exit ?_ | refine awp_region ?_ | refine awp_regionD (id := 2) 9 mixed (by decide +kernel) ?_ | refine awp_regionD (id := 13) 9 mixed (by decide +kernel) ?_ | refine awp_regionD (id := 15) 8 mixed (by decide +kernel) ?_ | refine awp_regionS (id := 20) [0, 1, 2, 3, 4, 5, 6, 7, 9, 10, 11, 12, 13, 14] [8, 15, 16, 17, 18, 19, 20, 21] [[.fld 7 112 2, .fld 7 112 3], [.fld 7 112 2, .fld 7 112 3, .slot 7], [], [], [], [], [], [], [.fld 7 112 2], [.fld 7 112 2], [.fld 7 112 2], [.fld 7 112 2], [.fld 7 112 2], [.fld 7 112 2]] [[.fld 7 112 2], [.fld 7 112 3], [], [], [.slot 7], [], [], [.slot 7]] mixed (by decide +kernel) ?_ | refine awp_condM ?_ | refine And.intro ?_ ?_ | apply gQ_merge | apply gE_merge | exact EqV_w | exact EqE_w | exact EqV_ptr | exact EqE_ptr | exact EqV_msl | exact EqE_msl | exact EqV_agg | exact EqE_agg | exact EqV_fn | exact EqE_fn | exact EqV_gd | exact EqE_gd | refine gM_splitN ?_ ?_ | refine gM_split ?_ ?_ |  refine condM_splitDN ?_ ?_ | refine condM_splitD ?_ ?_ | refine condM_splitN ?_ ?_ | refine condM_split ?_ ?_ | refine condM_any ?_ ?_ | intro _) | (simp [*]))
      all_goals (refine finW_intro () ?_ ?_; (· trivial); (refine le_of ?_ ?_ <;> first | trivial | (simp [*, List.take_length]; done)))
  · repeat' (first | (with_reducible first | refine awp_seq ?_ | refine awp_blockS ?_ | refine awp_blockC ?_ | refine awp_blockR ?_ | refine awp_skip ?_ | refine awp_ret ?_ | refine awp_exit ?_ | refine awp_region ?_ | refine awp_regionD (id := 2) 9 mixed (by decide +kernel) ?_ | refine awp_regionD (id := 13) 9 mixed (by decide +kernel) ?_ | refine awp_regionD (id := 15) 8 mixed (by decide +kernel) ?_ | refine awp_regionS (id := 20) [0, 1, 2, 3, 4, 5, 6, 7, 9, 10, 11, 12, 13, 14] [8, 15, 16, 17, 18, 19, 20, 21] [[.fld 7 112 2, .fld 7 112 3], [.fld 7 112 2, .fld 7 112 3, .slot 7], [], [], [], [], [], [], [.fld 7 112 2], [.fld 7 112 2], [.fld 7 112 2], [.fld 7 112 2], [.fld 7 112 2], [.fld 7 112 2]] [[.fld 7 112 2], [.fld 7 112 3], [], [], [.slot 7], [], [], [.slot 7]] mixed (by decide +kernel) ?_ | refine awp_condM ?_ | refine And.intro ?_ ?_ | apply gQ_merge | apply gE_merge | exact EqV_w | exact EqE_w | exact EqV_ptr | exact EqE_ptr | exact EqV_msl | exact EqE_msl | exact EqV_agg | exact EqE_agg | exact EqV_fn | exact EqE_fn | exact EqV_gd | exact EqE_gd | refine gM_splitN ?_ ?_ | refine gM_split ?_ ?_ |  refine condM_splitDN ?_ ?_ | refine condM_splitD ?_ ?_ | refine condM_splitN ?_ ?_ | refine condM_split ?_ ?_ | refine condM_any ?_ ?_ | intro _) | (simp [*]))
    refine awp_for4 19 (fun (k : Nat) => k ≤ p.stops.length) [3, 4, 5, 7, 44, 45] (fun (k : Nat) => [(46, .w false false (.int .i64 k)), (8, .w false false (.int .i64 (atK p k))), (9, .w false false (.int .i64 (clockK m p d k))), (10, .w false false (.int .i64 (takenK p k)))]) [10, 8, 4, 5, 6, 9, 7, 0, 1, 2, 13, 14, 15] (fun (k : Nat) => [(16, [.w false false (.int .i64 p.car.at_), .w false false (.int .i64 p.car.time), .w false false (.int .i64 p.car.seats), .w false false (.sl p.riders.length (cRiders p.riders)), .msl 10 (S.length * 2) 2 0 p.stops.length, .w false false (.sl m.length (cRows m)), .msl 17 k 1 0 k, .msl 18 k 1 0 k]), (17, iA (timesK m p d k)), (18, iA (seatsK p k))]) (fun (k : Nat) => p.stops.length - k) (fun (_u : Unit) => True) [7] (fun (_u : Unit) => []) [10, 8, 4, 5, 6, 9, 7, 0, 1, 2] (fun (_u : Unit) => [(16, [.w false false (.int .i64 p.car.at_), .w false false (.int .i64 p.car.time), .w false false (.int .i64 p.car.seats), .w false false (.sl p.riders.length (cRiders p.riders)), .msl 10 (S.length * 2) 2 0 p.stops.length, .w false false (.sl m.length (cRows m)), .msl 17 (timesS m p d).length 1 0 (timesS m p d).length, .msl 18 (seatsS p).length 1 0 (seatsS p).length]), (17, iA (timesS m p d)), (18, iA (seatsS p))]) (0) (Nat.zero_le _) (le_gen [] (by simp) (by simp)) (fun k hk => ?_) (fun _u hf => ?_)
    · by_cases hlt : k < p.stops.length
      · have hst := ko.stops k hlt
        have hat := ko.at_ (k := k) hk
        have hto := ko.to hlt
        have hgo := ko.go hlt
        have hcl := ko.clock hd (k := k) hk
        have htk := ko.taken (k := k) hk
        have hle := ko.least hlt
        have hpl := ko.place hlt
        have s0 := hpl.s0
        have s1 := hpl.s1
        have eA : atK p (k + 1) = placeOf p (nth p.stops k) := rfl
        have eC : clockK m p d (k + 1) = mxI (clockK m p d k + cellM m (atK p k) (placeOf p (nth p.stops k)) + (if (k : Int) = d.stop then d.by_ else 0)) (leastOf p (nth p.stops k)) := rfl
        have eT : takenK p (k + 1) = takenK p k + seatsOf p (nth p.stops k) := rfl
        have eL1 : timesK m p d (k + 1) = timesK m p d k ++ [clockK m p d (k + 1)] := rfl
        have eL2 : seatsK p (k + 1) = seatsK p k ++ [takenK p (k + 1)] := rfl
        have l1 := timesK_len m p d k
        have l2 := seatsK_len p k
        have hsq := fun a (h : a < m.length) => ko.sq a h
        clear ko hpl
        rw [eC] at eL1
        rw [eT] at eL2
        have hSk : nth S k = nth p.stops k := by rw [← nth_take S p.stops.length k hlt, hS]
        have hkS : k < S.length := by omega
        generalize hss : nth p.stops k = s at *
        obtain ⟨sr, so⟩ := s
        obtain ⟨j, rfl⟩ := Int.eq_ofNat_of_zero_le hst.1
        generalize hA : atK p k = A at *
        obtain ⟨a, rfl⟩ := Int.eq_ofNat_of_zero_le hat.1
        have hst2 : (j : Int) < (p.riders.length : Int) := hst.2
        have hjl : j < p.riders.length := by omega
        have hal : a < m.length := by omega
        have hrow := hsq a hal
        clear hsq hst hat hst2
        obtain ⟨b, hb⟩ := Int.eq_ofNat_of_zero_le hto.1
        rw [hb] at hto eC hgo eA eL1
        have hbl : b < m.length := by omega
        have hcm : cellM m (a : Int) (b : Int) = nth (nth m a) b := rfl
        rw [hcm] at hgo eC eL1
        clear hcm hto
        have hri : (riderOf p ⟨(j : Int), so⟩).seats = (nth p.riders j).seats := rfl
        rw [hri] at s0 s1
        clear hri
        generalize hv : nth (nth m a) b = v at *
        by_cases hds : (k : Int) = d.stop
        · rw [if_pos hds] at eC eL1
          have hds' := hds.symm
          clear hds
          cases so with
          | true =>
            have hb2 : (nth p.riders j).to = (b : Int) := hb
            have hl0 : leastOf p ⟨(j : Int), true⟩ = 0 := rfl
            have hse : seatsOf p ⟨(j : Int), true⟩ = -(nth p.riders j).seats := rfl
            rw [hl0] at eC eL1 hle
            rw [hse] at eT eL2
            have ke := keep (And.intro eA (And.intro eC (And.intro eT (And.intro eL1 eL2))))
            clear eA eC eT eL1 eL2 hb hl0 hse
            repeat' (first | (with_reducible first | refine awp_seq ?_ | refine awp_blockS ?_ | refine awp_blockC ?_ | refine awp_blockR ?_ | refine awp_skip ?_ | refine awp_ret ?_ | refine awp_exit ?_ | refine awp_region ?_ | refine awp_regionD (id := 2) 9 mixed (by decide +kernel) ?_ | refine awp_regionD (id := 13) 9 mixed (by decide +kernel) ?_ | refine awp_regionD (id := 15) 8 mixed (by decide +kernel) ?_ | refine awp_regionS (id := 20) [0, 1, 2, 3, 4, 5, 6, 7, 9, 10, 11, 12, 13, 14] [8, 15, 16, 17, 18, 19, 20, 21] [[.fld 7 112 2, .fld 7 112 3], [.fld 7 112 2, .fld 7 112 3, .slot 7], [], [], [], [], [], [], [.fld 7 112 2], [.fld 7 112 2], [.fld 7 112 2], [.fld 7 112 2], [.fld 7 112 2], [.fld 7 112 2]] [[.fld 7 112 2], [.fld 7 112 3], [], [], [.slot 7], [], [], [.slot 7]] mixed (by decide +kernel) ?_ | refine awp_condM ?_ | refine And.intro ?_ ?_ | apply gQ_merge | apply gE_merge | exact EqV_w | exact EqE_w | exact EqV_ptr | exact EqE_ptr | exact EqV_msl | exact EqE_msl | exact EqV_agg | exact EqE_agg | exact EqV_fn | exact EqE_fn | exact EqV_gd | exact EqE_gd | refine gM_splitN ?_ ?_ | refine gM_split ?_ ?_ |  refine condM_splitDN ?_ ?_ | refine condM_splitD ?_ ?_ | refine condM_splitN ?_ ?_ | refine condM_split ?_ ?_ | refine condM_any ?_ ?_ | intro _) | (simp [*, hlt, cRider, cStop]))
            all_goals first
              | exact inI64 (by omega) (by omega)
                          | omega
              | (refine loopK_normal _ _ _ _ _ (k + 1) _ ?_ (by first | omega | (dsimp only; omega) | (simp; omega)) ?_; (· omega); (refine le_gen [] ?_ ?_ <;> first | trivial | (simp [*, ke.1, ke.2.1, ke.2.2.1, ke.2.2.2.1, ke.2.2.2.2, mxI]; done)))
              | skip
          | false =>
            have hb2 : (nth p.riders j).frm = (b : Int) := hb
            have hl0 : leastOf p ⟨(j : Int), false⟩ = (nth p.riders j).ready := rfl
            have hse : seatsOf p ⟨(j : Int), false⟩ = (nth p.riders j).seats := rfl
            rw [hl0] at eC eL1 hle
            rw [hse] at eT eL2
            have ke := keep (And.intro eA (And.intro eC (And.intro eT (And.intro eL1 eL2))))
            clear eA eC eT eL1 eL2 hb hl0 hse
            repeat' (first | (with_reducible first | refine awp_seq ?_ | refine awp_blockS ?_ | refine awp_blockC ?_ | refine awp_blockR ?_ | refine awp_skip ?_ | refine awp_ret ?_ | refine awp_exit ?_ | refine awp_region ?_ | refine awp_regionD (id := 2) 9 mixed (by decide +kernel) ?_ | refine awp_regionD (id := 13) 9 mixed (by decide +kernel) ?_ | refine awp_regionD (id := 15) 8 mixed (by decide +kernel) ?_ | refine awp_regionS (id := 20) [0, 1, 2, 3, 4, 5, 6, 7, 9, 10, 11, 12, 13, 14] [8, 15, 16, 17, 18, 19, 20, 21] [[.fld 7 112 2, .fld 7 112 3], [.fld 7 112 2, .fld 7 112 3, .slot 7], [], [], [], [], [], [], [.fld 7 112 2], [.fld 7 112 2], [.fld 7 112 2], [.fld 7 112 2], [.fld 7 112 2], [.fld 7 112 2]] [[.fld 7 112 2], [.fld 7 112 3], [], [], [.slot 7], [], [], [.slot 7]] mixed (by decide +kernel) ?_ | refine awp_condM ?_ | refine And.intro ?_ ?_ | apply gQ_merge | apply gE_merge | exact EqV_w | exact EqE_w | exact EqV_ptr | exact EqE_ptr | exact EqV_msl | exact EqE_msl | exact EqV_agg | exact EqE_agg | exact EqV_fn | exact EqE_fn | exact EqV_gd | exact EqE_gd | refine gM_splitN ?_ ?_ | refine gM_split ?_ ?_ |  refine condM_splitDN ?_ ?_ | refine condM_splitD ?_ ?_ | refine condM_splitN ?_ ?_ | refine condM_split ?_ ?_ | refine condM_any ?_ ?_ | intro _) | (simp [*, hlt, cRider, cStop]))
            all_goals first
              | exact inI64 (by omega) (by omega)
                          | omega
              | (refine loopK_normal _ _ _ _ _ (k + 1) _ ?_ (by first | omega | (dsimp only; omega) | (simp; omega)) ?_; (· omega); (refine le_gen [] ?_ ?_ <;> first | trivial | (simp [*, ke.1, ke.2.1, ke.2.2.1, ke.2.2.2.1, ke.2.2.2.2, mxI]; done)))
              | skip
        · rw [if_neg hds, Int.add_zero] at eC eL1
          cases so with
          | true =>
            have hb2 : (nth p.riders j).to = (b : Int) := hb
            have hl0 : leastOf p ⟨(j : Int), true⟩ = 0 := rfl
            have hse : seatsOf p ⟨(j : Int), true⟩ = -(nth p.riders j).seats := rfl
            rw [hl0] at eC eL1 hle
            rw [hse] at eT eL2
            have ke := keep (And.intro eA (And.intro eC (And.intro eT (And.intro eL1 eL2))))
            clear eA eC eT eL1 eL2 hb hl0 hse
            repeat' (first | (with_reducible first | refine awp_seq ?_ | refine awp_blockS ?_ | refine awp_blockC ?_ | refine awp_blockR ?_ | refine awp_skip ?_ | refine awp_ret ?_ | refine awp_exit ?_ | refine awp_region ?_ | refine awp_regionD (id := 2) 9 mixed (by decide +kernel) ?_ | refine awp_regionD (id := 13) 9 mixed (by decide +kernel) ?_ | refine awp_regionD (id := 15) 8 mixed (by decide +kernel) ?_ | refine awp_regionS (id := 20) [0, 1, 2, 3, 4, 5, 6, 7, 9, 10, 11, 12, 13, 14] [8, 15, 16, 17, 18, 19, 20, 21] [[.fld 7 112 2, .fld 7 112 3], [.fld 7 112 2, .fld 7 112 3, .slot 7], [], [], [], [], [], [], [.fld 7 112 2], [.fld 7 112 2], [.fld 7 112 2], [.fld 7 112 2], [.fld 7 112 2], [.fld 7 112 2]] [[.fld 7 112 2], [.fld 7 112 3], [], [], [.slot 7], [], [], [.slot 7]] mixed (by decide +kernel) ?_ | refine awp_condM ?_ | refine And.intro ?_ ?_ | apply gQ_merge | apply gE_merge | exact EqV_w | exact EqE_w | exact EqV_ptr | exact EqE_ptr | exact EqV_msl | exact EqE_msl | exact EqV_agg | exact EqE_agg | exact EqV_fn | exact EqE_fn | exact EqV_gd | exact EqE_gd | refine gM_splitN ?_ ?_ | refine gM_split ?_ ?_ |  refine condM_splitDN ?_ ?_ | refine condM_splitD ?_ ?_ | refine condM_splitN ?_ ?_ | refine condM_split ?_ ?_ | refine condM_any ?_ ?_ | intro _) | (simp [*, hlt, cRider, cStop]))
            all_goals first
              | exact inI64 (by omega) (by omega)
                          | omega
              | (refine loopK_normal _ _ _ _ _ (k + 1) _ ?_ (by first | omega | (dsimp only; omega) | (simp; omega)) ?_; (· omega); (refine le_gen [] ?_ ?_ <;> first | trivial | (simp [*, ke.1, ke.2.1, ke.2.2.1, ke.2.2.2.1, ke.2.2.2.2, mxI]; done)))
              | skip
          | false =>
            have hb2 : (nth p.riders j).frm = (b : Int) := hb
            have hl0 : leastOf p ⟨(j : Int), false⟩ = (nth p.riders j).ready := rfl
            have hse : seatsOf p ⟨(j : Int), false⟩ = (nth p.riders j).seats := rfl
            rw [hl0] at eC eL1 hle
            rw [hse] at eT eL2
            have ke := keep (And.intro eA (And.intro eC (And.intro eT (And.intro eL1 eL2))))
            clear eA eC eT eL1 eL2 hb hl0 hse
            repeat' (first | (with_reducible first | refine awp_seq ?_ | refine awp_blockS ?_ | refine awp_blockC ?_ | refine awp_blockR ?_ | refine awp_skip ?_ | refine awp_ret ?_ | refine awp_exit ?_ | refine awp_region ?_ | refine awp_regionD (id := 2) 9 mixed (by decide +kernel) ?_ | refine awp_regionD (id := 13) 9 mixed (by decide +kernel) ?_ | refine awp_regionD (id := 15) 8 mixed (by decide +kernel) ?_ | refine awp_regionS (id := 20) [0, 1, 2, 3, 4, 5, 6, 7, 9, 10, 11, 12, 13, 14] [8, 15, 16, 17, 18, 19, 20, 21] [[.fld 7 112 2, .fld 7 112 3], [.fld 7 112 2, .fld 7 112 3, .slot 7], [], [], [], [], [], [], [.fld 7 112 2], [.fld 7 112 2], [.fld 7 112 2], [.fld 7 112 2], [.fld 7 112 2], [.fld 7 112 2]] [[.fld 7 112 2], [.fld 7 112 3], [], [], [.slot 7], [], [], [.slot 7]] mixed (by decide +kernel) ?_ | refine awp_condM ?_ | refine And.intro ?_ ?_ | apply gQ_merge | apply gE_merge | exact EqV_w | exact EqE_w | exact EqV_ptr | exact EqE_ptr | exact EqV_msl | exact EqE_msl | exact EqV_agg | exact EqE_agg | exact EqV_fn | exact EqE_fn | exact EqV_gd | exact EqE_gd | refine gM_splitN ?_ ?_ | refine gM_split ?_ ?_ |  refine condM_splitDN ?_ ?_ | refine condM_splitD ?_ ?_ | refine condM_splitN ?_ ?_ | refine condM_split ?_ ?_ | refine condM_any ?_ ?_ | intro _) | (simp [*, hlt, cRider, cStop]))
            all_goals first
              | exact inI64 (by omega) (by omega)
                          | omega
              | (refine loopK_normal _ _ _ _ _ (k + 1) _ ?_ (by first | omega | (dsimp only; omega) | (simp; omega)) ?_; (· omega); (refine le_gen [] ?_ ?_ <;> first | trivial | (simp [*, ke.1, ke.2.1, ke.2.2.1, ke.2.2.2.1, ke.2.2.2.2, mxI]; done)))
              | skip
      · have hke : k = p.stops.length := by omega
        subst hke
        repeat' (first | (with_reducible first | refine awp_seq ?_ | refine awp_blockS ?_ | refine awp_blockC ?_ | refine awp_blockR ?_ | refine awp_skip ?_ | refine awp_ret ?_ | refine awp_exit ?_ | refine awp_region ?_ | refine awp_regionD (id := 2) 9 mixed (by decide +kernel) ?_ | refine awp_regionD (id := 13) 9 mixed (by decide +kernel) ?_ | refine awp_regionD (id := 15) 8 mixed (by decide +kernel) ?_ | refine awp_regionS (id := 20) [0, 1, 2, 3, 4, 5, 6, 7, 9, 10, 11, 12, 13, 14] [8, 15, 16, 17, 18, 19, 20, 21] [[.fld 7 112 2, .fld 7 112 3], [.fld 7 112 2, .fld 7 112 3, .slot 7], [], [], [], [], [], [], [.fld 7 112 2], [.fld 7 112 2], [.fld 7 112 2], [.fld 7 112 2], [.fld 7 112 2], [.fld 7 112 2]] [[.fld 7 112 2], [.fld 7 112 3], [], [], [.slot 7], [], [], [.slot 7]] mixed (by decide +kernel) ?_ | refine awp_condM ?_ | refine And.intro ?_ ?_ | apply gQ_merge | apply gE_merge | exact EqV_w | exact EqE_w | exact EqV_ptr | exact EqE_ptr | exact EqV_msl | exact EqE_msl | exact EqV_agg | exact EqE_agg | exact EqV_fn | exact EqE_fn | exact EqV_gd | exact EqE_gd | refine gM_splitN ?_ ?_ | refine gM_split ?_ ?_ |  refine condM_splitDN ?_ ?_ | refine condM_splitD ?_ ?_ | refine condM_splitN ?_ ?_ | refine condM_split ?_ ?_ | refine condM_any ?_ ?_ | intro _) | (simp [*]))
        all_goals (refine finW_intro () ?_ ?_; (· trivial); (refine le_gen [] ?_ ?_ <;> first | trivial | (simp [*, timesS, seatsS]; done)))
    · rw [kd0] at *
      clear kd0 hd
      replace hK := keep hK
      repeat' (first | (with_reducible first | refine awp_seq ?_ | refine awp_blockS ?_ | refine awp_blockC ?_ | refine awp_blockR ?_ | refine awp_skip ?_ | refine awp_ret ?_ | refine awp_exit ?_ | refine awp_region ?_ | refine awp_regionD (id := 2) 9 mixed (by decide +kernel) ?_ | refine awp_regionD (id := 13) 9 mixed (by decide +kernel) ?_ | refine awp_regionD (id := 15) 8 mixed (by decide +kernel) ?_ | refine awp_regionS (id := 20) [0, 1, 2, 3, 4, 5, 6, 7, 9, 10, 11, 12, 13, 14] [8, 15, 16, 17, 18, 19, 20, 21] [[.fld 7 112 2, .fld 7 112 3], [.fld 7 112 2, .fld 7 112 3, .slot 7], [], [], [], [], [], [], [.fld 7 112 2], [.fld 7 112 2], [.fld 7 112 2], [.fld 7 112 2], [.fld 7 112 2], [.fld 7 112 2]] [[.fld 7 112 2], [.fld 7 112 3], [], [], [.slot 7], [], [], [.slot 7]] mixed (by decide +kernel) ?_ | refine awp_condM ?_ | refine And.intro ?_ ?_ | apply gQ_merge | apply gE_merge | exact EqV_w | exact EqE_w | exact EqV_ptr | exact EqE_ptr | exact EqV_msl | exact EqE_msl | exact EqV_agg | exact EqE_agg | exact EqV_fn | exact EqE_fn | exact EqV_gd | exact EqE_gd | refine gM_splitN ?_ ?_ | refine gM_split ?_ ?_ |  refine condM_splitDN ?_ ?_ | refine condM_splitD ?_ ?_ | refine condM_splitN ?_ ?_ | refine condM_split ?_ ?_ | refine condM_any ?_ ?_ | intro _) | (simp [*]))
      simp [RetA, resL, resA, oneOf]
      have hkk : Keep (K _ _ _) := hK
      clear hK
      repeat' (first | (with_reducible first | refine awp_seq ?_ | refine awp_blockS ?_ | refine awp_blockC ?_ | refine awp_blockR ?_ | refine awp_skip ?_ | refine awp_ret ?_ | refine awp_exit ?_ | refine awp_region ?_ | refine awp_condM ?_ | refine And.intro ?_ ?_ | apply gQ_merge | apply gE_merge | exact EqV_w | exact EqE_w | exact EqV_ptr | exact EqE_ptr | exact EqV_msl | exact EqE_msl | exact EqV_agg | exact EqE_agg | exact EqV_fn | exact EqE_fn | exact EqV_gd | exact EqE_gd | refine gM_splitN ?_ ?_ | refine gM_split ?_ ?_ |  refine condM_splitDN ?_ ?_ | refine condM_splitD ?_ ?_ | refine condM_splitN ?_ ?_ | refine condM_split ?_ ?_ | refine condM_any ?_ ?_ | intro _) | (simp [*]))
      all_goals simp [RetA, resL, resA, oneOf]
      all_goals exact hkk
end Go.Proofs.Ytiialcomflggcaa
namespace Go.Proofs.Ytiialcomflggcaa
open Go Go.Fi
set_option maxRecDepth 20000

@[simp] theorem zcells_31 : zcells Try.prog 31 = some [.w false false .undef] := by kernel_rfl
theorem cloneRiders_c (l : List Rider) (h : l.length < 100000) : RealCall Try.prog 34 [.sl l.length (cRiders l)] (.sl l.length (cRiders l)) true := by
  refine realcall_intro Try.func34 (by kernel_rfl) rfl (Nat.le_of_ble_eq_true (by kernel_rfl)) ?_
  simp only [Try.results34, Try.ntmps34]
  refine awp_seq ?_
  refine awp_region ?_
  simp
  refine awp_seq ?_
  refine awp_seq ?_
  refine awp_nil (ow := false) (fl := false) (k := l.length) (cells := cRiders l) Try.underlying27 ?_ ?_ ?_ ?_
  · simp
  · decide
  · decide
  intro b hb
  cases b with
  | true =>
    have hl : l = [] := List.eq_nil_of_length_eq_zero (hb rfl).1
    subst hl
    repeat' (first | (with_reducible first | refine awp_seq ?_ | refine awp_blockS ?_ | refine awp_blockC ?_ | refine awp_blockR ?_ | refine awp_skip ?_ | refine awp_ret ?_ | refine awp_exit ?_ | refine awp_region ?_ | refine awp_condM ?_ | refine And.intro ?_ ?_ | refine gE_splitN ?_ ?_ | refine gE_split ?_ ?_ | refine gQ_splitN ?_ ?_ | refine gQ_split ?_ ?_ | refine gM_splitN ?_ ?_ | refine gM_split ?_ ?_ | refine condM_splitDN ?_ ?_ | refine condM_splitD ?_ ?_ | refine condM_splitN ?_ ?_ | refine condM_split ?_ ?_ | refine condM_any ?_ ?_ | intro _) | (simp [*, cRiders]))
  | false =>
    clear hb
    repeat' (first | (with_reducible first | refine awp_seq ?_ | refine awp_blockS ?_ | refine awp_blockC ?_ | refine awp_blockR ?_ | refine awp_skip ?_ | refine awp_ret ?_ | refine awp_exit ?_ | refine awp_region ?_ | refine awp_condM ?_ | refine And.intro ?_ ?_ | refine gE_splitN ?_ ?_ | refine gE_split ?_ ?_ | refine gQ_splitN ?_ ?_ | refine gQ_split ?_ ?_ | refine gM_splitN ?_ ?_ | refine gM_split ?_ ?_ | refine condM_splitDN ?_ ?_ | refine condM_splitD ?_ ?_ | refine condM_splitN ?_ ?_ | refine condM_split ?_ ?_ | refine condM_any ?_ ?_ | intro _) | (simp [*]))
    all_goals try omega
theorem cloneStops_c (l : List Stop) (h : l.length < 100000) : RealCall Try.prog 39 [.sl l.length (cStops l)] (.sl l.length (cStops l)) true := by
  refine realcall_intro Try.func39 (by kernel_rfl) rfl (Nat.le_of_ble_eq_true (by kernel_rfl)) ?_
  simp only [Try.results39, Try.ntmps39]
  refine awp_seq ?_
  refine awp_region ?_
  simp
  refine awp_seq ?_
  refine awp_seq ?_
  refine awp_nil (ow := false) (fl := false) (k := l.length) (cells := cStops l) Try.underlying28 ?_ ?_ ?_ ?_
  · simp
  · decide
  · decide
  intro b hb
  cases b with
  | true =>
    have hl : l = [] := List.eq_nil_of_length_eq_zero (hb rfl).1
    subst hl
    repeat' (first | (with_reducible first | refine awp_seq ?_ | refine awp_blockS ?_ | refine awp_blockC ?_ | refine awp_blockR ?_ | refine awp_skip ?_ | refine awp_ret ?_ | refine awp_exit ?_ | refine awp_region ?_ | refine awp_condM ?_ | refine And.intro ?_ ?_ | refine gE_splitN ?_ ?_ | refine gE_split ?_ ?_ | refine gQ_splitN ?_ ?_ | refine gQ_split ?_ ?_ | refine gM_splitN ?_ ?_ | refine gM_split ?_ ?_ | refine condM_splitDN ?_ ?_ | refine condM_splitD ?_ ?_ | refine condM_splitN ?_ ?_ | refine condM_split ?_ ?_ | refine condM_any ?_ ?_ | intro _) | (simp [*, cStops]))
  | false =>
    clear hb
    repeat' (first | (with_reducible first | refine awp_seq ?_ | refine awp_blockS ?_ | refine awp_blockC ?_ | refine awp_blockR ?_ | refine awp_skip ?_ | refine awp_ret ?_ | refine awp_exit ?_ | refine awp_region ?_ | refine awp_condM ?_ | refine And.intro ?_ ?_ | refine gE_splitN ?_ ?_ | refine gE_split ?_ ?_ | refine gQ_splitN ?_ ?_ | refine gQ_split ?_ ?_ | refine gM_splitN ?_ ?_ | refine gM_split ?_ ?_ | refine condM_splitDN ?_ ?_ | refine condM_splitD ?_ ?_ | refine condM_splitN ?_ ?_ | refine condM_split ?_ ?_ | refine condM_any ?_ ?_ | intro _) | (simp [*]))
    all_goals try omega
theorem orders_c (p : Plan) : RealCall Try.prog 35 [aPlan p] (.fn 73 [.ip (cPlan p) 0]) false := by
  unfold aPlan cPlan
  refine realcall_intro Try.func35 (by kernel_rfl) rfl (Nat.le_of_ble_eq_true (by kernel_rfl)) ?_
  simp only [Try.results35, Try.ntmps35]
  repeat' (first | (with_reducible first | refine awp_seq ?_ | refine awp_blockS ?_ | refine awp_blockC ?_ | refine awp_blockR ?_ | refine awp_skip ?_ | refine awp_ret ?_ | refine awp_exit ?_ | refine awp_region ?_ | refine awp_condM ?_ | refine And.intro ?_ ?_ | apply gQ_merge | apply gE_merge | exact EqV_w | exact EqE_w | exact EqV_ptr | exact EqE_ptr | exact EqV_msl | exact EqE_msl | exact EqV_agg | exact EqE_agg | exact EqV_fn | exact EqE_fn | exact EqV_gd | exact EqE_gd | refine gM_splitN ?_ ?_ | refine gM_split ?_ ?_ |  refine condM_splitDN ?_ ?_ | refine condM_splitD ?_ ?_ | refine condM_splitN ?_ ?_ | refine condM_split ?_ ?_ | refine condM_any ?_ ?_ | intro _) | (simp [*]))
theorem PlanOk.slen {m : Grid} {p : Plan} (ok : PlanOk m p) : p.stops.length ≤ 12 := by
  have h := len_le_of_sub (ss := (List.range p.riders.length).flatMap fun (i : Nat) => ([⟨(i : Int), false⟩, ⟨(i : Int), true⟩] : List Stop)) ok.nodup (fun s hs => by
    have h1 := ok.all.rng s hs
    obtain ⟨r, o⟩ := s
    simp only at h1
    obtain ⟨i, rfl⟩ := Int.eq_ofNat_of_zero_le h1.1
    have hi : i < p.riders.length := by omega
    refine List.mem_flatMap.2 ⟨i, by simpa using hi, ?_⟩
    cases o <;> simp)
  have e : ∀ n : Nat, ((List.range n).flatMap fun (i : Nat) => ([⟨(i : Int), false⟩, ⟨(i : Int), true⟩] : List Stop)).length = 2 * n := by
    intro n
    induction n with
    | zero => rfl
    | succ n ih => rw [List.range_succ, List.flatMap_append, List.length_append, ih]; simp; omega
  rw [e] at h
  have := ok.rl
  omega
@[simp] theorem withS_stops (p : Plan) (l : List Stop) : (withS p l).stops = l := rfl
@[simp] theorem withS_riders (p : Plan) (l : List Stop) : (withS p l).riders = p.riders := rfl
@[simp] theorem withS_car (p : Plan) (l : List Stop) : (withS p l).car = p.car := rfl
@[simp] theorem outA_len (p : Plan) (b : Option (List Stop × Int)) : (outA p b).length = 5 := by rcases b with _ | ⟨q, c⟩ <;> rfl
/-- what comes back of the program's search -/
def bestP3 (p : Plan) : Option (List Stop × Int) → PV
  | none => .tup [aPlan noPlan, .int .i64 0, .int .i64 12]
  | some (q, c) => .tup [aPlan (withS p q), .int .i64 c, .int .i64 0]
set_option maxHeartbeats 8000000 in
theorem bestOrder_ok (m : Grid) (hm : GridIn m) (p : Plan) (hp : PlanIn p) (h : (checkS m p).2 = 0) (h4 : p.riders.length ≤ 4) :
    RealCall Try.prog 7 [aMap m, aPlan p] (bestP3 p (bestOrd (KS m p) (CS m p) p.riders p.stops.length [])) true := by
  obtain ⟨mo, ok⟩ := checkS_ok.1 h
  have hsl := ok.slen
  have c0 := open_ok m hm p hp h
  have c1 : RealCall Try.prog 32 [.sl 2 [.int .i64 0, .int .i64 0]] (.int .i64 0) true := first2_c 0 0
  have c2 : RealCall Try.prog 33 [.bool true, .int .i64 8] (.int .i64 0) true := unless_c true 8
  have c3 := cloneRiders_c p.riders (by have := hp.riders; omega)
  have c4 := orders_c p
  have hI : (p.riders.length : Int) ≤ 4 := by omega
  have hrl := hp.riders
  have kmo := keep mo
  have kok := keep ok
  have kp := keep hp
  have ksl := keep hsl
  clear mo ok hm hp h
  unfold aTour at c0
  generalize cTour m p _ _ = T at *
  unfold aPlan aMap cPlan at *
  refine realcall_intro_r Try.func7 (by kernel_rfl) rfl (Nat.le_of_ble_eq_true (by kernel_rfl)) ?_
  simp only [Try.results7, Try.ntmps7]
  refine awr_seq (awr_of ?_)
  repeat' (first | (with_reducible first | refine awp_seq ?_ | refine awp_blockS ?_ | refine awp_blockC ?_ | refine awp_blockR ?_ | refine awp_skip ?_ | refine awp_ret ?_ | refine awp_exit ?_ | refine awp_region ?_ | refine awp_regionD (id := 5) 9 mixed (by decide +kernel) ?_ | refine awp_regionS (id := 14) [0, 1] [2, 3, 4] [[], [.slot 4]] [[.slot 4], [], []] mixed (by decide +kernel) ?_ | refine awp_condM ?_ | refine And.intro ?_ ?_ | apply gQ_merge | apply gE_merge | exact EqV_w | exact EqE_w | exact EqV_ptr | exact EqE_ptr | exact EqV_msl | exact EqE_msl | exact EqV_agg | exact EqE_agg | exact EqV_fn | exact EqE_fn | exact EqV_gd | exact EqE_gd | refine gM_splitN ?_ ?_ | refine gM_split ?_ ?_ |  refine condM_splitDN ?_ ?_ | refine condM_splitD ?_ ?_ | refine condM_splitN ?_ ?_ | refine condM_split ?_ ?_ | refine condM_any ?_ ?_ | intro _) | (simp [*]))
  refine awr_seq (awr_of ?_)
  repeat' (first | (with_reducible first | refine awp_seq ?_ | refine awp_blockS ?_ | refine awp_blockC ?_ | refine awp_blockR ?_ | refine awp_skip ?_ | refine awp_ret ?_ | refine awp_exit ?_ | refine awp_region ?_ | refine awp_regionD (id := 5) 9 mixed (by decide +kernel) ?_ | refine awp_regionS (id := 14) [0, 1] [2, 3, 4] [[], [.slot 4]] [[.slot 4], [], []] mixed (by decide +kernel) ?_ | refine awp_condM ?_ | refine And.intro ?_ ?_ | apply gQ_merge | apply gE_merge | exact EqV_w | exact EqE_w | exact EqV_ptr | exact EqE_ptr | exact EqV_msl | exact EqE_msl | exact EqV_agg | exact EqE_agg | exact EqV_fn | exact EqE_fn | exact EqV_gd | exact EqE_gd | refine gM_splitN ?_ ?_ | refine gM_split ?_ ?_ |  refine condM_splitDN ?_ ?_ | refine condM_splitD ?_ ?_ | refine condM_splitN ?_ ?_ | refine condM_split ?_ ?_ | refine condM_any ?_ ?_ | refine cw (c0) ?_ | intro _) | (simp [*]) | (refine cw_eq (c0) ?_ ?_; (· (simp [*]; done))))
  refine awr_seq (awr_of ?_)
  repeat' (first | (with_reducible first | refine awp_seq ?_ | refine awp_blockS ?_ | refine awp_blockC ?_ | refine awp_blockR ?_ | refine awp_skip ?_ | refine awp_ret ?_ | refine awp_exit ?_ | refine awp_region ?_ | refine awp_regionD (id := 5) 9 mixed (by decide +kernel) ?_ | refine awp_regionS (id := 14) [0, 1] [2, 3, 4] [[], [.slot 4]] [[.slot 4], [], []] mixed (by decide +kernel) ?_ | refine awp_condM ?_ | refine And.intro ?_ ?_ | apply gQ_merge | apply gE_merge | exact EqV_w | exact EqE_w | exact EqV_ptr | exact EqE_ptr | exact EqV_msl | exact EqE_msl | exact EqV_agg | exact EqE_agg | exact EqV_fn | exact EqE_fn | exact EqV_gd | exact EqE_gd | refine gM_splitN ?_ ?_ | refine gM_split ?_ ?_ |  refine condM_splitDN ?_ ?_ | refine condM_splitD ?_ ?_ | refine condM_splitN ?_ ?_ | refine condM_split ?_ ?_ | refine condM_any ?_ ?_ | refine cw (c2) ?_ | refine cw (c1) ?_ | intro _) | (simp [*, hI]) | (refine cw_eq (c2) ?_ ?_; (· (simp [*]; done))) | (refine cw_eq (c1) ?_ ?_; (· (simp [*]; done))))
  all_goals try first | exact inI64 (by omega) (by omega) | omega
  refine awr_seq (awr_of ?_)
  repeat' (first | (with_reducible first | refine awp_seq ?_ | refine awp_blockS ?_ | refine awp_blockC ?_ | refine awp_blockR ?_ | refine awp_skip ?_ | refine awp_ret ?_ | refine awp_exit ?_ | refine awp_region ?_ | refine awp_regionD (id := 5) 9 mixed (by decide +kernel) ?_ | refine awp_regionS (id := 14) [0, 1] [2, 3, 4] [[], [.slot 4]] [[.slot 4], [], []] mixed (by decide +kernel) ?_ | refine awp_condM ?_ | refine And.intro ?_ ?_ | apply gQ_merge | apply gE_merge | exact EqV_w | exact EqE_w | exact EqV_ptr | exact EqE_ptr | exact EqV_msl | exact EqE_msl | exact EqV_agg | exact EqE_agg | exact EqV_fn | exact EqE_fn | exact EqV_gd | exact EqE_gd | refine gM_splitN ?_ ?_ | refine gM_split ?_ ?_ |  refine condM_splitDN ?_ ?_ | refine condM_splitD ?_ ?_ | refine condM_splitN ?_ ?_ | refine condM_split ?_ ?_ | refine condM_any ?_ ?_ | refine cw (c3) ?_ | intro _) | (simp [*]) | (refine cw_eq (c3) ?_ ?_; (· (simp [*]; done))))
  refine awr_seq (awr_seq (awr_of ?_))
  repeat' (first | (with_reducible first | refine awp_seq ?_ | refine awp_blockS ?_ | refine awp_blockC ?_ | refine awp_blockR ?_ | refine awp_skip ?_ | refine awp_ret ?_ | refine awp_exit ?_ | refine awp_region ?_ | refine awp_regionD (id := 5) 9 mixed (by decide +kernel) ?_ | refine awp_regionS (id := 14) [0, 1] [2, 3, 4] [[], [.slot 4]] [[.slot 4], [], []] mixed (by decide +kernel) ?_ | refine awp_condM ?_ | refine And.intro ?_ ?_ | apply gQ_merge | apply gE_merge | exact EqV_w | exact EqE_w | exact EqV_ptr | exact EqE_ptr | exact EqV_msl | exact EqE_msl | exact EqV_agg | exact EqE_agg | exact EqV_fn | exact EqE_fn | exact EqV_gd | exact EqE_gd | refine gM_splitN ?_ ?_ | refine gM_split ?_ ?_ |  refine condM_splitDN ?_ ?_ | refine condM_splitD ?_ ?_ | refine condM_splitN ?_ ?_ | refine condM_split ?_ ?_ | refine condM_any ?_ ?_ | refine cw (c4) ?_ | intro _) | (simp [*]) | (refine cw_eq (c4) ?_ ?_; (· (simp [*]; done))))
  clear c0 c1 c2 c3 c4
  refine awr_le (st' := ⟨[(40, .w false false (.fn 73 [.ip [.int .i64 p.car.at_, .int .i64 p.car.time, .int .i64 p.car.seats, .sl p.riders.length (cRiders p.riders), .sl p.stops.length (cStops p.stops)] 0])), (2, .ptr 0 1 0), (3, .ptr 1 5 0), (4, .ptr 2 5 0), (9, .ptr 4 5 0), (10, .ptr 5 1 0), (11, .ptr 6 1 0)], [(4, outA p none), (5, [.w false false (.int .i64 0)]), (6, [.w false false (.bool false)]), (0, [.w false false (.sl m.length (cRows m))]), (1, [.w false false (.int .i64 p.car.at_), .w false false (.int .i64 p.car.time), .w false false (.int .i64 p.car.seats), .w false false (.sl p.riders.length (cRiders p.riders)), .w false false (.sl p.stops.length (cStops p.stops))]),
    (2, [.w false false (.int .i64 0), .w false false (.int .i64 0), .w false false (.int .i64 0), .w true true (.sl 0 []), .w true true (.sl 0 [])])], 7, 72⟩) (le_gen [] (by simp) (by simp [outA])) ?_
  refine awr_block (awr_range (gf := 73) (caps := [.w false false (.ip [.int .i64 p.car.at_, .int .i64 p.car.time, .int .i64 p.car.seats, .sl p.riders.length (cRiders p.riders), .sl p.stops.length (cStops p.stops)] 0)]) ?_ Try.func73 (by kernel_rfl) rfl (Nat.le_of_ble_eq_true (by kernel_rfl)) (fun lp => ?_))
  · rfl
  simp only [Try.results73, Try.ntmps73]
  simp
  repeat' (first | (with_reducible first | refine stop_at (id := 4) ?_ | refine awp_seq ?_ | refine awp_blockS ?_ | refine awp_blockC ?_ | refine awp_blockR ?_ | refine awp_skip ?_ | refine awp_ret ?_ | refine awp_exit ?_ | refine awp_region ?_ | refine awp_condM ?_ | refine And.intro ?_ ?_ | apply gQ_merge | apply gE_merge | exact EqV_w | exact EqE_w | exact EqV_ptr | exact EqE_ptr | exact EqV_msl | exact EqE_msl | exact EqV_agg | exact EqE_agg | exact EqV_fn | exact EqE_fn | exact EqV_gd | exact EqE_gd | refine gM_splitN ?_ ?_ | refine gM_split ?_ ?_ |  refine condM_splitDN ?_ ?_ | refine condM_splitD ?_ ?_ | refine condM_splitN ?_ ?_ | refine condM_split ?_ ?_ | refine condM_any ?_ ?_ | intro _) | (simp [*]))
  refine ⟨awp_le (st' := ⟨[(4, .ptr 9 1 0)], ordH m p lp none [] 0, 11, 8⟩) (le_gen [] (by simp) (by simp [ordH, moreCaps, stA2, cStops, outA, cPlan])) ?_⟩
  refine awp_regionL (id := 4) 1 74 Try.func74 (by kernel_rfl) rfl (by decide) rfl ?_
  simp [ordH]
  refine inlY_intro (moreCaps p) rfl (Nat.le_of_ble_eq_true (by kernel_rfl)) (by simp) rfl ?_
  refine more_w m p kp kok (by unfold Keep at ksl; omega) _ (fun l S acc K e1 e2 e3 e4 hK => ?_) p.stops.length [] [] none _ (by simp) (fun q hq => hq) rfl (Nat.le_refl _) (fun S' acc' e _ _ => ?_)
  · have ok2 := orders_ok kok e2
    have hll : l.length < 10000 := by unfold Keep at ksl; omega
    have hS2 : S.length < 100000000 ∨ 100000000 ≤ S.length := by omega
    have hq := ok2.tour kmo hll
    have c3 := keeps_c m (withS p l) hq (timesS m (withS p l) noDelay) (seatsS (withS p l)) (timesS_len _ _ _) (seatsS_len _) (hq.go.times noDelay_bd)
    have c4 := cost_c m (withS p l) (timesS m (withS p l) noDelay) (seatsS (withS p l)) (by rw [timesS_len]; exact hll) (hq.go.times noDelay_bd) hq.go.t0 hq.go.t1
    have c5 := cloneStops_c l (by omega)
    have hKK : (!(brokenS m (withS p l) (timesS m (withS p l) noDelay) (seatsS (withS p l))).2) = KS m p l := rfl
    have hC : costS (withS p l) (timesS m (withS p l) noDelay) = CS m p l := rfl
    rw [hKK] at c3
    rw [hC] at c4
    have kdr := keep hq.go
    clear hKK hC hq ok2 e2
    unfold cTour at c3 c4
    simp only [withS_stops, withS_riders, withS_car] at c3 c4
    replace hK := hK _ rfl
    unfold pickO at hK
    have hcut : l.length * 2 = S.length * 2 → cStops S = cStops l := fun h => by
      have e : S.take l.length = S := List.take_of_length_le (by omega)
      rw [e] at e3
      rw [e3]
    have hcutT : (l.length * 2 = S.length * 2 → cStops S = cStops l) = True := eq_true hcut
    clear hcut
    clear e1
    generalize CS m p l = C at *
    cases hk2 : KS m p l with
    | false =>
      rw [hk2] at c3 hK
      rw [if_neg (by decide)] at hK
      have kK := keep hK
      clear hK hk2
      unfold ordH moreCaps cPlan at *
      refine roundM_intro (mk := .it) rfl (by simp) ?_
      repeat' (first | (with_reducible first | refine stop_at (id := 8) ?_ | refine awp_seq ?_ | refine awp_blockS ?_ | refine awp_blockC ?_ | refine awp_blockR ?_ | refine awp_skip ?_ | refine awp_ret ?_ | refine awp_exit ?_ | refine awp_region ?_ | refine awp_regionD (id := 5) 9 mixed (by decide +kernel) ?_ | refine awp_regionS (id := 14) [0, 1] [2, 3, 4] [[], [.slot 4]] [[.slot 4], [], []] mixed (by decide +kernel) ?_ | refine awp_condM ?_ | refine And.intro ?_ ?_ | apply gQ_merge | apply gE_merge | exact EqV_w | exact EqE_w | exact EqV_ptr | exact EqE_ptr | exact EqV_msl | exact EqE_msl | exact EqV_agg | exact EqE_agg | exact EqV_fn | exact EqE_fn | exact EqV_gd | exact EqE_gd | refine gM_splitN ?_ ?_ | refine gM_split ?_ ?_ |  refine condM_splitDN ?_ ?_ | refine condM_splitD ?_ ?_ | refine condM_splitN ?_ ?_ | refine condM_split ?_ ?_ | refine condM_any ?_ ?_ | intro _) | (simp [*]))
      refine ⟨awp_regionL (id := 8) 7 36 Try.func36 (by kernel_rfl) rfl (by decide) rfl ?_⟩
      simp
      refine inlY_intro [] rfl (Nat.le_of_ble_eq_true (by kernel_rfl)) (by simp) rfl ?_
      refine plain_w m p (withS p l) S lp _ kdr e3 e4 _ ?_
      simp [ordH, moreCaps, cPlan]
      generalize timesS m (withS p l) noDelay = ts at *
      generalize seatsS (withS p l) = ss at *
      clear kdr
      repeat' (first | (with_reducible first | refine awp_seq ?_ | refine awp_blockS ?_ | refine awp_blockC ?_ | refine awp_blockR ?_ | refine awp_skip ?_ | refine awp_ret ?_ | refine awp_exit ?_ | refine awp_region ?_ | refine awp_regionD (id := 5) 9 mixed (by decide +kernel) ?_ | refine awp_regionS (id := 14) [0, 1] [2, 3, 4] [[], [.slot 4]] [[.slot 4], [], []] mixed (by decide +kernel) ?_ | refine awp_condM ?_ | refine And.intro ?_ ?_ | apply gQ_merge | apply gE_merge | exact EqV_w | exact EqE_w | exact EqV_ptr | exact EqE_ptr | exact EqV_msl | exact EqE_msl | exact EqV_agg | exact EqE_agg | exact EqV_fn | exact EqE_fn | exact EqV_gd | exact EqE_gd | refine gM_splitN ?_ ?_ | refine gM_split ?_ ?_ |  refine condM_splitDN ?_ ?_ | refine condM_splitD ?_ ?_ | refine condM_splitN ?_ ?_ | refine condM_split ?_ ?_ | refine condM_any ?_ ?_ | refine cw (c3) ?_ | refine cw (c4) ?_ | refine cw (c5) ?_ | intro _) | (simp [*, hcutT]) | (refine cw_eq (c3) ?_ ?_; (· (simp [*]; done))) | (refine cw_eq (c4) ?_ ?_; (· (simp [*]; done))) | (refine cw_eq (c5) ?_ ?_; (· (simp [*]; done))))
      refine doneK_intro _ 11 72 ?_ (show K _ 11 from kK)
      refine le_gen [] ?_ ?_ <;> first | trivial | (simp; done)
    | true =>
      rw [hk2] at c3 hK
      rw [if_pos rfl] at hK
      rcases acc with _ | ⟨q, c⟩
      · skip
        have kK := keep hK
        clear hK hk2
        unfold ordH moreCaps cPlan at *
        refine roundM_intro (mk := .it) rfl (by simp) ?_
        repeat' (first | (with_reducible first | refine stop_at (id := 8) ?_ | refine awp_seq ?_ | refine awp_blockS ?_ | refine awp_blockC ?_ | refine awp_blockR ?_ | refine awp_skip ?_ | refine awp_ret ?_ | refine awp_exit ?_ | refine awp_region ?_ | refine awp_regionD (id := 5) 9 mixed (by decide +kernel) ?_ | refine awp_regionS (id := 14) [0, 1] [2, 3, 4] [[], [.slot 4]] [[.slot 4], [], []] mixed (by decide +kernel) ?_ | refine awp_condM ?_ | refine And.intro ?_ ?_ | apply gQ_merge | apply gE_merge | exact EqV_w | exact EqE_w | exact EqV_ptr | exact EqE_ptr | exact EqV_msl | exact EqE_msl | exact EqV_agg | exact EqE_agg | exact EqV_fn | exact EqE_fn | exact EqV_gd | exact EqE_gd | refine gM_splitN ?_ ?_ | refine gM_split ?_ ?_ |  refine condM_splitDN ?_ ?_ | refine condM_splitD ?_ ?_ | refine condM_splitN ?_ ?_ | refine condM_split ?_ ?_ | refine condM_any ?_ ?_ | intro _) | (simp [*]))
        refine ⟨awp_regionL (id := 8) 7 36 Try.func36 (by kernel_rfl) rfl (by decide) rfl ?_⟩
        simp
        refine inlY_intro [] rfl (Nat.le_of_ble_eq_true (by kernel_rfl)) (by simp) rfl ?_
        refine plain_w m p (withS p l) S lp _ kdr e3 e4 _ ?_
        simp [ordH, moreCaps, cPlan]
        generalize timesS m (withS p l) noDelay = ts at *
        generalize seatsS (withS p l) = ss at *
        clear kdr
        repeat' (first | (with_reducible first | refine awp_seq ?_ | refine awp_blockS ?_ | refine awp_blockC ?_ | refine awp_blockR ?_ | refine awp_skip ?_ | refine awp_ret ?_ | refine awp_exit ?_ | refine awp_region ?_ | refine awp_regionD (id := 5) 9 mixed (by decide +kernel) ?_ | refine awp_regionS (id := 14) [0, 1] [2, 3, 4] [[], [.slot 4]] [[.slot 4], [], []] mixed (by decide +kernel) ?_ | refine awp_condM ?_ | refine And.intro ?_ ?_ | apply gQ_merge | apply gE_merge | exact EqV_w | exact EqE_w | exact EqV_ptr | exact EqE_ptr | exact EqV_msl | exact EqE_msl | exact EqV_agg | exact EqE_agg | exact EqV_fn | exact EqE_fn | exact EqV_gd | exact EqE_gd | refine gM_splitN ?_ ?_ | refine gM_split ?_ ?_ |  refine condM_splitDN ?_ ?_ | refine condM_splitD ?_ ?_ | refine condM_splitN ?_ ?_ | refine condM_split ?_ ?_ | refine condM_any ?_ ?_ | refine cw (c3) ?_ | refine cw (c4) ?_ | refine cw (c5) ?_ | intro _) | (simp [*, hcutT]) | (refine cw_eq (c3) ?_ ?_; (· (simp [*]; done))) | (refine cw_eq (c4) ?_ ?_; (· (simp [*]; done))) | (refine cw_eq (c5) ?_ ?_; (· (simp [*]; done))))
        refine doneK_intro _ 11 72 ?_ (show K _ 11 from kK)
        refine le_gen [] ?_ ?_ <;> first | trivial | (simp [outA, ordCo]; done)
      · by_cases hc : C < c
        · simp only [if_pos hc] at hK
          have kK := keep hK
          clear hK hk2
          unfold ordH moreCaps cPlan at *
          refine roundM_intro (mk := .it) rfl (by simp) ?_
          repeat' (first | (with_reducible first | refine stop_at (id := 8) ?_ | refine awp_seq ?_ | refine awp_blockS ?_ | refine awp_blockC ?_ | refine awp_blockR ?_ | refine awp_skip ?_ | refine awp_ret ?_ | refine awp_exit ?_ | refine awp_region ?_ | refine awp_regionD (id := 5) 9 mixed (by decide +kernel) ?_ | refine awp_regionS (id := 14) [0, 1] [2, 3, 4] [[], [.slot 4]] [[.slot 4], [], []] mixed (by decide +kernel) ?_ | refine awp_condM ?_ | refine And.intro ?_ ?_ | apply gQ_merge | apply gE_merge | exact EqV_w | exact EqE_w | exact EqV_ptr | exact EqE_ptr | exact EqV_msl | exact EqE_msl | exact EqV_agg | exact EqE_agg | exact EqV_fn | exact EqE_fn | exact EqV_gd | exact EqE_gd | refine gM_splitN ?_ ?_ | refine gM_split ?_ ?_ |  refine condM_splitDN ?_ ?_ | refine condM_splitD ?_ ?_ | refine condM_splitN ?_ ?_ | refine condM_split ?_ ?_ | refine condM_any ?_ ?_ | intro _) | (simp [*]))
          refine ⟨awp_regionL (id := 8) 7 36 Try.func36 (by kernel_rfl) rfl (by decide) rfl ?_⟩
          simp
          refine inlY_intro [] rfl (Nat.le_of_ble_eq_true (by kernel_rfl)) (by simp) rfl ?_
          refine plain_w m p (withS p l) S lp _ kdr e3 e4 _ ?_
          simp [ordH, moreCaps, cPlan]
          generalize timesS m (withS p l) noDelay = ts at *
          generalize seatsS (withS p l) = ss at *
          clear kdr
          repeat' (first | (with_reducible first | refine awp_seq ?_ | refine awp_blockS ?_ | refine awp_blockC ?_ | refine awp_blockR ?_ | refine awp_skip ?_ | refine awp_ret ?_ | refine awp_exit ?_ | refine awp_region ?_ | refine awp_regionD (id := 5) 9 mixed (by decide +kernel) ?_ | refine awp_regionS (id := 14) [0, 1] [2, 3, 4] [[], [.slot 4]] [[.slot 4], [], []] mixed (by decide +kernel) ?_ | refine awp_condM ?_ | refine And.intro ?_ ?_ | apply gQ_merge | apply gE_merge | exact EqV_w | exact EqE_w | exact EqV_ptr | exact EqE_ptr | exact EqV_msl | exact EqE_msl | exact EqV_agg | exact EqE_agg | exact EqV_fn | exact EqE_fn | exact EqV_gd | exact EqE_gd | refine gM_splitN ?_ ?_ | refine gM_split ?_ ?_ |  refine condM_splitDN ?_ ?_ | refine condM_splitD ?_ ?_ | refine condM_splitN ?_ ?_ | refine condM_split ?_ ?_ | refine condM_any ?_ ?_ | refine cw (c3) ?_ | refine cw (c4) ?_ | refine cw (c5) ?_ | intro _) | (simp [*, hcutT, hc, ordCo]) | (refine cw_eq (c3) ?_ ?_; (· (simp [*]; done))) | (refine cw_eq (c4) ?_ ?_; (· (simp [*]; done))) | (refine cw_eq (c5) ?_ ?_; (· (simp [*]; done))))
          refine doneK_intro _ 11 72 ?_ (show K _ 11 from kK)
          refine le_gen [] ?_ ?_ <;> first | trivial | (simp [outA, ordCo]; done)
        · simp only [if_neg hc] at hK
          have kK := keep hK
          clear hK hk2
          unfold ordH moreCaps cPlan at *
          refine roundM_intro (mk := .it) rfl (by simp) ?_
          repeat' (first | (with_reducible first | refine stop_at (id := 8) ?_ | refine awp_seq ?_ | refine awp_blockS ?_ | refine awp_blockC ?_ | refine awp_blockR ?_ | refine awp_skip ?_ | refine awp_ret ?_ | refine awp_exit ?_ | refine awp_region ?_ | refine awp_regionD (id := 5) 9 mixed (by decide +kernel) ?_ | refine awp_regionS (id := 14) [0, 1] [2, 3, 4] [[], [.slot 4]] [[.slot 4], [], []] mixed (by decide +kernel) ?_ | refine awp_condM ?_ | refine And.intro ?_ ?_ | apply gQ_merge | apply gE_merge | exact EqV_w | exact EqE_w | exact EqV_ptr | exact EqE_ptr | exact EqV_msl | exact EqE_msl | exact EqV_agg | exact EqE_agg | exact EqV_fn | exact EqE_fn | exact EqV_gd | exact EqE_gd | refine gM_splitN ?_ ?_ | refine gM_split ?_ ?_ |  refine condM_splitDN ?_ ?_ | refine condM_splitD ?_ ?_ | refine condM_splitN ?_ ?_ | refine condM_split ?_ ?_ | refine condM_any ?_ ?_ | intro _) | (simp [*]))
          refine ⟨awp_regionL (id := 8) 7 36 Try.func36 (by kernel_rfl) rfl (by decide) rfl ?_⟩
          simp
          refine inlY_intro [] rfl (Nat.le_of_ble_eq_true (by kernel_rfl)) (by simp) rfl ?_
          refine plain_w m p (withS p l) S lp _ kdr e3 e4 _ ?_
          simp [ordH, moreCaps, cPlan]
          generalize timesS m (withS p l) noDelay = ts at *
          generalize seatsS (withS p l) = ss at *
          clear kdr
          repeat' (first | (with_reducible first | refine awp_seq ?_ | refine awp_blockS ?_ | refine awp_blockC ?_ | refine awp_blockR ?_ | refine awp_skip ?_ | refine awp_ret ?_ | refine awp_exit ?_ | refine awp_region ?_ | refine awp_regionD (id := 5) 9 mixed (by decide +kernel) ?_ | refine awp_regionS (id := 14) [0, 1] [2, 3, 4] [[], [.slot 4]] [[.slot 4], [], []] mixed (by decide +kernel) ?_ | refine awp_condM ?_ | refine And.intro ?_ ?_ | apply gQ_merge | apply gE_merge | exact EqV_w | exact EqE_w | exact EqV_ptr | exact EqE_ptr | exact EqV_msl | exact EqE_msl | exact EqV_agg | exact EqE_agg | exact EqV_fn | exact EqE_fn | exact EqV_gd | exact EqE_gd | refine gM_splitN ?_ ?_ | refine gM_split ?_ ?_ |  refine condM_splitDN ?_ ?_ | refine condM_splitD ?_ ?_ | refine condM_splitN ?_ ?_ | refine condM_split ?_ ?_ | refine condM_any ?_ ?_ | refine cw (c3) ?_ | refine cw (c4) ?_ | refine cw (c5) ?_ | intro _) | (simp [*, hcutT, hc, ordCo]) | (refine cw_eq (c3) ?_ ?_; (· (simp [*]; done))) | (refine cw_eq (c4) ?_ ?_; (· (simp [*]; done))) | (refine cw_eq (c5) ?_ ?_; (· (simp [*]; done))))
          refine doneK_intro _ 11 72 ?_ (show K _ 11 from kK)
          refine le_gen [] ?_ ?_ <;> first | trivial | (simp [outA, ordCo]; done)
  · subst e
    rw [show pickL m p none (ordersS p.riders p.stops.length []) = bestOrd (KS m p) (CS m p) p.riders p.stops.length [] from rfl]
    generalize bestOrd (KS m p) (CS m p) p.riders p.stops.length [] = b
    clear kmo kok kp ksl
    rcases b with _ | ⟨q, c⟩
    · unfold ordH moreCaps cPlan bestP3 noPlan outA
      simp [RetA, resL]
      refine awr_of ?_
      repeat' (first | (with_reducible first | refine awp_seq ?_ | refine awp_blockS ?_ | refine awp_blockC ?_ | refine awp_blockR ?_ | refine awp_skip ?_ | refine awp_ret ?_ | refine awp_exit ?_ | refine awp_region ?_ | refine awp_regionD (id := 5) 9 mixed (by decide +kernel) ?_ | refine awp_regionS (id := 14) [0, 1] [2, 3, 4] [[], [.slot 4]] [[.slot 4], [], []] mixed (by decide +kernel) ?_ | refine awp_condM ?_ | refine And.intro ?_ ?_ | apply gQ_merge | apply gE_merge | exact EqV_w | exact EqE_w | exact EqV_ptr | exact EqE_ptr | exact EqV_msl | exact EqE_msl | exact EqV_agg | exact EqE_agg | exact EqV_fn | exact EqE_fn | exact EqV_gd | exact EqE_gd | refine gM_splitN ?_ ?_ | refine gM_split ?_ ?_ |  refine condM_splitDN ?_ ?_ | refine condM_splitD ?_ ?_ | refine condM_splitN ?_ ?_ | refine condM_split ?_ ?_ | refine condM_any ?_ ?_ | intro _) | (simp [*]))
      all_goals rfl
    · unfold ordH moreCaps cPlan bestP3 noPlan outA withS
      simp [RetA, resL]
      refine awr_of ?_
      repeat' (first | (with_reducible first | refine awp_seq ?_ | refine awp_blockS ?_ | refine awp_blockC ?_ | refine awp_blockR ?_ | refine awp_skip ?_ | refine awp_ret ?_ | refine awp_exit ?_ | refine awp_region ?_ | refine awp_regionD (id := 5) 9 mixed (by decide +kernel) ?_ | refine awp_regionS (id := 14) [0, 1] [2, 3, 4] [[], [.slot 4]] [[.slot 4], [], []] mixed (by decide +kernel) ?_ | refine awp_condM ?_ | refine And.intro ?_ ?_ | apply gQ_merge | apply gE_merge | exact EqV_w | exact EqE_w | exact EqV_ptr | exact EqE_ptr | exact EqV_msl | exact EqE_msl | exact EqV_agg | exact EqE_agg | exact EqV_fn | exact EqE_fn | exact EqV_gd | exact EqE_gd | refine gM_splitN ?_ ?_ | refine gM_split ?_ ?_ |  refine condM_splitDN ?_ ?_ | refine condM_splitD ?_ ?_ | refine condM_splitN ?_ ?_ | refine condM_split ?_ ?_ | refine condM_any ?_ ?_ | intro _) | (simp [*]))
      all_goals rfl
end Go.Proofs.Ytiialcomflggcaa

