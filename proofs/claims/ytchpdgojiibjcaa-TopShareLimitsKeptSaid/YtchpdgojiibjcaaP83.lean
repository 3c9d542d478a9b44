/- Contracts of functions for this claim: lemmas alone. -/
import Derived.Test.YtchpdgojiibjcaaP82
import Derived.Test.YtchpdgojiibjcaaP52
set_option linter.unusedSimpArgs false
set_option linter.unusedVariables false
namespace Go.Proofs.Ytchpdgojiibjcaa
open Go Go.Fi
set_option maxRecDepth 20000

theorem keeps_rides {m : Grid} {q : Plan} (po : PlanOk m q) (h : keepsS m q = true) {k : Nat} (hk : k < q.riders.length) : (rideS m q (timesS m q noDelay) k).1 ≤ (rideS m q (timesS m q noDelay) k).2 := by
  have hb : (brokenS m q (timesS m q noDelay) (seatsS q)).2 = false := by unfold keepsS at h; simpa using h
  obtain ⟨a, ha, hae⟩ := nth_of_mem (elemB_iff.1 (po.gaps k hk))
  have := (brokenS_iff.1 hb a ha).2 (by rw [hae])
  rw [hae] at this
  exact this
theorem keeps_seats {m : Grid} {q : Plan} (h : keepsS m q = true) {k : Nat} (hk : k < q.stops.length) : nth (seatsS q) k ≤ q.car.seats := by
  have hb : (brokenS m q (timesS m q noDelay) (seatsS q)).2 = false := by unfold keepsS at h; simpa using h
  exact (brokenS_iff.1 hb k hk).1
/-- a plan that a car has behind some riders -/
structure Kept (m : Grid) (car : Car) (i : Nat) (p : Plan) : Prop where
  ok : (checkS m p).2 = 0
  pin : PlanIn p
  rl : p.riders.length ≤ i
  sl : p.stops.length ≤ 2 * i
  car : p.car = car
theorem Kept.ins {m : Grid} {car : Car} {i : Nat} {p : Plan} {r : Rider} (h : Kept m car i p) (hi : i < 100) (hr : r.name.size < 1000000) (hn : newE m p r = 0) {a o : Nat} (hao : a < o) (ho : o ≤ p.stops.length + 1) : Kept m car (i + 1) (insS p r a o) := by
  have h1 := h.rl
  have h2 := h.sl
  have ok := checkS_ok.1 h.ok
  refine ⟨by rw [checkS_zero ok.1 (insS_ok ok.2 hn hao ho)], insS_in h.pin hr a o (by omega) (by omega), ?_, ?_, h.car⟩
  · show (p.riders ++ [r]).length ≤ _; rw [List.length_append]; simp; omega
  · rw [insS_stops_len]; omega
def cCar (c : Car) : List PV := [.int .i64 c.at_, .int .i64 c.time, .int .i64 c.seats]
set_option maxHeartbeats 16000000 in
theorem limitsKept_c (m : Grid) (car : Car) (l : List Rider) : RealCall Try.prog 6 [aMap m, .agg (cCar car), .sl l.length (cRiders l)] (.bool true) true := by
  have c0 := shareAwake_c
  have c1 := small_c m ⟨car, [], []⟩
  cases hs : smallB m ⟨car, [], []⟩ with
  | false =>
    rw [hs] at c1
    unfold aMap aPlan cPlan cCar at *
    simp at c1
    refine realcall_intro Try.func6 (by kernel_rfl) rfl (Nat.le_of_ble_eq_true (by kernel_rfl)) ?_
    simp only [Try.results6, Try.ntmps6]
    repeat' (first | (with_reducible first | refine awp_seq ?_ | refine awp_blockS ?_ | refine awp_blockC ?_ | refine awp_blockR ?_ | refine awp_skip ?_ | refine awp_ret ?_ | refine awp_exit ?_ | refine awp_region ?_ | refine awp_regionD (id := 11) 8 mixed (by decide +kernel) ?_ | refine awp_regionS (id := 12) [0, 1, 2, 3, 4, 5, 6, 7, 8, 9, 10, 11, 12] [13, 14] [[], [], [], [], [], [], [], [], [], [], [], [.new 0], []] [[.new 0], []] mixed (by decide +kernel) ?_ | refine awp_regionD (id := 16) 14 mixed (by decide +kernel) ?_ | refine awp_regionS (id := 19) [0, 1, 2, 3, 4, 5, 6, 7, 8, 9, 10, 11, 12, 13, 14, 15, 16, 17] [18, 19] [[], [], [], [], [], [], [], [], [], [], [], [], [], [], [], [], [.new 0], []] [[.new 0], []] mixed (by decide +kernel) ?_ | refine awp_regionD (id := 22) 10 mixed (by decide +kernel) ?_ | refine awp_regionS (id := 28) [0, 1, 2, 3, 4, 5, 6, 7, 8, 9] [10, 11] [[], [], [], [], [], [], [], [], [.new 0], []] [[.new 0], []] mixed (by decide +kernel) ?_ | refine awp_regionD (id := 31) 10 mixed (by decide +kernel) ?_ | refine awp_regionD (id := 35) 7 mixed (by decide +kernel) ?_ | refine awp_condM ?_ | refine And.intro ?_ ?_ | apply gQ_merge | apply gE_merge | exact EqV_w | exact EqE_w | exact EqV_ptr | exact EqE_ptr | exact EqV_msl | exact EqE_msl | exact EqV_agg | exact EqE_agg | exact EqV_fn | exact EqE_fn | exact EqV_gd | exact EqE_gd | refine gM_splitN ?_ ?_ | refine gM_split ?_ ?_ |  refine condM_splitDN ?_ ?_ | refine condM_splitD ?_ ?_ | refine condM_splitN ?_ ?_ | refine condM_split ?_ ?_ | refine condM_any ?_ ?_ | refine cw (c0) ?_ | refine cw (c1) ?_ | intro _) | (simp [*, cRiders_nil, cStops_nil]) | (refine cw_eq (c0) ?_ ?_; (· (simp [*]; done))) | (refine cw_eq (c1) ?_ ?_; (· (simp [*]; done))))
  | true =>
    rw [hs] at c1
    obtain ⟨hm, hp, _⟩ := small_in hs
    by_cases h4 : (4 : Int) < (l.length : Int)
    · clear hm hp hs
      unfold aMap aPlan cPlan cCar at *
      simp at c1
      refine realcall_intro Try.func6 (by kernel_rfl) rfl (Nat.le_of_ble_eq_true (by kernel_rfl)) ?_
      simp only [Try.results6, Try.ntmps6]
      repeat' (first | (with_reducible first | refine awp_seq ?_ | refine awp_blockS ?_ | refine awp_blockC ?_ | refine awp_blockR ?_ | refine awp_skip ?_ | refine awp_ret ?_ | refine awp_exit ?_ | refine awp_region ?_ | refine awp_regionD (id := 11) 8 mixed (by decide +kernel) ?_ | refine awp_regionS (id := 12) [0, 1, 2, 3, 4, 5, 6, 7, 8, 9, 10, 11, 12] [13, 14] [[], [], [], [], [], [], [], [], [], [], [], [.new 0], []] [[.new 0], []] mixed (by decide +kernel) ?_ | refine awp_regionD (id := 16) 14 mixed (by decide +kernel) ?_ | refine awp_regionS (id := 19) [0, 1, 2, 3, 4, 5, 6, 7, 8, 9, 10, 11, 12, 13, 14, 15, 16, 17] [18, 19] [[], [], [], [], [], [], [], [], [], [], [], [], [], [], [], [], [.new 0], []] [[.new 0], []] mixed (by decide +kernel) ?_ | refine awp_regionD (id := 22) 10 mixed (by decide +kernel) ?_ | refine awp_regionS (id := 28) [0, 1, 2, 3, 4, 5, 6, 7, 8, 9] [10, 11] [[], [], [], [], [], [], [], [], [.new 0], []] [[.new 0], []] mixed (by decide +kernel) ?_ | refine awp_regionD (id := 31) 10 mixed (by decide +kernel) ?_ | refine awp_regionD (id := 35) 7 mixed (by decide +kernel) ?_ | refine awp_condM ?_ | refine And.intro ?_ ?_ | apply gQ_merge | apply gE_merge | exact EqV_w | exact EqE_w | exact EqV_ptr | exact EqE_ptr | exact EqV_msl | exact EqE_msl | exact EqV_agg | exact EqE_agg | exact EqV_fn | exact EqE_fn | exact EqV_gd | exact EqE_gd | refine gM_splitN ?_ ?_ | refine gM_split ?_ ?_ |  refine condM_splitDN ?_ ?_ | refine condM_splitD ?_ ?_ | refine condM_splitN ?_ ?_ | refine condM_split ?_ ?_ | refine condM_any ?_ ?_ | refine cw (c0) ?_ | refine cw (c1) ?_ | intro _) | (simp [*, h4]) | (refine cw_eq (c0) ?_ ?_; (· (simp [*]; done))) | (refine cw_eq (c1) ?_ ?_; (· (simp [*]; done))))
    have c2 := rPlanErr_c m hm ⟨car, [], []⟩ hp
    by_cases h : (checkS m ⟨car, [], []⟩).2 = 0
    · have kK : Keep (Kept m car 0 ⟨car, [], []⟩) := ⟨h, hp, Nat.le_refl _, Nat.le_refl _, rfl⟩
      rw [h] at c2
      have c3 := copyMap_c m hm
      have khm := keep hm
      clear hm hp hs h
      unfold aMap aPlan cPlan cCar at *
      simp at c1 c2
      refine realcall_intro Try.func6 (by kernel_rfl) rfl (Nat.le_of_ble_eq_true (by kernel_rfl)) ?_
      simp only [Try.results6, Try.ntmps6]
      repeat' (first | (with_reducible first | refine awp_seq ?_ | refine awp_blockS ?_ | refine awp_blockC ?_ | refine awp_blockR ?_ | refine awp_skip ?_ | refine awp_ret ?_ | refine awp_exit ?_ | refine awp_region ?_ | refine awp_regionD (id := 11) 8 mixed (by decide +kernel) ?_ | refine awp_regionS (id := 12) [0, 1, 2, 3, 4, 5, 6, 7, 8, 9, 10, 11, 12] [13, 14] [[], [], [], [], [], [], [], [], [], [], [], [.new 0], []] [[.new 0], []] mixed (by decide +kernel) ?_ | refine awp_regionD (id := 16) 14 mixed (by decide +kernel) ?_ | refine awp_regionS (id := 19) [0, 1, 2, 3, 4, 5, 6, 7, 8, 9, 10, 11, 12, 13, 14, 15, 16, 17] [18, 19] [[], [], [], [], [], [], [], [], [], [], [], [], [], [], [], [], [.new 0], []] [[.new 0], []] mixed (by decide +kernel) ?_ | refine awp_regionD (id := 22) 10 mixed (by decide +kernel) ?_ | refine awp_regionS (id := 28) [0, 1, 2, 3, 4, 5, 6, 7, 8, 9] [10, 11] [[], [], [], [], [], [], [], [], [.new 0], []] [[.new 0], []] mixed (by decide +kernel) ?_ | refine awp_regionD (id := 31) 10 mixed (by decide +kernel) ?_ | refine awp_regionD (id := 35) 7 mixed (by decide +kernel) ?_ | refine awp_condM ?_ | refine And.intro ?_ ?_ | apply gQ_merge | apply gE_merge | exact EqV_w | exact EqE_w | exact EqV_ptr | exact EqE_ptr | exact EqV_msl | exact EqE_msl | exact EqV_agg | exact EqE_agg | exact EqV_fn | exact EqE_fn | exact EqV_gd | exact EqE_gd | refine gM_splitN ?_ ?_ | refine gM_split ?_ ?_ |  refine condM_splitDN ?_ ?_ | refine condM_splitD ?_ ?_ | refine condM_splitN ?_ ?_ | refine condM_split ?_ ?_ | refine condM_any ?_ ?_ | refine cw (c0) ?_ | refine cw (c1) ?_ | refine cw (c2) ?_ | intro _) | (simp [*, h4]) | (refine cw_eq (c0) ?_ ?_; (· (simp [*]; done))) | (refine cw_eq (c1) ?_ ?_; (· (simp [*]; done))) | (refine cw_eq (c2) ?_ ?_; (· (simp [*]; done))))
      all_goals try first | exact inI64 (by omega) (by omega) | omega
      refine awp_for4 3 (fun (x : Nat × Plan) => x.1 ≤ l.length ∧ Kept m car x.1 x.2) [2, 3, 4, 7] (fun (x : Nat × Plan) => [(8, .w false false (.int .i64 x.1))]) [0, 1] (fun (x : Nat × Plan) => [(2, [.w false false (.int .i64 x.2.car.at_), .w false false (.int .i64 x.2.car.time), .w false false (.int .i64 x.2.car.seats), .w false false (.sl x.2.riders.length (cRiders x.2.riders)), .w false false (.sl x.2.stops.length (cStops x.2.stops))])]) (fun (x : Nat × Plan) => l.length - x.1) (fun (_u : Unit) => True) [] (fun (_u : Unit) => []) [] (fun (_u : Unit) => []) (((0 : Nat), (⟨car, [], []⟩ : Plan))) ⟨Nat.zero_le _, kK⟩ (le_gen [] (by simp) (by simp)) (fun x hk => ?_) (fun _u hf => ?_)
      · obtain ⟨i, p⟩ := x
        obtain ⟨hi, hK⟩ := hk
        have hi : i ≤ l.length := hi
        have hK : Kept m car i p := hK
        by_cases hlt : i < l.length
        · have hlI : (i : Int) < (l.length : Int) := by omega
          by_cases hname : (20 : Int) < ((nth l i).name.size : Int)
          · clear hK
            repeat' (first | (with_reducible first | refine awp_seq ?_ | refine awp_blockS ?_ | refine awp_blockC ?_ | refine awp_blockR ?_ | refine awp_skip ?_ | refine awp_ret ?_ | refine awp_exit ?_ | refine awp_region ?_ | refine awp_regionD (id := 11) 8 mixed (by decide +kernel) ?_ | refine awp_regionS (id := 12) [0, 1, 2, 3, 4, 5, 6, 7, 8, 9, 10, 11, 12] [13, 14] [[], [], [], [], [], [], [], [], [], [], [], [.new 0], []] [[.new 0], []] mixed (by decide +kernel) ?_ | refine awp_regionD (id := 16) 14 mixed (by decide +kernel) ?_ | refine awp_regionS (id := 19) [0, 1, 2, 3, 4, 5, 6, 7, 8, 9, 10, 11, 12, 13, 14, 15, 16, 17] [18, 19] [[], [], [], [], [], [], [], [], [], [], [], [], [], [], [], [], [.new 0], []] [[.new 0], []] mixed (by decide +kernel) ?_ | refine awp_regionD (id := 22) 10 mixed (by decide +kernel) ?_ | refine awp_regionS (id := 28) [0, 1, 2, 3, 4, 5, 6, 7, 8, 9] [10, 11] [[], [], [], [], [], [], [], [], [.new 0], []] [[.new 0], []] mixed (by decide +kernel) ?_ | refine awp_regionD (id := 31) 10 mixed (by decide +kernel) ?_ | refine awp_regionD (id := 35) 7 mixed (by decide +kernel) ?_ | refine awp_condM ?_ | refine And.intro ?_ ?_ | apply gQ_merge | apply gE_merge | exact EqV_w | exact EqE_w | exact EqV_ptr | exact EqE_ptr | exact EqV_msl | exact EqE_msl | exact EqV_agg | exact EqE_agg | exact EqV_fn | exact EqE_fn | exact EqV_gd | exact EqE_gd | refine gM_splitN ?_ ?_ | refine gM_split ?_ ?_ |  refine condM_splitDN ?_ ?_ | refine condM_splitD ?_ ?_ | refine condM_splitN ?_ ?_ | refine condM_split ?_ ?_ | refine condM_any ?_ ?_ | intro _) | (simp [*, hlt, hlI, hname]))
            all_goals try first | exact inI64 (by omega) (by omega) | omega
          have hnm : (nth l i).name.size < 1000000 := by omega
          have hpl : PlanIn p := hK.pin
          have hrl := hK.rl
          have hsl0 := hK.sl
          have c5 := copyPlan_c p hpl
          have c6 := rNewErr_c m khm p hpl (nth l i) hnm
          have kK1 : Keep (Kept m car (i + 1) p) := ⟨hK.ok, hK.pin, by omega, by omega, hK.car⟩
          generalize hR : nth l i = r at *
          by_cases hn : newE m p r = 0
          · have hsl : p.stops.length < 5000 := by omega
            have c7 := bestInsert_c m khm p hpl hsl r hnm
            have hoff : offE m p r = 0 := by unfold offE; rw [if_pos hK.ok]; exact hn
            have hB : bestE m p r = (bV (bestS m p r), errUnless (bestS m p r).isSome 12) := by unfold bestE; rw [if_pos hoff]
            rw [hB] at c7
            rw [hn] at c6
            rcases bestS_cases (m := m) (p := p) (r := r) with ⟨h1, h2⟩ | ⟨x, h1, h2, _⟩
            · have c8 := inserts_c m khm p hpl hsl r hnm
              have hI : insertsS m p r = [] := by unfold insertsS; rw [if_pos hoff]; exact h2
              rw [hI, hoff] at c8
              rw [h1] at c7
              clear hK hB hI h1 h2 hoff hn hpl
              unfold bestEP aMap aPlan cPlan cRider at *
              repeat' (first | (with_reducible first | refine awp_seq ?_ | refine awp_blockS ?_ | refine awp_blockC ?_ | refine awp_blockR ?_ | refine awp_skip ?_ | refine awp_ret ?_ | refine awp_exit ?_ | refine awp_region ?_ | refine awp_regionD (id := 11) 8 mixed (by decide +kernel) ?_ | refine awp_regionS (id := 12) [0, 1, 2, 3, 4, 5, 6, 7, 8, 9, 10, 11, 12] [13, 14] [[], [], [], [], [], [], [], [], [], [], [], [.new 0], []] [[.new 0], []] mixed (by decide +kernel) ?_ | refine awp_regionD (id := 16) 14 mixed (by decide +kernel) ?_ | refine awp_regionS (id := 19) [0, 1, 2, 3, 4, 5, 6, 7, 8, 9, 10, 11, 12, 13, 14, 15, 16, 17] [18, 19] [[], [], [], [], [], [], [], [], [], [], [], [], [], [], [], [], [.new 0], []] [[.new 0], []] mixed (by decide +kernel) ?_ | refine awp_regionD (id := 22) 10 mixed (by decide +kernel) ?_ | refine awp_regionS (id := 28) [0, 1, 2, 3, 4, 5, 6, 7, 8, 9] [10, 11] [[], [], [], [], [], [], [], [], [.new 0], []] [[.new 0], []] mixed (by decide +kernel) ?_ | refine awp_regionD (id := 31) 10 mixed (by decide +kernel) ?_ | refine awp_regionD (id := 35) 7 mixed (by decide +kernel) ?_ | refine awp_condM ?_ | refine And.intro ?_ ?_ | apply gQ_merge | apply gE_merge | exact EqV_w | exact EqE_w | exact EqV_ptr | exact EqE_ptr | exact EqV_msl | exact EqE_msl | exact EqV_agg | exact EqE_agg | exact EqV_fn | exact EqE_fn | exact EqV_gd | exact EqE_gd | refine gM_splitN ?_ ?_ | refine gM_split ?_ ?_ |  refine condM_splitDN ?_ ?_ | refine condM_splitD ?_ ?_ | refine condM_splitN ?_ ?_ | refine condM_split ?_ ?_ | refine condM_any ?_ ?_ | refine cw (c3) ?_ | refine cw (c5) ?_ | refine cw (c6) ?_ | refine cw (c7) ?_ | refine cw (c8) ?_ | intro _) | (simp [*, hlt, hlI, hname, hR, cRider, cOffers]) | (refine cw_eq (c3) ?_ ?_; (· (simp [*]; done))) | (refine cw_eq (c5) ?_ ?_; (· (simp [*]; done))) | (refine cw_eq (c6) ?_ ?_; (· (simp [*]; done))) | (refine cw_eq (c7) ?_ ?_; (· (simp [*]; done))) | (refine cw_eq (c8) ?_ ?_; (· (simp [*]; done))))
              all_goals try first | exact inI64 (by omega) (by omega) | omega
              all_goals (refine loopK_normal _ _ _ _ _ (i + 1, p) _ ?_ (by first | omega | (dsimp only; omega) | (simp; omega)) ?_; (· exact ⟨by dsimp only; omega, kK1⟩); (refine le_gen [] ?_ ?_ <;> first | trivial | (simp [*]; done)))
            · obtain ⟨a, o, hao, ho, hkp, hxe⟩ := mem_offers.1 h2
              have hKq := hK.ins (by omega) hnm hn hao ho
              have hE0 : insE p ⟨r, (a : Int), (o : Int)⟩ = 0 := by
                unfold insE
                rw [show (winB (a : Int) 0 (p.stops.length : Int) && winB (o : Int) ((a : Int) + 1) ((p.stops.length : Int) + 1)) = true from by
                  rw [Bool.and_eq_true, winB_iff, winB_iff]; omega]
                rfl
              have c9 := inserted_ok m khm p hpl hK.ok ⟨r, (a : Int), (o : Int)⟩ hnm
              have hI : insertedS m p ⟨r, (a : Int), (o : Int)⟩ = (insS p r a o, 0) := by
                unfold insertedS insPlan
                rw [hE0]
                dsimp only
                rw [hn, show firstS [0, 0] = 0 from rfl, if_pos rfl, Int.toNat_natCast, Int.toNat_natCast]
              rw [hI] at c9
              rw [h1, hxe] at c7
              have hql : (insS p r a o).riders.length = p.riders.length + 1 := by simp [insS]
              have hqcar : (insS p r a o).car = car := hKq.car
              have c10 := rPlanErr_c m khm (insS p r a o) hKq.pin
              rw [hKq.ok] at c10
              have c11 := copyPlan_c (insS p r a o) hKq.pin
              have c12 := costOf_ok m khm (insS p r a o) hKq.pin hKq.ok
              have hC : costS (insS p r a o) (timesS m (insS p r a o) noDelay) = costP m (insS p r a o) := rfl
              rw [hC] at c12
              have cR := keep (fun (k : Nat) => rideOf_ok m khm (insS p r a o) hKq.pin hKq.ok (k : Int))
              have c14 := seatsAt_ok m khm (insS p r a o) hKq.pin hKq.ok
              have hrides := keep (fun (k : Nat) (hk : k < (insS p r a o).riders.length) => keeps_rides (checkS_ok.1 hKq.ok).2 hkp hk)
              have hseats := keep (fun (k : Nat) (hk : k < (insS p r a o).stops.length) => keeps_seats hkp hk)
              have hsl2 := seatsS_len (insS p r a o)
              have kKq := keep hKq
              clear hK hB hI h1 h2 hoff hn hpl hE0 hC hKq hxe hkp kK1
              generalize insS p r a o = q at *
              have hqlI : (q.riders.length : Int) = (p.riders.length : Int) + 1 := by omega
              have hrl2 : q.riders.length < 1000 := by omega
              have kql := keep hql
              have kqc := keep hqcar
              have ksl := keep hsl2
              clear hql hqcar hsl2
              generalize costP m q = C at *
              unfold planP bestEP aMap aPlan cPlan cRider cInsert at *
              repeat' (first | (with_reducible first | refine awp_seq ?_ | refine awp_blockS ?_ | refine awp_blockC ?_ | refine awp_blockR ?_ | refine awp_skip ?_ | refine awp_ret ?_ | refine awp_exit ?_ | refine awp_region ?_ | refine awp_regionD (id := 11) 8 mixed (by decide +kernel) ?_ | refine awp_regionS (id := 12) [0, 1, 2, 3, 4, 5, 6, 7, 8, 9, 10, 11, 12] [13, 14] [[], [], [], [], [], [], [], [], [], [], [], [.new 0], []] [[.new 0], []] mixed (by decide +kernel) ?_ | refine awp_regionD (id := 16) 14 mixed (by decide +kernel) ?_ | refine awp_regionS (id := 19) [0, 1, 2, 3, 4, 5, 6, 7, 8, 9, 10, 11, 12, 13, 14, 15, 16, 17] [18, 19] [[], [], [], [], [], [], [], [], [], [], [], [], [], [], [], [], [.new 0], []] [[.new 0], []] mixed (by decide +kernel) ?_ | refine awp_regionD (id := 22) 10 mixed (by decide +kernel) ?_ | refine awp_regionS (id := 28) [0, 1, 2, 3, 4, 5, 6, 7, 8, 9] [10, 11] [[], [], [], [], [], [], [], [], [.new 0], []] [[.new 0], []] mixed (by decide +kernel) ?_ | refine awp_regionD (id := 31) 10 mixed (by decide +kernel) ?_ | refine awp_regionD (id := 35) 7 mixed (by decide +kernel) ?_ | refine awp_condM ?_ | refine And.intro ?_ ?_ | apply gQ_merge | apply gE_merge | exact EqV_w | exact EqE_w | exact EqV_ptr | exact EqE_ptr | exact EqV_msl | exact EqE_msl | exact EqV_agg | exact EqE_agg | exact EqV_fn | exact EqE_fn | exact EqV_gd | exact EqE_gd | refine gM_splitN ?_ ?_ | refine gM_split ?_ ?_ |  refine condM_splitDN ?_ ?_ | refine condM_splitD ?_ ?_ | refine condM_splitN ?_ ?_ | refine condM_split ?_ ?_ | refine condM_any ?_ ?_ | refine cw (c3) ?_ | refine cw (c5) ?_ | refine cw (c6) ?_ | refine cw (c7) ?_ | refine cw (c9) ?_ | refine cw (c10) ?_ | refine cw (c11) ?_ | refine cw (c12) ?_ | intro _) | (simp [*, hlt, hlI, hname, hR, cRider, hqlI]) | (refine cw_eq (c3) ?_ ?_; (· (simp [*]; done))) | (refine cw_eq (c5) ?_ ?_; (· (simp [*]; done))) | (refine cw_eq (c6) ?_ ?_; (· (simp [*]; done))) | (refine cw_eq (c7) ?_ ?_; (· (simp [*]; done))) | (refine cw_eq (c9) ?_ ?_; (· (simp [*]; done))) | (refine cw_eq (c10) ?_ ?_; (· (simp [*]; done))) | (refine cw_eq (c11) ?_ ?_; (· (simp [*]; done))) | (refine cw_eq (c12) ?_ ?_; (· (simp [*]; done))))
              all_goals try first | exact inI64 (by omega) (by omega) | omega
              refine awp_for3 (fun (k : Nat) => k ≤ q.riders.length) [2, 3, 4, 7, 8, 13] (fun (k : Nat) => [(17, .w false false (.int .i64 k))]) [0, 1, 2, 4] (fun (k : Nat) => []) (fun (k : Nat) => q.riders.length - k) (fun (_u : Unit) => True) [2, 3, 4, 7, 8, 13] (fun (_u : Unit) => []) [0, 1, 2, 4] (fun (_u : Unit) => []) (0) (Nat.zero_le _) (by simp) (by simp) (fun k hk => ?_) (fun _u hf => ?_)
              · by_cases hlt2 : k < q.riders.length
                · have hlI2 : (k : Int) < (q.riders.length : Int) := by omega
                  have c13 : RealCall Try.prog 26 [aMap m, aPlan q, .int .i64 (k : Int)] (rideP (rideE m q (timesS m q noDelay) (k : Int))) true := cR k
                  have hle := show (rideS m q (timesS m q noDelay) k).1 ≤ (rideS m q (timesS m q noDelay) k).2 from hrides k hlt2
                  unfold rideE at c13
                  rw [show winB (k : Int) 0 ((q.riders.length : Int) - 1) = true from winB_iff.2 ⟨by omega, by omega⟩, if_pos rfl, Int.toNat_natCast] at c13
                  have hle' : ¬ (rideS m q (timesS m q noDelay) k).2 < (rideS m q (timesS m q noDelay) k).1 := by omega
                  clear hle
                  generalize rideS m q (timesS m q noDelay) k = X at *
                  unfold rideP aMap aPlan cPlan at c13
                  clear hqlI
                  repeat' (first | (with_reducible first | refine awp_seq ?_ | refine awp_blockS ?_ | refine awp_blockC ?_ | refine awp_blockR ?_ | refine awp_skip ?_ | refine awp_ret ?_ | refine awp_exit ?_ | refine awp_region ?_ | refine awp_regionD (id := 11) 8 mixed (by decide +kernel) ?_ | refine awp_regionS (id := 12) [0, 1, 2, 3, 4, 5, 6, 7, 8, 9, 10, 11, 12] [13, 14] [[], [], [], [], [], [], [], [], [], [], [], [.new 0], []] [[.new 0], []] mixed (by decide +kernel) ?_ | refine awp_regionD (id := 16) 14 mixed (by decide +kernel) ?_ | refine awp_regionS (id := 19) [0, 1, 2, 3, 4, 5, 6, 7, 8, 9, 10, 11, 12, 13, 14, 15, 16, 17] [18, 19] [[], [], [], [], [], [], [], [], [], [], [], [], [], [], [], [], [.new 0], []] [[.new 0], []] mixed (by decide +kernel) ?_ | refine awp_regionD (id := 22) 10 mixed (by decide +kernel) ?_ | refine awp_regionS (id := 28) [0, 1, 2, 3, 4, 5, 6, 7, 8, 9] [10, 11] [[], [], [], [], [], [], [], [], [.new 0], []] [[.new 0], []] mixed (by decide +kernel) ?_ | refine awp_regionD (id := 31) 10 mixed (by decide +kernel) ?_ | refine awp_regionD (id := 35) 7 mixed (by decide +kernel) ?_ | refine awp_condM ?_ | refine And.intro ?_ ?_ | apply gQ_merge | apply gE_merge | exact EqV_w | exact EqE_w | exact EqV_ptr | exact EqE_ptr | exact EqV_msl | exact EqE_msl | exact EqV_agg | exact EqE_agg | exact EqV_fn | exact EqE_fn | exact EqV_gd | exact EqE_gd | refine gM_splitN ?_ ?_ | refine gM_split ?_ ?_ |  refine condM_splitDN ?_ ?_ | refine condM_splitD ?_ ?_ | refine condM_splitN ?_ ?_ | refine condM_split ?_ ?_ | refine condM_any ?_ ?_ | refine cw (c3) ?_ | refine cw (c11) ?_ | refine cw (c13) ?_ | intro _) | (simp [*, hlI2, hle']) | (refine cw_eq (c3) ?_ ?_; (· (simp [*]; done))) | (refine cw_eq (c11) ?_ ?_; (· (simp [*]; done))) | (refine cw_eq (c13) ?_ ?_; (· (simp [*]; done))))
                  all_goals try first | exact inI64 (by omega) (by omega) | omega
                  all_goals (refine loopK_normal _ _ _ _ _ (k + 1) _ ?_ (by first | omega | (dsimp only; omega) | (simp; omega)) ?_; (· omega); (refine le_of ?_ ?_ <;> first | trivial | (simp [*]; done)))
                · have hke : k = q.riders.length := by omega
                  clear hqlI
                  subst hke
                  repeat' (first | (with_reducible first | refine awp_seq ?_ | refine awp_blockS ?_ | refine awp_blockC ?_ | refine awp_blockR ?_ | refine awp_skip ?_ | refine awp_ret ?_ | refine awp_exit ?_ | refine awp_region ?_ | refine awp_regionD (id := 11) 8 mixed (by decide +kernel) ?_ | refine awp_regionS (id := 12) [0, 1, 2, 3, 4, 5, 6, 7, 8, 9, 10, 11, 12] [13, 14] [[], [], [], [], [], [], [], [], [], [], [], [.new 0], []] [[.new 0], []] mixed (by decide +kernel) ?_ | refine awp_regionD (id := 16) 14 mixed (by decide +kernel) ?_ | refine awp_regionS (id := 19) [0, 1, 2, 3, 4, 5, 6, 7, 8, 9, 10, 11, 12, 13, 14, 15, 16, 17] [18, 19] [[], [], [], [], [], [], [], [], [], [], [], [], [], [], [], [], [.new 0], []] [[.new 0], []] mixed (by decide +kernel) ?_ | refine awp_regionD (id := 22) 10 mixed (by decide +kernel) ?_ | refine awp_regionS (id := 28) [0, 1, 2, 3, 4, 5, 6, 7, 8, 9] [10, 11] [[], [], [], [], [], [], [], [], [.new 0], []] [[.new 0], []] mixed (by decide +kernel) ?_ | refine awp_regionD (id := 31) 10 mixed (by decide +kernel) ?_ | refine awp_regionD (id := 35) 7 mixed (by decide +kernel) ?_ | refine awp_condM ?_ | refine And.intro ?_ ?_ | apply gQ_merge | apply gE_merge | exact EqV_w | exact EqE_w | exact EqV_ptr | exact EqE_ptr | exact EqV_msl | exact EqE_msl | exact EqV_agg | exact EqE_agg | exact EqV_fn | exact EqE_fn | exact EqV_gd | exact EqE_gd | refine gM_splitN ?_ ?_ | refine gM_split ?_ ?_ |  refine condM_splitDN ?_ ?_ | refine condM_splitD ?_ ?_ | refine condM_splitN ?_ ?_ | refine condM_split ?_ ?_ | refine condM_any ?_ ?_ | intro _) | (simp [*]))
                  all_goals (refine finW_intro () ?_ ?_; (· trivial); (refine le_of ?_ ?_ <;> first | trivial | (simp [*]; done)))
              · clear hqlI
                repeat' (first | (with_reducible first | refine awp_seq ?_ | refine awp_blockS ?_ | refine awp_blockC ?_ | refine awp_blockR ?_ | refine awp_skip ?_ | refine awp_ret ?_ | refine awp_exit ?_ | refine awp_region ?_ | refine awp_regionD (id := 11) 8 mixed (by decide +kernel) ?_ | refine awp_regionS (id := 12) [0, 1, 2, 3, 4, 5, 6, 7, 8, 9, 10, 11, 12] [13, 14] [[], [], [], [], [], [], [], [], [], [], [], [.new 0], []] [[.new 0], []] mixed (by decide +kernel) ?_ | refine awp_regionD (id := 16) 14 mixed (by decide +kernel) ?_ | refine awp_regionS (id := 19) [0, 1, 2, 3, 4, 5, 6, 7, 8, 9, 10, 11, 12, 13, 14, 15, 16, 17] [18, 19] [[], [], [], [], [], [], [], [], [], [], [], [], [], [], [], [], [.new 0], []] [[.new 0], []] mixed (by decide +kernel) ?_ | refine awp_regionD (id := 22) 10 mixed (by decide +kernel) ?_ | refine awp_regionS (id := 28) [0, 1, 2, 3, 4, 5, 6, 7, 8, 9] [10, 11] [[], [], [], [], [], [], [], [], [.new 0], []] [[.new 0], []] mixed (by decide +kernel) ?_ | refine awp_regionD (id := 31) 10 mixed (by decide +kernel) ?_ | refine awp_regionD (id := 35) 7 mixed (by decide +kernel) ?_ | refine awp_condM ?_ | refine And.intro ?_ ?_ | apply gQ_merge | apply gE_merge | exact EqV_w | exact EqE_w | exact EqV_ptr | exact EqE_ptr | exact EqV_msl | exact EqE_msl | exact EqV_agg | exact EqE_agg | exact EqV_fn | exact EqE_fn | exact EqV_gd | exact EqE_gd | refine gM_splitN ?_ ?_ | refine gM_split ?_ ?_ |  refine condM_splitDN ?_ ?_ | refine condM_splitD ?_ ?_ | refine condM_splitN ?_ ?_ | refine condM_split ?_ ?_ | refine condM_any ?_ ?_ | refine cw (c3) ?_ | refine cw (c11) ?_ | refine cw (c14) ?_ | intro _) | (simp [*]) | (refine cw_eq (c3) ?_ ?_; (· (simp [*]; done))) | (refine cw_eq (c11) ?_ ?_; (· (simp [*]; done))) | (refine cw_eq (c14) ?_ ?_; (· (simp [*]; done))))
                all_goals try first | exact inI64 (by omega) (by omega) | omega
                have hsb : (seatsS q).length < 100000 := by have : (seatsS q).length = q.stops.length := ksl; have := kKq.sl; omega
                have hsk := show (∀ k, k < q.stops.length → nth (seatsS q) k ≤ q.car.seats) from hseats
                have hsl3 : (seatsS q).length = q.stops.length := ksl
                have hcs : q.car.seats = car.seats := by have : q.car = car := kqc; rw [this]
                rw [← hsl3, hcs] at hsk
                have khs := keep hsk
                clear hsk hsl3 hcs
                generalize hSS : seatsS q = S at *
                clear hSS
                refine awp_for3 (fun (k : Nat) => k ≤ S.length) [2, 3, 4, 7, 8, 13, 20, 21] (fun (k : Nat) => [(22, .w false false (.int .i64 k))]) [0, 1, 2, 4] (fun (k : Nat) => []) (fun (k : Nat) => S.length - k) (fun (_u : Unit) => True) [2, 3, 4, 7, 8, 13, 21] (fun (_u : Unit) => []) [0, 1, 2, 4] (fun (_u : Unit) => []) (0) (Nat.zero_le _) (by simp) (by simp) (fun k hk => ?_) (fun _u hf => ?_)
                · by_cases hlt2 : k < S.length
                  · have hlI2 : (k : Int) < (S.length : Int) := by omega
                    have hle' : ¬ car.seats < nth S k := by have := khs k hlt2; omega
                    repeat' (first | (with_reducible first | refine awp_seq ?_ | refine awp_blockS ?_ | refine awp_blockC ?_ | refine awp_blockR ?_ | refine awp_skip ?_ | refine awp_ret ?_ | refine awp_exit ?_ | refine awp_region ?_ | refine awp_regionD (id := 11) 8 mixed (by decide +kernel) ?_ | refine awp_regionS (id := 12) [0, 1, 2, 3, 4, 5, 6, 7, 8, 9, 10, 11, 12] [13, 14] [[], [], [], [], [], [], [], [], [], [], [], [.new 0], []] [[.new 0], []] mixed (by decide +kernel) ?_ | refine awp_regionD (id := 16) 14 mixed (by decide +kernel) ?_ | refine awp_regionS (id := 19) [0, 1, 2, 3, 4, 5, 6, 7, 8, 9, 10, 11, 12, 13, 14, 15, 16, 17] [18, 19] [[], [], [], [], [], [], [], [], [], [], [], [], [], [], [], [], [.new 0], []] [[.new 0], []] mixed (by decide +kernel) ?_ | refine awp_regionD (id := 22) 10 mixed (by decide +kernel) ?_ | refine awp_regionS (id := 28) [0, 1, 2, 3, 4, 5, 6, 7, 8, 9] [10, 11] [[], [], [], [], [], [], [], [], [.new 0], []] [[.new 0], []] mixed (by decide +kernel) ?_ | refine awp_regionD (id := 31) 10 mixed (by decide +kernel) ?_ | refine awp_regionD (id := 35) 7 mixed (by decide +kernel) ?_ | refine awp_condM ?_ | refine And.intro ?_ ?_ | apply gQ_merge | apply gE_merge | exact EqV_w | exact EqE_w | exact EqV_ptr | exact EqE_ptr | exact EqV_msl | exact EqE_msl | exact EqV_agg | exact EqE_agg | exact EqV_fn | exact EqE_fn | exact EqV_gd | exact EqE_gd | refine gM_splitN ?_ ?_ | refine gM_split ?_ ?_ |  refine condM_splitDN ?_ ?_ | refine condM_splitD ?_ ?_ | refine condM_splitN ?_ ?_ | refine condM_split ?_ ?_ | refine condM_any ?_ ?_ | intro _) | (simp [*, hlt2, hlI2, hle']))
                    all_goals try first | exact inI64 (by omega) (by omega) | omega
                    all_goals (refine loopK_normal _ _ _ _ _ (k + 1) _ ?_ (by first | omega | (dsimp only; omega) | (simp; omega)) ?_; (· omega); (refine le_of ?_ ?_ <;> first | trivial | (simp [*]; done)))
                  · have hke : k = S.length := by omega
                    subst hke
                    repeat' (first | (with_reducible first | refine awp_seq ?_ | refine awp_blockS ?_ | refine awp_blockC ?_ | refine awp_blockR ?_ | refine awp_skip ?_ | refine awp_ret ?_ | refine awp_exit ?_ | refine awp_region ?_ | refine awp_regionD (id := 11) 8 mixed (by decide +kernel) ?_ | refine awp_regionS (id := 12) [0, 1, 2, 3, 4, 5, 6, 7, 8, 9, 10, 11, 12] [13, 14] [[], [], [], [], [], [], [], [], [], [], [], [.new 0], []] [[.new 0], []] mixed (by decide +kernel) ?_ | refine awp_regionD (id := 16) 14 mixed (by decide +kernel) ?_ | refine awp_regionS (id := 19) [0, 1, 2, 3, 4, 5, 6, 7, 8, 9, 10, 11, 12, 13, 14, 15, 16, 17] [18, 19] [[], [], [], [], [], [], [], [], [], [], [], [], [], [], [], [], [.new 0], []] [[.new 0], []] mixed (by decide +kernel) ?_ | refine awp_regionD (id := 22) 10 mixed (by decide +kernel) ?_ | refine awp_regionS (id := 28) [0, 1, 2, 3, 4, 5, 6, 7, 8, 9] [10, 11] [[], [], [], [], [], [], [], [], [.new 0], []] [[.new 0], []] mixed (by decide +kernel) ?_ | refine awp_regionD (id := 31) 10 mixed (by decide +kernel) ?_ | refine awp_regionD (id := 35) 7 mixed (by decide +kernel) ?_ | refine awp_condM ?_ | refine And.intro ?_ ?_ | apply gQ_merge | apply gE_merge | exact EqV_w | exact EqE_w | exact EqV_ptr | exact EqE_ptr | exact EqV_msl | exact EqE_msl | exact EqV_agg | exact EqE_agg | exact EqV_fn | exact EqE_fn | exact EqV_gd | exact EqE_gd | refine gM_splitN ?_ ?_ | refine gM_split ?_ ?_ |  refine condM_splitDN ?_ ?_ | refine condM_splitD ?_ ?_ | refine condM_splitN ?_ ?_ | refine condM_split ?_ ?_ | refine condM_any ?_ ?_ | intro _) | (simp [*]))
                    all_goals (refine finW_intro () ?_ ?_; (· trivial); (refine le_of ?_ ?_ <;> first | trivial | (simp [*]; done)))
                · repeat' (first | (with_reducible first | refine awp_seq ?_ | refine awp_blockS ?_ | refine awp_blockC ?_ | refine awp_blockR ?_ | refine awp_skip ?_ | refine awp_ret ?_ | refine awp_exit ?_ | refine awp_region ?_ | refine awp_regionD (id := 11) 8 mixed (by decide +kernel) ?_ | refine awp_regionS (id := 12) [0, 1, 2, 3, 4, 5, 6, 7, 8, 9, 10, 11, 12] [13, 14] [[], [], [], [], [], [], [], [], [], [], [], [.new 0], []] [[.new 0], []] mixed (by decide +kernel) ?_ | refine awp_regionD (id := 16) 14 mixed (by decide +kernel) ?_ | refine awp_regionS (id := 19) [0, 1, 2, 3, 4, 5, 6, 7, 8, 9, 10, 11, 12, 13, 14, 15, 16, 17] [18, 19] [[], [], [], [], [], [], [], [], [], [], [], [], [], [], [], [], [.new 0], []] [[.new 0], []] mixed (by decide +kernel) ?_ | refine awp_regionD (id := 22) 10 mixed (by decide +kernel) ?_ | refine awp_regionS (id := 28) [0, 1, 2, 3, 4, 5, 6, 7, 8, 9] [10, 11] [[], [], [], [], [], [], [], [], [.new 0], []] [[.new 0], []] mixed (by decide +kernel) ?_ | refine awp_regionD (id := 31) 10 mixed (by decide +kernel) ?_ | refine awp_regionD (id := 35) 7 mixed (by decide +kernel) ?_ | refine awp_condM ?_ | refine And.intro ?_ ?_ | apply gQ_merge | apply gE_merge | exact EqV_w | exact EqE_w | exact EqV_ptr | exact EqE_ptr | exact EqV_msl | exact EqE_msl | exact EqV_agg | exact EqE_agg | exact EqV_fn | exact EqE_fn | exact EqV_gd | exact EqE_gd | refine gM_splitN ?_ ?_ | refine gM_split ?_ ?_ |  refine condM_splitDN ?_ ?_ | refine condM_splitD ?_ ?_ | refine condM_splitN ?_ ?_ | refine condM_split ?_ ?_ | refine condM_any ?_ ?_ | intro _) | (simp [*]))
                  all_goals try first | exact inI64 (by omega) (by omega) | omega
                  all_goals (refine loopK_normal _ _ _ _ _ (i + 1, q) _ ?_ (by first | omega | (dsimp only; omega) | (simp; omega)) ?_; (· exact ⟨by dsimp only; omega, kKq⟩); (refine le_gen [] ?_ ?_ <;> first | trivial | (simp [*]; done)))
          · clear hK
            generalize newE m p r = E at *
            unfold aMap aPlan cPlan cRider at *
            repeat' (first | (with_reducible first | refine awp_seq ?_ | refine awp_blockS ?_ | refine awp_blockC ?_ | refine awp_blockR ?_ | refine awp_skip ?_ | refine awp_ret ?_ | refine awp_exit ?_ | refine awp_region ?_ | refine awp_regionD (id := 11) 8 mixed (by decide +kernel) ?_ | refine awp_regionS (id := 12) [0, 1, 2, 3, 4, 5, 6, 7, 8, 9, 10, 11, 12] [13, 14] [[], [], [], [], [], [], [], [], [], [], [], [.new 0], []] [[.new 0], []] mixed (by decide +kernel) ?_ | refine awp_regionD (id := 16) 14 mixed (by decide +kernel) ?_ | refine awp_regionS (id := 19) [0, 1, 2, 3, 4, 5, 6, 7, 8, 9, 10, 11, 12, 13, 14, 15, 16, 17] [18, 19] [[], [], [], [], [], [], [], [], [], [], [], [], [], [], [], [], [.new 0], []] [[.new 0], []] mixed (by decide +kernel) ?_ | refine awp_regionD (id := 22) 10 mixed (by decide +kernel) ?_ | refine awp_regionS (id := 28) [0, 1, 2, 3, 4, 5, 6, 7, 8, 9] [10, 11] [[], [], [], [], [], [], [], [], [.new 0], []] [[.new 0], []] mixed (by decide +kernel) ?_ | refine awp_regionD (id := 31) 10 mixed (by decide +kernel) ?_ | refine awp_regionD (id := 35) 7 mixed (by decide +kernel) ?_ | refine awp_condM ?_ | refine And.intro ?_ ?_ | apply gQ_merge | apply gE_merge | exact EqV_w | exact EqE_w | exact EqV_ptr | exact EqE_ptr | exact EqV_msl | exact EqE_msl | exact EqV_agg | exact EqE_agg | exact EqV_fn | exact EqE_fn | exact EqV_gd | exact EqE_gd | refine gM_splitN ?_ ?_ | refine gM_split ?_ ?_ |  refine condM_splitDN ?_ ?_ | refine condM_splitD ?_ ?_ | refine condM_splitN ?_ ?_ | refine condM_split ?_ ?_ | refine condM_any ?_ ?_ | refine cw (c6) ?_ | intro _) | (simp [*, hlt, hlI, hname, hR, cRider, hn]) | (refine cw_eq (c6) ?_ ?_; (· (simp [*]; done))))
            all_goals try first | exact inI64 (by omega) (by omega) | omega
            all_goals (refine loopK_normal _ _ _ _ _ (i + 1, p) _ ?_ (by first | omega | (dsimp only; omega) | (simp; omega)) ?_; (· exact ⟨by dsimp only; omega, kK1⟩); (refine le_gen [] ?_ ?_ <;> first | trivial | (simp [*]; done)))
        · have hke : i = l.length := by omega
          subst hke
          clear hK
          repeat' (first | (with_reducible first | refine awp_seq ?_ | refine awp_blockS ?_ | refine awp_blockC ?_ | refine awp_blockR ?_ | refine awp_skip ?_ | refine awp_ret ?_ | refine awp_exit ?_ | refine awp_region ?_ | refine awp_regionD (id := 11) 8 mixed (by decide +kernel) ?_ | refine awp_regionS (id := 12) [0, 1, 2, 3, 4, 5, 6, 7, 8, 9, 10, 11, 12] [13, 14] [[], [], [], [], [], [], [], [], [], [], [], [.new 0], []] [[.new 0], []] mixed (by decide +kernel) ?_ | refine awp_regionD (id := 16) 14 mixed (by decide +kernel) ?_ | refine awp_regionS (id := 19) [0, 1, 2, 3, 4, 5, 6, 7, 8, 9, 10, 11, 12, 13, 14, 15, 16, 17] [18, 19] [[], [], [], [], [], [], [], [], [], [], [], [], [], [], [], [], [.new 0], []] [[.new 0], []] mixed (by decide +kernel) ?_ | refine awp_regionD (id := 22) 10 mixed (by decide +kernel) ?_ | refine awp_regionS (id := 28) [0, 1, 2, 3, 4, 5, 6, 7, 8, 9] [10, 11] [[], [], [], [], [], [], [], [], [.new 0], []] [[.new 0], []] mixed (by decide +kernel) ?_ | refine awp_regionD (id := 31) 10 mixed (by decide +kernel) ?_ | refine awp_regionD (id := 35) 7 mixed (by decide +kernel) ?_ | refine awp_condM ?_ | refine And.intro ?_ ?_ | apply gQ_merge | apply gE_merge | exact EqV_w | exact EqE_w | exact EqV_ptr | exact EqE_ptr | exact EqV_msl | exact EqE_msl | exact EqV_agg | exact EqE_agg | exact EqV_fn | exact EqE_fn | exact EqV_gd | exact EqE_gd | refine gM_splitN ?_ ?_ | refine gM_split ?_ ?_ |  refine condM_splitDN ?_ ?_ | refine condM_splitD ?_ ?_ | refine condM_splitN ?_ ?_ | refine condM_split ?_ ?_ | refine condM_any ?_ ?_ | intro _) | (simp [*]))
          all_goals (refine finW_intro () ?_ ?_; (· trivial); (refine le_gen [] ?_ ?_ <;> first | trivial | (simp [*]; done)))
      · repeat' (first | (with_reducible first | refine awp_seq ?_ | refine awp_blockS ?_ | refine awp_blockC ?_ | refine awp_blockR ?_ | refine awp_skip ?_ | refine awp_ret ?_ | refine awp_exit ?_ | refine awp_region ?_ | refine awp_regionD (id := 11) 8 mixed (by decide +kernel) ?_ | refine awp_regionS (id := 12) [0, 1, 2, 3, 4, 5, 6, 7, 8, 9, 10, 11, 12] [13, 14] [[], [], [], [], [], [], [], [], [], [], [], [.new 0], []] [[.new 0], []] mixed (by decide +kernel) ?_ | refine awp_regionD (id := 16) 14 mixed (by decide +kernel) ?_ | refine awp_regionS (id := 19) [0, 1, 2, 3, 4, 5, 6, 7, 8, 9, 10, 11, 12, 13, 14, 15, 16, 17] [18, 19] [[], [], [], [], [], [], [], [], [], [], [], [], [], [], [], [], [.new 0], []] [[.new 0], []] mixed (by decide +kernel) ?_ | refine awp_regionD (id := 22) 10 mixed (by decide +kernel) ?_ | refine awp_regionS (id := 28) [0, 1, 2, 3, 4, 5, 6, 7, 8, 9] [10, 11] [[], [], [], [], [], [], [], [], [.new 0], []] [[.new 0], []] mixed (by decide +kernel) ?_ | refine awp_regionD (id := 31) 10 mixed (by decide +kernel) ?_ | refine awp_regionD (id := 35) 7 mixed (by decide +kernel) ?_ | refine awp_condM ?_ | refine And.intro ?_ ?_ | apply gQ_merge | apply gE_merge | exact EqV_w | exact EqE_w | exact EqV_ptr | exact EqE_ptr | exact EqV_msl | exact EqE_msl | exact EqV_agg | exact EqE_agg | exact EqV_fn | exact EqE_fn | exact EqV_gd | exact EqE_gd | refine gM_splitN ?_ ?_ | refine gM_split ?_ ?_ |  refine condM_splitDN ?_ ?_ | refine condM_splitD ?_ ?_ | refine condM_splitN ?_ ?_ | refine condM_split ?_ ?_ | refine condM_any ?_ ?_ | intro _) | (simp [*]))
    · generalize (checkS m ⟨car, [], []⟩).2 = e at *
      clear hm hp hs
      unfold aMap aPlan cPlan cCar at *
      simp at c1 c2
      refine realcall_intro Try.func6 (by kernel_rfl) rfl (Nat.le_of_ble_eq_true (by kernel_rfl)) ?_
      simp only [Try.results6, Try.ntmps6]
      repeat' (first | (with_reducible first | refine awp_seq ?_ | refine awp_blockS ?_ | refine awp_blockC ?_ | refine awp_blockR ?_ | refine awp_skip ?_ | refine awp_ret ?_ | refine awp_exit ?_ | refine awp_region ?_ | refine awp_regionD (id := 11) 8 mixed (by decide +kernel) ?_ | refine awp_regionS (id := 12) [0, 1, 2, 3, 4, 5, 6, 7, 8, 9, 10, 11, 12] [13, 14] [[], [], [], [], [], [], [], [], [], [], [], [.new 0], []] [[.new 0], []] mixed (by decide +kernel) ?_ | refine awp_regionD (id := 16) 14 mixed (by decide +kernel) ?_ | refine awp_regionS (id := 19) [0, 1, 2, 3, 4, 5, 6, 7, 8, 9, 10, 11, 12, 13, 14, 15, 16, 17] [18, 19] [[], [], [], [], [], [], [], [], [], [], [], [], [], [], [], [], [.new 0], []] [[.new 0], []] mixed (by decide +kernel) ?_ | refine awp_regionD (id := 22) 10 mixed (by decide +kernel) ?_ | refine awp_regionS (id := 28) [0, 1, 2, 3, 4, 5, 6, 7, 8, 9] [10, 11] [[], [], [], [], [], [], [], [], [.new 0], []] [[.new 0], []] mixed (by decide +kernel) ?_ | refine awp_regionD (id := 31) 10 mixed (by decide +kernel) ?_ | refine awp_regionD (id := 35) 7 mixed (by decide +kernel) ?_ | refine awp_condM ?_ | refine And.intro ?_ ?_ | apply gQ_merge | apply gE_merge | exact EqV_w | exact EqE_w | exact EqV_ptr | exact EqE_ptr | exact EqV_msl | exact EqE_msl | exact EqV_agg | exact EqE_agg | exact EqV_fn | exact EqE_fn | exact EqV_gd | exact EqE_gd | refine gM_splitN ?_ ?_ | refine gM_split ?_ ?_ |  refine condM_splitDN ?_ ?_ | refine condM_splitD ?_ ?_ | refine condM_splitN ?_ ?_ | refine condM_split ?_ ?_ | refine condM_any ?_ ?_ | refine cw (c0) ?_ | refine cw (c1) ?_ | refine cw (c2) ?_ | intro _) | (simp [*, h4, h]) | (refine cw_eq (c0) ?_ ?_; (· (simp [*]; done))) | (refine cw_eq (c1) ?_ ?_; (· (simp [*]; done))) | (refine cw_eq (c2) ?_ ?_; (· (simp [*]; done))))
end Go.Proofs.Ytchpdgojiibjcaa
