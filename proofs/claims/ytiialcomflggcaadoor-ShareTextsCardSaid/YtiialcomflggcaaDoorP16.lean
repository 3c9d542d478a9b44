/- Contracts of functions for this claim: lemmas alone. -/
import Derived.Test.YtiialcomflggcaaDoorP14
set_option linter.unusedSimpArgs false
set_option linter.unusedVariables false
namespace Go.Proofs.YtiialcomflggcaaDoor
open Go Go.Fi
set_option maxRecDepth 20000

/-! ### the first limit that is broken -/
def rideX (m : Grid) (p : Plan) (ts : List Int) (s : Stop) : Int × Int := rideS m p ts s.rider.toNat
def brokF (m : Grid) (p : Plan) (ts ss : List Int) : Nat → Nat → Option (Int × Int)
  | 0, _ => none
  | n + 1, k => if p.car.seats < nth ss k then some (0, (k : Int))
    else if (nth p.stops k).out = true ∧ (rideX m p ts (nth p.stops k)).2 < (rideX m p ts (nth p.stops k)).1 then some (1, (nth p.stops k).rider)
    else brokF m p ts ss n (k + 1)
def brokR (o : Option (Int × Int)) : (Int × Int) × Bool := match o with | some x => (x, true) | none => ((0, 0), false)
def brokK (m : Grid) (p : Plan) (ts ss : List Int) (k : Nat) : (Int × Int) × Bool := brokR (brokF m p ts ss (p.stops.length - k) k)
def brokenS (m : Grid) (p : Plan) (ts ss : List Int) : (Int × Int) × Bool := brokR (brokF m p ts ss p.stops.length 0)
def brokP (b : (Int × Int) × Bool) : PV := .tup [.agg [.int .i64 b.1.1, .int .i64 b.1.2], .bool b.2]
theorem brokF_step {m : Grid} {p : Plan} {ts ss : List Int} {k : Nat} (h : k < p.stops.length) : brokF m p ts ss (p.stops.length - k) k = if p.car.seats < nth ss k then some (0, (k : Int))
    else if (nth p.stops k).out = true ∧ (rideX m p ts (nth p.stops k)).2 < (rideX m p ts (nth p.stops k)).1 then some (1, (nth p.stops k).rider)
    else brokF m p ts ss (p.stops.length - (k + 1)) (k + 1) := by
  rw [show p.stops.length - k = (p.stops.length - (k + 1)) + 1 by omega]; rfl
theorem brokK_seats {m : Grid} {p : Plan} {ts ss : List Int} {k : Nat} (h : k < p.stops.length) (h1 : p.car.seats < nth ss k) : brokK m p ts ss k = ((0, (k : Int)), true) := by
  unfold brokK; rw [brokF_step h, if_pos h1]; rfl
theorem brokK_ride {m : Grid} {p : Plan} {ts ss : List Int} {k : Nat} (h : k < p.stops.length) (h1 : ¬ p.car.seats < nth ss k) (ho : (nth p.stops k).out = true) (h2 : (rideX m p ts (nth p.stops k)).2 < (rideX m p ts (nth p.stops k)).1) :
    brokK m p ts ss k = ((1, (nth p.stops k).rider), true) := by
  unfold brokK; rw [brokF_step h, if_neg h1, if_pos ⟨ho, h2⟩]; rfl
theorem brokK_ok {m : Grid} {p : Plan} {ts ss : List Int} {k : Nat} (h : k < p.stops.length) (h1 : ¬ p.car.seats < nth ss k) (h2 : ¬ ((nth p.stops k).out = true ∧ (rideX m p ts (nth p.stops k)).2 < (rideX m p ts (nth p.stops k)).1)) :
    brokK m p ts ss k = brokK m p ts ss (k + 1) := by
  unfold brokK; rw [brokF_step h, if_neg h1, if_neg h2]
theorem brokK_end (m : Grid) (p : Plan) (ts ss : List Int) : brokK m p ts ss p.stops.length = ((0, 0), false) := by
  unfold brokK; rw [Nat.sub_self]; rfl
theorem nth_mem {α : Type} [Inhabited α] {l : List α} {k : Nat} (h : k < l.length) : nth l k ∈ l := by
  simp [nth, List.getD_eq_getElem?_getD, List.getElem?_eq_getElem h]
theorem TourOk.rides {m : Grid} {p : Plan} (h : TourOk m p) {i : Nat} (hi : i < p.stops.length) (ho : (nth p.stops i).out = true) : ∃ j : Nat, nth p.stops i = ⟨(j : Int), true⟩ ∧ Rides p j := by
  have h1 := h.go.stops i hi
  have h2 := h.ins i hi ho
  have h3 := nth_mem hi
  generalize nth p.stops i = s at *
  obtain ⟨r, o⟩ := s
  obtain ⟨j, rfl⟩ := Int.eq_ofNat_of_zero_le h1.1
  have ho : o = true := ho
  subst ho
  have h1 : (j : Int) < (p.riders.length : Int) := h1.2
  refine ⟨j, rfl, by omega, elemB_iff.2 h3, ?_⟩
  rcases h2 with h2 | h2
  · exact .inl h2
  · exact .inr (elemB_iff.2 h2)
set_option maxHeartbeats 8000000 in
theorem broken_c (m : Grid) (p : Plan) (ok : TourOk m p) (ts ss : List Int) (hl : ts.length = p.stops.length) (hl2 : ss.length = p.stops.length) (ht : TimesIn ts) :
    RealCall Tryd.prog 65 [.ip (cTour m p ts ss) 0] (brokP (brokenS m p ts ss)) true := by
  have hsl := ok.go.sl
  unfold brokP
  generalize hR : brokenS m p ts ss = R
  have hR : brokK m p ts ss 0 = R := hR
  have kR := keep hR
  clear hR
  unfold cTour
  refine realcall_intro Tryd.func65 (by kernel_rfl) rfl (Nat.le_of_ble_eq_true (by kernel_rfl)) ?_
  simp only [Tryd.results65, Tryd.ntmps65]
  repeat' (first | (with_reducible first | refine awp_seq ?_ | refine awp_blockS ?_ | refine awp_blockC ?_ | refine awp_blockR ?_ | refine awp_skip ?_ | refine awp_ret ?_ | refine awp_exit ?_ | refine awp_region ?_ | refine awp_regionD (id := 4) 14 mixed (by decide +kernel) ?_ | refine awp_condM ?_ | refine And.intro ?_ ?_ | apply gQ_merge | apply gE_merge | exact EqV_w | exact EqE_w | exact EqV_ptr | exact EqE_ptr | exact EqV_msl | exact EqE_msl | exact EqV_agg | exact EqE_agg | exact EqV_fn | exact EqE_fn | exact EqV_gd | exact EqE_gd | refine gM_splitN ?_ ?_ | refine gM_split ?_ ?_ |  refine condM_splitDN ?_ ?_ | refine condM_splitD ?_ ?_ | refine condM_splitN ?_ ?_ | refine condM_split ?_ ?_ | refine condM_any ?_ ?_ | intro _) | (simp [*]))
  refine awp_for3 (fun (k : Nat) => k ≤ p.stops.length ∧ brokK m p ts ss k = R) [0, 2, 11, 12] (fun (k : Nat) => [(13, .w false false (.int .i64 k))]) [0] (fun (k : Nat) => []) (fun (k : Nat) => p.stops.length - k) (fun (_u : Unit) => R = ((0, 0), false)) [2] (fun (_u : Unit) => []) [0] (fun (_u : Unit) => []) (0) ⟨Nat.zero_le _, kR⟩ (by simp) (by simp) (fun k hk => ?_) (fun _u hf => ?_)
  · obtain ⟨hk, hj⟩ := hk
    by_cases hlt : k < p.stops.length
    · by_cases hc : p.car.seats < nth ss k
      · rw [brokK_seats hlt hc] at hj
        subst hj
        repeat' (first | (with_reducible first | refine awp_seq ?_ | refine awp_blockS ?_ | refine awp_blockC ?_ | refine awp_blockR ?_ | refine awp_skip ?_ | refine awp_ret ?_ | refine awp_exit ?_ | refine awp_region ?_ | refine awp_regionD (id := 4) 14 mixed (by decide +kernel) ?_ | refine awp_condM ?_ | refine And.intro ?_ ?_ | apply gQ_merge | apply gE_merge | exact EqV_w | exact EqE_w | exact EqV_ptr | exact EqE_ptr | exact EqV_msl | exact EqE_msl | exact EqV_agg | exact EqE_agg | exact EqV_fn | exact EqE_fn | exact EqV_gd | exact EqE_gd | refine gM_splitN ?_ ?_ | refine gM_split ?_ ?_ |  refine condM_splitDN ?_ ?_ | refine condM_splitD ?_ ?_ | refine condM_splitN ?_ ?_ | refine condM_split ?_ ?_ | refine condM_any ?_ ?_ | intro _) | (simp [*, hlt, hl2, cStop]))
        all_goals first
          | exact inI64 (by omega) (by omega)
          | omega
          | skip
      · cases ho : (nth p.stops k).out with
        | false =>
          rw [brokK_ok hlt hc (by rw [ho]; rintro ⟨h, _⟩; cases h)] at hj
          have kj := keep hj
          clear hj
          repeat' (first | (with_reducible first | refine awp_seq ?_ | refine awp_blockS ?_ | refine awp_blockC ?_ | refine awp_blockR ?_ | refine awp_skip ?_ | refine awp_ret ?_ | refine awp_exit ?_ | refine awp_region ?_ | refine awp_regionD (id := 4) 14 mixed (by decide +kernel) ?_ | refine awp_condM ?_ | refine And.intro ?_ ?_ | apply gQ_merge | apply gE_merge | exact EqV_w | exact EqE_w | exact EqV_ptr | exact EqE_ptr | exact EqV_msl | exact EqE_msl | exact EqV_agg | exact EqE_agg | exact EqV_fn | exact EqE_fn | exact EqV_gd | exact EqE_gd | refine gM_splitN ?_ ?_ | refine gM_split ?_ ?_ |  refine condM_splitDN ?_ ?_ | refine condM_splitD ?_ ?_ | refine condM_splitN ?_ ?_ | refine condM_split ?_ ?_ | refine condM_any ?_ ?_ | intro _) | (simp [*, hlt, hl2, cStop]))
          all_goals first
            | exact inI64 (by omega) (by omega)
            | omega
            | (refine loopK_normal _ _ _ _ _ (k + 1) _ ?_ (by first | omega | (dsimp only; omega) | (simp; omega)) ?_; (· exact ⟨by omega, kj⟩); (refine le_of ?_ ?_ <;> first | trivial | (simp [*]; done)))
            | skip
        | true =>
          obtain ⟨j, hs, hrd⟩ := ok.rides hlt ho
          have c1 := ride_c m p ok.go ts ss hl ht j hrd
          have hX : rideX m p ts (nth p.stops k) = rideS m p ts j := by rw [hs]; rfl
          by_cases hr : (rideX m p ts (nth p.stops k)).2 < (rideX m p ts (nth p.stops k)).1
          · rw [brokK_ride hlt hc ho hr, hs] at hj
            rw [hX] at hr
            subst hj
            clear hX hrd ho
            generalize rideS m p ts j = X at *
            unfold cTour at c1
            repeat' (first | (with_reducible first | refine awp_seq ?_ | refine awp_blockS ?_ | refine awp_blockC ?_ | refine awp_blockR ?_ | refine awp_skip ?_ | refine awp_ret ?_ | refine awp_exit ?_ | refine awp_region ?_ | refine awp_regionD (id := 4) 14 mixed (by decide +kernel) ?_ | refine awp_condM ?_ | refine And.intro ?_ ?_ | apply gQ_merge | apply gE_merge | exact EqV_w | exact EqE_w | exact EqV_ptr | exact EqE_ptr | exact EqV_msl | exact EqE_msl | exact EqV_agg | exact EqE_agg | exact EqV_fn | exact EqE_fn | exact EqV_gd | exact EqE_gd | refine gM_splitN ?_ ?_ | refine gM_split ?_ ?_ |  refine condM_splitDN ?_ ?_ | refine condM_splitD ?_ ?_ | refine condM_splitN ?_ ?_ | refine condM_split ?_ ?_ | refine condM_any ?_ ?_ | refine cw (c1) ?_ | intro _) | (simp [*, hlt, hl2, cStop]) | (refine cw_eq (c1) ?_ ?_; (· (simp [*]; done))))
            all_goals first
              | exact inI64 (by omega) (by omega)
              | omega
              | skip
          · rw [brokK_ok hlt hc (fun h => hr h.2)] at hj
            rw [hX] at hr
            have kj := keep hj
            clear hX hrd ho hj
            generalize rideS m p ts j = X at *
            unfold cTour at c1
            repeat' (first | (with_reducible first | refine awp_seq ?_ | refine awp_blockS ?_ | refine awp_blockC ?_ | refine awp_blockR ?_ | refine awp_skip ?_ | refine awp_ret ?_ | refine awp_exit ?_ | refine awp_region ?_ | refine awp_regionD (id := 4) 14 mixed (by decide +kernel) ?_ | refine awp_condM ?_ | refine And.intro ?_ ?_ | apply gQ_merge | apply gE_merge | exact EqV_w | exact EqE_w | exact EqV_ptr | exact EqE_ptr | exact EqV_msl | exact EqE_msl | exact EqV_agg | exact EqE_agg | exact EqV_fn | exact EqE_fn | exact EqV_gd | exact EqE_gd | refine gM_splitN ?_ ?_ | refine gM_split ?_ ?_ |  refine condM_splitDN ?_ ?_ | refine condM_splitD ?_ ?_ | refine condM_splitN ?_ ?_ | refine condM_split ?_ ?_ | refine condM_any ?_ ?_ | refine cw (c1) ?_ | intro _) | (simp [*, hlt, hl2, cStop]) | (refine cw_eq (c1) ?_ ?_; (· (simp [*]; done))))
            all_goals first
              | exact inI64 (by omega) (by omega)
              | omega
              | (refine loopK_normal _ _ _ _ _ (k + 1) _ ?_ (by first | omega | (dsimp only; omega) | (simp; omega)) ?_; (· exact ⟨by omega, kj⟩); (refine le_of ?_ ?_ <;> first | trivial | (simp [*]; done)))
              | skip
    · have hke : k = p.stops.length := by omega
      subst hke
      rw [brokK_end] at hj
      have kj := keep hj
      clear hj
      repeat' (first | (with_reducible first | refine awp_seq ?_ | refine awp_blockS ?_ | refine awp_blockC ?_ | refine awp_blockR ?_ | refine awp_skip ?_ | refine awp_ret ?_ | refine awp_exit ?_ | refine awp_region ?_ | refine awp_regionD (id := 4) 14 mixed (by decide +kernel) ?_ | refine awp_condM ?_ | refine And.intro ?_ ?_ | apply gQ_merge | apply gE_merge | exact EqV_w | exact EqE_w | exact EqV_ptr | exact EqE_ptr | exact EqV_msl | exact EqE_msl | exact EqV_agg | exact EqE_agg | exact EqV_fn | exact EqE_fn | exact EqV_gd | exact EqE_gd | refine gM_splitN ?_ ?_ | refine gM_split ?_ ?_ |  refine condM_splitDN ?_ ?_ | refine condM_splitD ?_ ?_ | refine condM_splitN ?_ ?_ | refine condM_split ?_ ?_ | refine condM_any ?_ ?_ | intro _) | (simp [*]))
      all_goals (refine finW_intro () ?_ ?_; (· exact kj.symm); (refine le_of ?_ ?_ <;> first | trivial | (simp [*]; done)))
  · subst hf
    repeat' (first | (with_reducible first | refine awp_seq ?_ | refine awp_blockS ?_ | refine awp_blockC ?_ | refine awp_blockR ?_ | refine awp_skip ?_ | refine awp_ret ?_ | refine awp_exit ?_ | refine awp_region ?_ | refine awp_regionD (id := 4) 14 mixed (by decide +kernel) ?_ | refine awp_condM ?_ | refine And.intro ?_ ?_ | apply gQ_merge | apply gE_merge | exact EqV_w | exact EqE_w | exact EqV_ptr | exact EqE_ptr | exact EqV_msl | exact EqE_msl | exact EqV_agg | exact EqE_agg | exact EqV_fn | exact EqE_fn | exact EqV_gd | exact EqE_gd | refine gM_splitN ?_ ?_ | refine gM_split ?_ ?_ |  refine condM_splitDN ?_ ?_ | refine condM_splitD ?_ ?_ | refine condM_splitN ?_ ?_ | refine condM_split ?_ ?_ | refine condM_any ?_ ?_ | intro _) | (simp [*]))
theorem keeps_c (m : Grid) (p : Plan) (ok : TourOk m p) (ts ss : List Int) (hl : ts.length = p.stops.length) (hl2 : ss.length = p.stops.length) (ht : TimesIn ts) :
    RealCall Tryd.prog 46 [.ip (cTour m p ts ss) 0] (.bool (!(brokenS m p ts ss).2)) true := by
  have c1 := broken_c m p ok ts ss hl hl2 ht
  unfold brokP at c1
  generalize brokenS m p ts ss = R at *
  clear ok ht
  unfold cTour at *
  refine realcall_intro Tryd.func46 (by kernel_rfl) rfl (Nat.le_of_ble_eq_true (by kernel_rfl)) ?_
  simp only [Tryd.results46, Tryd.ntmps46]
  repeat' (first | (with_reducible first | refine awp_seq ?_ | refine awp_blockS ?_ | refine awp_blockC ?_ | refine awp_blockR ?_ | refine awp_skip ?_ | refine awp_ret ?_ | refine awp_exit ?_ | refine awp_region ?_ | refine awp_condM ?_ | refine And.intro ?_ ?_ | apply gQ_merge | apply gE_merge | exact EqV_w | exact EqE_w | exact EqV_ptr | exact EqE_ptr | exact EqV_msl | exact EqE_msl | exact EqV_agg | exact EqE_agg | exact EqV_fn | exact EqE_fn | exact EqV_gd | exact EqE_gd | refine gM_splitN ?_ ?_ | refine gM_split ?_ ?_ |  refine condM_splitDN ?_ ?_ | refine condM_splitD ?_ ?_ | refine condM_splitN ?_ ?_ | refine condM_split ?_ ?_ | refine condM_any ?_ ?_ | refine cw (c1) ?_ | intro _) | (simp [*]) | (refine cw_eq (c1) ?_ ?_; (· (simp [*]; done))))
/-- the cost -/
def costS (p : Plan) (ts : List Int) : Int := if ts.length = 0 then 0 else nth ts (ts.length - 1) - p.car.time
theorem cost_c (m : Grid) (p : Plan) (ts ss : List Int) (hl : ts.length < 10000) (ht : TimesIn ts) (h0 : 0 ≤ p.car.time) (h1 : p.car.time ≤ 1000000) : RealCall Tryd.prog 64 [.ip (cTour m p ts ss) 0] (.int .i64 (costS p ts)) true := by
  unfold costS
  by_cases hz : ts.length = 0
  · rw [if_pos hz]
    unfold cTour
    refine realcall_intro Tryd.func64 (by kernel_rfl) rfl (Nat.le_of_ble_eq_true (by kernel_rfl)) ?_
    simp only [Tryd.results64, Tryd.ntmps64]
    repeat' (first | (with_reducible first | refine awp_seq ?_ | refine awp_blockS ?_ | refine awp_blockC ?_ | refine awp_blockR ?_ | refine awp_skip ?_ | refine awp_ret ?_ | refine awp_exit ?_ | refine awp_region ?_ | refine awp_regionD (id := 3) 20 mixed (by decide +kernel) ?_ | refine awp_condM ?_ | refine And.intro ?_ ?_ | apply gQ_merge | apply gE_merge | exact EqV_w | exact EqE_w | exact EqV_ptr | exact EqE_ptr | exact EqV_msl | exact EqE_msl | exact EqV_agg | exact EqE_agg | exact EqV_fn | exact EqE_fn | exact EqV_gd | exact EqE_gd | refine gM_splitN ?_ ?_ | refine gM_split ?_ ?_ |  refine condM_splitDN ?_ ?_ | refine condM_splitD ?_ ?_ | refine condM_splitN ?_ ?_ | refine condM_split ?_ ?_ | refine condM_any ?_ ?_ | intro _) | (simp [*, hz]))
  · rw [if_neg hz]
    have hb := ht (ts.length - 1) (by omega)
    clear ht
    obtain ⟨n, hn⟩ : ∃ n, ts.length = n + 1 := ⟨ts.length - 1, by omega⟩
    have e : ((n : Int) + 1 - 1) = (n : Int) := by omega
    rw [hn] at hb
    simp only [Nat.add_sub_cancel] at hb
    unfold cTour
    refine realcall_intro Tryd.func64 (by kernel_rfl) rfl (Nat.le_of_ble_eq_true (by kernel_rfl)) ?_
    simp only [Tryd.results64, Tryd.ntmps64]
    repeat' (first | (with_reducible first | refine awp_seq ?_ | refine awp_blockS ?_ | refine awp_blockC ?_ | refine awp_blockR ?_ | refine awp_skip ?_ | refine awp_ret ?_ | refine awp_exit ?_ | refine awp_region ?_ | refine awp_regionD (id := 3) 20 mixed (by decide +kernel) ?_ | refine awp_condM ?_ | refine And.intro ?_ ?_ | apply gQ_merge | apply gE_merge | exact EqV_w | exact EqE_w | exact EqV_ptr | exact EqE_ptr | exact EqV_msl | exact EqE_msl | exact EqV_agg | exact EqE_agg | exact EqV_fn | exact EqE_fn | exact EqV_gd | exact EqE_gd | refine gM_splitN ?_ ?_ | refine gM_split ?_ ?_ |  refine condM_splitDN ?_ ?_ | refine condM_splitD ?_ ?_ | refine condM_splitN ?_ ?_ | refine condM_split ?_ ?_ | refine condM_any ?_ ?_ | intro _) | (simp [*, hn, e]))
    all_goals first
      | exact inI64 (by omega) (by omega)
      | omega
      | skip
end Go.Proofs.YtiialcomflggcaaDoor
namespace Go.Proofs.YtiialcomflggcaaDoor
open Go Go.Fi
set_option maxRecDepth 20000

theorem timesK_nth (m : Grid) (p : Plan) (d : Delay) : ∀ (k i : Nat), i < k → nth (timesK m p d k) i = clockK m p d (i + 1)
  | 0, i, h => by omega
  | k + 1, i, h => by
    simp only [timesK]
    by_cases e : i < k
    · have : nth (timesK m p d k ++ [clockK m p d (k + 1)]) i = nth (timesK m p d k) i := by
        simp [nth, List.getD_eq_getElem?_getD, List.getElem?_append_left (show i < (timesK m p d k).length by simpa using e)]
      rw [this, timesK_nth m p d k i e]
    · have e : i = k := by omega
      subst e
      simp [nth, List.getD_eq_getElem?_getD]
theorem DriveOk.times {m : Grid} {p : Plan} (h : DriveOk m p) {d : Delay} (hd : 0 ≤ d.by_ ∧ d.by_ ≤ 30000) : TimesIn (timesS m p d) := by
  intro i hi
  rw [timesS_len] at hi
  unfold timesS
  rw [timesK_nth _ _ _ _ _ hi]
  have := h.clock hd (k := i + 1) (by omega)
  have := h.sl
  omega

/-! ### what the program tells -/
theorem timesOf_ok (m : Grid) (hm : GridIn m) (p : Plan) (hp : PlanIn p) (h : (checkS m p).2 = 0) : RealCall Tryd.prog 13 [aMap m, aPlan p] (.tup [.sl (timesS m p noDelay).length (ints (timesS m p noDelay)), .int .i64 0]) false := by
  have hf : RealCall Tryd.prog 37 [aTour m p noDelay] (.tup [.sl (timesS m p noDelay).length (ints (timesS m p noDelay)), .int .i64 0]) false := by
    unfold aTour cTour
    refine realcall_intro Tryd.func37 (by kernel_rfl) rfl (Nat.le_of_ble_eq_true (by kernel_rfl)) ?_
    simp only [Tryd.results37, Tryd.ntmps37]
    repeat' (first | (with_reducible first | refine awp_seq ?_ | refine awp_blockS ?_ | refine awp_blockC ?_ | refine awp_blockR ?_ | refine awp_skip ?_ | refine awp_ret ?_ | refine awp_exit ?_ | refine awp_region ?_ | refine awp_condM ?_ | refine And.intro ?_ ?_ | apply gQ_merge | apply gE_merge | exact EqV_w | exact EqE_w | exact EqV_ptr | exact EqE_ptr | exact EqV_msl | exact EqE_msl | exact EqV_agg | exact EqE_agg | exact EqV_fn | exact EqE_fn | exact EqV_gd | exact EqE_gd | refine gM_splitN ?_ ?_ | refine gM_split ?_ ?_ |  refine condM_splitDN ?_ ?_ | refine condM_splitD ?_ ?_ | refine condM_splitN ?_ ?_ | refine condM_split ?_ ?_ | refine condM_any ?_ ?_ | intro _) | (simp [*]))
  have c1 := of71_ok m hm p hp h 37 [] _ _ _ hf
  clear hf h
  unfold aMap aPlan cPlan at *
  refine realcall_intro Tryd.func13 (by kernel_rfl) rfl (Nat.le_of_ble_eq_true (by kernel_rfl)) ?_
  simp only [Tryd.results13, Tryd.ntmps13]
  repeat' (first | (with_reducible first | refine awp_seq ?_ | refine awp_blockS ?_ | refine awp_blockC ?_ | refine awp_blockR ?_ | refine awp_skip ?_ | refine awp_ret ?_ | refine awp_exit ?_ | refine awp_region ?_ | refine awp_condM ?_ | refine And.intro ?_ ?_ | apply gQ_merge | apply gE_merge | exact EqV_w | exact EqE_w | exact EqV_ptr | exact EqE_ptr | exact EqV_msl | exact EqE_msl | exact EqV_agg | exact EqE_agg | exact EqV_fn | exact EqE_fn | exact EqV_gd | exact EqE_gd | refine gM_splitN ?_ ?_ | refine gM_split ?_ ?_ |  refine condM_splitDN ?_ ?_ | refine condM_splitD ?_ ?_ | refine condM_splitN ?_ ?_ | refine condM_split ?_ ?_ | refine condM_any ?_ ?_ | refine cw (c1) ?_ | intro _) | (simp [*]) | (refine cw_eq (c1) ?_ ?_; (· (simp [*]; done))))
theorem PlanOk.rides {m : Grid} {p : Plan} (h : PlanOk m p) {j : Nat} (hj : j < p.riders.length) : Rides p j := by
  refine ⟨hj, h.gaps j hj, ?_⟩
  have h1 := elemB_iff.1 (h.gaps j hj)
  obtain ⟨i, hi, he⟩ := List.getElem_of_mem h1
  have h2 := h.stops i hi
  have e : nth p.stops i = ⟨(j : Int), true⟩ := by rw [← he]; simp [nth, List.getD_eq_getElem?_getD, List.getElem?_eq_getElem hi]
  rw [e] at h2
  rcases (stopE_ok.1 h2).2.2.2 with h3 | h3 | h3
  · cases h3
  · exact .inl (by simpa [abB] using h3)
  · exact .inr (elemB_iff.2 (List.mem_of_mem_take (elemB_iff.1 h3)))
end Go.Proofs.YtiialcomflggcaaDoor

