/- Contracts of functions for this claim: lemmas alone. -/
import Derived.Test.YtceimmohnniebaaP35
set_option linter.unusedSimpArgs false
set_option linter.unusedVariables false
namespace Go.Proofs.Ytceimmohnniebaa
open Go Go.Fi
set_option maxRecDepth 20000

/-! ### a ride that is too long -/
def longB (m : Grid) (p : Plan) (ts : List Int) (j : Nat) : Bool := decide ((rideS m p ts j).2 < (rideS m p ts j).1)
def tooL (m : Grid) (p : Plan) (ts : List Int) : Bool := (List.range p.riders.length).any (longB m p ts)
theorem tooL_true {m : Grid} {p : Plan} {ts : List Int} {k : Nat} (h : k < p.riders.length) (e : longB m p ts k = true) : tooL m p ts = true := by
  unfold tooL
  rw [List.any_eq_true]
  exact ⟨k, List.mem_range.2 h, e⟩
theorem tooL_false {m : Grid} {p : Plan} {ts : List Int} (h : ∀ k, k < p.riders.length → longB m p ts k = false) : tooL m p ts = false := by
  unfold tooL
  rw [List.any_eq_false]
  intro x hx
  rw [h x (List.mem_range.1 hx)]; decide
def toK (p : Plan) (ts : List Int) (j i : Nat) : Int := if elemB (p.stops.take i) ⟨(j : Int), true⟩ = true then timeAt p ts ⟨(j : Int), true⟩ else 0
def fromK (p : Plan) (ts : List Int) (j i : Nat) : Int := if elemB (p.stops.take i) ⟨(j : Int), false⟩ = true then timeAt p ts ⟨(j : Int), false⟩ else p.car.time - (nth p.riders j).ridden
theorem stop_once {m : Grid} {p : Plan} (po : PlanOk m p) {i : Nat} (h : i < p.stops.length) {s : Stop} (e : nth p.stops i = s) : stopAt p.stops s = (i : Int) := by
  have h1 := stopAt_first h e
  have he : elemB p.stops s = true := elemB_iff.2 (mem_of_nth h e)
  have h2 := stopAt_nth he
  obtain ⟨a, ha, hal⟩ := stopAt_bd he
  rw [ha] at h1 h2 ⊢
  rw [Int.toNat_natCast] at h2
  rcases Nat.lt_or_ge a i with hlt | hge
  · have h3 := (stopE_ok.1 (po.stops i h)).2.1
    rw [e] at h3
    have h4 : elemB (p.stops.take i) s = true := elemB_iff.2 (mem_of_nth (k := a) (by rw [take_len _ _ (by omega)]; omega) (by rw [nth_take _ _ _ hlt]; exact h2))
    rw [h4] at h3; cases h3
  · omega
theorem stop_is {s : Stop} {r : Int} {o : Bool} (h1 : s.rider = r) (h2 : s.out = o) : s = ⟨r, o⟩ := by cases s; cases h1; cases h2; rfl
section
variable {m : Grid} {p : Plan} {ts : List Int} {i j : Nat}
@[simp] theorem toK_zero : toK p ts j 0 = 0 := rfl
@[simp] theorem fromK_zero : fromK p ts j 0 = p.car.time - (nth p.riders j).ridden := rfl
theorem toK_other (h : i < p.stops.length) (e : (nth p.stops i).rider ≠ (j : Int)) : toK p ts j (i + 1) = toK p ts j i ∧ fromK p ts j (i + 1) = fromK p ts j i := by
  unfold toK fromK
  rw [elemB_succ h, elemB_succ h, stopEq_ne (a := ⟨(j : Int), true⟩) (by intro e'; rw [← e'] at e; exact e rfl), stopEq_ne (a := ⟨(j : Int), false⟩) (by intro e'; rw [← e'] at e; exact e rfl), Bool.or_false, Bool.or_false]
  exact ⟨rfl, rfl⟩
theorem toK_out (po : PlanOk m p) (h : i < p.stops.length) (e : nth p.stops i = ⟨(j : Int), true⟩) : toK p ts j (i + 1) = nth ts i ∧ fromK p ts j (i + 1) = fromK p ts j i := by
  have hs := stop_once po h e
  unfold toK fromK
  rw [elemB_succ h, elemB_succ h, e, stopEq_self, Bool.or_true, if_pos rfl, stopEq_ne (a := ⟨(j : Int), false⟩) (by intro e'; cases e'), Bool.or_false]
  refine ⟨?_, rfl⟩
  unfold timeAt
  rw [hs, Int.toNat_natCast]
theorem toK_in (po : PlanOk m p) (h : i < p.stops.length) (e : nth p.stops i = ⟨(j : Int), false⟩) : toK p ts j (i + 1) = toK p ts j i ∧ fromK p ts j (i + 1) = nth ts i := by
  have hs := stop_once po h e
  unfold toK fromK
  rw [elemB_succ h, elemB_succ h, e, stopEq_self, Bool.or_true, if_pos rfl, stopEq_ne (a := ⟨(j : Int), true⟩) (by intro e'; cases e'), Bool.or_false]
  refine ⟨rfl, ?_⟩
  unfold timeAt
  rw [hs, Int.toNat_natCast]
theorem toK_end (po : PlanOk m p) (hj : j < p.riders.length) : toK p ts j p.stops.length = timeAt p ts ⟨(j : Int), true⟩ ∧ fromK p ts j p.stops.length = beginS p ts j := by
  unfold toK fromK beginS
  rw [List.take_length, (po.rides hj).out, if_pos rfl]
  refine ⟨rfl, ?_⟩
  cases ha : (nth p.riders j).aboard with
  | true =>
    rw [if_pos (rfl : true = true)]
    have : elemB p.stops ⟨(j : Int), false⟩ = false := by
      cases he : elemB p.stops ⟨(j : Int), false⟩ with
      | false => rfl
      | true =>
        obtain ⟨c, hc, hce⟩ := nth_of_mem (elemB_iff.1 he)
        have h2 := (stopE_ok.1 (po.stops c hc)).2.2.1
        rw [hce] at h2
        rcases h2 with h2 | h2
        · cases h2
        · have : (nth p.riders j).aboard = false := h2
          rw [ha] at this; cases this
    rw [this, if_neg (by decide)]
  | false =>
    have := (po.rides hj).ins.resolve_left (by rw [ha]; decide)
    rw [this, if_pos rfl]
    exact (if_neg (by decide)).symm
theorem toK_bd (hl : ts.length = p.stops.length) (ht : TimesIn ts) : 0 ≤ toK p ts j i ∧ toK p ts j i ≤ 2000000000 := by
  unfold toK
  split
  · rename_i h
    exact timeAt_bd hl ht (elemB_iff.2 (List.mem_of_mem_take (elemB_iff.1 h)))
  · omega
end
set_option maxHeartbeats 8000000 in
theorem tooLong_c (m : Grid) (p : Plan) (po : PlanOk m p) (ok : TourOk m p) (ts : List Int) (hl : ts.length = p.stops.length) (ht : TimesIn ts) : RealCall Try.prog 34 [aMap m, aPlan p, .sl ts.length (ints ts)] (.bool (tooL m p ts)) true := by
  have kR : Keep ((∀ k, k < p.riders.length → longB m p ts k = true → tooL m p ts = true) ∧ ((∀ k, k < p.riders.length → longB m p ts k = false) → tooL m p ts = false)) := ⟨fun k h e => tooL_true h e, tooL_false⟩
  generalize tooL m p ts = R at *
  have kk := keep (And.intro po (And.intro ok ht))
  have hrl := ok.go.rl
  have hsl := ok.go.sl
  have t0 := ok.go.t0
  have t1 := ok.go.t1
  clear po ok ht
  unfold aMap aPlan cPlan
  refine realcall_intro Try.func34 (by kernel_rfl) rfl (Nat.le_of_ble_eq_true (by kernel_rfl)) ?_
  simp only [Try.results34, Try.ntmps34]
  repeat' (first | (with_reducible first | refine awp_seq ?_ | refine awp_blockS ?_ | refine awp_blockC ?_ | refine awp_blockR ?_ | refine awp_skip ?_ | refine awp_ret ?_ | refine awp_exit ?_ | refine awp_region ?_ | refine awp_regionD (id := 13) 17 mixed (by decide +kernel) ?_ | refine awp_condM ?_ | refine And.intro ?_ ?_ | apply gQ_merge | apply gE_merge | exact EqV_w | exact EqE_w | exact EqV_ptr | exact EqE_ptr | exact EqV_msl | exact EqE_msl | exact EqV_agg | exact EqE_agg | exact EqV_fn | exact EqE_fn | exact EqV_gd | exact EqE_gd | refine gM_splitN ?_ ?_ | refine gM_split ?_ ?_ |  refine condM_splitDN ?_ ?_ | refine condM_splitD ?_ ?_ | refine condM_splitN ?_ ?_ | refine condM_split ?_ ?_ | refine condM_any ?_ ?_ | intro _) | (simp [*]))
  refine awp_for3 (fun (k : Nat) => k ≤ p.riders.length ∧ Keep (∀ j, j < k → longB m p ts j = false)) [2, 3, 4] (fun (k : Nat) => [(7, .w false false (.int .i64 k))]) [0, 1] (fun (k : Nat) => []) (fun (k : Nat) => p.riders.length - k) (fun (_u : Unit) => Keep (R = false)) [] (fun (_u : Unit) => []) [0, 1] (fun (_u : Unit) => []) (0) ⟨Nat.zero_le _, fun j hj => by omega⟩ (by simp) (by simp) (fun k hk => ?_) (fun _u hf => ?_)
  · obtain ⟨hk, hJ⟩ := hk
    by_cases hlt : k < p.riders.length
    · have hlI : (k : Int) < (p.riders.length : Int) := by omega
      have hg0 := ((show _ ∧ TourOk m p ∧ TimesIn ts from kk).2.1.go.riders k hlt).g0
      have hg1 := ((show _ ∧ TourOk m p ∧ TimesIn ts from kk).2.1.go.riders k hlt).g1
      repeat' (first | (with_reducible first | refine awp_seq ?_ | refine awp_blockS ?_ | refine awp_blockC ?_ | refine awp_blockR ?_ | refine awp_skip ?_ | refine awp_ret ?_ | refine awp_exit ?_ | refine awp_region ?_ | refine awp_regionD (id := 13) 17 mixed (by decide +kernel) ?_ | refine awp_condM ?_ | refine And.intro ?_ ?_ | apply gQ_merge | apply gE_merge | exact EqV_w | exact EqE_w | exact EqV_ptr | exact EqE_ptr | exact EqV_msl | exact EqE_msl | exact EqV_agg | exact EqE_agg | exact EqV_fn | exact EqE_fn | exact EqV_gd | exact EqE_gd | refine gM_splitN ?_ ?_ | refine gM_split ?_ ?_ |  refine condM_splitDN ?_ ?_ | refine condM_splitD ?_ ?_ | refine condM_splitN ?_ ?_ | refine condM_split ?_ ?_ | refine condM_any ?_ ?_ | intro _) | (simp [*, hlt, cRider]))
      · omega
      · exact inI64 (by omega) (by omega)
      refine awp_for3 (fun (i : Nat) => i ≤ p.stops.length) [2, 3, 4, 7, 8] (fun (i : Nat) => [(11, .w false false (.int .i64 i)), (9, .w false false (.int .i64 (fromK p ts k i))), (10, .w false false (.int .i64 (toK p ts k i)))]) [0, 1, 2] (fun (i : Nat) => []) (fun (i : Nat) => p.stops.length - i) (fun (_u : Unit) => True) [2, 3, 4, 7, 8] (fun (_u : Unit) => [(9, .w false false (.int .i64 (beginS p ts k))), (10, .w false false (.int .i64 (timeAt p ts ⟨(k : Int), true⟩)))]) [0, 1, 2] (fun (_u : Unit) => []) (0) (Nat.zero_le _) (by simp) (by simp) (fun i hk => ?_) (fun _u hf => ?_)
      · have hi := ‹i ≤ p.stops.length›
        by_cases hil : i < p.stops.length
        · have hilI : (i : Int) < (p.stops.length : Int) := by omega
          have hit : i < ts.length := by omega
          by_cases e : (nth p.stops i).rider = (k : Int)
          · have e2 : (nth p.stops i).rider.toNat = k := by omega
            cases eo : (nth p.stops i).out with
            | true =>
              have e3 := toK_out (ts := ts) (show _ ∧ _ ∧ _ from kk).1 hil (show nth p.stops i = ⟨(k : Int), true⟩ from stop_is e eo)
              repeat' (first | (with_reducible first | refine awp_seq ?_ | refine awp_blockS ?_ | refine awp_blockC ?_ | refine awp_blockR ?_ | refine awp_skip ?_ | refine awp_ret ?_ | refine awp_exit ?_ | refine awp_region ?_ | refine awp_regionD (id := 13) 17 mixed (by decide +kernel) ?_ | refine awp_condM ?_ | refine And.intro ?_ ?_ | apply gQ_merge | apply gE_merge | exact EqV_w | exact EqE_w | exact EqV_ptr | exact EqE_ptr | exact EqV_msl | exact EqE_msl | exact EqV_agg | exact EqE_agg | exact EqV_fn | exact EqE_fn | exact EqV_gd | exact EqE_gd | refine gM_splitN ?_ ?_ | refine gM_split ?_ ?_ |  refine condM_splitDN ?_ ?_ | refine condM_splitD ?_ ?_ | refine condM_splitN ?_ ?_ | refine condM_split ?_ ?_ | refine condM_any ?_ ?_ | intro _) | (simp [*, hlt, hil, hit, e, eo, cRider]))
              all_goals first
                | exact inI64 (by omega) (by omega)
                | omega
                | (refine loopK_normal _ _ _ _ _ (i + 1) _ ?_ (by first | omega | (dsimp only; omega) | (simp; omega)) ?_; (· omega); (refine le_of ?_ ?_ <;> first | trivial | (simp [*, e3.1, e3.2]; done)))
                | skip
            | false =>
              have e3 := toK_in (ts := ts) (show _ ∧ _ ∧ _ from kk).1 hil (show nth p.stops i = ⟨(k : Int), false⟩ from stop_is e eo)
              repeat' (first | (with_reducible first | refine awp_seq ?_ | refine awp_blockS ?_ | refine awp_blockC ?_ | refine awp_blockR ?_ | refine awp_skip ?_ | refine awp_ret ?_ | refine awp_exit ?_ | refine awp_region ?_ | refine awp_regionD (id := 13) 17 mixed (by decide +kernel) ?_ | refine awp_condM ?_ | refine And.intro ?_ ?_ | apply gQ_merge | apply gE_merge | exact EqV_w | exact EqE_w | exact EqV_ptr | exact EqE_ptr | exact EqV_msl | exact EqE_msl | exact EqV_agg | exact EqE_agg | exact EqV_fn | exact EqE_fn | exact EqV_gd | exact EqE_gd | refine gM_splitN ?_ ?_ | refine gM_split ?_ ?_ |  refine condM_splitDN ?_ ?_ | refine condM_splitD ?_ ?_ | refine condM_splitN ?_ ?_ | refine condM_split ?_ ?_ | refine condM_any ?_ ?_ | intro _) | (simp [*, hlt, hil, hit, e, eo, cRider]))
              all_goals first
                | exact inI64 (by omega) (by omega)
                | omega
                | (refine loopK_normal _ _ _ _ _ (i + 1) _ ?_ (by first | omega | (dsimp only; omega) | (simp; omega)) ?_; (· omega); (refine le_of ?_ ?_ <;> first | trivial | (simp [*, e3.1, e3.2]; done)))
                | skip
          · have e3 := toK_other (ts := ts) hil e
            repeat' (first | (with_reducible first | refine awp_seq ?_ | refine awp_blockS ?_ | refine awp_blockC ?_ | refine awp_blockR ?_ | refine awp_skip ?_ | refine awp_ret ?_ | refine awp_exit ?_ | refine awp_region ?_ | refine awp_regionD (id := 13) 17 mixed (by decide +kernel) ?_ | refine awp_condM ?_ | refine And.intro ?_ ?_ | apply gQ_merge | apply gE_merge | exact EqV_w | exact EqE_w | exact EqV_ptr | exact EqE_ptr | exact EqV_msl | exact EqE_msl | exact EqV_agg | exact EqE_agg | exact EqV_fn | exact EqE_fn | exact EqV_gd | exact EqE_gd | refine gM_splitN ?_ ?_ | refine gM_split ?_ ?_ |  refine condM_splitDN ?_ ?_ | refine condM_splitD ?_ ?_ | refine condM_splitN ?_ ?_ | refine condM_split ?_ ?_ | refine condM_any ?_ ?_ | intro _) | (simp [*, hlt, hil, e, cRider]))
            all_goals first
              | exact inI64 (by omega) (by omega)
              | omega
              | (refine loopK_normal _ _ _ _ _ (i + 1) _ ?_ (by first | omega | (dsimp only; omega) | (simp; omega)) ?_; (· omega); (refine le_of ?_ ?_ <;> first | trivial | (simp [*, e3.1, e3.2]; done)))
              | skip
        · have hie : i = p.stops.length := by omega
          subst hie
          have e3 := toK_end (ts := ts) (show _ ∧ _ ∧ _ from kk).1 hlt
          repeat' (first | (with_reducible first | refine awp_seq ?_ | refine awp_blockS ?_ | refine awp_blockC ?_ | refine awp_blockR ?_ | refine awp_skip ?_ | refine awp_ret ?_ | refine awp_exit ?_ | refine awp_region ?_ | refine awp_regionD (id := 13) 17 mixed (by decide +kernel) ?_ | refine awp_condM ?_ | refine And.intro ?_ ?_ | apply gQ_merge | apply gE_merge | exact EqV_w | exact EqE_w | exact EqV_ptr | exact EqE_ptr | exact EqV_msl | exact EqE_msl | exact EqV_agg | exact EqE_agg | exact EqV_fn | exact EqE_fn | exact EqV_gd | exact EqE_gd | refine gM_splitN ?_ ?_ | refine gM_split ?_ ?_ |  refine condM_splitDN ?_ ?_ | refine condM_splitD ?_ ?_ | refine condM_splitN ?_ ?_ | refine condM_split ?_ ?_ | refine condM_any ?_ ?_ | intro _) | (simp [*, hlt, cRider]))
          all_goals (refine finW_intro () ?_ ?_; (· trivial); (refine le_of ?_ ?_ <;> first | trivial | (simp [*, e3.1, e3.2]; done)))
      · have hkk := (show _ ∧ TourOk m p ∧ TimesIn ts from kk)
        have hr := hkk.2.1.go.riders k hlt
        have bO := timeAt_bd hl hkk.2.2 (hkk.1.rides hlt).out
        have bI : -20000 ≤ beginS p ts k ∧ beginS p ts k ≤ 2000000000 := by
          unfold beginS
          split
          · have := hr.g0
            have := hr.g1
            omega
          · rename_i hna
            have := timeAt_bd hl hkk.2.2 ((hkk.1.rides hlt).ins.resolve_left hna)
            omega
        have d0 := hr.d0
        have d1 := hr.d1
        obtain ⟨a, ha⟩ := Int.eq_ofNat_of_zero_le hr.f0
        obtain ⟨b, hb⟩ := Int.eq_ofNat_of_zero_le hr.t0
        have hal : a < m.length := by have := hr.f1; omega
        have hbl : b < m.length := by have := hr.t1; omega
        have hrow := hkk.2.1.go.sq a hal
        have hcell := hkk.2.1.go.cell a b hal hbl
        have hcm : (rideS m p ts k) = (timeAt p ts ⟨(k : Int), true⟩ - beginS p ts k, nth (nth m a) b + (nth p.riders k).detour) := by
          unfold rideS; rw [ha, hb]; rfl
        have hL : longB m p ts k = decide (nth (nth m a) b + (nth p.riders k).detour < timeAt p ts ⟨(k : Int), true⟩ - beginS p ts k) := by unfold longB; rw [hcm]
        clear hcm hr hkk
        generalize timeAt p ts ⟨(k : Int), true⟩ = tO at *
        generalize beginS p ts k = tI at *
        by_cases hlong : nth (nth m a) b + (nth p.riders k).detour < tO - tI
        · have hR := (show _ ∧ _ from kR).1 k hlt (by rw [hL]; exact decide_eq_true hlong)
          clear kR hJ hL
          subst hR
          repeat' (first | (with_reducible first | refine awp_seq ?_ | refine awp_blockS ?_ | refine awp_blockC ?_ | refine awp_blockR ?_ | refine awp_skip ?_ | refine awp_ret ?_ | refine awp_exit ?_ | refine awp_region ?_ | refine awp_regionD (id := 13) 17 mixed (by decide +kernel) ?_ | refine awp_condM ?_ | refine And.intro ?_ ?_ | apply gQ_merge | apply gE_merge | exact EqV_w | exact EqE_w | exact EqV_ptr | exact EqE_ptr | exact EqV_msl | exact EqE_msl | exact EqV_agg | exact EqE_agg | exact EqV_fn | exact EqE_fn | exact EqV_gd | exact EqE_gd | refine gM_splitN ?_ ?_ | refine gM_split ?_ ?_ |  refine condM_splitDN ?_ ?_ | refine condM_splitD ?_ ?_ | refine condM_splitN ?_ ?_ | refine condM_split ?_ ?_ | refine condM_any ?_ ?_ | intro _) | (simp [*, hlt, hlong, cRider]))
          all_goals first
            | exact inI64 (by omega) (by omega)
            | omega
            | skip
        · have hJ2 : Keep (∀ j, j < k + 1 → longB m p ts j = false) := fun j hj => by
            rcases Nat.lt_or_ge j k with h | h
            · exact hJ j h
            · have : j = k := by omega
              subst this
              rw [hL]; exact decide_eq_false hlong
          clear kR hJ hL
          repeat' (first | (with_reducible first | refine awp_seq ?_ | refine awp_blockS ?_ | refine awp_blockC ?_ | refine awp_blockR ?_ | refine awp_skip ?_ | refine awp_ret ?_ | refine awp_exit ?_ | refine awp_region ?_ | refine awp_regionD (id := 13) 17 mixed (by decide +kernel) ?_ | refine awp_condM ?_ | refine And.intro ?_ ?_ | apply gQ_merge | apply gE_merge | exact EqV_w | exact EqE_w | exact EqV_ptr | exact EqE_ptr | exact EqV_msl | exact EqE_msl | exact EqV_agg | exact EqE_agg | exact EqV_fn | exact EqE_fn | exact EqV_gd | exact EqE_gd | refine gM_splitN ?_ ?_ | refine gM_split ?_ ?_ |  refine condM_splitDN ?_ ?_ | refine condM_splitD ?_ ?_ | refine condM_splitN ?_ ?_ | refine condM_split ?_ ?_ | refine condM_any ?_ ?_ | intro _) | (simp [*, hlt, hlong, cRider]))
          all_goals first
            | exact inI64 (by omega) (by omega)
            | omega
            | (refine loopK_normal _ _ _ _ _ (k + 1) _ ?_ (by first | omega | (dsimp only; omega) | (simp; omega)) ?_; (· exact ⟨by omega, hJ2⟩); (refine le_of ?_ ?_ <;> first | trivial | (simp [*]; done)))
            | skip
    · have hke : k = p.riders.length := by omega
      subst hke
      have hR := keep ((show _ ∧ _ from kR).2 (fun j hj => hJ j hj))
      clear kR hJ
      repeat' (first | (with_reducible first | refine awp_seq ?_ | refine awp_blockS ?_ | refine awp_blockC ?_ | refine awp_blockR ?_ | refine awp_skip ?_ | refine awp_ret ?_ | refine awp_exit ?_ | refine awp_region ?_ | refine awp_regionD (id := 13) 17 mixed (by decide +kernel) ?_ | refine awp_condM ?_ | refine And.intro ?_ ?_ | apply gQ_merge | apply gE_merge | exact EqV_w | exact EqE_w | exact EqV_ptr | exact EqE_ptr | exact EqV_msl | exact EqE_msl | exact EqV_agg | exact EqE_agg | exact EqV_fn | exact EqE_fn | exact EqV_gd | exact EqE_gd | refine gM_splitN ?_ ?_ | refine gM_split ?_ ?_ |  refine condM_splitDN ?_ ?_ | refine condM_splitD ?_ ?_ | refine condM_splitN ?_ ?_ | refine condM_split ?_ ?_ | refine condM_any ?_ ?_ | intro _) | (simp [*]))
      all_goals (refine finW_intro () ?_ ?_; (· first | exact hR | trivial); (refine le_of ?_ ?_ <;> first | trivial | (simp [*]; done)))
  · have hf : R = false := ‹Keep (R = false)›
    subst hf
    repeat' (first | (with_reducible first | refine awp_seq ?_ | refine awp_blockS ?_ | refine awp_blockC ?_ | refine awp_blockR ?_ | refine awp_skip ?_ | refine awp_ret ?_ | refine awp_exit ?_ | refine awp_region ?_ | refine awp_regionD (id := 13) 17 mixed (by decide +kernel) ?_ | refine awp_condM ?_ | refine And.intro ?_ ?_ | apply gQ_merge | apply gE_merge | exact EqV_w | exact EqE_w | exact EqV_ptr | exact EqE_ptr | exact EqV_msl | exact EqE_msl | exact EqV_agg | exact EqE_agg | exact EqV_fn | exact EqE_fn | exact EqV_gd | exact EqE_gd | refine gM_splitN ?_ ?_ | refine gM_split ?_ ?_ |  refine condM_splitDN ?_ ?_ | refine condM_splitD ?_ ?_ | refine condM_splitN ?_ ?_ | refine condM_split ?_ ?_ | refine condM_any ?_ ?_ | intro _) | (simp [*]))
end Go.Proofs.Ytceimmohnniebaa
