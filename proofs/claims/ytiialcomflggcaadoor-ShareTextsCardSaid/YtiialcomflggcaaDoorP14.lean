/- Contracts of functions for this claim: lemmas alone. -/
import Derived.Test.YtiialcomflggcaaDoorP12
set_option linter.unusedSimpArgs false
set_option linter.unusedVariables false
namespace Go.Proofs.YtiialcomflggcaaDoor
open Go Go.Fi
set_option maxRecDepth 20000

@[simp] theorem flat_tup (l : List PV) : flat (.tup l) = false := rfl
/-! ### a tour, and what is asked of it -/
def noDelay : Delay := ⟨0, 0⟩
theorem noDelay_bd : 0 ≤ noDelay.by_ ∧ noDelay.by_ ≤ 30000 := ⟨by decide, by decide⟩
theorem plain_c (m : Grid) (p : Plan) (ok : DriveOk m p) : RealCall Tryd.prog 62 [aMap m, aPlan p] (aTour m p noDelay) false := by
  have c1 := drive_c m p ok noDelay noDelay_bd
  generalize aTour m p noDelay = T at *
  unfold aMap aPlan cPlan noDelay at *
  refine realcall_intro Tryd.func62 (by kernel_rfl) rfl (Nat.le_of_ble_eq_true (by kernel_rfl)) ?_
  simp only [Tryd.results62, Tryd.ntmps62]
  repeat' (first | (with_reducible first | refine awp_seq ?_ | refine awp_blockS ?_ | refine awp_blockC ?_ | refine awp_blockR ?_ | refine awp_skip ?_ | refine awp_ret ?_ | refine awp_exit ?_ | refine awp_region ?_ | refine awp_condM ?_ | refine And.intro ?_ ?_ | apply gQ_merge | apply gE_merge | exact EqV_w | exact EqE_w | exact EqV_ptr | exact EqE_ptr | exact EqV_msl | exact EqE_msl | exact EqV_agg | exact EqE_agg | exact EqV_fn | exact EqE_fn | exact EqV_gd | exact EqE_gd | refine gM_splitN ?_ ?_ | refine gM_split ?_ ?_ |  refine condM_splitDN ?_ ?_ | refine condM_splitD ?_ ?_ | refine condM_splitN ?_ ?_ | refine condM_split ?_ ?_ | refine condM_any ?_ ?_ | refine cw (c1) ?_ | intro _) | (simp [*]) | (refine cw_eq (c1) ?_ ?_; (· (simp [*]; done))))
theorem open_ok (m : Grid) (hm : GridIn m) (p : Plan) (hp : PlanIn p) (h : (checkS m p).2 = 0) : RealCall Tryd.prog 58 [aMap m, aPlan p] (.tup [aTour m p noDelay, .int .i64 0]) false := by
  have ok := (checkS_ok.1 h).2.tour (checkS_ok.1 h).1 hp.stops
  have c0 := checkPlan_c m hm p hp
  have c1 := plain_c m p ok.go
  rw [checkS_zero (checkS_ok.1 h).1 (checkS_ok.1 h).2] at c0
  clear ok h
  generalize aTour m p noDelay = T at *
  unfold aMap aPlan cPlan pairI at *
  refine realcall_intro Tryd.func58 (by kernel_rfl) rfl (Nat.le_of_ble_eq_true (by kernel_rfl)) ?_
  simp only [Tryd.results58, Tryd.ntmps58]
  repeat' (first | (with_reducible first | refine awp_seq ?_ | refine awp_blockS ?_ | refine awp_blockC ?_ | refine awp_blockR ?_ | refine awp_skip ?_ | refine awp_ret ?_ | refine awp_exit ?_ | refine awp_region ?_ | refine awp_condM ?_ | refine And.intro ?_ ?_ | apply gQ_merge | apply gE_merge | exact EqV_w | exact EqE_w | exact EqV_ptr | exact EqE_ptr | exact EqV_msl | exact EqE_msl | exact EqV_agg | exact EqE_agg | exact EqV_fn | exact EqE_fn | exact EqV_gd | exact EqE_gd | refine gM_splitN ?_ ?_ | refine gM_split ?_ ?_ |  refine condM_splitDN ?_ ?_ | refine condM_splitD ?_ ?_ | refine condM_splitN ?_ ?_ | refine condM_split ?_ ?_ | refine condM_any ?_ ?_ | refine cw (c0) ?_ | refine cw (c1) ?_ | intro _) | (simp [*]) | (refine cw_eq (c0) ?_ ?_; (· (simp [*]; done))) | (refine cw_eq (c1) ?_ ?_; (· (simp [*]; done))))
theorem open_bad (m : Grid) (hm : GridIn m) (p : Plan) (hp : PlanIn p) (h : (checkS m p).2 ≠ 0) : RealCall Tryd.prog 58 [aMap m, aPlan p] (.tup [.nilp, .int .i64 (checkS m p).2]) true := by
  have c0 := checkPlan_c m hm p hp
  generalize checkS m p = E at *
  obtain ⟨e1, e2⟩ := E
  unfold aMap aPlan cPlan pairI at *
  have h : ¬ e2 = 0 := h
  refine realcall_intro Tryd.func58 (by kernel_rfl) rfl (Nat.le_of_ble_eq_true (by kernel_rfl)) ?_
  simp only [Tryd.results58, Tryd.ntmps58]
  repeat' (first | (with_reducible first | refine awp_seq ?_ | refine awp_blockS ?_ | refine awp_blockC ?_ | refine awp_blockR ?_ | refine awp_skip ?_ | refine awp_ret ?_ | refine awp_exit ?_ | refine awp_region ?_ | refine awp_condM ?_ | refine And.intro ?_ ?_ | apply gQ_merge | apply gE_merge | exact EqV_w | exact EqE_w | exact EqV_ptr | exact EqE_ptr | exact EqV_msl | exact EqE_msl | exact EqV_agg | exact EqE_agg | exact EqV_fn | exact EqE_fn | exact EqV_gd | exact EqE_gd | refine gM_splitN ?_ ?_ | refine gM_split ?_ ?_ |  refine condM_splitDN ?_ ?_ | refine condM_splitD ?_ ?_ | refine condM_splitN ?_ ?_ | refine condM_split ?_ ?_ | refine condM_any ?_ ?_ | refine cw (c0) ?_ | intro _) | (simp [*, h]) | (refine cw_eq (c0) ?_ ?_; (· (simp [*]; done))))
theorem of71_ok (m : Grid) (hm : GridIn m) (p : Plan) (hp : PlanIn p) (h : (checkS m p).2 = 0) (g : FuncId) (caps : List PV) (v : PV) (e : Int) (fr : Bool) (hf : RealCall Tryd.prog g (aTour m p noDelay :: caps) (.tup [v, .int .i64 e]) fr) : RealCall Tryd.prog 36 [aMap m, aPlan p, .fn g caps] (.tup [v, .int .i64 e]) fr := by
  have c0 := open_ok m hm p hp h
  generalize aTour m p noDelay = T at *
  clear h
  unfold aMap aPlan cPlan at *
  refine realcall_intro Tryd.func36 (by kernel_rfl) rfl (Nat.le_of_ble_eq_true (by kernel_rfl)) ?_
  simp only [Tryd.results36, Tryd.ntmps36]
  repeat' (first | (with_reducible first | refine awp_seq ?_ | refine awp_blockS ?_ | refine awp_blockC ?_ | refine awp_blockR ?_ | refine awp_skip ?_ | refine awp_ret ?_ | refine awp_exit ?_ | refine awp_region ?_ | refine awp_condM ?_ | refine And.intro ?_ ?_ | apply gQ_merge | apply gE_merge | exact EqV_w | exact EqE_w | exact EqV_ptr | exact EqE_ptr | exact EqV_msl | exact EqE_msl | exact EqV_agg | exact EqE_agg | exact EqV_fn | exact EqE_fn | exact EqV_gd | exact EqE_gd | refine gM_splitN ?_ ?_ | refine gM_split ?_ ?_ |  refine condM_splitDN ?_ ?_ | refine condM_splitD ?_ ?_ | refine condM_splitN ?_ ?_ | refine condM_split ?_ ?_ | refine condM_any ?_ ?_ | refine cw (c0) ?_ | refine cw (hf) ?_ | intro _) | (simp [*]) | (refine cw_eq (c0) ?_ ?_; (· (simp [*]; done))) | (refine cw_eq (hf) ?_ ?_; (· (simp [*]; done))))
theorem of74_ok (m : Grid) (hm : GridIn m) (p : Plan) (hp : PlanIn p) (h : (checkS m p).2 = 0) (g : FuncId) (caps : List PV) (v : Int) (e : Int) (fr : Bool) (hf : RealCall Tryd.prog g (aTour m p noDelay :: caps) (.tup [.int .i64 v, .int .i64 e]) fr) : RealCall Tryd.prog 43 [aMap m, aPlan p, .fn g caps] (.tup [.int .i64 v, .int .i64 e]) true := by
  have c0 := open_ok m hm p hp h
  generalize aTour m p noDelay = T at *
  clear h
  unfold aMap aPlan cPlan at *
  refine realcall_intro Tryd.func43 (by kernel_rfl) rfl (Nat.le_of_ble_eq_true (by kernel_rfl)) ?_
  simp only [Tryd.results43, Tryd.ntmps43]
  repeat' (first | (with_reducible first | refine awp_seq ?_ | refine awp_blockS ?_ | refine awp_blockC ?_ | refine awp_blockR ?_ | refine awp_skip ?_ | refine awp_ret ?_ | refine awp_exit ?_ | refine awp_region ?_ | refine awp_condM ?_ | refine And.intro ?_ ?_ | apply gQ_merge | apply gE_merge | exact EqV_w | exact EqE_w | exact EqV_ptr | exact EqE_ptr | exact EqV_msl | exact EqE_msl | exact EqV_agg | exact EqE_agg | exact EqV_fn | exact EqE_fn | exact EqV_gd | exact EqE_gd | refine gM_splitN ?_ ?_ | refine gM_split ?_ ?_ |  refine condM_splitDN ?_ ?_ | refine condM_splitD ?_ ?_ | refine condM_splitN ?_ ?_ | refine condM_split ?_ ?_ | refine condM_any ?_ ?_ | refine cw (c0) ?_ | refine cw (hf) ?_ | intro _) | (simp [*]) | (refine cw_eq (c0) ?_ ?_; (· (simp [*]; done))) | (refine cw_eq (hf) ?_ ?_; (· (simp [*]; done))))
theorem of99_bad (m : Grid) (hm : GridIn m) (p : Plan) (hp : PlanIn p) (h : (checkS m p).2 ≠ 0) (g : FuncId) (caps : List PV) : RealCall Tryd.prog 38 [aMap m, aPlan p, .fn g caps] (.tup [.sl 0 [], .int .i64 (checkS m p).2]) true := by
  have c0 := open_bad m hm p hp h
  generalize checkS m p = E at *
  obtain ⟨e1, e2⟩ := E
  unfold aMap aPlan cPlan at *
  have h : ¬ e2 = 0 := h
  refine realcall_intro Tryd.func38 (by kernel_rfl) rfl (Nat.le_of_ble_eq_true (by kernel_rfl)) ?_
  simp only [Tryd.results38, Tryd.ntmps38]
  repeat' (first | (with_reducible first | refine awp_seq ?_ | refine awp_blockS ?_ | refine awp_blockC ?_ | refine awp_blockR ?_ | refine awp_skip ?_ | refine awp_ret ?_ | refine awp_exit ?_ | refine awp_region ?_ | refine awp_condM ?_ | refine And.intro ?_ ?_ | apply gQ_merge | apply gE_merge | exact EqV_w | exact EqE_w | exact EqV_ptr | exact EqE_ptr | exact EqV_msl | exact EqE_msl | exact EqV_agg | exact EqE_agg | exact EqV_fn | exact EqE_fn | exact EqV_gd | exact EqE_gd | refine gM_splitN ?_ ?_ | refine gM_split ?_ ?_ |  refine condM_splitDN ?_ ?_ | refine condM_splitD ?_ ?_ | refine condM_splitN ?_ ?_ | refine condM_split ?_ ?_ | refine condM_any ?_ ?_ | refine cw (c0) ?_ | intro _) | (simp [*, h]) | (refine cw_eq (c0) ?_ ?_; (· (simp [*]; done))))
theorem of99_ok (m : Grid) (hm : GridIn m) (p : Plan) (hp : PlanIn p) (h : (checkS m p).2 = 0) (g : FuncId) (caps : List PV) (v : PV) (e : Int) (fr : Bool) (hf : RealCall Tryd.prog g (aTour m p noDelay :: caps) (.tup [v, .int .i64 e]) fr) : RealCall Tryd.prog 38 [aMap m, aPlan p, .fn g caps] (.tup [v, .int .i64 e]) fr := by
  have c0 := open_ok m hm p hp h
  generalize aTour m p noDelay = T at *
  clear h
  unfold aMap aPlan cPlan at *
  refine realcall_intro Tryd.func38 (by kernel_rfl) rfl (Nat.le_of_ble_eq_true (by kernel_rfl)) ?_
  simp only [Tryd.results38, Tryd.ntmps38]
  repeat' (first | (with_reducible first | refine awp_seq ?_ | refine awp_blockS ?_ | refine awp_blockC ?_ | refine awp_blockR ?_ | refine awp_skip ?_ | refine awp_ret ?_ | refine awp_exit ?_ | refine awp_region ?_ | refine awp_condM ?_ | refine And.intro ?_ ?_ | apply gQ_merge | apply gE_merge | exact EqV_w | exact EqE_w | exact EqV_ptr | exact EqE_ptr | exact EqV_msl | exact EqE_msl | exact EqV_agg | exact EqE_agg | exact EqV_fn | exact EqE_fn | exact EqV_gd | exact EqE_gd | refine gM_splitN ?_ ?_ | refine gM_split ?_ ?_ |  refine condM_splitDN ?_ ?_ | refine condM_splitD ?_ ?_ | refine condM_splitN ?_ ?_ | refine condM_split ?_ ?_ | refine condM_any ?_ ?_ | refine cw (c0) ?_ | refine cw (hf) ?_ | intro _) | (simp [*]) | (refine cw_eq (c0) ?_ ?_; (· (simp [*]; done))) | (refine cw_eq (hf) ?_ ?_; (· (simp [*]; done))))
end Go.Proofs.YtiialcomflggcaaDoor
namespace Go.Proofs.YtiialcomflggcaaDoor
open Go Go.Fi
set_option maxRecDepth 20000

theorem idxF_lt {α : Type} (p : α → Bool) : ∀ (l : List α) (i : Nat), l.any p = true → (i : Int) ≤ idxF p l i ∧ idxF p l i < (i : Int) + l.length
  | [], i, h => by simp at h
  | x :: r, i, h => by
    unfold idxF
    by_cases hx : p x = true
    · rw [if_pos hx]; simp only [List.length_cons]; omega
    · rw [if_neg hx]
      have := idxF_lt p r (i + 1) (by simpa [hx] using h)
      simp only [List.length_cons]; omega
theorem stopAt_bd {l : List Stop} {s : Stop} (h : elemB l s = true) : ∃ i : Nat, stopAt l s = (i : Int) ∧ i < l.length := by
  have := idxF_lt (stopEq s) l 0 h
  unfold stopAt idxOf
  exact ⟨(idxF (stopEq s) l 0).toNat, by omega, by omega⟩
def timeAt (p : Plan) (ts : List Int) (s : Stop) : Int := nth ts (stopAt p.stops s).toNat
def TimesIn (ts : List Int) : Prop := ∀ i, i < ts.length → 0 ≤ nth ts i ∧ nth ts i ≤ 2000000000
theorem time_c (m : Grid) (p : Plan) (ts ss : List Int) (hl : ts.length = p.stops.length) (hs : p.stops.length < 10000) (s : Stop) (he : elemB p.stops s = true) :
    RealCall Tryd.prog 88 [.ip (cTour m p ts ss) 0, .agg [.int .i64 s.rider, .bool s.out]] (.int .i64 (timeAt p ts s)) true := by
  have c1 := index_c p.stops (by omega) s
  obtain ⟨i, hi, hil⟩ := stopAt_bd he
  rw [hi] at c1
  have hil2 : i < ts.length := by omega
  unfold timeAt
  rw [hi, Int.toNat_natCast]
  clear he hi
  unfold cTour
  refine realcall_intro Tryd.func88 (by kernel_rfl) rfl (Nat.le_of_ble_eq_true (by kernel_rfl)) ?_
  simp only [Tryd.results88, Tryd.ntmps88]
  repeat' (first | (with_reducible first | refine awp_seq ?_ | refine awp_blockS ?_ | refine awp_blockC ?_ | refine awp_blockR ?_ | refine awp_skip ?_ | refine awp_ret ?_ | refine awp_exit ?_ | refine awp_region ?_ | refine awp_regionD (id := 1) 14 mixed (by decide +kernel) ?_ | refine awp_condM ?_ | refine And.intro ?_ ?_ | apply gQ_merge | apply gE_merge | exact EqV_w | exact EqE_w | exact EqV_ptr | exact EqE_ptr | exact EqV_msl | exact EqE_msl | exact EqV_agg | exact EqE_agg | exact EqV_fn | exact EqE_fn | exact EqV_gd | exact EqE_gd | refine gM_splitN ?_ ?_ | refine gM_split ?_ ?_ |  refine condM_splitDN ?_ ?_ | refine condM_splitD ?_ ?_ | refine condM_splitN ?_ ?_ | refine condM_split ?_ ?_ | refine condM_any ?_ ?_ | refine cw (c1) ?_ | intro _) | (simp [*]) | (refine cw_eq (c1) ?_ ?_; (· (simp [*]; done))))
/-- the ride of a rider, and its limit -/
def beginS (p : Plan) (ts : List Int) (j : Nat) : Int := if (nth p.riders j).aboard = true then p.car.time - (nth p.riders j).ridden else timeAt p ts ⟨(j : Int), false⟩
def rideS (m : Grid) (p : Plan) (ts : List Int) (j : Nat) : Int × Int := (timeAt p ts ⟨(j : Int), true⟩ - beginS p ts j, cellM m (nth p.riders j).frm (nth p.riders j).to + (nth p.riders j).detour)
/-- one who has both stops -/
structure Rides (p : Plan) (j : Nat) : Prop where
  lt : j < p.riders.length
  out : elemB p.stops ⟨(j : Int), true⟩ = true
  ins : (nth p.riders j).aboard = true ∨ elemB p.stops ⟨(j : Int), false⟩ = true
theorem timeAt_bd {p : Plan} {ts : List Int} {s : Stop} (hl : ts.length = p.stops.length) (ht : TimesIn ts) (he : elemB p.stops s = true) : 0 ≤ timeAt p ts s ∧ timeAt p ts s ≤ 2000000000 := by
  obtain ⟨i, hi, hil⟩ := stopAt_bd he
  unfold timeAt
  rw [hi]
  exact ht _ (by omega)
set_option maxHeartbeats 4000000 in
theorem ride_c (m : Grid) (p : Plan) (ok : DriveOk m p) (ts ss : List Int) (hl : ts.length = p.stops.length) (ht : TimesIn ts) (j : Nat) (h : Rides p j) :
    RealCall Tryd.prog 77 [.ip (cTour m p ts ss) 0, .int .i64 j] (.agg [.int .i64 (rideS m p ts j).1, .int .i64 (rideS m p ts j).2]) true := by
  have cO := time_c m p ts ss hl ok.sl ⟨(j : Int), true⟩ h.out
  have bO := timeAt_bd hl ht h.out
  have hr := ok.riders j h.lt
  have hlt := h.lt
  have t0 := ok.t0
  have t1 := ok.t1
  have g0 := hr.g0
  have g1 := hr.g1
  have d0 := hr.d0
  have d1 := hr.d1
  obtain ⟨a, ha⟩ := Int.eq_ofNat_of_zero_le hr.f0
  obtain ⟨b, hb⟩ := Int.eq_ofNat_of_zero_le hr.t0
  have hal : a < m.length := by have := hr.f1; omega
  have hbl : b < m.length := by have := hr.t1; omega
  have hrow := ok.sq a hal
  have hcell := ok.cell a b hal hbl
  unfold rideS beginS
  rw [ha, hb]
  have hcm : cellM m (a : Int) (b : Int) = nth (nth m a) b := rfl
  rw [hcm]
  rcases h.ins with hab | hin
  · rw [if_pos hab]
    clear hr ok h ht hcm
    generalize timeAt p ts ⟨(j : Int), true⟩ = tO at *
    unfold cTour at *
    refine realcall_intro Tryd.func77 (by kernel_rfl) rfl (Nat.le_of_ble_eq_true (by kernel_rfl)) ?_
    simp only [Tryd.results77, Tryd.ntmps77]
    repeat' (first | (with_reducible first | refine awp_seq ?_ | refine awp_blockS ?_ | refine awp_blockC ?_ | refine awp_blockR ?_ | refine awp_skip ?_ | refine awp_ret ?_ | refine awp_exit ?_ | refine awp_region ?_ | refine awp_regionD (id := 2) 10 mixed (by decide +kernel) ?_ | refine awp_regionD (id := 5) 23 mixed (by decide +kernel) ?_ | refine awp_condM ?_ | refine And.intro ?_ ?_ | apply gQ_merge | apply gE_merge | exact EqV_w | exact EqE_w | exact EqV_ptr | exact EqE_ptr | exact EqV_msl | exact EqE_msl | exact EqV_agg | exact EqE_agg | exact EqV_fn | exact EqE_fn | exact EqV_gd | exact EqE_gd | refine gM_splitN ?_ ?_ | refine gM_split ?_ ?_ |  refine condM_splitDN ?_ ?_ | refine condM_splitD ?_ ?_ | refine condM_splitN ?_ ?_ | refine condM_split ?_ ?_ | refine condM_any ?_ ?_ | refine cw (cO) ?_ | intro _) | (simp [*, hlt, cRider]) | (refine cw_eq (cO) ?_ ?_; (· (simp [*]; done))))
    all_goals first
      | exact inI64 (by omega) (by omega)
      | omega
      | skip
  · by_cases hab : (nth p.riders j).aboard = true
    · rw [if_pos hab]
      clear hr ok h ht hcm hin
      generalize timeAt p ts ⟨(j : Int), true⟩ = tO at *
      unfold cTour at *
      refine realcall_intro Tryd.func77 (by kernel_rfl) rfl (Nat.le_of_ble_eq_true (by kernel_rfl)) ?_
      simp only [Tryd.results77, Tryd.ntmps77]
      repeat' (first | (with_reducible first | refine awp_seq ?_ | refine awp_blockS ?_ | refine awp_blockC ?_ | refine awp_blockR ?_ | refine awp_skip ?_ | refine awp_ret ?_ | refine awp_exit ?_ | refine awp_region ?_ | refine awp_regionD (id := 2) 10 mixed (by decide +kernel) ?_ | refine awp_regionD (id := 5) 23 mixed (by decide +kernel) ?_ | refine awp_condM ?_ | refine And.intro ?_ ?_ | apply gQ_merge | apply gE_merge | exact EqV_w | exact EqE_w | exact EqV_ptr | exact EqE_ptr | exact EqV_msl | exact EqE_msl | exact EqV_agg | exact EqE_agg | exact EqV_fn | exact EqE_fn | exact EqV_gd | exact EqE_gd | refine gM_splitN ?_ ?_ | refine gM_split ?_ ?_ |  refine condM_splitDN ?_ ?_ | refine condM_splitD ?_ ?_ | refine condM_splitN ?_ ?_ | refine condM_split ?_ ?_ | refine condM_any ?_ ?_ | refine cw (cO) ?_ | intro _) | (simp [*, hlt, cRider]) | (refine cw_eq (cO) ?_ ?_; (· (simp [*]; done))))
      all_goals first
        | exact inI64 (by omega) (by omega)
        | omega
        | skip
    · rw [if_neg hab]
      have cI := time_c m p ts ss hl ok.sl ⟨(j : Int), false⟩ hin
      have bI := timeAt_bd hl ht hin
      have hab : (nth p.riders j).aboard = false := by simpa using hab
      clear hr ok h ht hcm hin
      generalize timeAt p ts ⟨(j : Int), true⟩ = tO at *
      generalize timeAt p ts ⟨(j : Int), false⟩ = tI at *
      unfold cTour at *
      refine realcall_intro Tryd.func77 (by kernel_rfl) rfl (Nat.le_of_ble_eq_true (by kernel_rfl)) ?_
      simp only [Tryd.results77, Tryd.ntmps77]
      repeat' (first | (with_reducible first | refine awp_seq ?_ | refine awp_blockS ?_ | refine awp_blockC ?_ | refine awp_blockR ?_ | refine awp_skip ?_ | refine awp_ret ?_ | refine awp_exit ?_ | refine awp_region ?_ | refine awp_regionD (id := 2) 10 mixed (by decide +kernel) ?_ | refine awp_regionD (id := 5) 23 mixed (by decide +kernel) ?_ | refine awp_condM ?_ | refine And.intro ?_ ?_ | apply gQ_merge | apply gE_merge | exact EqV_w | exact EqE_w | exact EqV_ptr | exact EqE_ptr | exact EqV_msl | exact EqE_msl | exact EqV_agg | exact EqE_agg | exact EqV_fn | exact EqE_fn | exact EqV_gd | exact EqE_gd | refine gM_splitN ?_ ?_ | refine gM_split ?_ ?_ |  refine condM_splitDN ?_ ?_ | refine condM_splitD ?_ ?_ | refine condM_splitN ?_ ?_ | refine condM_split ?_ ?_ | refine condM_any ?_ ?_ | refine cw (cO) ?_ | refine cw (cI) ?_ | intro _) | (simp [*, hlt, cRider]) | (refine cw_eq (cO) ?_ ?_; (· (simp [*]; done))) | (refine cw_eq (cI) ?_ ?_; (· (simp [*]; done))))
      all_goals first
        | exact inI64 (by omega) (by omega)
        | omega
        | skip
end Go.Proofs.YtiialcomflggcaaDoor

