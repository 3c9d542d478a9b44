/- Contracts of functions for this claim: lemmas alone. -/
import Derived.Test.YtiialcomflggcaaDoorP31
set_option linter.unusedSimpArgs false
set_option linter.unusedVariables false
namespace Go.Proofs.YtiialcomflggcaaDoor
open Go Go.Fi
set_option maxRecDepth 20000

/-! ### the examples -/
def exMap : Grid := [[0, 100, 150], [100, 0, 100], [150, 100, 0]]
def exBob : Rider := ⟨⟨#[98, 111, 98]⟩, 1, 2, 1, 0, 0, false, 0⟩
def exAnn : Rider := ⟨⟨#[97, 110, 110]⟩, 0, 2, 1, 60, 0, false, 0⟩
def exRide : Plan := ⟨⟨0, 0, 2⟩, [exAnn, exBob], [⟨0, false⟩, ⟨1, false⟩, ⟨1, true⟩, ⟨0, true⟩]⟩
def exAlone : Plan := ⟨⟨0, 0, 2⟩, [exAnn], [⟨0, false⟩, ⟨0, true⟩]⟩
theorem town_c : RealCall Tryd.prog 14 [] (aMap exMap) true := by
  unfold aMap exMap
  refine realcall_intro Tryd.func14 (by kernel_rfl) rfl (Nat.le_of_ble_eq_true (by kernel_rfl)) ?_
  simp only [Tryd.results14, Tryd.ntmps14]
  repeat' (first | (with_reducible first | refine awp_seq ?_ | refine awp_blockS ?_ | refine awp_blockC ?_ | refine awp_blockR ?_ | refine awp_skip ?_ | refine awp_ret ?_ | refine awp_exit ?_ | refine awp_region ?_ | refine awp_condM ?_ | refine And.intro ?_ ?_ | apply gQ_merge | apply gE_merge | exact EqV_w | exact EqE_w | exact EqV_ptr | exact EqE_ptr | exact EqV_msl | exact EqE_msl | exact EqV_agg | exact EqE_agg | exact EqV_fn | exact EqE_fn | exact EqV_gd | exact EqE_gd | refine gM_splitN ?_ ?_ | refine gM_split ?_ ?_ |  refine condM_splitDN ?_ ?_ | refine condM_splitD ?_ ?_ | refine condM_splitN ?_ ?_ | refine condM_split ?_ ?_ | refine condM_any ?_ ?_ | intro _) | (simp [*, cRows, cRow, ints]))
theorem bob_c : RealCall Tryd.prog 18 [] (.agg (cRider exBob)) true := by
  unfold exBob cRider
  refine realcall_intro Tryd.func18 (by kernel_rfl) rfl (Nat.le_of_ble_eq_true (by kernel_rfl)) ?_
  simp only [Tryd.results18, Tryd.ntmps18]
  repeat' (first | (with_reducible first | refine awp_seq ?_ | refine awp_blockS ?_ | refine awp_blockC ?_ | refine awp_blockR ?_ | refine awp_skip ?_ | refine awp_ret ?_ | refine awp_exit ?_ | refine awp_region ?_ | refine awp_condM ?_ | refine And.intro ?_ ?_ | apply gQ_merge | apply gE_merge | exact EqV_w | exact EqE_w | exact EqV_ptr | exact EqE_ptr | exact EqV_msl | exact EqE_msl | exact EqV_agg | exact EqE_agg | exact EqV_fn | exact EqE_fn | exact EqV_gd | exact EqE_gd | refine gM_splitN ?_ ?_ | refine gM_split ?_ ?_ |  refine condM_splitDN ?_ ?_ | refine condM_splitD ?_ ?_ | refine condM_splitN ?_ ?_ | refine condM_split ?_ ?_ | refine condM_any ?_ ?_ | intro _) | (simp [*]))
theorem ride_ex_c : RealCall Tryd.prog 15 [] (aPlan exRide) true := by
  have c1 := bob_c
  unfold exBob cRider at c1
  dsimp only at c1
  unfold aPlan cPlan exRide exAnn exBob
  refine realcall_intro Tryd.func15 (by kernel_rfl) rfl (Nat.le_of_ble_eq_true (by kernel_rfl)) ?_
  simp only [Tryd.results15, Tryd.ntmps15]
  repeat' (first | (with_reducible first | refine awp_seq ?_ | refine awp_blockS ?_ | refine awp_blockC ?_ | refine awp_blockR ?_ | refine awp_skip ?_ | refine awp_ret ?_ | refine awp_exit ?_ | refine awp_region ?_ | refine awp_condM ?_ | refine And.intro ?_ ?_ | apply gQ_merge | apply gE_merge | exact EqV_w | exact EqE_w | exact EqV_ptr | exact EqE_ptr | exact EqV_msl | exact EqE_msl | exact EqV_agg | exact EqE_agg | exact EqV_fn | exact EqE_fn | exact EqV_gd | exact EqE_gd | refine gM_splitN ?_ ?_ | refine gM_split ?_ ?_ |  refine condM_splitDN ?_ ?_ | refine condM_splitD ?_ ?_ | refine condM_splitN ?_ ?_ | refine condM_split ?_ ?_ | refine condM_any ?_ ?_ | refine cw (c1) ?_ | intro _) | (simp [*, cRiders, cRider, repl]) | (refine cw_eq (c1) ?_ ?_; (· (simp [*]; done))))
theorem alone_c : RealCall Tryd.prog 17 [] (aPlan exAlone) true := by
  unfold aPlan cPlan exAlone exAnn
  refine realcall_intro Tryd.func17 (by kernel_rfl) rfl (Nat.le_of_ble_eq_true (by kernel_rfl)) ?_
  simp only [Tryd.results17, Tryd.ntmps17]
  repeat' (first | (with_reducible first | refine awp_seq ?_ | refine awp_blockS ?_ | refine awp_blockC ?_ | refine awp_blockR ?_ | refine awp_skip ?_ | refine awp_ret ?_ | refine awp_exit ?_ | refine awp_region ?_ | refine awp_condM ?_ | refine And.intro ?_ ?_ | apply gQ_merge | apply gE_merge | exact EqV_w | exact EqE_w | exact EqV_ptr | exact EqE_ptr | exact EqV_msl | exact EqE_msl | exact EqV_agg | exact EqE_agg | exact EqV_fn | exact EqE_fn | exact EqV_gd | exact EqE_gd | refine gM_splitN ?_ ?_ | refine gM_split ?_ ?_ |  refine condM_splitDN ?_ ?_ | refine condM_splitD ?_ ?_ | refine condM_splitN ?_ ?_ | refine condM_split ?_ ?_ | refine condM_any ?_ ?_ | intro _) | (simp [*, cRiders, cRider, repl]))
theorem ex_grid : GridIn exMap := ⟨by decide, fun k hk => by
  have hk : k < 3 := hk
  match k, hk with
  | 0, _ => decide
  | 1, _ => decide
  | 2, _ => decide⟩
theorem ex_ride_in : PlanIn exRide := ⟨by decide, by decide, fun k hk => by
  have hk : k < 2 := hk
  match k, hk with
  | 0, _ => decide
  | 1, _ => decide⟩
theorem ex_alone_in : PlanIn exAlone := ⟨by decide, by decide, fun k hk => by
  have hk : k < 1 := hk
  match k, hk with
  | 0, _ => decide⟩
theorem ex_check : (checkS exMap exRide).2 = 0 := by decide +kernel
theorem ex_times : timesS exMap exRide noDelay = [0, 100, 200, 200] := by decide +kernel
theorem ex_offE : offE exMap exAlone exBob = 0 := by decide +kernel
theorem ex_offers : insertsS exMap exAlone exBob = [(0, 1, 500), (1, 2, 200), (1, 3, 200), (2, 3, 350)] := by decide +kernel
theorem ex_great : greatS exMap exRide 1 = (10, 0) := by decide +kernel
theorem ex_text : formatS exRide = ⟨#[43, 97, 110, 110, 32, 43, 98, 111, 98, 32, 45, 98, 111, 98, 32, 45, 97, 110, 110]⟩ := by decide +kernel
set_option maxHeartbeats 4000000 in
theorem awake_c : RealCall Tryd.prog 4 [] (.bool true) true := by
  have c1 := town_c
  have c2 := ride_ex_c
  have c3 := alone_c
  have c4 := bob_c
  have c5 := timesOf_ok exMap ex_grid exRide ex_ride_in ex_check
  have c6 := inserts_c exMap ex_grid exAlone ex_alone_in (by decide) exBob (by decide)
  have c7 := great_ok exMap ex_grid exRide ex_ride_in ex_check 1
  have c8 := format_c exRide ex_ride_in
  rw [ex_times] at c5
  rw [ex_offers, ex_offE] at c6
  rw [ex_great] at c7
  rw [ex_text] at c8
  have c9 : RealCall Tryd.prog 20 [.sl 4 [.int .i64 0, .int .i64 100, .int .i64 200, .int .i64 200], .sl 4 [.int .i64 0, .int .i64 100, .int .i64 200, .int .i64 200]] (.bool true) true := ints_c [0, 100, 200, 200] [0, 100, 200, 200] (by decide)
  have c10 : RealCall Tryd.prog 21 [.sl 4 [.int .i64 0, .int .i64 1, .int .i64 500, .int .i64 1, .int .i64 2, .int .i64 200, .int .i64 1, .int .i64 3, .int .i64 200, .int .i64 2, .int .i64 3, .int .i64 350], .sl 4 [.int .i64 0, .int .i64 1, .int .i64 500, .int .i64 1, .int .i64 2, .int .i64 200, .int .i64 1, .int .i64 3, .int .i64 200, .int .i64 2, .int .i64 3, .int .i64 350]] (.bool true) true :=
    sameOffers_c [(0, 1, 500), (1, 2, 200), (1, 3, 200), (2, 3, 350)] [(0, 1, 500), (1, 2, 200), (1, 3, 200), (2, 3, 350)] (by decide)
  generalize aMap exMap = M at *
  generalize aPlan exRide = Q at *
  generalize aPlan exAlone = A at *
  generalize PV.agg (cRider exBob) = B at *
  unfold pairI at c7
  simp [ints, cOffers, cOffer] at c5 c6
  refine realcall_intro Tryd.func4 (by kernel_rfl) rfl (Nat.le_of_ble_eq_true (by kernel_rfl)) ?_
  simp only [Tryd.results4, Tryd.ntmps4]
  repeat' (first | (with_reducible first | refine awp_seq ?_ | refine awp_blockS ?_ | refine awp_blockC ?_ | refine awp_blockR ?_ | refine awp_skip ?_ | refine awp_ret ?_ | refine awp_exit ?_ | refine awp_region ?_ | refine awp_condM ?_ | refine And.intro ?_ ?_ | apply gQ_merge | apply gE_merge | exact EqV_w | exact EqE_w | exact EqV_ptr | exact EqE_ptr | exact EqV_msl | exact EqE_msl | exact EqV_agg | exact EqE_agg | exact EqV_fn | exact EqE_fn | exact EqV_gd | exact EqE_gd | refine gM_splitN ?_ ?_ | refine gM_split ?_ ?_ |  refine condM_splitDN ?_ ?_ | refine condM_splitD ?_ ?_ | refine condM_splitN ?_ ?_ | refine condM_split ?_ ?_ | refine condM_any ?_ ?_ | refine cw (c1) ?_ | refine cw (c2) ?_ | refine cw (c3) ?_ | refine cw (c4) ?_ | refine cw (c5) ?_ | refine cw (c6) ?_ | refine cw (c7) ?_ | refine cw (c8) ?_ | refine cw (c9) ?_ | refine cw (c10) ?_ | intro _) | (simp [*, repl]) | (refine cw_eq (c1) ?_ ?_; (· (simp [*]; done))) | (refine cw_eq (c2) ?_ ?_; (· (simp [*]; done))) | (refine cw_eq (c3) ?_ ?_; (· (simp [*]; done))) | (refine cw_eq (c4) ?_ ?_; (· (simp [*]; done))) | (refine cw_eq (c5) ?_ ?_; (· (simp [*]; done))) | (refine cw_eq (c6) ?_ ?_; (· (simp [*]; done))) | (refine cw_eq (c7) ?_ ?_; (· (simp [*]; done))) | (refine cw_eq (c8) ?_ ?_; (· (simp [*]; done))) | (refine cw_eq (c9) ?_ ?_; (· (simp [*]; done))) | (refine cw_eq (c10) ?_ ?_; (· (simp [*]; done))))
end Go.Proofs.YtiialcomflggcaaDoor

