/- Contracts of functions for this claim: lemmas alone. -/
import Derived.Test.YtiialcomflggcaaDoorP22
import Derived.Test.YtiialcomflggcaaDoorLo
set_option linter.unusedSimpArgs false
set_option linter.unusedVariables false
namespace Go.Proofs.YtiialcomflggcaaDoor
open Go Go.Fi
set_option maxRecDepth 20000

theorem newE_ok {m : Grid} {p : Plan} {r : Rider} (h : newE m p r = 0) : (p.riders.length : Int) < 6 ∧ riderE m p.riders r = 0 ∧ r.aboard = false := by
  unfold newE at h
  rw [firstS_all] at h
  have h1 := h (errUnless (decide ((p.riders.length : Int) < 6)) 16) (by simp)
  have h2 := h (riderE m p.riders r) (by simp)
  have h3 := h (errUnless (!r.aboard) 22) (by simp)
  rw [errU_zero (by decide)] at h1 h3
  exact ⟨of_decide_eq_true h1, h2, by simpa using h3⟩
theorem offer_ok {m : Grid} {p : Plan} {r : Rider} (hp : PlanIn p) (h : (checkS m p).2 = 0) (hn : newE m p r = 0) (hs : p.stops.length < 5000) : OfferOk m p r := by
  have h1 := checkS_ok.1 h
  have h2 := newE_ok hn
  have := h1.2.rl
  exact ⟨h1.2.tour h1.1 hp.stops, hp, (riderE_ok h2.2.1).1, by omega, hs⟩
/-- the error of offers -/
def offE (m : Grid) (p : Plan) (r : Rider) : Int := if (checkS m p).2 = 0 then newE m p r else (checkS m p).2
def insertsS (m : Grid) (p : Plan) (r : Rider) : List Offer := if offE m p r = 0 then offersS m p r else []
theorem inserts_c (m : Grid) (hm : GridIn m) (p : Plan) (hp : PlanIn p) (hs : p.stops.length < 5000) (r : Rider) (hr : r.name.size < 1000000) :
    RealCall Tryd.prog 16 [aMap m, aPlan p, .agg (cRider r)] (.tup [.sl (insertsS m p r).length (cOffers (insertsS m p r)), .int .i64 (offE m p r)]) true := by
  unfold insertsS offE
  by_cases h : (checkS m p).2 = 0
  · rw [if_pos h]
    have hf : RealCall Tryd.prog 39 [aTour m p noDelay, .ip (cMap m) 0, .ip (cPlan p) 0, .ip (cRider r) 0] (.tup [.sl (if newE m p r = 0 then offersS m p r else []).length (cOffers (if newE m p r = 0 then offersS m p r else [])), .int .i64 (newE m p r)]) true := by
      have c0 := newErr_c m hm p hp r hr
      by_cases hn : newE m p r = 0
      · rw [if_pos hn]
        have ok := offer_ok hp h hn hs
        have c1 := offers_c m p r
        have c2 := collect_c m p r ok
        rw [hn] at c0 ⊢
        generalize itP m p r = I at *
        generalize offersS m p r = L at *
        generalize aTour m p noDelay = T at *
        clear ok h hn
        unfold aMap aPlan cMap cPlan cRider at *
        refine realcall_intro Tryd.func39 (by kernel_rfl) rfl (Nat.le_of_ble_eq_true (by kernel_rfl)) ?_
        simp only [Tryd.results39, Tryd.ntmps39]
        repeat' (first | (with_reducible first | refine awp_seq ?_ | refine awp_blockS ?_ | refine awp_blockC ?_ | refine awp_blockR ?_ | refine awp_skip ?_ | refine awp_ret ?_ | refine awp_exit ?_ | refine awp_region ?_ | refine awp_condM ?_ | refine And.intro ?_ ?_ | apply gQ_merge | apply gE_merge | exact EqV_w | exact EqE_w | exact EqV_ptr | exact EqE_ptr | exact EqV_msl | exact EqE_msl | exact EqV_agg | exact EqE_agg | exact EqV_fn | exact EqE_fn | exact EqV_gd | exact EqE_gd | refine gM_splitN ?_ ?_ | refine gM_split ?_ ?_ |  refine condM_splitDN ?_ ?_ | refine condM_splitD ?_ ?_ | refine condM_splitN ?_ ?_ | refine condM_split ?_ ?_ | refine condM_any ?_ ?_ | refine cw (c0) ?_ | refine cw (c1) ?_ | refine cw (c2) ?_ | intro _) | (simp [*]) | (refine cw_eq (c0) ?_ ?_; (· (simp [*]; done))) | (refine cw_eq (c1) ?_ ?_; (· (simp [*]; done))) | (refine cw_eq (c2) ?_ ?_; (· (simp [*]; done))))
      · rw [if_neg hn]
        generalize newE m p r = E at *
        generalize aTour m p noDelay = T at *
        clear h
        unfold aMap aPlan cMap cPlan cRider at *
        refine realcall_intro Tryd.func39 (by kernel_rfl) rfl (Nat.le_of_ble_eq_true (by kernel_rfl)) ?_
        simp only [Tryd.results39, Tryd.ntmps39]
        repeat' (first | (with_reducible first | refine awp_seq ?_ | refine awp_blockS ?_ | refine awp_blockC ?_ | refine awp_blockR ?_ | refine awp_skip ?_ | refine awp_ret ?_ | refine awp_exit ?_ | refine awp_region ?_ | refine awp_condM ?_ | refine And.intro ?_ ?_ | apply gQ_merge | apply gE_merge | exact EqV_w | exact EqE_w | exact EqV_ptr | exact EqE_ptr | exact EqV_msl | exact EqE_msl | exact EqV_agg | exact EqE_agg | exact EqV_fn | exact EqE_fn | exact EqV_gd | exact EqE_gd | refine gM_splitN ?_ ?_ | refine gM_split ?_ ?_ |  refine condM_splitDN ?_ ?_ | refine condM_splitD ?_ ?_ | refine condM_splitN ?_ ?_ | refine condM_split ?_ ?_ | refine condM_any ?_ ?_ | refine cw (c0) ?_ | intro _) | (simp [*, hn, cOffers]) | (refine cw_eq (c0) ?_ ?_; (· (simp [*]; done))))
    have c1 := of99_ok m hm p hp h 39 [.ip (cMap m) 0, .ip (cPlan p) 0, .ip (cRider r) 0] _ _ _ hf
    clear hf h
    generalize newE m p r = E at *
    generalize (if E = 0 then offersS m p r else []) = L at *
    unfold aMap aPlan cMap cPlan cRider at *
    refine realcall_intro Tryd.func16 (by kernel_rfl) rfl (Nat.le_of_ble_eq_true (by kernel_rfl)) ?_
    simp only [Tryd.results16, Tryd.ntmps16]
    repeat' (first | (with_reducible first | refine awp_seq ?_ | refine awp_blockS ?_ | refine awp_blockC ?_ | refine awp_blockR ?_ | refine awp_skip ?_ | refine awp_ret ?_ | refine awp_exit ?_ | refine awp_region ?_ | refine awp_condM ?_ | refine And.intro ?_ ?_ | apply gQ_merge | apply gE_merge | exact EqV_w | exact EqE_w | exact EqV_ptr | exact EqE_ptr | exact EqV_msl | exact EqE_msl | exact EqV_agg | exact EqE_agg | exact EqV_fn | exact EqE_fn | exact EqV_gd | exact EqE_gd | refine gM_splitN ?_ ?_ | refine gM_split ?_ ?_ |  refine condM_splitDN ?_ ?_ | refine condM_splitD ?_ ?_ | refine condM_splitN ?_ ?_ | refine condM_split ?_ ?_ | refine condM_any ?_ ?_ | refine cw (c1) ?_ | intro _) | (simp [*]) | (refine cw_eq (c1) ?_ ?_; (· (simp [*]; done))))
  · rw [if_neg h, if_neg h]
    have c1 := of99_bad m hm p hp h 39 [.ip (cMap m) 0, .ip (cPlan p) 0, .ip (cRider r) 0]
    generalize (checkS m p).2 = e at *
    unfold aMap aPlan cMap cPlan cRider at *
    refine realcall_intro Tryd.func16 (by kernel_rfl) rfl (Nat.le_of_ble_eq_true (by kernel_rfl)) ?_
    simp only [Tryd.results16, Tryd.ntmps16]
    repeat' (first | (with_reducible first | refine awp_seq ?_ | refine awp_blockS ?_ | refine awp_blockC ?_ | refine awp_blockR ?_ | refine awp_skip ?_ | refine awp_ret ?_ | refine awp_exit ?_ | refine awp_region ?_ | refine awp_condM ?_ | refine And.intro ?_ ?_ | apply gQ_merge | apply gE_merge | exact EqV_w | exact EqE_w | exact EqV_ptr | exact EqE_ptr | exact EqV_msl | exact EqE_msl | exact EqV_agg | exact EqE_agg | exact EqV_fn | exact EqE_fn | exact EqV_gd | exact EqE_gd | refine gM_splitN ?_ ?_ | refine gM_split ?_ ?_ |  refine condM_splitDN ?_ ?_ | refine condM_splitD ?_ ?_ | refine condM_splitN ?_ ?_ | refine condM_split ?_ ?_ | refine condM_any ?_ ?_ | refine cw (c1) ?_ | intro _) | (simp [*, cOffers]) | (refine cw_eq (c1) ?_ ?_; (· (simp [*]; done))))
end Go.Proofs.YtiialcomflggcaaDoor
namespace Go.Proofs.YtiialcomflggcaaDoor
open Go Go.Fi
set_option maxRecDepth 20000

@[simp] theorem cRiders_nil : cRiders [] = [] := rfl
@[simp] theorem cStops_nil : cStops [] = [] := rfl
@[simp] theorem cOffers_nil : cOffers [] = [] := rfl
/-! ### a rider less, a rider more -/
def decS (j : Int) (s : Stop) : Stop := ⟨if j < s.rider then s.rider - 1 else s.rider, s.out⟩
def woF (j : Int) : List Stop → List Stop
  | [] => []
  | s :: ss => if s.rider = j then woF j ss else decS j s :: woF j ss
@[simp] theorem woF_nil (j : Int) : woF j [] = [] := rfl
end Go.Proofs.YtiialcomflggcaaDoor
namespace Go.Proofs.YtiialcomflggcaaDoor
open Go Go.Fi
set_option maxRecDepth 20000

structure Insert where
  r : Rider
  inn : Int
  out : Int
end Go.Proofs.YtiialcomflggcaaDoor

