/- Contracts of functions for this claim: lemmas alone. -/
import Derived.Test.YtiialcomflggcaaP22
import Derived.Test.YtiialcomflggcaaLo
set_option linter.unusedSimpArgs false
set_option linter.unusedVariables false
namespace Go.Proofs.Ytiialcomflggcaa
open Go Go.Fi
set_option maxRecDepth 20000

theorem newE_ok {m : Grid} {p : Plan} {r : Rider} (h : newE m p r = 0) : (p.riders.length : Int) < 6 ∧ riderE m p.riders r = 0 ∧ r.aboard = false := by
  unfold newE at h
  rw [firstS_all] at h
  have h1 := h (errUnless (decide ((p.riders.length : Int) < 6)) 16) (by simp)
  have h2 := h (riderE m p.riders r) (by simp)
  have h3 := h (errUnless (!r.aboard) 22) (by simp)
  rw [errU_zero (by decide)] at h1 h3
  exact ⟨of_decide_eq_true h1, h2, by simpa using h3⟩
theorem offer_ok {m : Grid} {p : Plan} {r : Rider} (hp : PlanIn p) (h : (checkS m p).2 = 0) (hn : newE m p r = 0) (hs : p.stops.length < 5000) : OfferOk m p r := by
  have h1 := checkS_ok.1 h
  have h2 := newE_ok hn
  have := h1.2.rl
  exact ⟨h1.2.tour h1.1 hp.stops, hp, (riderE_ok h2.2.1).1, by omega, hs⟩
/-- the error of offers -/
def offE (m : Grid) (p : Plan) (r : Rider) : Int := if (checkS m p).2 = 0 then newE m p r else (checkS m p).2
def insertsS (m : Grid) (p : Plan) (r : Rider) : List Offer := if offE m p r = 0 then offersS m p r else []
theorem inserts_c (m : Grid) (hm : GridIn m) (p : Plan) (hp : PlanIn p) (hs : p.stops.length < 5000) (r : Rider) (hr : r.name.size < 1000000) :
    RealCall Try.prog 23 [aMap m, aPlan p, .agg (cRider r)] (.tup [.sl (insertsS m p r).length (cOffers (insertsS m p r)), .int .i64 (offE m p r)]) true := by
  unfold insertsS offE
  by_cases h : (checkS m p).2 = 0
  · rw [if_pos h]
    have hf : RealCall Try.prog 63 [aTour m p noDelay, .ip (cMap m) 0, .ip (cPlan p) 0, .ip (cRider r) 0] (.tup [.sl (if newE m p r = 0 then offersS m p r else []).length (cOffers (if newE m p r = 0 then offersS m p r else [])), .int .i64 (newE m p r)]) true := by
      have c0 := newErr_c m hm p hp r hr
      by_cases hn : newE m p r = 0
      · rw [if_pos hn]
        have ok := offer_ok hp h hn hs
        have c1 := offers_c m p r
        have c2 := collect_c m p r ok
        rw [hn] at c0 ⊢
        generalize itP m p r = I at *
        generalize offersS m p r = L at *
        generalize aTour m p noDelay = T at *
        clear ok h hn
        unfold aMap aPlan cMap cPlan cRider at *
        refine realcall_intro Try.func63 (by kernel_rfl) rfl (Nat.le_of_ble_eq_true (by kernel_rfl)) ?_
        simp only [Try.results63, Try.ntmps63]
        repeat' (first | (with_reducible first | refine awp_seq ?_ | refine awp_blockS ?_ | refine awp_blockC ?_ | refine awp_blockR ?_ | refine awp_skip ?_ | refine awp_ret ?_ | refine awp_exit ?_ | refine awp_region ?_ | refine awp_condM ?_ | refine And.intro ?_ ?_ | apply gQ_merge | apply gE_merge | exact EqV_w | exact EqE_w | exact EqV_ptr | exact EqE_ptr | exact EqV_msl | exact EqE_msl | exact EqV_agg | exact EqE_agg | exact EqV_fn | exact EqE_fn | exact EqV_gd | exact EqE_gd | refine gM_splitN ?_ ?_ | refine gM_split ?_ ?_ |  refine condM_splitDN ?_ ?_ | refine condM_splitD ?_ ?_ | refine condM_splitN ?_ ?_ | refine condM_split ?_ ?_ | refine condM_any ?_ ?_ | refine cw (c0) ?_ | refine cw (c1) ?_ | refine cw (c2) ?_ | intro _) | (simp [*]) | (refine cw_eq (c0) ?_ ?_; (· (simp [*]; done))) | (refine cw_eq (c1) ?_ ?_; (· (simp [*]; done))) | (refine cw_eq (c2) ?_ ?_; (· (simp [*]; done))))
      · rw [if_neg hn]
        generalize newE m p r = E at *
        generalize aTour m p noDelay = T at *
        clear h
        unfold aMap aPlan cMap cPlan cRider at *
        refine realcall_intro Try.func63 (by kernel_rfl) rfl (Nat.le_of_ble_eq_true (by kernel_rfl)) ?_
        simp only [Try.results63, Try.ntmps63]
        repeat' (first | (with_reducible first | refine awp_seq ?_ | refine awp_blockS ?_ | refine awp_blockC ?_ | refine awp_blockR ?_ | refine awp_skip ?_ | refine awp_ret ?_ | refine awp_exit ?_ | refine awp_region ?_ | refine awp_condM ?_ | refine And.intro ?_ ?_ | apply gQ_merge | apply gE_merge | exact EqV_w | exact EqE_w | exact EqV_ptr | exact EqE_ptr | exact EqV_msl | exact EqE_msl | exact EqV_agg | exact EqE_agg | exact EqV_fn | exact EqE_fn | exact EqV_gd | exact EqE_gd | refine gM_splitN ?_ ?_ | refine gM_split ?_ ?_ |  refine condM_splitDN ?_ ?_ | refine condM_splitD ?_ ?_ | refine condM_splitN ?_ ?_ | refine condM_split ?_ ?_ | refine condM_any ?_ ?_ | refine cw (c0) ?_ | intro _) | (simp [*, hn, cOffers]) | (refine cw_eq (c0) ?_ ?_; (· (simp [*]; done))))
    have c1 := of99_ok m hm p hp h 63 [.ip (cMap m) 0, .ip (cPlan p) 0, .ip (cRider r) 0] _ _ _ hf
    clear hf h
    generalize newE m p r = E at *
    generalize (if E = 0 then offersS m p r else []) = L at *
    unfold aMap aPlan cMap cPlan cRider at *
    refine realcall_intro Try.func23 (by kernel_rfl) rfl (Nat.le_of_ble_eq_true (by kernel_rfl)) ?_
    simp only [Try.results23, Try.ntmps23]
    repeat' (first | (with_reducible first | refine awp_seq ?_ | refine awp_blockS ?_ | refine awp_blockC ?_ | refine awp_blockR ?_ | refine awp_skip ?_ | refine awp_ret ?_ | refine awp_exit ?_ | refine awp_region ?_ | refine awp_condM ?_ | refine And.intro ?_ ?_ | apply gQ_merge | apply gE_merge | exact EqV_w | exact EqE_w | exact EqV_ptr | exact EqE_ptr | exact EqV_msl | exact EqE_msl | exact EqV_agg | exact EqE_agg | exact EqV_fn | exact EqE_fn | exact EqV_gd | exact EqE_gd | refine gM_splitN ?_ ?_ | refine gM_split ?_ ?_ |  refine condM_splitDN ?_ ?_ | refine condM_splitD ?_ ?_ | refine condM_splitN ?_ ?_ | refine condM_split ?_ ?_ | refine condM_any ?_ ?_ | refine cw (c1) ?_ | intro _) | (simp [*]) | (refine cw_eq (c1) ?_ ?_; (· (simp [*]; done))))
  · rw [if_neg h, if_neg h]
    have c1 := of99_bad m hm p hp h 63 [.ip (cMap m) 0, .ip (cPlan p) 0, .ip (cRider r) 0]
    generalize (checkS m p).2 = e at *
    unfold aMap aPlan cMap cPlan cRider at *
    refine realcall_intro Try.func23 (by kernel_rfl) rfl (Nat.le_of_ble_eq_true (by kernel_rfl)) ?_
    simp only [Try.results23, Try.ntmps23]
    repeat' (first | (with_reducible first | refine awp_seq ?_ | refine awp_blockS ?_ | refine awp_blockC ?_ | refine awp_blockR ?_ | refine awp_skip ?_ | refine awp_ret ?_ | refine awp_exit ?_ | refine awp_region ?_ | refine awp_condM ?_ | refine And.intro ?_ ?_ | apply gQ_merge | apply gE_merge | exact EqV_w | exact EqE_w | exact EqV_ptr | exact EqE_ptr | exact EqV_msl | exact EqE_msl | exact EqV_agg | exact EqE_agg | exact EqV_fn | exact EqE_fn | exact EqV_gd | exact EqE_gd | refine gM_splitN ?_ ?_ | refine gM_split ?_ ?_ |  refine condM_splitDN ?_ ?_ | refine condM_splitD ?_ ?_ | refine condM_splitN ?_ ?_ | refine condM_split ?_ ?_ | refine condM_any ?_ ?_ | refine cw (c1) ?_ | intro _) | (simp [*, cOffers]) | (refine cw_eq (c1) ?_ ?_; (· (simp [*]; done))))
/-- the best offer, or the error -/
def bestE (m : Grid) (p : Plan) (r : Rider) : Offer × Int := if offE m p r = 0 then (bV (bestS m p r), errUnless (bestS m p r).isSome 12) else ((0, 0, 0), offE m p r)
def bestEP (x : Offer × Int) : PV := .tup [.agg [.int .i64 x.1.1, .int .i64 x.1.2.1, .int .i64 x.1.2.2], .int .i64 x.2]
theorem bestInsert_c (m : Grid) (hm : GridIn m) (p : Plan) (hp : PlanIn p) (hs : p.stops.length < 5000) (r : Rider) (hr : r.name.size < 1000000) :
    RealCall Try.prog 16 [aMap m, aPlan p, .agg (cRider r)] (bestEP (bestE m p r)) true := by
  unfold bestE offE
  by_cases h : (checkS m p).2 = 0
  · rw [if_pos h]
    have hf : RealCall Try.prog 48 [aTour m p noDelay, .ip (cMap m) 0, .ip (cPlan p) 0, .ip (cRider r) 0] (bestEP (if newE m p r = 0 then (bV (bestS m p r), errUnless (bestS m p r).isSome 12) else ((0, 0, 0), newE m p r))) true := by
      have c0 := newErr_c m hm p hp r hr
      by_cases hn : newE m p r = 0
      · rw [if_pos hn]
        have ok := offer_ok hp h hn hs
        have c2 := best_c m p r ok
        rw [hn] at c0
        unfold bestP at c2
        unfold bestEP
        generalize bestS m p r = L at *
        generalize aTour m p noDelay = T at *
        clear ok h hn
        unfold aMap aPlan cMap cPlan cRider at *
        refine realcall_intro Try.func48 (by kernel_rfl) rfl (Nat.le_of_ble_eq_true (by kernel_rfl)) ?_
        simp only [Try.results48, Try.ntmps48]
        repeat' (first | (with_reducible first | refine awp_seq ?_ | refine awp_blockS ?_ | refine awp_blockC ?_ | refine awp_blockR ?_ | refine awp_skip ?_ | refine awp_ret ?_ | refine awp_exit ?_ | refine awp_region ?_ | refine awp_regionD (id := 5) 3 mixed (by decide +kernel) ?_ | refine awp_condM ?_ | refine And.intro ?_ ?_ | apply gQ_merge | apply gE_merge | exact EqV_w | exact EqE_w | exact EqV_ptr | exact EqE_ptr | exact EqV_msl | exact EqE_msl | exact EqV_agg | exact EqE_agg | exact EqV_fn | exact EqE_fn | exact EqV_gd | exact EqE_gd | refine gM_splitN ?_ ?_ | refine gM_split ?_ ?_ |  refine condM_splitDN ?_ ?_ | refine condM_splitD ?_ ?_ | refine condM_splitN ?_ ?_ | refine condM_split ?_ ?_ | refine condM_any ?_ ?_ | refine cw (c0) ?_ | refine cw (c2) ?_ | refine cw (unless_c _ _) ?_ | intro _) | (simp [*]) | (refine cw_eq (c0) ?_ ?_; (· (simp [*]; done))) | (refine cw_eq (c2) ?_ ?_; (· (simp [*]; done))) | (refine cw_eq (unless_c _ _) ?_ ?_; (· (simp [*]; done))))
      · rw [if_neg hn]
        unfold bestEP
        generalize newE m p r = E at *
        generalize aTour m p noDelay = T at *
        clear h
        unfold aMap aPlan cMap cPlan cRider at *
        refine realcall_intro Try.func48 (by kernel_rfl) rfl (Nat.le_of_ble_eq_true (by kernel_rfl)) ?_
        simp only [Try.results48, Try.ntmps48]
        repeat' (first | (with_reducible first | refine awp_seq ?_ | refine awp_blockS ?_ | refine awp_blockC ?_ | refine awp_blockR ?_ | refine awp_skip ?_ | refine awp_ret ?_ | refine awp_exit ?_ | refine awp_region ?_ | refine awp_regionD (id := 5) 3 mixed (by decide +kernel) ?_ | refine awp_condM ?_ | refine And.intro ?_ ?_ | apply gQ_merge | apply gE_merge | exact EqV_w | exact EqE_w | exact EqV_ptr | exact EqE_ptr | exact EqV_msl | exact EqE_msl | exact EqV_agg | exact EqE_agg | exact EqV_fn | exact EqE_fn | exact EqV_gd | exact EqE_gd | refine gM_splitN ?_ ?_ | refine gM_split ?_ ?_ |  refine condM_splitDN ?_ ?_ | refine condM_splitD ?_ ?_ | refine condM_splitN ?_ ?_ | refine condM_split ?_ ?_ | refine condM_any ?_ ?_ | refine cw (c0) ?_ | intro _) | (simp [*, hn]) | (refine cw_eq (c0) ?_ ?_; (· (simp [*]; done))))
    unfold bestEP at *
    have c1 := of104_ok m hm p hp h 48 [.ip (cMap m) 0, .ip (cPlan p) 0, .ip (cRider r) 0] _ _ _ _ _ hf
    clear hf h
    generalize (if newE m p r = 0 then (bV (bestS m p r), errUnless (bestS m p r).isSome 12) else ((0, 0, 0), newE m p r)) = X at *
    obtain ⟨⟨x1, x2, x3⟩, x4⟩ := X
    unfold aMap aPlan cMap cPlan cRider at *
    refine realcall_intro Try.func16 (by kernel_rfl) rfl (Nat.le_of_ble_eq_true (by kernel_rfl)) ?_
    simp only [Try.results16, Try.ntmps16]
    repeat' (first | (with_reducible first | refine awp_seq ?_ | refine awp_blockS ?_ | refine awp_blockC ?_ | refine awp_blockR ?_ | refine awp_skip ?_ | refine awp_ret ?_ | refine awp_exit ?_ | refine awp_region ?_ | refine awp_condM ?_ | refine And.intro ?_ ?_ | apply gQ_merge | apply gE_merge | exact EqV_w | exact EqE_w | exact EqV_ptr | exact EqE_ptr | exact EqV_msl | exact EqE_msl | exact EqV_agg | exact EqE_agg | exact EqV_fn | exact EqE_fn | exact EqV_gd | exact EqE_gd | refine gM_splitN ?_ ?_ | refine gM_split ?_ ?_ |  refine condM_splitDN ?_ ?_ | refine condM_splitD ?_ ?_ | refine condM_splitN ?_ ?_ | refine condM_split ?_ ?_ | refine condM_any ?_ ?_ | refine cw (c1) ?_ | intro _) | (simp [*]) | (refine cw_eq (c1) ?_ ?_; (· (simp [*]; done))))
  · rw [if_neg h, if_neg h]
    have c1 := of104_bad m hm p hp h 48 [.ip (cMap m) 0, .ip (cPlan p) 0, .ip (cRider r) 0]
    unfold bestEP
    generalize (checkS m p).2 = e at *
    unfold aMap aPlan cMap cPlan cRider at *
    refine realcall_intro Try.func16 (by kernel_rfl) rfl (Nat.le_of_ble_eq_true (by kernel_rfl)) ?_
    simp only [Try.results16, Try.ntmps16]
    repeat' (first | (with_reducible first | refine awp_seq ?_ | refine awp_blockS ?_ | refine awp_blockC ?_ | refine awp_blockR ?_ | refine awp_skip ?_ | refine awp_ret ?_ | refine awp_exit ?_ | refine awp_region ?_ | refine awp_condM ?_ | refine And.intro ?_ ?_ | apply gQ_merge | apply gE_merge | exact EqV_w | exact EqE_w | exact EqV_ptr | exact EqE_ptr | exact EqV_msl | exact EqE_msl | exact EqV_agg | exact EqE_agg | exact EqV_fn | exact EqE_fn | exact EqV_gd | exact EqE_gd | refine gM_splitN ?_ ?_ | refine gM_split ?_ ?_ |  refine condM_splitDN ?_ ?_ | refine condM_splitD ?_ ?_ | refine condM_splitN ?_ ?_ | refine condM_split ?_ ?_ | refine condM_any ?_ ?_ | refine cw (c1) ?_ | intro _) | (simp [*]) | (refine cw_eq (c1) ?_ ?_; (· (simp [*]; done))))
end Go.Proofs.Ytiialcomflggcaa
namespace Go.Proofs.Ytiialcomflggcaa
open Go Go.Fi
set_option maxRecDepth 20000

@[simp] theorem cRiders_nil : cRiders [] = [] := rfl
@[simp] theorem cStops_nil : cStops [] = [] := rfl
@[simp] theorem cOffers_nil : cOffers [] = [] := rfl
/-! ### a rider less, a rider more -/
def decS (j : Int) (s : Stop) : Stop := ⟨if j < s.rider then s.rider - 1 else s.rider, s.out⟩
def woF (j : Int) : List Stop → List Stop
  | [] => []
  | s :: ss => if s.rider = j then woF j ss else decS j s :: woF j ss
@[simp] theorem woF_nil (j : Int) : woF j [] = [] := rfl
def noPlan : Plan := ⟨⟨0, 0, 0⟩, [], []⟩
def planP (x : Plan × Int) : PV := .tup [aPlan x.1, .int .i64 x.2]
end Go.Proofs.Ytiialcomflggcaa
namespace Go.Proofs.Ytiialcomflggcaa
open Go Go.Fi
set_option maxRecDepth 20000

structure Insert where
  r : Rider
  inn : Int
  out : Int
def cInsert (x : Insert) : List PV := [.str x.r.name, .int .i64 x.r.frm, .int .i64 x.r.to, .int .i64 x.r.seats, .int .i64 x.r.detour, .int .i64 x.r.ready, .bool x.r.aboard, .int .i64 x.r.ridden, .int .i64 x.inn, .int .i64 x.out]
/-- the error of the stops of a rider more -/
def insE (p : Plan) (x : Insert) : Int := errUnless (winB x.inn 0 (p.stops.length : Int) && winB x.out (x.inn + 1) ((p.stops.length : Int) + 1)) 2
def insPlan (p : Plan) (x : Insert) : Plan := insS p x.r x.inn.toNat x.out.toNat
def insertedS (m : Grid) (p : Plan) (x : Insert) : Plan × Int := if firstS [newE m p x.r, insE p x] = 0 then (insPlan p x, 0) else (noPlan, firstS [newE m p x.r, insE p x])
theorem insE_zero {p : Plan} {x : Insert} (h : insE p x = 0) : ∃ i o : Nat, x.inn = (i : Int) ∧ x.out = (o : Int) ∧ i < o ∧ o ≤ p.stops.length + 1 := by
  unfold insE at h
  rw [errU_zero (by decide), Bool.and_eq_true, winB_iff, winB_iff] at h
  exact ⟨x.inn.toNat, x.out.toNat, by omega, by omega, by omega, by omega⟩
theorem insAdd {p : Plan} {x : Insert} (h : winB x.inn 0 (p.stops.length : Int) = true) (hs : p.stops.length < 10000) : inI .i64 (x.inn + 1) := by
  rw [winB_iff] at h
  exact inI64 (by omega) (by omega)
set_option maxHeartbeats 4000000 in
theorem inserted1_c (m : Grid) (hm : GridIn m) (p : Plan) (hp : PlanIn p) (x : Insert) (hr : x.r.name.size < 1000000) (T : PV) :
    RealCall Try.prog 52 [T, .ip (cPlan p) 0, .ip (cMap m) 0, .ip (cInsert x) 0] (planP (insertedS m p x)) true := by
  have hsl := hp.stops
  have c0 := newErr_c m hm p hp x.r hr
  have c1 := inserted_c p hp x.r
  have hz := fun h => insE_zero (p := p) (x := x) h
  have ha := insAdd (p := p) (x := x)
  unfold insertedS
  have hE : insE p x = errUnless (winB x.inn 0 (p.stops.length : Int) && winB x.out (x.inn + 1) ((p.stops.length : Int) + 1)) 2 := rfl
  have c2 := first2_c (newE m p x.r) (insE p x)
  have hz2 : firstS [newE m p x.r, insE p x] = 0 → insE p x = 0 := fun h => firstS_zero h _ (by simp)
  generalize hF : firstS [newE m p x.r, insE p x] = F at *
  rw [hE] at c2
  have kh := keep hz
  have kz := keep hz2
  have ka := keep ha
  clear hm hp hz hz2 ha hF hE
  generalize newE m p x.r = E at *
  have kc := keep c1
  clear c1
  by_cases h0 : F = 0
  · subst h0
    rw [if_pos rfl]
    obtain ⟨i, o, hi, ho, hio, hoo⟩ := kh (kz rfl)
    have c1 := kc i o hio hoo
    have e : insPlan p x = insS p x.r i o := by unfold insPlan; rw [hi, ho]; rfl
    rw [e]
    clear kh kz kc e
    generalize insS p x.r i o = Q at *
    obtain ⟨r, xi, xo⟩ := x
    dsimp only at hi ho c0 c1 c2 ka hr
    subst hi
    subst ho
    unfold planP aMap aPlan cMap cPlan cRider cInsert at *
    refine realcall_intro Try.func52 (by kernel_rfl) rfl (Nat.le_of_ble_eq_true (by kernel_rfl)) ?_
    simp only [Try.results52, Try.ntmps52]
    repeat' (first | (with_reducible first | refine awp_seq ?_ | refine awp_blockS ?_ | refine awp_blockC ?_ | refine awp_blockR ?_ | refine awp_skip ?_ | refine awp_ret ?_ | refine awp_exit ?_ | refine awp_region ?_ | refine awp_regionD (id := 2) 23 mixed (by decide +kernel) ?_ | refine awp_condM ?_ | refine And.intro ?_ ?_ | apply gQ_merge | apply gE_merge | exact EqV_w | exact EqE_w | exact EqV_ptr | exact EqE_ptr | exact EqV_msl | exact EqE_msl | exact EqV_agg | exact EqE_agg | exact EqV_fn | exact EqE_fn | exact EqV_gd | exact EqE_gd | refine gM_splitN ?_ ?_ | refine gM_split ?_ ?_ |  refine condM_splitDN ?_ ?_ | refine condM_splitD ?_ ?_ | refine condM_splitN ?_ ?_ | refine condM_split ?_ ?_ | refine condM_any ?_ ?_ | refine cw (c0) ?_ | refine cw (c1) ?_ | refine cw (c2) ?_ | refine cw (within_c _ _ _) ?_ | refine cw (unless_c _ _) ?_ | intro _) | (simp [*]) | (refine cw_eq (c0) ?_ ?_; (· (simp [*]; done))) | (refine cw_eq (c1) ?_ ?_; (· (simp [*]; done))) | (refine cw_eq (c2) ?_ ?_; (· (simp [*]; done))) | (refine cw_eq (within_c _ _ _) ?_ ?_; (· (simp [*]; done))) | (refine cw_eq (unless_c _ _) ?_ ?_; (· (simp [*]; done))))
    all_goals first
      | exact inI64 (by omega) (by omega)
      | omega
      | skip
  · rw [if_neg h0]
    clear kh kz kc
    obtain ⟨r, xi, xo⟩ := x
    dsimp only at c0 c2 ka hr
    unfold planP noPlan aMap aPlan cMap cPlan cRider cInsert at *
    refine realcall_intro Try.func52 (by kernel_rfl) rfl (Nat.le_of_ble_eq_true (by kernel_rfl)) ?_
    simp only [Try.results52, Try.ntmps52]
    repeat' (first | (with_reducible first | refine awp_seq ?_ | refine awp_blockS ?_ | refine awp_blockC ?_ | refine awp_blockR ?_ | refine awp_skip ?_ | refine awp_ret ?_ | refine awp_exit ?_ | refine awp_region ?_ | refine awp_regionD (id := 2) 23 mixed (by decide +kernel) ?_ | refine awp_condM ?_ | refine And.intro ?_ ?_ | apply gQ_merge | apply gE_merge | exact EqV_w | exact EqE_w | exact EqV_ptr | exact EqE_ptr | exact EqV_msl | exact EqE_msl | exact EqV_agg | exact EqE_agg | exact EqV_fn | exact EqE_fn | exact EqV_gd | exact EqE_gd | refine gM_splitN ?_ ?_ | refine gM_split ?_ ?_ |  refine condM_splitDN ?_ ?_ | refine condM_splitD ?_ ?_ | refine condM_splitN ?_ ?_ | refine condM_split ?_ ?_ | refine condM_any ?_ ?_ | refine cw (c0) ?_ | refine cw (c2) ?_ | refine cw (within_c _ _ _) ?_ | refine cw (unless_c _ _) ?_ | intro _) | (simp [*, h0]) | (refine cw_eq (c0) ?_ ?_; (· (simp [*]; done))) | (refine cw_eq (c2) ?_ ?_; (· (simp [*]; done))) | (refine cw_eq (within_c _ _ _) ?_ ?_; (· (simp [*]; done))) | (refine cw_eq (unless_c _ _) ?_ ?_; (· (simp [*]; done))))
    all_goals first
      | exact inI64 (by omega) (by omega)
      | (rename_i hw; exact ka hw hsl)
      | skip
theorem inserted_ok (m : Grid) (hm : GridIn m) (p : Plan) (hp : PlanIn p) (h : (checkS m p).2 = 0) (x : Insert) (hr : x.r.name.size < 1000000) : RealCall Try.prog 17 [aMap m, aPlan p, .agg (cInsert x)] (planP (insertedS m p x)) true := by
  have hf := inserted1_c m hm p hp x hr (aTour m p noDelay)
  unfold planP at *
  have c1 := of108_ok m hm p hp h 52 [.ip (cPlan p) 0, .ip (cMap m) 0, .ip (cInsert x) 0] _ _ _ hf
  clear hf h
  generalize insertedS m p x = X at *
  unfold aMap aPlan cMap cPlan cInsert at *
  refine realcall_intro Try.func17 (by kernel_rfl) rfl (Nat.le_of_ble_eq_true (by kernel_rfl)) ?_
  simp only [Try.results17, Try.ntmps17]
  repeat' (first | (with_reducible first | refine awp_seq ?_ | refine awp_blockS ?_ | refine awp_blockC ?_ | refine awp_blockR ?_ | refine awp_skip ?_ | refine awp_ret ?_ | refine awp_exit ?_ | refine awp_region ?_ | refine awp_condM ?_ | refine And.intro ?_ ?_ | apply gQ_merge | apply gE_merge | exact EqV_w | exact EqE_w | exact EqV_ptr | exact EqE_ptr | exact EqV_msl | exact EqE_msl | exact EqV_agg | exact EqE_agg | exact EqV_fn | exact EqE_fn | exact EqV_gd | exact EqE_gd | refine gM_splitN ?_ ?_ | refine gM_split ?_ ?_ |  refine condM_splitDN ?_ ?_ | refine condM_splitD ?_ ?_ | refine condM_splitN ?_ ?_ | refine condM_split ?_ ?_ | refine condM_any ?_ ?_ | refine cw (c1) ?_ | intro _) | (simp [*]) | (refine cw_eq (c1) ?_ ?_; (· (simp [*]; done))))
end Go.Proofs.Ytiialcomflggcaa

