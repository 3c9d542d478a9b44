/- Contracts of functions for this claim: lemmas alone. -/
import Derived.Test.YtchpdgojiibjcaaP22
import Derived.Test.YtchpdgojiibjcaaLo
set_option linter.unusedSimpArgs false
set_option linter.unusedVariables false
namespace Go.Proofs.Ytchpdgojiibjcaa
open Go Go.Fi
set_option maxRecDepth 20000

theorem newE_ok {m : Grid} {p : Plan} {r : Rider} (h : newE m p r = 0) : (p.riders.length : Int) < 6 ∧ riderE m p.riders r = 0 ∧ r.aboard = false := by
  unfold newE at h
  rw [firstS_all] at h
  have h1 := h (errUnless (decide ((p.riders.length : Int) < 6)) 16) (by simp)
  have h2 := h (riderE m p.riders r) (by simp)
  have h3 := h (errUnless (!r.aboard) 22) (by simp)
  rw [errU_zero (by decide)] at h1 h3
  exact ⟨of_decide_eq_true h1, h2, by simpa using h3⟩
theorem offer_ok {m : Grid} {p : Plan} {r : Rider} (hp : PlanIn p) (h : (checkS m p).2 = 0) (hn : newE m p r = 0) (hs : p.stops.length < 5000) : OfferOk m p r := by
  have h1 := checkS_ok.1 h
  have h2 := newE_ok hn
  have := h1.2.rl
  exact ⟨h1.2.tour h1.1 hp.stops, hp, (riderE_ok h2.2.1).1, by omega, hs⟩
/-- the error of offers -/
def offE (m : Grid) (p : Plan) (r : Rider) : Int := if (checkS m p).2 = 0 then newE m p r else (checkS m p).2
def insertsS (m : Grid) (p : Plan) (r : Rider) : List Offer := if offE m p r = 0 then offersS m p r else []
theorem inserts_c (m : Grid) (hm : GridIn m) (p : Plan) (hp : PlanIn p) (hs : p.stops.length < 5000) (r : Rider) (hr : r.name.size < 1000000) :
    RealCall Try.prog 25 [aMap m, aPlan p, .agg (cRider r)] (.tup [.sl (insertsS m p r).length (cOffers (insertsS m p r)), .int .i64 (offE m p r)]) true := by
  unfold insertsS offE
  by_cases h : (checkS m p).2 = 0
  · rw [if_pos h]
    have hf : RealCall Try.prog 71 [aTour m p noDelay, .ip (cMap m) 0, .ip (cPlan p) 0, .ip (cRider r) 0] (.tup [.sl (if newE m p r = 0 then offersS m p r else []).length (cOffers (if newE m p r = 0 then offersS m p r else [])), .int .i64 (newE m p r)]) true := by
      have c0 := newErr_c m hm p hp r hr
      by_cases hn : newE m p r = 0
      · rw [if_pos hn]
        have ok := offer_ok hp h hn hs
        have c1 := offers_c m p r
        have c2 := collect_c m p r ok
        rw [hn] at c0 ⊢
        generalize itP m p r = I at *
        generalize offersS m p r = L at *
        generalize aTour m p noDelay = T at *
        clear ok h hn
        unfold aMap aPlan cMap cPlan cRider at *
        refine realcall_intro Try.func71 (by kernel_rfl) rfl (Nat.le_of_ble_eq_true (by kernel_rfl)) ?_
        simp only [Try.results71, Try.ntmps71]
        repeat' (first | (with_reducible first | refine awp_seq ?_ | refine awp_blockS ?_ | refine awp_blockC ?_ | refine awp_blockR ?_ | refine awp_skip ?_ | refine awp_ret ?_ | refine awp_exit ?_ | refine awp_region ?_ | refine awp_condM ?_ | refine And.intro ?_ ?_ | apply gQ_merge | apply gE_merge | exact EqV_w | exact EqE_w | exact EqV_ptr | exact EqE_ptr | exact EqV_msl | exact EqE_msl | exact EqV_agg | exact EqE_agg | exact EqV_fn | exact EqE_fn | exact EqV_gd | exact EqE_gd | refine gM_splitN ?_ ?_ | refine gM_split ?_ ?_ |  refine condM_splitDN ?_ ?_ | refine condM_splitD ?_ ?_ | refine condM_splitN ?_ ?_ | refine condM_split ?_ ?_ | refine condM_any ?_ ?_ | refine cw (c0) ?_ | refine cw (c1) ?_ | refine cw (c2) ?_ | intro _) | (simp [*]) | (refine cw_eq (c0) ?_ ?_; (· (simp [*]; done))) | (refine cw_eq (c1) ?_ ?_; (· (simp [*]; done))) | (refine cw_eq (c2) ?_ ?_; (· (simp [*]; done))))
      · rw [if_neg hn]
        generalize newE m p r = E at *
        generalize aTour m p noDelay = T at *
        clear h
        unfold aMap aPlan cMap cPlan cRider at *
        refine realcall_intro Try.func71 (by kernel_rfl) rfl (Nat.le_of_ble_eq_true (by kernel_rfl)) ?_
        simp only [Try.results71, Try.ntmps71]
        repeat' (first | (with_reducible first | refine awp_seq ?_ | refine awp_blockS ?_ | refine awp_blockC ?_ | refine awp_blockR ?_ | refine awp_skip ?_ | refine awp_ret ?_ | refine awp_exit ?_ | refine awp_region ?_ | refine awp_condM ?_ | refine And.intro ?_ ?_ | apply gQ_merge | apply gE_merge | exact EqV_w | exact EqE_w | exact EqV_ptr | exact EqE_ptr | exact EqV_msl | exact EqE_msl | exact EqV_agg | exact EqE_agg | exact EqV_fn | exact EqE_fn | exact EqV_gd | exact EqE_gd | refine gM_splitN ?_ ?_ | refine gM_split ?_ ?_ |  refine condM_splitDN ?_ ?_ | refine condM_splitD ?_ ?_ | refine condM_splitN ?_ ?_ | refine condM_split ?_ ?_ | refine condM_any ?_ ?_ | refine cw (c0) ?_ | intro _) | (simp [*, hn, cOffers]) | (refine cw_eq (c0) ?_ ?_; (· (simp [*]; done))))
    have c1 := of99_ok m hm p hp h 71 [.ip (cMap m) 0, .ip (cPlan p) 0, .ip (cRider r) 0] _ _ _ hf
    clear hf h
    generalize newE m p r = E at *
    generalize (if E = 0 then offersS m p r else []) = L at *
    unfold aMap aPlan cMap cPlan cRider at *
    refine realcall_intro Try.func25 (by kernel_rfl) rfl (Nat.le_of_ble_eq_true (by kernel_rfl)) ?_
    simp only [Try.results25, Try.ntmps25]
    repeat' (first | (with_reducible first | refine awp_seq ?_ | refine awp_blockS ?_ | refine awp_blockC ?_ | refine awp_blockR ?_ | refine awp_skip ?_ | refine awp_ret ?_ | refine awp_exit ?_ | refine awp_region ?_ | refine awp_condM ?_ | refine And.intro ?_ ?_ | apply gQ_merge | apply gE_merge | exact EqV_w | exact EqE_w | exact EqV_ptr | exact EqE_ptr | exact EqV_msl | exact EqE_msl | exact EqV_agg | exact EqE_agg | exact EqV_fn | exact EqE_fn | exact EqV_gd | exact EqE_gd | refine gM_splitN ?_ ?_ | refine gM_split ?_ ?_ |  refine condM_splitDN ?_ ?_ | refine condM_splitD ?_ ?_ | refine condM_splitN ?_ ?_ | refine condM_split ?_ ?_ | refine condM_any ?_ ?_ | refine cw (c1) ?_ | intro _) | (simp [*]) | (refine cw_eq (c1) ?_ ?_; (· (simp [*]; done))))
  · rw [if_neg h, if_neg h]
    have c1 := of99_bad m hm p hp h 71 [.ip (cMap m) 0, .ip (cPlan p) 0, .ip (cRider r) 0]
    generalize (checkS m p).2 = e at *
    unfold aMap aPlan cMap cPlan cRider at *
    refine realcall_intro Try.func25 (by kernel_rfl) rfl (Nat.le_of_ble_eq_true (by kernel_rfl)) ?_
    simp only [Try.results25, Try.ntmps25]
    repeat' (first | (with_reducible first | refine awp_seq ?_ | refine awp_blockS ?_ | refine awp_blockC ?_ | refine awp_blockR ?_ | refine awp_skip ?_ | refine awp_ret ?_ | refine awp_exit ?_ | refine awp_region ?_ | refine awp_condM ?_ | refine And.intro ?_ ?_ | apply gQ_merge | apply gE_merge | exact EqV_w | exact EqE_w | exact EqV_ptr | exact EqE_ptr | exact EqV_msl | exact EqE_msl | exact EqV_agg | exact EqE_agg | exact EqV_fn | exact EqE_fn | exact EqV_gd | exact EqE_gd | refine gM_splitN ?_ ?_ | refine gM_split ?_ ?_ |  refine condM_splitDN ?_ ?_ | refine condM_splitD ?_ ?_ | refine condM_splitN ?_ ?_ | refine condM_split ?_ ?_ | refine condM_any ?_ ?_ | refine cw (c1) ?_ | intro _) | (simp [*, cOffers]) | (refine cw_eq (c1) ?_ ?_; (· (simp [*]; done))))
/-- the best offer, or the error -/
def bestE (m : Grid) (p : Plan) (r : Rider) : Offer × Int := if offE m p r = 0 then (bV (bestS m p r), errUnless (bestS m p r).isSome 12) else ((0, 0, 0), offE m p r)
def bestEP (x : Offer × Int) : PV := .tup [.agg [.int .i64 x.1.1, .int .i64 x.1.2.1, .int .i64 x.1.2.2], .int .i64 x.2]
theorem bestInsert_c (m : Grid) (hm : GridIn m) (p : Plan) (hp : PlanIn p) (hs : p.stops.length < 5000) (r : Rider) (hr : r.name.size < 1000000) :
    RealCall Try.prog 16 [aMap m, aPlan p, .agg (cRider r)] (bestEP (bestE m p r)) true := by
  unfold bestE offE
  by_cases h : (checkS m p).2 = 0
  · rw [if_pos h]
    have hf : RealCall Try.prog 49 [aTour m p noDelay, .ip (cMap m) 0, .ip (cPlan p) 0, .ip (cRider r) 0] (bestEP (if newE m p r = 0 then (bV (bestS m p r), errUnless (bestS m p r).isSome 12) else ((0, 0, 0), newE m p r))) true := by
      have c0 := newErr_c m hm p hp r hr
      by_cases hn : newE m p r = 0
      · rw [if_pos hn]
        have ok := offer_ok hp h hn hs
        have c2 := best_c m p r ok
        rw [hn] at c0
        unfold bestP at c2
        unfold bestEP
        generalize bestS m p r = L at *
        generalize aTour m p noDelay = T at *
        clear ok h hn
        unfold aMap aPlan cMap cPlan cRider at *
        refine realcall_intro Try.func49 (by kernel_rfl) rfl (Nat.le_of_ble_eq_true (by kernel_rfl)) ?_
        simp only [Try.results49, Try.ntmps49]
        repeat' (first | (with_reducible first | refine awp_seq ?_ | refine awp_blockS ?_ | refine awp_blockC ?_ | refine awp_blockR ?_ | refine awp_skip ?_ | refine awp_ret ?_ | refine awp_exit ?_ | refine awp_region ?_ | refine awp_regionD (id := 5) 3 mixed (by decide +kernel) ?_ | refine awp_condM ?_ | refine And.intro ?_ ?_ | apply gQ_merge | apply gE_merge | exact EqV_w | exact EqE_w | exact EqV_ptr | exact EqE_ptr | exact EqV_msl | exact EqE_msl | exact EqV_agg | exact EqE_agg | exact EqV_fn | exact EqE_fn | exact EqV_gd | exact EqE_gd | refine gM_splitN ?_ ?_ | refine gM_split ?_ ?_ |  refine condM_splitDN ?_ ?_ | refine condM_splitD ?_ ?_ | refine condM_splitN ?_ ?_ | refine condM_split ?_ ?_ | refine condM_any ?_ ?_ | refine cw (c0) ?_ | refine cw (c2) ?_ | refine cw (unless_c _ _) ?_ | intro _) | (simp [*]) | (refine cw_eq (c0) ?_ ?_; (· (simp [*]; done))) | (refine cw_eq (c2) ?_ ?_; (· (simp [*]; done))) | (refine cw_eq (unless_c _ _) ?_ ?_; (· (simp [*]; done))))
      · rw [if_neg hn]
        unfold bestEP
        generalize newE m p r = E at *
        generalize aTour m p noDelay = T at *
        clear h
        unfold aMap aPlan cMap cPlan cRider at *
        refine realcall_intro Try.func49 (by kernel_rfl) rfl (Nat.le_of_ble_eq_true (by kernel_rfl)) ?_
        simp only [Try.results49, Try.ntmps49]
        repeat' (first | (with_reducible first | refine awp_seq ?_ | refine awp_blockS ?_ | refine awp_blockC ?_ | refine awp_blockR ?_ | refine awp_skip ?_ | refine awp_ret ?_ | refine awp_exit ?_ | refine awp_region ?_ | refine awp_regionD (id := 5) 3 mixed (by decide +kernel) ?_ | refine awp_condM ?_ | refine And.intro ?_ ?_ | apply gQ_merge | apply gE_merge | exact EqV_w | exact EqE_w | exact EqV_ptr | exact EqE_ptr | exact EqV_msl | exact EqE_msl | exact EqV_agg | exact EqE_agg | exact EqV_fn | exact EqE_fn | exact EqV_gd | exact EqE_gd | refine gM_splitN ?_ ?_ | refine gM_split ?_ ?_ |  refine condM_splitDN ?_ ?_ | refine condM_splitD ?_ ?_ | refine condM_splitN ?_ ?_ | refine condM_split ?_ ?_ | refine condM_any ?_ ?_ | refine cw (c0) ?_ | intro _) | (simp [*, hn]) | (refine cw_eq (c0) ?_ ?_; (· (simp [*]; done))))
    unfold bestEP at *
    have c1 := of104_ok m hm p hp h 49 [.ip (cMap m) 0, .ip (cPlan p) 0, .ip (cRider r) 0] _ _ _ _ _ hf
    clear hf h
    generalize (if newE m p r = 0 then (bV (bestS m p r), errUnless (bestS m p r).isSome 12) else ((0, 0, 0), newE m p r)) = X at *
    obtain ⟨⟨x1, x2, x3⟩, x4⟩ := X
    unfold aMap aPlan cMap cPlan cRider at *
    refine realcall_intro Try.func16 (by kernel_rfl) rfl (Nat.le_of_ble_eq_true (by kernel_rfl)) ?_
    simp only [Try.results16, Try.ntmps16]
    repeat' (first | (with_reducible first | refine awp_seq ?_ | refine awp_blockS ?_ | refine awp_blockC ?_ | refine awp_blockR ?_ | refine awp_skip ?_ | refine awp_ret ?_ | refine awp_exit ?_ | refine awp_region ?_ | refine awp_condM ?_ | refine And.intro ?_ ?_ | apply gQ_merge | apply gE_merge | exact EqV_w | exact EqE_w | exact EqV_ptr | exact EqE_ptr | exact EqV_msl | exact EqE_msl | exact EqV_agg | exact EqE_agg | exact EqV_fn | exact EqE_fn | exact EqV_gd | exact EqE_gd | refine gM_splitN ?_ ?_ | refine gM_split ?_ ?_ |  refine condM_splitDN ?_ ?_ | refine condM_splitD ?_ ?_ | refine condM_splitN ?_ ?_ | refine condM_split ?_ ?_ | refine condM_any ?_ ?_ | refine cw (c1) ?_ | intro _) | (simp [*]) | (refine cw_eq (c1) ?_ ?_; (· (simp [*]; done))))
  · rw [if_neg h, if_neg h]
    have c1 := of104_bad m hm p hp h 49 [.ip (cMap m) 0, .ip (cPlan p) 0, .ip (cRider r) 0]
    unfold bestEP
    generalize (checkS m p).2 = e at *
    unfold aMap aPlan cMap cPlan cRider at *
    refine realcall_intro Try.func16 (by kernel_rfl) rfl (Nat.le_of_ble_eq_true (by kernel_rfl)) ?_
    simp only [Try.results16, Try.ntmps16]
    repeat' (first | (with_reducible first | refine awp_seq ?_ | refine awp_blockS ?_ | refine awp_blockC ?_ | refine awp_blockR ?_ | refine awp_skip ?_ | refine awp_ret ?_ | refine awp_exit ?_ | refine awp_region ?_ | refine awp_condM ?_ | refine And.intro ?_ ?_ | apply gQ_merge | apply gE_merge | exact EqV_w | exact EqE_w | exact EqV_ptr | exact EqE_ptr | exact EqV_msl | exact EqE_msl | exact EqV_agg | exact EqE_agg | exact EqV_fn | exact EqE_fn | exact EqV_gd | exact EqE_gd | refine gM_splitN ?_ ?_ | refine gM_split ?_ ?_ |  refine condM_splitDN ?_ ?_ | refine condM_splitD ?_ ?_ | refine condM_splitN ?_ ?_ | refine condM_split ?_ ?_ | refine condM_any ?_ ?_ | refine cw (c1) ?_ | intro _) | (simp [*]) | (refine cw_eq (c1) ?_ ?_; (· (simp [*]; done))))
end Go.Proofs.Ytchpdgojiibjcaa
namespace Go.Proofs.Ytchpdgojiibjcaa
open Go Go.Fi
set_option maxRecDepth 20000

@[simp] theorem cRiders_nil : cRiders [] = [] := rfl
@[simp] theorem cStops_nil : cStops [] = [] := rfl
@[simp] theorem cOffers_nil : cOffers [] = [] := rfl
/-! ### a rider less, a rider more -/
def decS (j : Int) (s : Stop) : Stop := ⟨if j < s.rider then s.rider - 1 else s.rider, s.out⟩
def woF (j : Int) : List Stop → List Stop
  | [] => []
  | s :: ss => if s.rider = j then woF j ss else decS j s :: woF j ss
@[simp] theorem woF_nil (j : Int) : woF j [] = [] := rfl
theorem woF_snoc (j : Int) (s : Stop) : ∀ l : List Stop, woF j (l ++ [s]) = woF j l ++ (if s.rider = j then [] else [decS j s])
  | [] => by simp only [List.nil_append, woF]
  | x :: l => by
    simp only [List.cons_append, woF, woF_snoc j s l]
    split <;> simp
theorem woF_len (j : Int) : ∀ l : List Stop, (woF j l).length ≤ l.length
  | [] => Nat.le_refl _
  | s :: ss => by have := woF_len j ss; simp only [woF]; split <;> simp <;> omega
def woS (p : Plan) (j : Nat) : Plan := ⟨p.car, p.riders.take j ++ p.riders.drop (j + 1), woF (j : Int) p.stops⟩
def noPlan : Plan := ⟨⟨0, 0, 0⟩, [], []⟩
/-- a plan without a rider, or the error -/
def withoutS (p : Plan) (r : Int) : Plan × Int := if winB r 0 ((p.riders.length : Int) - 1) = true then (if (nth p.riders r.toNat).aboard = true then (noPlan, 22) else (woS p r.toNat, 0)) else (noPlan, 6)
def planP (x : Plan × Int) : PV := .tup [aPlan x.1, .int .i64 x.2]
set_option maxHeartbeats 8000000 in
theorem without1_c (m : Grid) (p : Plan) (hp : PlanIn p) (hso : ∀ i, i < p.stops.length → (nth p.stops i).rider < p.riders.length) (ts ss : List Int) (r : Int) : RealCall Try.prog 45 [.ip (cTour m p ts ss) 0, .ip [.int .i64 r] 0, .ip (cPlan p) 0] (planP (withoutS p r)) true := by
  have hrl := hp.riders
  have hsl := hp.stops
  have c0 := hasRider_c m p ts ss hp.riders r
  clear hp
  unfold withoutS planP
  generalize cTour m p ts ss = T at *
  cases hw : winB r 0 ((p.riders.length : Int) - 1) with
  | false =>
    rw [if_neg (by decide)]
    rw [hw] at c0
    clear hw
    unfold aPlan cPlan noPlan
    refine realcall_intro Try.func45 (by kernel_rfl) rfl (Nat.le_of_ble_eq_true (by kernel_rfl)) ?_
    simp only [Try.results45, Try.ntmps45]
    repeat' (first | (with_reducible first | refine awp_seq ?_ | refine awp_blockS ?_ | refine awp_blockC ?_ | refine awp_blockR ?_ | refine awp_skip ?_ | refine awp_ret ?_ | refine awp_exit ?_ | refine awp_region ?_ | refine awp_regionD (id := 6) 15 mixed (by decide +kernel) ?_ | refine awp_condM ?_ | refine And.intro ?_ ?_ | apply gQ_merge | apply gE_merge | exact EqV_w | exact EqE_w | exact EqV_ptr | exact EqE_ptr | exact EqV_msl | exact EqE_msl | exact EqV_agg | exact EqE_agg | exact EqV_fn | exact EqE_fn | exact EqV_gd | exact EqE_gd | refine gM_splitN ?_ ?_ | refine gM_split ?_ ?_ |  refine condM_splitDN ?_ ?_ | refine condM_splitD ?_ ?_ | refine condM_splitN ?_ ?_ | refine condM_split ?_ ?_ | refine condM_any ?_ ?_ | refine cw (c0) ?_ | intro _) | (simp [*]) | (refine cw_eq (c0) ?_ ?_; (· (simp [*]; done))))
  | true =>
    rw [if_pos rfl]
    rw [hw] at c0
    obtain ⟨j, rfl, hj⟩ := winB_nat hw
    clear hw
    rw [Int.toNat_natCast]
    cases hab : (nth p.riders j).aboard with
    | true =>
      rw [if_pos rfl]
      unfold aPlan cPlan noPlan
      refine realcall_intro Try.func45 (by kernel_rfl) rfl (Nat.le_of_ble_eq_true (by kernel_rfl)) ?_
      simp only [Try.results45, Try.ntmps45]
      repeat' (first | (with_reducible first | refine awp_seq ?_ | refine awp_blockS ?_ | refine awp_blockC ?_ | refine awp_blockR ?_ | refine awp_skip ?_ | refine awp_ret ?_ | refine awp_exit ?_ | refine awp_region ?_ | refine awp_regionD (id := 6) 15 mixed (by decide +kernel) ?_ | refine awp_condM ?_ | refine And.intro ?_ ?_ | apply gQ_merge | apply gE_merge | exact EqV_w | exact EqE_w | exact EqV_ptr | exact EqE_ptr | exact EqV_msl | exact EqE_msl | exact EqV_agg | exact EqE_agg | exact EqV_fn | exact EqE_fn | exact EqV_gd | exact EqE_gd | refine gM_splitN ?_ ?_ | refine gM_split ?_ ?_ |  refine condM_splitDN ?_ ?_ | refine condM_splitD ?_ ?_ | refine condM_splitN ?_ ?_ | refine condM_split ?_ ?_ | refine condM_any ?_ ?_ | refine cw (c0) ?_ | intro _) | (simp [*]) | (refine cw_eq (c0) ?_ ?_; (· (simp [*]; done))))
      all_goals omega
    | false =>
      rw [if_neg (by decide)]
      have hjl : j ≤ p.riders.length := by omega
      have c1 := concat_c (p.riders.take j) (p.riders.drop (j + 1)) (by rw [take_len _ _ hjl]; omega) (by rw [List.length_drop]; omega)
      have hl1 : (p.riders.take j ++ p.riders.drop (j + 1)).length = p.riders.length - 1 := by rw [List.length_append, take_len _ _ hjl, List.length_drop]; omega
      have hl2 : (p.riders.drop (j + 1)).length = p.riders.length - (j + 1) := List.length_drop
      rw [take_len _ _ hjl, hl1, hl2] at c1
      have e2 : List.drop ((j + 1) * 8) (cRiders p.riders) = cRiders (p.riders.drop (j + 1)) := flatMap_drop2 cRider 8 (fun _ => rfl) _ _
      have e3 : List.take ((p.riders.length - (j + 1)) * 8) (cRiders (p.riders.drop (j + 1))) = cRiders (p.riders.drop (j + 1)) := by
        rw [List.take_of_length_le]; rw [cRiders_len, hl2]; exact Nat.le_refl _
      unfold woS aPlan cPlan
      dsimp only
      rw [hl1]
      generalize hA : p.riders.take j ++ p.riders.drop (j + 1) = A at *
      clear hA hl2
      refine realcall_intro Try.func45 (by kernel_rfl) rfl (Nat.le_of_ble_eq_true (by kernel_rfl)) ?_
      simp only [Try.results45, Try.ntmps45]
      repeat' (first | (with_reducible first | refine awp_seq ?_ | refine awp_blockS ?_ | refine awp_blockC ?_ | refine awp_blockR ?_ | refine awp_skip ?_ | refine awp_ret ?_ | refine awp_exit ?_ | refine awp_region ?_ | refine awp_regionD (id := 6) 15 mixed (by decide +kernel) ?_ | refine awp_condM ?_ | refine And.intro ?_ ?_ | apply gQ_merge | apply gE_merge | exact EqV_w | exact EqE_w | exact EqV_ptr | exact EqE_ptr | exact EqV_msl | exact EqE_msl | exact EqV_agg | exact EqE_agg | exact EqV_fn | exact EqE_fn | exact EqV_gd | exact EqE_gd | refine gM_splitN ?_ ?_ | refine gM_split ?_ ?_ |  refine condM_splitDN ?_ ?_ | refine condM_splitD ?_ ?_ | refine condM_splitN ?_ ?_ | refine condM_split ?_ ?_ | refine condM_any ?_ ?_ | refine cw (c0) ?_ | refine cw (c1) ?_ | intro _) | (simp [*, hj, hab, e2, e3]) | (refine cw_eq (c0) ?_ ?_; (· (simp [*]; done))) | (refine cw_eq (c1) ?_ ?_; (· (simp [*]; done))))
      all_goals try first | exact inI64 (by omega) (by omega) | omega
      clear c0 c1 e2 e3
      refine awp_for4 4 (fun (k : Nat) => k ≤ p.stops.length) [1, 4, 7, 39, 40] (fun (k : Nat) => [(41, .w false false (.int .i64 k))]) [0] (fun (k : Nat) => [(2, [.w false false (.int .i64 p.car.at_), .w false false (.int .i64 p.car.time), .w false false (.int .i64 p.car.seats), .w true false (.sl (p.riders.length - 1) (cRiders A)), .msl 3 ((woF (j : Int) (p.stops.take k)).length * 2) 2 0 (woF (j : Int) (p.stops.take k)).length]), (3, sA (woF (j : Int) (p.stops.take k)))]) (fun (k : Nat) => p.stops.length - k) (fun (_u : Unit) => True) [4, 7] (fun (_u : Unit) => []) [0] (fun (_u : Unit) => [(2, [.w false false (.int .i64 p.car.at_), .w false false (.int .i64 p.car.time), .w false false (.int .i64 p.car.seats), .w true false (.sl (p.riders.length - 1) (cRiders A)), .msl 3 ((woF (j : Int) p.stops).length * 2) 2 0 (woF (j : Int) p.stops).length]), (3, sA (woF (j : Int) p.stops))]) (0) (Nat.zero_le _) (le_gen [] (by simp) (by simp)) (fun k hk => ?_) (fun _u hf => ?_)
      · by_cases hlt : k < p.stops.length
        · have hs := woF_snoc (j : Int) (nth p.stops k) (p.stops.take k)
          rw [← take_succ_nth p.stops k hlt] at hs
          have hwl := woF_len (j : Int) (p.stops.take k)
          rw [take_len _ _ hk] at hwl
          unfold decS at hs
          have hsk := hso k hlt
          clear hso
          generalize hst : nth p.stops k = s at *
          obtain ⟨sr, so⟩ := s
          dsimp only at hs hsk
          by_cases h1 : sr = (j : Int)
          · rw [if_pos h1, List.append_nil] at hs
            have ks := keep hs
            clear hs
            repeat' (first | (with_reducible first | refine awp_seq ?_ | refine awp_blockS ?_ | refine awp_blockC ?_ | refine awp_blockR ?_ | refine awp_skip ?_ | refine awp_ret ?_ | refine awp_exit ?_ | refine awp_region ?_ | refine awp_regionD (id := 6) 15 mixed (by decide +kernel) ?_ | refine awp_condM ?_ | refine And.intro ?_ ?_ | apply gQ_merge | apply gE_merge | exact EqV_w | exact EqE_w | exact EqV_ptr | exact EqE_ptr | exact EqV_msl | exact EqE_msl | exact EqV_agg | exact EqE_agg | exact EqV_fn | exact EqE_fn | exact EqV_gd | exact EqE_gd | refine gM_splitN ?_ ?_ | refine gM_split ?_ ?_ |  refine condM_splitDN ?_ ?_ | refine condM_splitD ?_ ?_ | refine condM_splitN ?_ ?_ | refine condM_split ?_ ?_ | refine condM_any ?_ ?_ | intro _) | (simp [*, hlt, h1, cStop]))
            all_goals try first | exact inI64 (by omega) (by omega) | omega
            all_goals (refine loopK_normal _ _ _ _ _ (k + 1) _ ?_ (by first | omega | (dsimp only; omega) | (simp; omega)) ?_; (· omega); (refine le_gen [] ?_ ?_ <;> first | trivial | (simp [*, show woF (j : Int) (p.stops.take (k + 1)) = _ from ks]; done)))
          · rw [if_neg h1] at hs
            by_cases h2 : (j : Int) < sr
            · rw [if_pos h2] at hs
              have ks := keep hs
              clear hs
              repeat' (first | (with_reducible first | refine awp_seq ?_ | refine awp_blockS ?_ | refine awp_blockC ?_ | refine awp_blockR ?_ | refine awp_skip ?_ | refine awp_ret ?_ | refine awp_exit ?_ | refine awp_region ?_ | refine awp_regionD (id := 6) 15 mixed (by decide +kernel) ?_ | refine awp_condM ?_ | refine And.intro ?_ ?_ | apply gQ_merge | apply gE_merge | exact EqV_w | exact EqE_w | exact EqV_ptr | exact EqE_ptr | exact EqV_msl | exact EqE_msl | exact EqV_agg | exact EqE_agg | exact EqV_fn | exact EqE_fn | exact EqV_gd | exact EqE_gd | refine gM_splitN ?_ ?_ | refine gM_split ?_ ?_ |  refine condM_splitDN ?_ ?_ | refine condM_splitD ?_ ?_ | refine condM_splitN ?_ ?_ | refine condM_split ?_ ?_ | refine condM_any ?_ ?_ | intro _) | (simp [*, hlt, h1, h2, cStop]))
              all_goals try first | exact inI64 (by omega) (by omega) | omega
              all_goals (refine loopK_normal _ _ _ _ _ (k + 1) _ ?_ (by first | omega | (dsimp only; omega) | (simp; omega)) ?_; (· omega); (refine le_gen [] ?_ ?_ <;> first | trivial | (simp [*, show woF (j : Int) (p.stops.take (k + 1)) = _ from ks, Nat.add_mul]; done)))
            · rw [if_neg h2] at hs
              have ks := keep hs
              clear hs
              repeat' (first | (with_reducible first | refine awp_seq ?_ | refine awp_blockS ?_ | refine awp_blockC ?_ | refine awp_blockR ?_ | refine awp_skip ?_ | refine awp_ret ?_ | refine awp_exit ?_ | refine awp_region ?_ | refine awp_regionD (id := 6) 15 mixed (by decide +kernel) ?_ | refine awp_condM ?_ | refine And.intro ?_ ?_ | apply gQ_merge | apply gE_merge | exact EqV_w | exact EqE_w | exact EqV_ptr | exact EqE_ptr | exact EqV_msl | exact EqE_msl | exact EqV_agg | exact EqE_agg | exact EqV_fn | exact EqE_fn | exact EqV_gd | exact EqE_gd | refine gM_splitN ?_ ?_ | refine gM_split ?_ ?_ |  refine condM_splitDN ?_ ?_ | refine condM_splitD ?_ ?_ | refine condM_splitN ?_ ?_ | refine condM_split ?_ ?_ | refine condM_any ?_ ?_ | intro _) | (simp [*, hlt, h1, h2, cStop]))
              all_goals try first | exact inI64 (by omega) (by omega) | omega
              all_goals (refine loopK_normal _ _ _ _ _ (k + 1) _ ?_ (by first | omega | (dsimp only; omega) | (simp; omega)) ?_; (· omega); (refine le_gen [] ?_ ?_ <;> first | trivial | (simp [*, show woF (j : Int) (p.stops.take (k + 1)) = _ from ks, Nat.add_mul]; done)))
        · have hke : k = p.stops.length := by omega
          subst hke
          repeat' (first | (with_reducible first | refine awp_seq ?_ | refine awp_blockS ?_ | refine awp_blockC ?_ | refine awp_blockR ?_ | refine awp_skip ?_ | refine awp_ret ?_ | refine awp_exit ?_ | refine awp_region ?_ | refine awp_regionD (id := 6) 15 mixed (by decide +kernel) ?_ | refine awp_condM ?_ | refine And.intro ?_ ?_ | apply gQ_merge | apply gE_merge | exact EqV_w | exact EqE_w | exact EqV_ptr | exact EqE_ptr | exact EqV_msl | exact EqE_msl | exact EqV_agg | exact EqE_agg | exact EqV_fn | exact EqE_fn | exact EqV_gd | exact EqE_gd | refine gM_splitN ?_ ?_ | refine gM_split ?_ ?_ |  refine condM_splitDN ?_ ?_ | refine condM_splitD ?_ ?_ | refine condM_splitN ?_ ?_ | refine condM_split ?_ ?_ | refine condM_any ?_ ?_ | intro _) | (simp [*]))
          all_goals (refine finW_intro () ?_ ?_; (· trivial); (refine le_gen [] ?_ ?_ <;> first | trivial | (simp [*, List.take_length]; done)))
      · repeat' (first | (with_reducible first | refine awp_seq ?_ | refine awp_blockS ?_ | refine awp_blockC ?_ | refine awp_blockR ?_ | refine awp_skip ?_ | refine awp_ret ?_ | refine awp_exit ?_ | refine awp_region ?_ | refine awp_regionD (id := 6) 15 mixed (by decide +kernel) ?_ | refine awp_condM ?_ | refine And.intro ?_ ?_ | apply gQ_merge | apply gE_merge | exact EqV_w | exact EqE_w | exact EqV_ptr | exact EqE_ptr | exact EqV_msl | exact EqE_msl | exact EqV_agg | exact EqE_agg | exact EqV_fn | exact EqE_fn | exact EqV_gd | exact EqE_gd | refine gM_splitN ?_ ?_ | refine gM_split ?_ ?_ |  refine condM_splitDN ?_ ?_ | refine condM_splitD ?_ ?_ | refine condM_splitN ?_ ?_ | refine condM_split ?_ ?_ | refine condM_any ?_ ?_ | intro _) | (simp [*]))
end Go.Proofs.Ytchpdgojiibjcaa
namespace Go.Proofs.Ytchpdgojiibjcaa
open Go Go.Fi
set_option maxRecDepth 20000

theorem without_ok (m : Grid) (hm : GridIn m) (p : Plan) (hp : PlanIn p) (h : (checkS m p).2 = 0) (r : Int) : RealCall Try.prog 15 [aMap m, aPlan p, .int .i64 r] (planP (withoutS p r)) true := by
  have po := (checkS_ok.1 h).2.tour (checkS_ok.1 h).1 hp.stops
  have hf : RealCall Try.prog 45 [aTour m p noDelay, .ip [.int .i64 r] 0, .ip (cPlan p) 0] (planP (withoutS p r)) true := without1_c m p hp (fun i hi => (po.go.stops i hi).2) _ _ r
  unfold planP at *
  have c1 := of108_ok m hm p hp h 45 [.ip [.int .i64 r] 0, .ip (cPlan p) 0] _ _ _ hf
  clear hf h po
  generalize withoutS p r = X at *
  unfold aMap aPlan cPlan at *
  refine realcall_intro Try.func15 (by kernel_rfl) rfl (Nat.le_of_ble_eq_true (by kernel_rfl)) ?_
  simp only [Try.results15, Try.ntmps15]
  repeat' (first | (with_reducible first | refine awp_seq ?_ | refine awp_blockS ?_ | refine awp_blockC ?_ | refine awp_blockR ?_ | refine awp_skip ?_ | refine awp_ret ?_ | refine awp_exit ?_ | refine awp_region ?_ | refine awp_condM ?_ | refine And.intro ?_ ?_ | apply gQ_merge | apply gE_merge | exact EqV_w | exact EqE_w | exact EqV_ptr | exact EqE_ptr | exact EqV_msl | exact EqE_msl | exact EqV_agg | exact EqE_agg | exact EqV_fn | exact EqE_fn | exact EqV_gd | exact EqE_gd | refine gM_splitN ?_ ?_ | refine gM_split ?_ ?_ |  refine condM_splitDN ?_ ?_ | refine condM_splitD ?_ ?_ | refine condM_splitN ?_ ?_ | refine condM_split ?_ ?_ | refine condM_any ?_ ?_ | refine cw (c1) ?_ | intro _) | (simp [*]) | (refine cw_eq (c1) ?_ ?_; (· (simp [*]; done))))
theorem without_bad (m : Grid) (hm : GridIn m) (p : Plan) (hp : PlanIn p) (h : (checkS m p).2 ≠ 0) (r : Int) : RealCall Try.prog 15 [aMap m, aPlan p, .int .i64 r] (planP (noPlan, (checkS m p).2)) true := by
  have c1 := of108_bad m hm p hp h 45 [.ip [.int .i64 r] 0, .ip (cPlan p) 0]
  generalize (checkS m p).2 = e at *
  unfold planP noPlan
  unfold aMap aPlan cPlan at *
  refine realcall_intro Try.func15 (by kernel_rfl) rfl (Nat.le_of_ble_eq_true (by kernel_rfl)) ?_
  simp only [Try.results15, Try.ntmps15]
  repeat' (first | (with_reducible first | refine awp_seq ?_ | refine awp_blockS ?_ | refine awp_blockC ?_ | refine awp_blockR ?_ | refine awp_skip ?_ | refine awp_ret ?_ | refine awp_exit ?_ | refine awp_region ?_ | refine awp_condM ?_ | refine And.intro ?_ ?_ | apply gQ_merge | apply gE_merge | exact EqV_w | exact EqE_w | exact EqV_ptr | exact EqE_ptr | exact EqV_msl | exact EqE_msl | exact EqV_agg | exact EqE_agg | exact EqV_fn | exact EqE_fn | exact EqV_gd | exact EqE_gd | refine gM_splitN ?_ ?_ | refine gM_split ?_ ?_ |  refine condM_splitDN ?_ ?_ | refine condM_splitD ?_ ?_ | refine condM_splitN ?_ ?_ | refine condM_split ?_ ?_ | refine condM_any ?_ ?_ | refine cw (c1) ?_ | intro _) | (simp [*]) | (refine cw_eq (c1) ?_ ?_; (· (simp [*]; done))))
structure Insert where
  r : Rider
  inn : Int
  out : Int
def cInsert (x : Insert) : List PV := [.str x.r.name, .int .i64 x.r.frm, .int .i64 x.r.to, .int .i64 x.r.seats, .int .i64 x.r.detour, .int .i64 x.r.ready, .bool x.r.aboard, .int .i64 x.r.ridden, .int .i64 x.inn, .int .i64 x.out]
/-- the error of the stops of a rider more -/
def insE (p : Plan) (x : Insert) : Int := errUnless (winB x.inn 0 (p.stops.length : Int) && winB x.out (x.inn + 1) ((p.stops.length : Int) + 1)) 2
def insPlan (p : Plan) (x : Insert) : Plan := insS p x.r x.inn.toNat x.out.toNat
def insertedS (m : Grid) (p : Plan) (x : Insert) : Plan × Int := if firstS [newE m p x.r, insE p x] = 0 then (insPlan p x, 0) else (noPlan, firstS [newE m p x.r, insE p x])
theorem insE_zero {p : Plan} {x : Insert} (h : insE p x = 0) : ∃ i o : Nat, x.inn = (i : Int) ∧ x.out = (o : Int) ∧ i < o ∧ o ≤ p.stops.length + 1 := by
  unfold insE at h
  rw [errU_zero (by decide), Bool.and_eq_true, winB_iff, winB_iff] at h
  exact ⟨x.inn.toNat, x.out.toNat, by omega, by omega, by omega, by omega⟩
theorem insAdd {p : Plan} {x : Insert} (h : winB x.inn 0 (p.stops.length : Int) = true) (hs : p.stops.length < 10000) : inI .i64 (x.inn + 1) := by
  rw [winB_iff] at h
  exact inI64 (by omega) (by omega)
set_option maxHeartbeats 4000000 in
theorem inserted1_c (m : Grid) (hm : GridIn m) (p : Plan) (hp : PlanIn p) (x : Insert) (hr : x.r.name.size < 1000000) (T : PV) :
    RealCall Try.prog 67 [T, .ip (cPlan p) 0, .ip (cMap m) 0, .ip (cInsert x) 0] (planP (insertedS m p x)) true := by
  have hsl := hp.stops
  have c0 := newErr_c m hm p hp x.r hr
  have c1 := inserted_c p hp x.r
  have hz := fun h => insE_zero (p := p) (x := x) h
  have ha := insAdd (p := p) (x := x)
  unfold insertedS
  have hE : insE p x = errUnless (winB x.inn 0 (p.stops.length : Int) && winB x.out (x.inn + 1) ((p.stops.length : Int) + 1)) 2 := rfl
  have c2 := first2_c (newE m p x.r) (insE p x)
  have hz2 : firstS [newE m p x.r, insE p x] = 0 → insE p x = 0 := fun h => firstS_zero h _ (by simp)
  generalize hF : firstS [newE m p x.r, insE p x] = F at *
  rw [hE] at c2
  have kh := keep hz
  have kz := keep hz2
  have ka := keep ha
  clear hm hp hz hz2 ha hF hE
  generalize newE m p x.r = E at *
  have kc := keep c1
  clear c1
  by_cases h0 : F = 0
  · subst h0
    rw [if_pos rfl]
    obtain ⟨i, o, hi, ho, hio, hoo⟩ := kh (kz rfl)
    have c1 := kc i o hio hoo
    have e : insPlan p x = insS p x.r i o := by unfold insPlan; rw [hi, ho]; rfl
    rw [e]
    clear kh kz kc e
    generalize insS p x.r i o = Q at *
    obtain ⟨r, xi, xo⟩ := x
    dsimp only at hi ho c0 c1 c2 ka hr
    subst hi
    subst ho
    unfold planP aMap aPlan cMap cPlan cRider cInsert at *
    refine realcall_intro Try.func67 (by kernel_rfl) rfl (Nat.le_of_ble_eq_true (by kernel_rfl)) ?_
    simp only [Try.results67, Try.ntmps67]
    repeat' (first | (with_reducible first | refine awp_seq ?_ | refine awp_blockS ?_ | refine awp_blockC ?_ | refine awp_blockR ?_ | refine awp_skip ?_ | refine awp_ret ?_ | refine awp_exit ?_ | refine awp_region ?_ | refine awp_regionD (id := 2) 23 mixed (by decide +kernel) ?_ | refine awp_condM ?_ | refine And.intro ?_ ?_ | apply gQ_merge | apply gE_merge | exact EqV_w | exact EqE_w | exact EqV_ptr | exact EqE_ptr | exact EqV_msl | exact EqE_msl | exact EqV_agg | exact EqE_agg | exact EqV_fn | exact EqE_fn | exact EqV_gd | exact EqE_gd | refine gM_splitN ?_ ?_ | refine gM_split ?_ ?_ |  refine condM_splitDN ?_ ?_ | refine condM_splitD ?_ ?_ | refine condM_splitN ?_ ?_ | refine condM_split ?_ ?_ | refine condM_any ?_ ?_ | refine cw (c0) ?_ | refine cw (c1) ?_ | refine cw (c2) ?_ | refine cw (within_c _ _ _) ?_ | refine cw (unless_c _ _) ?_ | intro _) | (simp [*]) | (refine cw_eq (c0) ?_ ?_; (· (simp [*]; done))) | (refine cw_eq (c1) ?_ ?_; (· (simp [*]; done))) | (refine cw_eq (c2) ?_ ?_; (· (simp [*]; done))) | (refine cw_eq (within_c _ _ _) ?_ ?_; (· (simp [*]; done))) | (refine cw_eq (unless_c _ _) ?_ ?_; (· (simp [*]; done))))
    all_goals first
      | exact inI64 (by omega) (by omega)
      | omega
      | skip
  · rw [if_neg h0]
    clear kh kz kc
    obtain ⟨r, xi, xo⟩ := x
    dsimp only at c0 c2 ka hr
    unfold planP noPlan aMap aPlan cMap cPlan cRider cInsert at *
    refine realcall_intro Try.func67 (by kernel_rfl) rfl (Nat.le_of_ble_eq_true (by kernel_rfl)) ?_
    simp only [Try.results67, Try.ntmps67]
    repeat' (first | (with_reducible first | refine awp_seq ?_ | refine awp_blockS ?_ | refine awp_blockC ?_ | refine awp_blockR ?_ | refine awp_skip ?_ | refine awp_ret ?_ | refine awp_exit ?_ | refine awp_region ?_ | refine awp_regionD (id := 2) 23 mixed (by decide +kernel) ?_ | refine awp_condM ?_ | refine And.intro ?_ ?_ | apply gQ_merge | apply gE_merge | exact EqV_w | exact EqE_w | exact EqV_ptr | exact EqE_ptr | exact EqV_msl | exact EqE_msl | exact EqV_agg | exact EqE_agg | exact EqV_fn | exact EqE_fn | exact EqV_gd | exact EqE_gd | refine gM_splitN ?_ ?_ | refine gM_split ?_ ?_ |  refine condM_splitDN ?_ ?_ | refine condM_splitD ?_ ?_ | refine condM_splitN ?_ ?_ | refine condM_split ?_ ?_ | refine condM_any ?_ ?_ | refine cw (c0) ?_ | refine cw (c2) ?_ | refine cw (within_c _ _ _) ?_ | refine cw (unless_c _ _) ?_ | intro _) | (simp [*, h0]) | (refine cw_eq (c0) ?_ ?_; (· (simp [*]; done))) | (refine cw_eq (c2) ?_ ?_; (· (simp [*]; done))) | (refine cw_eq (within_c _ _ _) ?_ ?_; (· (simp [*]; done))) | (refine cw_eq (unless_c _ _) ?_ ?_; (· (simp [*]; done))))
    all_goals first
      | exact inI64 (by omega) (by omega)
      | (rename_i hw; exact ka hw hsl)
      | skip
theorem inserted_ok (m : Grid) (hm : GridIn m) (p : Plan) (hp : PlanIn p) (h : (checkS m p).2 = 0) (x : Insert) (hr : x.r.name.size < 1000000) : RealCall Try.prog 24 [aMap m, aPlan p, .agg (cInsert x)] (planP (insertedS m p x)) true := by
  have hf := inserted1_c m hm p hp x hr (aTour m p noDelay)
  unfold planP at *
  have c1 := of108_ok m hm p hp h 67 [.ip (cPlan p) 0, .ip (cMap m) 0, .ip (cInsert x) 0] _ _ _ hf
  clear hf h
  generalize insertedS m p x = X at *
  unfold aMap aPlan cMap cPlan cInsert at *
  refine realcall_intro Try.func24 (by kernel_rfl) rfl (Nat.le_of_ble_eq_true (by kernel_rfl)) ?_
  simp only [Try.results24, Try.ntmps24]
  repeat' (first | (with_reducible first | refine awp_seq ?_ | refine awp_blockS ?_ | refine awp_blockC ?_ | refine awp_blockR ?_ | refine awp_skip ?_ | refine awp_ret ?_ | refine awp_exit ?_ | refine awp_region ?_ | refine awp_condM ?_ | refine And.intro ?_ ?_ | apply gQ_merge | apply gE_merge | exact EqV_w | exact EqE_w | exact EqV_ptr | exact EqE_ptr | exact EqV_msl | exact EqE_msl | exact EqV_agg | exact EqE_agg | exact EqV_fn | exact EqE_fn | exact EqV_gd | exact EqE_gd | refine gM_splitN ?_ ?_ | refine gM_split ?_ ?_ |  refine condM_splitDN ?_ ?_ | refine condM_splitD ?_ ?_ | refine condM_splitN ?_ ?_ | refine condM_split ?_ ?_ | refine condM_any ?_ ?_ | refine cw (c1) ?_ | intro _) | (simp [*]) | (refine cw_eq (c1) ?_ ?_; (· (simp [*]; done))))
theorem inserted_bad (m : Grid) (hm : GridIn m) (p : Plan) (hp : PlanIn p) (h : (checkS m p).2 ≠ 0) (x : Insert) : RealCall Try.prog 24 [aMap m, aPlan p, .agg (cInsert x)] (planP (noPlan, (checkS m p).2)) true := by
  have c1 := of108_bad m hm p hp h 67 [.ip (cPlan p) 0, .ip (cMap m) 0, .ip (cInsert x) 0]
  generalize (checkS m p).2 = e at *
  unfold planP noPlan
  unfold aMap aPlan cMap cPlan cInsert at *
  refine realcall_intro Try.func24 (by kernel_rfl) rfl (Nat.le_of_ble_eq_true (by kernel_rfl)) ?_
  simp only [Try.results24, Try.ntmps24]
  repeat' (first | (with_reducible first | refine awp_seq ?_ | refine awp_blockS ?_ | refine awp_blockC ?_ | refine awp_blockR ?_ | refine awp_skip ?_ | refine awp_ret ?_ | refine awp_exit ?_ | refine awp_region ?_ | refine awp_condM ?_ | refine And.intro ?_ ?_ | apply gQ_merge | apply gE_merge | exact EqV_w | exact EqE_w | exact EqV_ptr | exact EqE_ptr | exact EqV_msl | exact EqE_msl | exact EqV_agg | exact EqE_agg | exact EqV_fn | exact EqE_fn | exact EqV_gd | exact EqE_gd | refine gM_splitN ?_ ?_ | refine gM_split ?_ ?_ |  refine condM_splitDN ?_ ?_ | refine condM_splitD ?_ ?_ | refine condM_splitN ?_ ?_ | refine condM_split ?_ ?_ | refine condM_any ?_ ?_ | refine cw (c1) ?_ | intro _) | (simp [*]) | (refine cw_eq (c1) ?_ ?_; (· (simp [*]; done))))
end Go.Proofs.Ytchpdgojiibjcaa
