/- Contracts of functions for this claim: lemmas alone. -/
import Derived.Test.YtiialcomflggcaaP104
import Derived.Test.YtiialcomflggcaaP22
import Derived.Test.YtiialcomflggcaaLac
set_option linter.unusedSimpArgs false
set_option linter.unusedVariables false
namespace Go.Proofs.Ytiialcomflggcaa
open Go Go.Fi
set_option maxRecDepth 20000

/-! ### all orders, as the program goes through them -/
def pickL (m : Grid) (p : Plan) (acc : Option (List Stop × Int)) (Q : List (List Stop)) : Option (List Stop × Int) := Q.foldl (pickO (KS m p) (CS m p)) acc
def accR (m : Grid) (p : Plan) (n : Nat) (l : List Stop) (acc : Option (List Stop × Int)) : Nat → Option (List Stop × Int)
  | 0 => acc
  | i + 1 => if elemB l (nextS p.riders l i) then accR m p n l acc i else pickL m p (accR m p n l acc i) (ordersS p.riders n (l ++ [nextS p.riders l i]))
theorem accR_end (m : Grid) (p : Plan) (n : Nat) (l : List Stop) (acc : Option (List Stop × Int)) : accR m p n l acc p.riders.length = pickL m p acc (ordersS p.riders (n + 1) l) := by
  have key : ∀ i, accR m p n l acc i = pickL m p acc ((List.range i).flatMap fun i => if elemB l (nextS p.riders l i) then [] else ordersS p.riders n (l ++ [nextS p.riders l i])) := by
    intro i
    induction i with
    | zero => rfl
    | succ i ih =>
      rw [List.range_succ, List.flatMap_append]
      unfold pickL at ih ⊢
      rw [List.foldl_append, ← ih, accR]
      by_cases h : elemB l (nextS p.riders l i) = true
      · rw [if_pos h]; simp [h]
      · rw [if_neg h]
        have h' : elemB l (nextS p.riders l i) = false := by simpa using h
        simp [h', pickL]
  rw [key, orders_succ]
def stA2 (S : List Stop) : List AV := (cStops S).map (AV.w false false)
@[simp] theorem stA2_len (S : List Stop) : (stA2 S).length = S.length * 2 := by simp [stA2]
def outA (p : Plan) : Option (List Stop × Int) → List AV
  | none => [.w false false (.int .i64 p.car.at_), .w false false (.int .i64 p.car.time), .w false false (.int .i64 p.car.seats), .w true false (.sl p.riders.length (cRiders p.riders)), .w true true (.sl 0 [])]
  | some (q, _) => [.w false false (.int .i64 p.car.at_), .w false false (.int .i64 p.car.time), .w false false (.int .i64 p.car.seats), .w true false (.sl p.riders.length (cRiders p.riders)), .w true false (.sl q.length (cStops q))]
@[simp] theorem stA2_le (D : List Nat) (h : Heap) (n n' : Nat) (S : List Stop) : cellsLe D h n n' (stA2 S) (stA2 S) := cellsLe_w _ _ _
@[simp] theorem outA_le (D : List Nat) (h : Heap) (n n' : Nat) (p : Plan) (b : Option (List Stop × Int)) : cellsLe D h n n' (outA p b) (outA p b) := by
  rcases b with _ | ⟨q, c⟩ <;> exact cellsLe_refl (by simp [outA, AV.lt.ltL, AV.lt])
@[simp high] theorem stA2_frz (h : Heap) (d : Nat) (S : List Stop) : (stA2 S).mapM (frz h d) = some (cStops S) := mapM_frz h d false false _
@[simp] theorem stA2_lt (n : Nat) (S : List Stop) : AV.lt.ltL n (stA2 S) = true := by
  unfold stA2
  induction cStops S with
  | nil => rfl
  | cons x l ih => simp only [List.map_cons, AV.lt.ltL, AV.lt, ih, Bool.and_self]
@[simp] theorem outA_lt (n : Nat) (p : Plan) (b : Option (List Stop × Int)) : AV.lt.ltL n (outA p b) = true := by
  rcases b with _ | ⟨q, c⟩ <;> simp [outA, AV.lt.ltL, AV.lt]
theorem stA2_app (S T : List Stop) : stA2 (S ++ T) = stA2 S ++ stA2 T := by simp [stA2, cStops]
theorem stA2_take (S : List Stop) (k : Nat) : (stA2 S).take (k * 2) = stA2 (S.take k) := by unfold stA2; rw [← List.map_take, cStops_take]
theorem stA2_drop : ∀ (S : List Stop) (k : Nat), (stA2 S).drop (k * 2) = stA2 (S.drop k)
  | [], k => by simp [stA2, cStops]
  | s :: S, 0 => by simp
  | s :: S, k + 1 => by
    have ih := stA2_drop S k
    rw [show s :: S = [s] ++ S from rfl, stA2_app, show (k + 1) * 2 = 2 + k * 2 by omega, ← List.drop_drop]
    have e : (stA2 [s] ++ stA2 S).drop 2 = stA2 S := by simp [stA2, cStops, cStop]
    rw [e, ih]; rfl
theorem ins_stops {l T : List Stop} (h2 : T.take l.length = l) (h3 : l.length ≤ T.length) (i : Int) (b : Bool) :
    (if l.length * 2 = T.length * 2 then stA2 T ++ [AV.w false false (.int .i64 i), AV.w false false (.bool b)] else (stA2 T).take (l.length * 2) ++ AV.w false false (.int .i64 i) :: AV.w false false (.bool b) :: (stA2 T).drop (l.length * 2 + 2)) =
      stA2 (l ++ [⟨i, b⟩] ++ T.drop (l.length + 1)) := by
  have e1 : stA2 [⟨i, b⟩] = [AV.w false false (.int .i64 i), AV.w false false (.bool b)] := by simp [stA2, cStops, cStop]
  rw [stA2_app, stA2_app, e1]
  by_cases h : l.length * 2 = T.length * 2
  · have e : T.take l.length = T := List.take_of_length_le (by omega)
    rw [e] at h2
    rw [if_pos h, ← h2, List.drop_eq_nil_of_le (by omega)]
    simp [stA2, cStops]
  · rw [if_neg h, stA2_take, h2, show l.length * 2 + 2 = (l.length + 1) * 2 by omega, stA2_drop]
    simp
theorem insA_take (l T : List Stop) (x : Stop) : (l ++ [x] ++ T).take (l.length + 1) = l ++ [x] := by
  have e : l.length + 1 = (l ++ [x]).length := by simp
  rw [e, List.take_left]
def moreCaps (p : Plan) : List AV := [.ptr 8 1 0, .w false false (.ip (cPlan p) 0), .ptr 7 1 0, .ptr 9 1 0]
def ordH (m : Grid) (p : Plan) (lp : Nat) (acc : Option (List Stop × Int)) (S : List Stop) (j : Nat) : Heap :=
  [(10, stA2 S), (8, [.msl 10 (S.length * 2) 2 0 j]), (4, outA p acc), (5, [.w false false (.int .i64 (ordCo acc))]), (6, [.w false false (.bool acc.isSome)]), (9, [.fn 74 (moreCaps p)]), (7, [.w false false (.yl lp)]), (0, [.w false false (.sl m.length (cRows m))]), (1, (cPlan p).map (AV.w false false)),
    (2, [.w false false (.int .i64 0), .w false false (.int .i64 0), .w false false (.int .i64 0), .w true true (.sl 0 []), .w true true (.sl 0 [])])]
structure StopAt (p : Prop) : Prop where
  out : p
@[congr] theorem StopAt_congr {p : Prop} : StopAt p = StopAt p := rfl
theorem stop_at {fk : Fk} {P : Program} {id : Nat} {ops : Array Oper} {b : Bool} {st : St} {K : Exit → St → Prop} (h : StopAt (AWPk fk P (.region id ops b) st K)) : AWPk fk P (.region id ops b) st K := h.out
set_option maxHeartbeats 8000000 in
theorem more_w (m : Grid) (p : Plan) (hp : PlanIn p) (ok : PlanOk m p) (hsl : p.stops.length < 100) (ri : RI)
    (hy : ∀ (l S : List Stop) (acc : Option (List Stop × Int)) (K : Heap → Nat → Prop), l.length = p.stops.length → l ∈ ordersS p.riders p.stops.length [] → S.take l.length = l → l.length ≤ S.length →
      (∀ acc', acc' = pickO (KS m p) (CS m p) acc l → K (ordH m p ri.l acc' S l.length) 11) → Round Try.prog ri [.msl 10 (S.length * 2) 2 0 l.length] (ordH m p ri.l acc S l.length) 11 K) :
    ∀ (n : Nat) (l S : List Stop) (acc : Option (List Stop × Int)) (K : AV → Heap → Nat → Prop), l.length + n = p.stops.length → (∀ q ∈ ordersS p.riders n l, q ∈ ordersS p.riders p.stops.length []) → S.take l.length = l → l.length ≤ S.length →
      (∀ S' acc', acc' = pickL m p acc (ordersS p.riders n l) → S'.take l.length = l → l.length ≤ S'.length → K (.w false false (.bool true)) (ordH m p ri.l acc' S' l.length) 11) →
      AWPk ⟨11, some ri⟩ Try.prog (Try.f74.body.getD .skip) ⟨envA 0 (moreCaps p), ordH m p ri.l acc S l.length, 11, Try.f74.ntmps⟩ (inlK Try.prog Try.f74.results.toList K)
  | 0, l, S, acc, K, hl, hq, hS, hS2, hK => by
    have hlm := hq l (by simp [ordersS])
    have hr := hy l S acc
    have hK2 := hK S
    unfold ordH moreCaps cPlan at *
    have hlI : (l.length : Int) = (p.stops.length : Int) := by omega
    have kr := keep hr
    have kK := keep hK2
    clear hr hK2 hK hy
    have hb : Try.f74.body = some _ := rfl
    rw [hb]
    clear hb
    simp only [Option.getD_some, Try.ntmps74, Try.results74]
    repeat' (first | (with_reducible first | refine awp_regionYk (id := 2) 2 ?_ ?_ | refine awp_seq ?_ | refine awp_blockS ?_ | refine awp_blockC ?_ | refine awp_blockR ?_ | refine awp_skip ?_ | refine awp_ret ?_ | refine awp_exit ?_ | refine awp_region ?_ | refine awp_condM ?_ | refine And.intro ?_ ?_ | apply gQ_merge | apply gE_merge | exact EqV_w | exact EqE_w | exact EqV_ptr | exact EqE_ptr | exact EqV_msl | exact EqE_msl | exact EqV_agg | exact EqE_agg | exact EqV_fn | exact EqE_fn | exact EqV_gd | exact EqE_gd | refine gM_splitN ?_ ?_ | refine gM_split ?_ ?_ |  refine condM_splitDN ?_ ?_ | refine condM_splitD ?_ ?_ | refine condM_splitN ?_ ?_ | refine condM_split ?_ ?_ | refine condM_any ?_ ?_ | intro _) | (simp [*, hlI]))
    refine kr _ (by omega) hlm hS hS2 (fun acc' e => ?_)
    subst e
    have hkk := keep (kK _ rfl hS hS2)
    clear kr kK hlm hq
    repeat' (first | (with_reducible first | refine awp_regionYk (id := 2) 2 ?_ ?_ | refine awp_seq ?_ | refine awp_blockS ?_ | refine awp_blockC ?_ | refine awp_blockR ?_ | refine awp_skip ?_ | refine awp_ret ?_ | refine awp_exit ?_ | refine awp_region ?_ | refine awp_condM ?_ | refine And.intro ?_ ?_ | apply gQ_merge | apply gE_merge | exact EqV_w | exact EqE_w | exact EqV_ptr | exact EqE_ptr | exact EqV_msl | exact EqE_msl | exact EqV_agg | exact EqE_agg | exact EqV_fn | exact EqE_fn | exact EqV_gd | exact EqE_gd | refine gM_splitN ?_ ?_ | refine gM_split ?_ ?_ |  refine condM_splitDN ?_ ?_ | refine condM_splitD ?_ ?_ | refine condM_splitN ?_ ?_ | refine condM_split ?_ ?_ | refine condM_any ?_ ?_ | intro _) | (simp [*]))
    all_goals simp [RetA, resL, resA, oneOf]
    all_goals exact hkk
  | n + 1, l, S, acc, K, hl, hq, hS, hS2, hK => by
    have ih := fun (i : Nat) (hi : i < p.riders.length) (hn : elemB l (nextS p.riders l i) = false) => fun (S' : List Stop) (acc' : Option (List Stop × Int)) (K : AV → Heap → Nat → Prop) =>
      more_w m p hp ok hsl ri hy n (l ++ [nextS p.riders l i]) S' acc' K (by simp; omega) (fun q hqq => hq q (by
        rw [orders_succ, List.mem_flatMap]
        exact ⟨i, by simpa using hi, by rw [if_neg (by rw [hn]; decide)]; exact hqq⟩))
    have hend := accR_end m p n l acc
    have hstep : ∀ i, accR m p n l acc (i + 1) = if elemB l (nextS p.riders l i) then accR m p n l acc i else pickL m p (accR m p n l acc i) (ordersS p.riders n (l ++ [nextS p.riders l i])) := fun i => rfl
    have hz : accR m p n l acc 0 = acc := rfl
    rw [← hend] at hK
    generalize accR m p n l acc = A at *
    have kih := keep ih
    have kK := keep hK
    have kst := keep hstep
    clear ih hK hstep hend hy hq
    have hrl := hp.riders
    clear hp ok
    unfold ordH moreCaps cPlan at *
    have hlI : ¬ (l.length : Int) = (p.stops.length : Int) := by omega
    have hb : Try.f74.body = some _ := rfl
    rw [hb]
    clear hb
    simp only [Option.getD_some, Try.ntmps74, Try.results74]
    repeat' (first | (with_reducible first | refine awp_regionYk (id := 2) 2 ?_ ?_ | refine awp_seq ?_ | refine awp_blockS ?_ | refine awp_blockC ?_ | refine awp_blockR ?_ | refine awp_skip ?_ | refine awp_ret ?_ | refine awp_exit ?_ | refine awp_region ?_ | refine awp_condM ?_ | refine And.intro ?_ ?_ | apply gQ_merge | apply gE_merge | exact EqV_w | exact EqE_w | exact EqV_ptr | exact EqE_ptr | exact EqV_msl | exact EqE_msl | exact EqV_agg | exact EqE_agg | exact EqV_fn | exact EqE_fn | exact EqV_gd | exact EqE_gd | refine gM_splitN ?_ ?_ | refine gM_split ?_ ?_ |  refine condM_splitDN ?_ ?_ | refine condM_splitD ?_ ?_ | refine condM_splitN ?_ ?_ | refine condM_split ?_ ?_ | refine condM_any ?_ ?_ | intro _) | (simp [*, hlI]))
    refine awp_for4 11 (fun (x : Nat × List Stop) => x.1 ≤ p.riders.length ∧ x.2.take l.length = l ∧ l.length ≤ x.2.length) [0, 3, 20, 21] (fun (x : Nat × List Stop) => [(22, .w false false (.int .i64 x.1))]) [9, 7, 0, 1, 2] (fun (x : Nat × List Stop) => [(10, stA2 x.2), (8, [.msl 10 (x.2.length * 2) 2 0 l.length]), (4, outA p (A x.1)), (5, [.w false false (.int .i64 (ordCo (A x.1)))]), (6, [.w false false (.bool (A x.1).isSome)])]) (fun (x : Nat × List Stop) => p.riders.length - x.1) (fun (T : List Stop) => T.take l.length = l ∧ l.length ≤ T.length) [] (fun (T : List Stop) => []) [9, 7, 0, 1, 2] (fun (T : List Stop) => [(10, stA2 T), (8, [.msl 10 (T.length * 2) 2 0 l.length]), (4, outA p (A p.riders.length)), (5, [.w false false (.int .i64 (ordCo (A p.riders.length)))]), (6, [.w false false (.bool (A p.riders.length).isSome)])]) ((0, S)) ⟨Nat.zero_le _, hS, hS2⟩ (le_gen [] (by simp [hz]) (by simp [hz])) (fun x hk => ?_) (fun T hf => ?_)
    · obtain ⟨i, T⟩ := x
      obtain ⟨hx1, hx2, hx3⟩ := hk
      simp only at hx1 hx2 hx3
      by_cases hlt : i < p.riders.length
      · have hlt' : (i : Int) < (p.riders.length : Int) := by omega
        have c1 := contains_c l (by omega) ⟨(i : Int), false⟩
        have c2 := contains_c l (by omega) ⟨(i : Int), true⟩
        have hnx : nextS p.riders l i = if (nth p.riders i).aboard || elemB l ⟨(i : Int), false⟩ then ⟨(i : Int), true⟩ else ⟨(i : Int), false⟩ := rfl
        have hst := kst i
        have hih := kih i hlt
        have hcut : l.length * 2 = T.length * 2 → cStops T = cStops l := fun h => by
          have e : T.take l.length = T := List.take_of_length_le (by omega)
          rw [e] at hx2
          rw [hx2]
        have hcutT : (l.length * 2 = T.length * 2 → cStops T = cStops l) = True := eq_true hcut
        clear hcut
        have hcase : ((nth p.riders i).aboard = true ∧ nextS p.riders l i = ⟨(i : Int), true⟩) ∨ ((nth p.riders i).aboard = false ∧ elemB l ⟨(i : Int), false⟩ = true ∧ nextS p.riders l i = ⟨(i : Int), true⟩) ∨
            ((nth p.riders i).aboard = false ∧ elemB l ⟨(i : Int), false⟩ = false ∧ nextS p.riders l i = ⟨(i : Int), false⟩) := by
          rw [hnx]
          cases h1 : (nth p.riders i).aboard with
          | true => exact .inl ⟨rfl, by simp⟩
          | false =>
            cases h2 : elemB l ⟨(i : Int), false⟩ with
            | true => exact .inr (.inl ⟨rfl, rfl, by simp⟩)
            | false => exact .inr (.inr ⟨rfl, rfl, by simp⟩)
        clear hnx
        generalize hN : nextS p.riders l i = nx at *
        clear hN
        cases hel : elemB l nx with
        | true =>
          rw [hel, if_pos rfl] at hst
          have kA := keep hst
          clear hst hih
          generalize hr : nth p.riders i = r at *
          rcases hcase with ⟨hab, rfl⟩ | ⟨hab, hin, rfl⟩ | ⟨hab, hin, rfl⟩
          rotate_left 2
          · rw [hin] at hel; cases hel
          all_goals
            repeat' (first | (with_reducible first | refine stop_at (id := 12) ?_ | refine awp_seq ?_ | refine awp_blockS ?_ | refine awp_blockC ?_ | refine awp_blockR ?_ | refine awp_skip ?_ | refine awp_ret ?_ | refine awp_exit ?_ | refine awp_region ?_ | refine awp_condM ?_ | refine And.intro ?_ ?_ | apply gQ_merge | apply gE_merge | exact EqV_w | exact EqE_w | exact EqV_ptr | exact EqE_ptr | exact EqV_msl | exact EqE_msl | exact EqV_agg | exact EqE_agg | exact EqV_fn | exact EqE_fn | exact EqV_gd | exact EqE_gd | refine gM_splitN ?_ ?_ | refine gM_split ?_ ?_ |  refine condM_splitDN ?_ ?_ | refine condM_splitD ?_ ?_ | refine condM_splitN ?_ ?_ | refine condM_split ?_ ?_ | refine condM_any ?_ ?_ | refine cw (c1) ?_ | refine cw (c2) ?_ | intro _) | (simp [*, hlt, hlt', hcutT, hr, cRider]) | (refine cw_eq (c1) ?_ ?_; (· (simp [*]; done))) | (refine cw_eq (c2) ?_ ?_; (· (simp [*]; done))))
            all_goals try first | exact inI64 (by omega) (by omega) | omega
            all_goals (refine loopK_normal _ _ _ _ _ (i + 1, T) _ ?_ (by first | omega | (dsimp only; omega) | (simp; omega)) ?_; (· exact ⟨by simp only; omega, hx2, hx3⟩); (refine le_of ?_ ?_ <;> first | trivial | (simp [*, (show A (i + 1) = _ from kA)]; done)))
        | false =>
          rw [hel, if_neg (by decide)] at hst
          have hih2 := hih hel
          simp only [List.length_append, List.length_cons, List.length_nil, Nat.zero_add] at hih2
          have kih2 := keep hih2
          clear hih2
          have kA := keep hst
          clear hst hih
          have kTk := keep (insA_take l (T.drop (l.length + 1)) nx)
          have kTl : Keep (l.length + 1 ≤ (l ++ [nx] ++ T.drop (l.length + 1)).length) := by unfold Keep; simp
          generalize hr : nth p.riders i = r at *
          rcases hcase with ⟨hab, hx⟩ | ⟨hab, hin, hx⟩ | ⟨hab, hin, hx⟩
          all_goals
            rw [hx] at hel
            have khx := keep hx
            clear hx
            repeat' (first | (with_reducible first | refine stop_at (id := 12) ?_ | refine awp_seq ?_ | refine awp_blockS ?_ | refine awp_blockC ?_ | refine awp_blockR ?_ | refine awp_skip ?_ | refine awp_ret ?_ | refine awp_exit ?_ | refine awp_region ?_ | refine awp_condM ?_ | refine And.intro ?_ ?_ | apply gQ_merge | apply gE_merge | exact EqV_w | exact EqE_w | exact EqV_ptr | exact EqE_ptr | exact EqV_msl | exact EqE_msl | exact EqV_agg | exact EqE_agg | exact EqV_fn | exact EqE_fn | exact EqV_gd | exact EqE_gd | refine gM_splitN ?_ ?_ | refine gM_split ?_ ?_ |  refine condM_splitDN ?_ ?_ | refine condM_splitD ?_ ?_ | refine condM_splitN ?_ ?_ | refine condM_split ?_ ?_ | refine condM_any ?_ ?_ | refine cw (c1) ?_ | refine cw (c2) ?_ | intro _) | (simp [*, hlt, hlt', hcutT, hr, cRider]) | (refine cw_eq (c1) ?_ ?_; (· (simp [*]; done))) | (refine cw_eq (c2) ?_ ?_; (· (simp [*]; done))))
            all_goals try first | exact inI64 (by omega) (by omega) | omega
            rw [ins_stops hx2 hx3, ← (show nx = _ from khx)]
            clear khx c1 c2 hcutT hab hr hel
            generalize l ++ [nx] ++ T.drop (l.length + 1) = T2 at *
            refine ⟨awp_le (st' := ⟨[(22, .w false false (.int .i64 i)), (0, .ptr 8 1 0), (3, .ptr 9 1 0), (20, .w false false (.sl p.riders.length (cRiders p.riders))), (21, .w false false (.int .i64 p.riders.length))], [(10, stA2 T2), (8, [.msl 10 (T2.length * 2) 2 0 (l.length + 1)]), (4, outA p (A i)), (5, [.w false false (.int .i64 (ordCo (A i)))]), (6, [.w false false (.bool (A i).isSome)]), (9, [.fn 74 [.ptr 8 1 0, .w false false (.ip [.int .i64 p.car.at_, .int .i64 p.car.time, .int .i64 p.car.seats, .sl p.riders.length (cRiders p.riders), .sl p.stops.length (cStops p.stops)] 0), .ptr 7 1 0, .ptr 9 1 0]]), (7, [.w false false (.yl ri.l)]), (0, [.w false false (.sl m.length (cRows m))]), (1, [.w false false (.int .i64 p.car.at_), .w false false (.int .i64 p.car.time), .w false false (.int .i64 p.car.seats), .w false false (.sl p.riders.length (cRiders p.riders)), .w false false (.sl p.stops.length (cStops p.stops))]),
    (2, [.w false false (.int .i64 0), .w false false (.int .i64 0), .w false false (.int .i64 0), .w true true (.sl 0 []), .w true true (.sl 0 [])])], 11, 56⟩) (le_gen [] (by simp) (by simp)) ?_⟩
            refine awp_regionL (id := 12) 1 74 Try.func74 (by kernel_rfl) rfl (by decide) rfl ?_
            simp
            refine inlY_intro [.ptr 8 1 0, .w false false (.ip [.int .i64 p.car.at_, .int .i64 p.car.time, .int .i64 p.car.seats, .sl p.riders.length (cRiders p.riders), .sl p.stops.length (cStops p.stops)] 0), .ptr 7 1 0, .ptr 9 1 0] rfl (Nat.le_of_ble_eq_true (by kernel_rfl)) (by simp) rfl ?_
            refine kih2 T2 (A i) _ kTk kTl (fun S2 acc2 e h1 h2 => ?_)
            have kh1 : Keep (S2.take l.length = l) := by
              have h := congrArg (List.take l.length) h1
              rw [List.take_take, Nat.min_eq_left (by omega)] at h
              unfold Keep
              rw [h]; simp
            have kh2 : Keep (l.length ≤ S2.length) := Nat.le_of_succ_le h2
            subst e
            rw [show pickL m p (A i) (ordersS p.riders n (l ++ [nx])) = A (i + 1) from Eq.symm kA]
            clear h1 h2 kA kih2 kTk kTl
            repeat' (first | (with_reducible first | refine awp_seq ?_ | refine awp_blockS ?_ | refine awp_blockC ?_ | refine awp_blockR ?_ | refine awp_skip ?_ | refine awp_ret ?_ | refine awp_exit ?_ | refine awp_region ?_ | refine awp_condM ?_ | refine And.intro ?_ ?_ | apply gQ_merge | apply gE_merge | exact EqV_w | exact EqE_w | exact EqV_ptr | exact EqE_ptr | exact EqV_msl | exact EqE_msl | exact EqV_agg | exact EqE_agg | exact EqV_fn | exact EqE_fn | exact EqV_gd | exact EqE_gd | refine gM_splitN ?_ ?_ | refine gM_split ?_ ?_ |  refine condM_splitDN ?_ ?_ | refine condM_splitD ?_ ?_ | refine condM_splitN ?_ ?_ | refine condM_split ?_ ?_ | refine condM_any ?_ ?_ | intro _) | (simp [*]))
            all_goals try first | exact inI64 (by omega) (by omega) | omega
            all_goals (refine loopK_normal _ _ _ _ _ (i + 1, S2) _ ?_ (by first | omega | (dsimp only; omega) | (simp; omega)) ?_; (· exact ⟨by simp only; omega, kh1, kh2⟩); (refine le_of ?_ ?_ <;> first | trivial | (simp [*]; done)))
      · have hke : i = p.riders.length := by omega
        clear kih kK kst
        repeat' (first | (with_reducible first | refine awp_seq ?_ | refine awp_blockS ?_ | refine awp_blockC ?_ | refine awp_blockR ?_ | refine awp_skip ?_ | refine awp_ret ?_ | refine awp_exit ?_ | refine awp_region ?_ | refine awp_condM ?_ | refine And.intro ?_ ?_ | apply gQ_merge | apply gE_merge | exact EqV_w | exact EqE_w | exact EqV_ptr | exact EqE_ptr | exact EqV_msl | exact EqE_msl | exact EqV_agg | exact EqE_agg | exact EqV_fn | exact EqE_fn | exact EqV_gd | exact EqE_gd | refine gM_splitN ?_ ?_ | refine gM_split ?_ ?_ |  refine condM_splitDN ?_ ?_ | refine condM_splitD ?_ ?_ | refine condM_splitN ?_ ?_ | refine condM_split ?_ ?_ | refine condM_any ?_ ?_ | intro _) | (simp [*, hke]))
        all_goals (refine finW_intro T ?_ ?_; (· exact ⟨hx2, hx3⟩); (refine le_of ?_ ?_ <;> first | trivial | (simp [*, hke]; done)))
    · obtain ⟨hf1, hf2⟩ := hf
      have hkk := keep (kK T (A p.riders.length) rfl hf1 hf2)
      clear kK kih kst
      repeat' (first | (with_reducible first | refine awp_seq ?_ | refine awp_blockS ?_ | refine awp_blockC ?_ | refine awp_blockR ?_ | refine awp_skip ?_ | refine awp_ret ?_ | refine awp_exit ?_ | refine awp_region ?_ | refine awp_condM ?_ | refine And.intro ?_ ?_ | apply gQ_merge | apply gE_merge | exact EqV_w | exact EqE_w | exact EqV_ptr | exact EqE_ptr | exact EqV_msl | exact EqE_msl | exact EqV_agg | exact EqE_agg | exact EqV_fn | exact EqE_fn | exact EqV_gd | exact EqE_gd | refine gM_splitN ?_ ?_ | refine gM_split ?_ ?_ |  refine condM_splitDN ?_ ?_ | refine condM_splitD ?_ ?_ | refine condM_splitN ?_ ?_ | refine condM_split ?_ ?_ | refine condM_any ?_ ?_ | intro _) | (simp [*]))
      all_goals simp [RetA, resL, resA, oneOf]
      all_goals exact hkk
end Go.Proofs.Ytiialcomflggcaa

