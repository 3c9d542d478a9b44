/- Contracts of functions for this claim: lemmas alone. -/
import Derived.Test.YtiialcomflggcaaP101
import Derived.Test.YtiialcomflggcaaP31
import Derived.Test.YtiialcomflggcaaP23
import Derived.Test.YtiialcomflggcaaLad
set_option linter.unusedSimpArgs false
set_option linter.unusedVariables false
namespace Go.Proofs.Ytiialcomflggcaa
open Go Go.Fi
set_option maxRecDepth 20000

/-! ### the best order, as the document finds it -/
def KS (m : Grid) (p : Plan) (q : List Stop) : Bool := keepsS m (withS p q)
def CS (m : Grid) (p : Plan) (q : List Stop) : Int := costP m (withS p q)
def ordPl (p : Plan) : Option (List Stop × Int) → Plan
  | none => noPlan
  | some (q, _) => withS p q
def ordCo : Option (List Stop × Int) → Int
  | none => 0
  | some (_, c) => c
def docK (K : List Stop → Bool) (C : List Stop → Int) (rs : List Rider) (ss : List Stop) (n : Nat) (l : List Stop) (k : Nat) : Option (List Stop × Int) :=
  (ss.take k).foldl (fun b s => if skipS rs l s then b else joinO b (docOrd K C rs ss n (l ++ [s]))) none
theorem docK_zero (K : List Stop → Bool) (C : List Stop → Int) (rs : List Rider) (ss : List Stop) (n : Nat) (l : List Stop) : docK K C rs ss n l 0 = none := rfl
theorem docK_succ (K : List Stop → Bool) (C : List Stop → Int) (rs : List Rider) (ss : List Stop) (n : Nat) (l : List Stop) (k : Nat) (h : k < ss.length) :
    docK K C rs ss n l (k + 1) = if skipS rs l (nth ss k) then docK K C rs ss n l k else joinO (docK K C rs ss n l k) (docOrd K C rs ss n (l ++ [nth ss k])) := by
  have e : ss.take (k + 1) = ss.take k ++ [nth ss k] := by
    rw [List.take_add_one]; simp [nth, List.getD_eq_getElem?_getD, List.getElem?_eq_getElem h]
  unfold docK
  rw [e, List.foldl_append]; rfl
theorem docK_end (K : List Stop → Bool) (C : List Stop → Int) (rs : List Rider) (ss : List Stop) (n : Nat) (l : List Stop) : docK K C rs ss n l ss.length = docOrd K C rs ss (n + 1) l := by
  unfold docK; rw [List.take_length]; rfl
/-- what comes back of the document's search -/
def docR (m : Grid) (p : Plan) : Nat → List Stop → PV
  | 0, l => .tup [.agg (cPlan (withS p l)), .int .i64 (CS m p l), .bool (KS m p l)]
  | n + 1, l => .tup [.agg (cPlan (ordPl p (docOrd (KS m p) (CS m p) p.riders p.stops (n + 1) l))), .int .i64 (ordCo (docOrd (KS m p) (CS m p) p.riders p.stops (n + 1) l)), .bool (docOrd (KS m p) (CS m p) p.riders p.stops (n + 1) l).isSome]
theorem docR_z (m : Grid) (p : Plan) (l : List Stop) : docR m p 0 l = .tup [.agg (cPlan (withS p l)), .int .i64 (CS m p l), .bool (KS m p l)] := rfl
theorem docR_s (m : Grid) (p : Plan) (n : Nat) (l : List Stop) : docR m p (n + 1) l = .tup [.agg (cPlan (ordPl p (docOrd (KS m p) (CS m p) p.riders p.stops (n + 1) l))), .int .i64 (ordCo (docOrd (KS m p) (CS m p) p.riders p.stops (n + 1) l)), .bool (docOrd (KS m p) (CS m p) p.riders p.stops (n + 1) l).isSome] := rfl
theorem docR_some {m : Grid} {p : Plan} {q : List Stop} {c : Int} : ∀ {n : Nat} {l : List Stop}, docOrd (KS m p) (CS m p) p.riders p.stops n l = some (q, c) → docR m p n l = .tup [.agg (cPlan (withS p q)), .int .i64 c, .bool true]
  | 0, l, h => by
    unfold docOrd at h
    by_cases hk : KS m p l = true
    · rw [if_pos hk] at h
      injection h with h; injection h with h1 h2
      subst h1; subst h2
      rw [docR_z, hk]
    · rw [if_neg hk] at h; cases h
  | n + 1, l, h => by rw [docR_s, h]; rfl
theorem docR_none {m : Grid} {p : Plan} : ∀ {n : Nat} {l : List Stop}, docOrd (KS m p) (CS m p) p.riders p.stops n l = none → ∃ (P : Plan) (c : Int), docR m p n l = .tup [.agg (cPlan P), .int .i64 c, .bool false]
  | 0, l, h => by
    unfold docOrd at h
    by_cases hk : KS m p l = true
    · rw [if_pos hk] at h; cases h
    · exact ⟨_, _, by rw [docR_z, show KS m p l = false by simpa using hk]⟩
  | n + 1, l, h => ⟨noPlan, 0, by rw [docR_s, h]; rfl⟩
theorem docOrd_len {K : List Stop → Bool} {C : List Stop → Int} {rs : List Rider} {ss : List Stop} (h : AllStops rs ss) {n : Nat} {l q : List Stop} {c : Int} (e : docOrd K C rs ss n l = some (q, c)) : q.length = l.length + n := by
  have := docOrd_best (K := K) (C := C) h n l
  rw [e] at this
  obtain ⟨t, h1, h2⟩ := orders_form rs n l q this.1
  rw [h1]; simp [h2]
theorem docK_len {K : List Stop → Bool} {C : List Stop → Int} {rs : List Rider} {ss : List Stop} (h : AllStops rs ss) (n : Nat) (l : List Stop) : ∀ (k : Nat), k ≤ ss.length → ∀ (q : List Stop) (c : Int), docK K C rs ss n l k = some (q, c) → q.length = l.length + (n + 1)
  | 0, _, q, c, e => by rw [docK_zero] at e; cases e
  | k + 1, hk, q, c, e => by
    rw [docK_succ _ _ _ _ _ _ _ (by omega)] at e
    have ih := docK_len (K := K) (C := C) h n l k (by omega)
    cases hs : skipS rs l (nth ss k) with
    | true => rw [hs, if_pos rfl] at e; exact ih q c e
    | false =>
      rw [hs, if_neg (by decide)] at e
      cases hb : docK K C rs ss n l k with
      | none =>
        cases hr : docOrd K C rs ss n (l ++ [nth ss k]) with
        | none => rw [hb, hr] at e; cases e
        | some y =>
          obtain ⟨y1, y2⟩ := y
          have hl := docOrd_len h hr
          rw [hb, hr] at e
          have e' : some (y1, y2) = some (q, c) := e
          injection e' with e'; injection e' with e1 e2
          rw [← e1, hl]; simp; omega
      | some x =>
        obtain ⟨x1, x2⟩ := x
        have hx := ih x1 x2 hb
        cases hr : docOrd K C rs ss n (l ++ [nth ss k]) with
        | none =>
          rw [hb, hr] at e
          have e' : some (x1, x2) = some (q, c) := e
          injection e' with e'; injection e' with e1 e2
          rw [← e1, hx]
        | some y =>
          obtain ⟨y1, y2⟩ := y
          have hl := docOrd_len h hr
          rw [hb, hr] at e
          simp only [joinO] at e
          split at e
          · injection e with e'; injection e' with e1 e2
            rw [← e1, hl]; simp; omega
          · injection e with e'; injection e' with e1 e2
            rw [← e1, hx]
def ordA (p : Plan) : Option (List Stop × Int) → List AV
  | none => [.w false false (.int .i64 0), .w false false (.int .i64 0), .w false false (.int .i64 0), .w true true (.sl 0 []), .w true true (.sl 0 [])]
  | some (q, _) => [.w false false (.int .i64 p.car.at_), .w false false (.int .i64 p.car.time), .w false false (.int .i64 p.car.seats), .w false false (.sl p.riders.length (cRiders p.riders)), .w false false (.sl q.length (cStops q))]
@[simp] theorem ordA_none (p : Plan) : ordA p none = [.w false false (.int .i64 0), .w false false (.int .i64 0), .w false false (.int .i64 0), .w true true (.sl 0 []), .w true true (.sl 0 [])] := rfl
@[simp] theorem ordA_some (p : Plan) (q : List Stop) (c : Int) : ordA p (some (q, c)) = [.w false false (.int .i64 p.car.at_), .w false false (.int .i64 p.car.time), .w false false (.int .i64 p.car.seats), .w false false (.sl p.riders.length (cRiders p.riders)), .w false false (.sl q.length (cStops q))] := rfl
@[simp] theorem ordA_lt (p : Plan) (b : Option (List Stop × Int)) (n : Nat) : AV.lt.ltL n (ordA p b) = true := by rcases b with _ | ⟨q, c⟩ <;> simp [AV.lt.ltL, AV.lt]
@[simp] theorem ordA_len (p : Plan) (b : Option (List Stop × Int)) : (ordA p b).length = 5 := by rcases b with _ | ⟨q, c⟩ <;> rfl
@[simp] theorem ordCo_none : ordCo none = 0 := rfl
@[simp] theorem ordCo_some (q : List Stop) (c : Int) : ordCo (some (q, c)) = c := rfl
set_option maxHeartbeats 8000000 in
theorem order_c (m : Grid) (hm : GridIn m) (mo : MapOk m) (p : Plan) (hp : PlanIn p) (ok : PlanOk m p) (hsl : p.stops.length < 100) : ∀ (n : Nat) (l : List Stop), l.length + n = p.stops.length →
    (∀ q ∈ ordersS p.riders n l, q ∈ ordersS p.riders p.stops.length []) → RealCall Try.prog 43 [aMap m, aPlan p, .sl l.length (cStops l)] (docR m p n l) false
  | 0, l, hl, hq => by
    have hql := hq l (by simp [ordersS])
    have po := orders_ok ok hql
    have hlen : (withS p l).stops.length < 10000 := by show l.length < 10000; omega
    have to := po.tour mo hlen
    have c1 := copyPlan_c p hp
    have c2 := rCostOf_c m (withS p l) to.go
    have c3 := rKeeps_c m (withS p l) to
    clear to po hq hql
    unfold docR KS CS
    unfold aPlan aMap cPlan withS at *
    dsimp only at *
    generalize costP m ⟨p.car, p.riders, l⟩ = C at *
    generalize keepsS m ⟨p.car, p.riders, l⟩ = K at *
    have hlI : (l.length : Int) = (p.stops.length : Int) := by omega
    refine realcall_intro Try.func43 (by kernel_rfl) rfl (Nat.le_of_ble_eq_true (by kernel_rfl)) ?_
    simp only [Try.results43, Try.ntmps43]
    repeat' (first | (with_reducible first | refine awp_seq ?_ | refine awp_blockS ?_ | refine awp_blockC ?_ | refine awp_blockR ?_ | refine awp_skip ?_ | refine awp_ret ?_ | refine awp_exit ?_ | refine awp_region ?_ | refine awp_regionD (id := 4) 7 mixed (by decide +kernel) ?_ | refine awp_regionSE (id := 12) [(11, 10), (12, 11), (14, 12)] [0, 1, 2, 3, 5, 6, 13] [4, 7, 8, 9, 10, 11, 12, 14, 15, 16] [[.new 0], [.new 0], [], [], [.new 0], [.new 0], [.new 0]] [[.new 0], [.new 0], [], [], [], [], [], [.new 2], [], []] mixed (by decide +kernel) (by decide +kernel) ?_ | refine awp_condM ?_ | refine And.intro ?_ ?_ | apply gQ_merge | apply gE_merge | exact EqV_w | exact EqE_w | exact EqV_ptr | exact EqE_ptr | exact EqV_msl | exact EqE_msl | exact EqV_agg | exact EqE_agg | exact EqV_fn | exact EqE_fn | exact EqV_gd | exact EqE_gd | refine gM_splitN ?_ ?_ | refine gM_split ?_ ?_ |  refine condM_splitDN ?_ ?_ | refine condM_splitD ?_ ?_ | refine condM_splitN ?_ ?_ | refine condM_split ?_ ?_ | refine condM_any ?_ ?_ | refine cw (c1) ?_ | refine cw (c2) ?_ | refine cw (c3) ?_ | intro _) | (simp [*, hlI]) | (refine cw_eq (c1) ?_ ?_; (· (simp [*]; done))) | (refine cw_eq (c2) ?_ ?_; (· (simp [*]; done))) | (refine cw_eq (c3) ?_ ?_; (· (simp [*]; done))))
  | n + 1, l, hl, hq => by
    have all := ok.all
    have ihs := fun k (hk : k < p.stops.length) (hs : skipS p.riders l (nth p.stops k) = false) =>
      order_c m hm mo p hp ok hsl n (l ++ [nth p.stops k]) (by simp; omega) (fun q hqq => by
        obtain ⟨i, h1, h2, h3⟩ := (next_iff all (l := l) (nth p.stops k)).1 ⟨by simp [nth, List.getD_eq_getElem?_getD, List.getElem?_eq_getElem hk], hs⟩
        refine hq q ?_
        rw [orders_succ, List.mem_flatMap]
        exact ⟨i, by simpa using h1, by rw [if_neg (by rw [h2]; decide), ← h3]; exact hqq⟩)
    have hrng := fun k (hk : k < p.stops.length) => all.rng (nth p.stops k) (by simp [nth, List.getD_eq_getElem?_getD, List.getElem?_eq_getElem hk])
    have hKl := docK_len (K := KS m p) (C := CS m p) all n l
    have hKs := docK_succ (KS m p) (CS m p) p.riders p.stops n l
    have hDl := fun (l' q : List Stop) (c : Int) => docOrd_len (K := KS m p) (C := CS m p) all (n := n) (l := l') (q := q) (c := c)
    have hsome := fun (l' q : List Stop) (c : Int) => docR_some (m := m) (p := p) (q := q) (c := c) (n := n) (l := l')
    have hnone := fun (l' : List Stop) => docR_none (m := m) (p := p) (n := n) (l := l')
    have kend := keep (docK_end (KS m p) (CS m p) p.riders p.stops n l)
    have kzero := keep (docK_zero (KS m p) (CS m p) p.riders p.stops n l)
    rw [docR_s]
    generalize docOrd (KS m p) (CS m p) p.riders p.stops (n + 1) l = R at *
    generalize docK (KS m p) (CS m p) p.riders p.stops n l = B at *
    generalize docOrd (KS m p) (CS m p) p.riders p.stops n = D at *
    generalize docR m p n = DR at *
    clear all hq
    have hrl := hp.riders
    clear hp ok mo hm
    unfold aPlan aMap at *
    unfold cPlan at *
    have kih := keep ihs
    have kln := keep hKl
    have kst := keep hKs
    have krn := keep hrng
    clear ihs hKl hKs hrng
    have hneI : ¬ (l.length : Int) = (p.stops.length : Int) := by omega
    refine realcall_intro Try.func43 (by kernel_rfl) rfl (Nat.le_of_ble_eq_true (by kernel_rfl)) ?_
    simp only [Try.results43, Try.ntmps43]
    repeat' (first | (with_reducible first | refine awp_seq ?_ | refine awp_blockS ?_ | refine awp_blockC ?_ | refine awp_blockR ?_ | refine awp_skip ?_ | refine awp_ret ?_ | refine awp_exit ?_ | refine awp_region ?_ | refine awp_regionD (id := 4) 7 mixed (by decide +kernel) ?_ | refine awp_regionSE (id := 12) [(11, 10), (12, 11), (14, 12)] [0, 1, 2, 3, 5, 6, 13] [4, 7, 8, 9, 10, 11, 12, 14, 15, 16] [[.new 0], [.new 0], [], [], [.new 0], [.new 0], [.new 0]] [[.new 0], [.new 0], [], [], [], [], [], [.new 2], [], []] mixed (by decide +kernel) (by decide +kernel) ?_ | refine awp_condM ?_ | refine And.intro ?_ ?_ | apply gQ_merge | apply gE_merge | exact EqV_w | exact EqE_w | exact EqV_ptr | exact EqE_ptr | exact EqV_msl | exact EqE_msl | exact EqV_agg | exact EqE_agg | exact EqV_fn | exact EqE_fn | exact EqV_gd | exact EqE_gd | refine gM_splitN ?_ ?_ | refine gM_split ?_ ?_ |  refine condM_splitDN ?_ ?_ | refine condM_splitD ?_ ?_ | refine condM_splitN ?_ ?_ | refine condM_split ?_ ?_ | refine condM_any ?_ ?_ | intro _) | (simp [*, hneI]))
    have hB0 : B 0 = none := kzero
    clear kzero
    refine awp_for4 4 (fun (k : Nat) => k ≤ p.stops.length) [2, 3, 4, 6, 10] (fun (k : Nat) => [(13, .w false false (.int .i64 k)), (11, .w false false (.int .i64 (ordCo (B k)))), (12, .w false false (.bool (B k).isSome))]) [0, 1, 2] (fun (k : Nat) => [(3, ordA p (B k))]) (fun (k : Nat) => p.stops.length - k) (fun (_u : Unit) => True) [6, 10] (fun (_u : Unit) => [(11, .w false false (.int .i64 (ordCo R))), (12, .w false false (.bool R.isSome))]) [2] (fun (_u : Unit) => [(3, ordA p R)]) (0) (Nat.zero_le _) (le_gen [] (by simp [hB0]) (by simp [hB0])) (fun k hk => ?_) (fun _u hf => ?_)
    · clear hB0
      by_cases hlt : k < p.stops.length
      · have hsl2 := hsl
        obtain ⟨hr0, hr1⟩ := krn k hlt
        have hst := kst k hlt
        have hih := kih k hlt
        have hlen := kln k hk
        generalize hs : nth p.stops k = s at *
        obtain ⟨r, o⟩ := s
        simp only at hr0 hr1
        obtain ⟨i, rfl⟩ := Int.eq_ofNat_of_zero_le hr0
        have hi : i < p.riders.length := by omega
        have c1 := find_c l (by omega) ⟨(i : Int), o⟩
        have c2 := find_c l (by omega) ⟨(i : Int), false⟩
        have f1 := stopAt_elem l ⟨(i : Int), o⟩
        have f2 := stopAt_elem l ⟨(i : Int), false⟩
        have hsk : (skipS p.riders l ⟨(i : Int), o⟩ = true ∧ (0 ≤ stopAt l ⟨(i : Int), o⟩ ∨ (¬ 0 ≤ stopAt l ⟨(i : Int), o⟩ ∧ o = true ∧ (nth p.riders i).aboard = false ∧ stopAt l ⟨(i : Int), false⟩ < 0))) ∨
            (skipS p.riders l ⟨(i : Int), o⟩ = false ∧ ((¬ 0 ≤ stopAt l ⟨(i : Int), o⟩ ∧ o = false ∧ stopAt l ⟨(i : Int), false⟩ = stopAt l ⟨(i : Int), o⟩) ∨ (¬ 0 ≤ stopAt l ⟨(i : Int), o⟩ ∧ o = true ∧ (nth p.riders i).aboard = true) ∨ (¬ 0 ≤ stopAt l ⟨(i : Int), o⟩ ∧ o = true ∧ (nth p.riders i).aboard = false ∧ ¬ stopAt l ⟨(i : Int), false⟩ < 0))) := by
          have g1 : (elemB l ⟨(i : Int), o⟩ = true) = (0 ≤ stopAt l ⟨(i : Int), o⟩) := by rw [← f1]; simp
          have g2 : (elemB l ⟨(i : Int), false⟩ = true) = (0 ≤ stopAt l ⟨(i : Int), false⟩) := by rw [← f2]; simp
          unfold skipS
          simp only [Int.toNat_natCast]
          cases h1 : elemB l ⟨(i : Int), o⟩ with
          | true => exact .inl ⟨rfl, .inl (by rw [← g1]; exact h1)⟩
          | false =>
            have n1 : ¬ 0 ≤ stopAt l ⟨(i : Int), o⟩ := by rw [← g1, h1]; decide
            cases o with
            | false => exact .inr ⟨rfl, .inl ⟨n1, rfl, rfl⟩⟩
            | true =>
              cases h2 : (nth p.riders i).aboard with
              | true => exact .inr ⟨by simp, .inr (.inl ⟨n1, rfl, rfl⟩)⟩
              | false =>
                cases h3 : elemB l ⟨(i : Int), false⟩ with
                | true => exact .inr ⟨by simp, .inr (.inr ⟨n1, rfl, rfl, Int.not_lt.2 (by rw [← g2]; exact h3)⟩)⟩
                | false => exact .inl ⟨by simp, .inr ⟨n1, rfl, rfl, Int.not_le.1 (by rw [← g2, h3]; decide)⟩⟩
        clear f1 f2
        generalize skipS p.riders l ⟨(i : Int), o⟩ = sk at *
        generalize stopAt l ⟨(i : Int), o⟩ = x1 at *
        generalize stopAt l ⟨(i : Int), false⟩ = x2 at *
        have hrab := cRiders_6 p.riders i hi
        generalize (nth p.riders i).aboard = ab at *
        rcases hsk with ⟨rfl, hsk⟩ | ⟨rfl, hsk⟩
        · rw [if_pos rfl] at hst
          have kB := keep hst
          clear hst hih hsome hnone hDl hlen
          rcases hsk with hx1 | ⟨hx1, ho, hab, hx2⟩
          all_goals
            repeat' (first | (with_reducible first | refine awp_seq ?_ | refine awp_blockS ?_ | refine awp_blockC ?_ | refine awp_blockR ?_ | refine awp_skip ?_ | refine awp_ret ?_ | refine awp_exit ?_ | refine awp_region ?_ | refine awp_regionD (id := 4) 7 mixed (by decide +kernel) ?_ | refine awp_regionSE (id := 12) [(11, 10), (12, 11), (14, 12)] [0, 1, 2, 3, 5, 6, 13] [4, 7, 8, 9, 10, 11, 12, 14, 15, 16] [[.new 0], [.new 0], [], [], [.new 0], [.new 0], [.new 0]] [[.new 0], [.new 0], [], [], [], [], [], [.new 2], [], []] mixed (by decide +kernel) (by decide +kernel) ?_ | refine awp_condM ?_ | refine And.intro ?_ ?_ | apply gQ_merge | apply gE_merge | exact EqV_w | exact EqE_w | exact EqV_ptr | exact EqE_ptr | exact EqV_msl | exact EqE_msl | exact EqV_agg | exact EqE_agg | exact EqV_fn | exact EqE_fn | exact EqV_gd | exact EqE_gd | refine gM_splitN ?_ ?_ | refine gM_split ?_ ?_ |  refine condM_splitDN ?_ ?_ | refine condM_splitD ?_ ?_ | refine condM_splitN ?_ ?_ | refine condM_split ?_ ?_ | refine condM_any ?_ ?_ | refine cw (c1) ?_ | refine cw (c2) ?_ | intro _) | (simp [*, hlt, hs, cStop]) | (refine cw_eq (c1) ?_ ?_; (· (simp [*]; done))) | (refine cw_eq (c2) ?_ ?_; (· (simp [*]; done))))
            all_goals try first | exact inI64 (by omega) (by omega) | omega
            all_goals (refine loopK_normal _ _ _ _ _ (k + 1) _ ?_ (by first | omega | (dsimp only; omega) | (simp; omega)) ?_; (· omega); (refine le_of ?_ ?_ <;> first | trivial | (simp [*, (show B (k + 1) = _ from kB)]; done)))
        · rw [if_neg (by decide)] at hst
          have c3 := hih rfl
          have eC : cStops (l ++ [⟨(i : Int), o⟩]) = cStops l ++ [.int .i64 (i : Int), .bool o] := by simp [cStops, cStop]
          rw [eC] at c3
          clear eC hih
          have hmul : (l.length + 1) * 2 = l.length * 2 + 2 := by omega
          cases hD : D (l ++ [⟨(i : Int), o⟩]) with
          | none =>
            obtain ⟨P, cc, e⟩ := hnone _ hD
            rw [e] at c3
            have kB : Keep (B (k + 1) = B k) := by
              have h := hst
              rw [hD] at h
              unfold Keep
              rw [h]
              cases B k <;> rfl
            clear hst hsome hnone hDl hlen hD e
            rcases hsk with ⟨hx1, ho, hxe⟩ | ⟨hx1, ho, hab⟩ | ⟨hx1, ho, hab, hx2⟩
            all_goals
              repeat' (first | (with_reducible first | refine awp_regionGv (id := 12) [81] [(11, 10), (12, 11), (14, 12)] [0, 1, 2, 3, 5, 6, 13] [4, 7, 8, 9, 10, 11, 12, 14, 15, 16] [[.new 0], [.new 0], [], [], [.new 0], [.new 0], [.new 0]] [[.new 0], [.new 0], [], [], [], [], [], [.new 2], [], []] mixed (by decide +kernel) (by decide +kernel) ?_ | refine awp_seq ?_ | refine awp_blockS ?_ | refine awp_blockC ?_ | refine awp_blockR ?_ | refine awp_skip ?_ | refine awp_ret ?_ | refine awp_exit ?_ | refine awp_region ?_ | refine awp_regionD (id := 4) 7 mixed (by decide +kernel) ?_ | refine awp_regionSE (id := 12) [(11, 10), (12, 11), (14, 12)] [0, 1, 2, 3, 5, 6, 13] [4, 7, 8, 9, 10, 11, 12, 14, 15, 16] [[.new 0], [.new 0], [], [], [.new 0], [.new 0], [.new 0]] [[.new 0], [.new 0], [], [], [], [], [], [.new 2], [], []] mixed (by decide +kernel) (by decide +kernel) ?_ | refine awp_condM ?_ | refine And.intro ?_ ?_ | apply gQ_merge | apply gE_merge | exact EqV_w | exact EqE_w | exact EqV_ptr | exact EqE_ptr | exact EqV_msl | exact EqE_msl | exact EqV_agg | exact EqE_agg | exact EqV_fn | exact EqE_fn | exact EqV_gd | exact EqE_gd | refine gM_splitN ?_ ?_ | refine gM_split ?_ ?_ |  refine condM_splitDN ?_ ?_ | refine condM_splitD ?_ ?_ | refine condM_splitN ?_ ?_ | refine condM_split ?_ ?_ | refine condM_any ?_ ?_ | refine cw (c1) ?_ | refine cw (c2) ?_ | refine cw (c3) ?_ | intro _) | (simp [*, hlt, hs, cStop, hmul]) | (refine cw_eq (c1) ?_ ?_; (· (simp [*]; done))) | (refine cw_eq (c2) ?_ ?_; (· (simp [*]; done))) | (refine cw_eq (c3) ?_ ?_; (· (simp [*]; done))))
              all_goals try first | exact inI64 (by omega) (by omega) | omega
              all_goals (refine loopK_normal _ _ _ _ _ (k + 1) _ ?_ (by first | omega | (dsimp only; omega) | (simp; omega)) ?_; (· omega); (refine le_of ?_ ?_ <;> first | trivial | (simp [*, (show B (k + 1) = _ from kB)]; done)))
          | some y =>
            obtain ⟨q, c⟩ := y
            have e := hsome _ q c hD
            unfold withS at e
            dsimp only at e
            rw [e] at c3
            have hqn := hDl _ q c hD
            have hql : q.length = l.length + (n + 1) := by rw [hqn]; simp; omega
            rw [hD] at hst
            clear hqn e hD hsome hnone hDl
            cases hb : B k with
            | none =>
              have kB : Keep (B (k + 1) = some (q, c)) := by
                rw [hb] at hst
                exact hst
              clear hst hlen
              rcases hsk with ⟨hx1, ho, hxe⟩ | ⟨hx1, ho, hab⟩ | ⟨hx1, ho, hab, hx2⟩
              all_goals
                repeat' (first | (with_reducible first | refine awp_regionGv (id := 12) [81] [(11, 10), (12, 11), (14, 12)] [0, 1, 2, 3, 5, 6, 13] [4, 7, 8, 9, 10, 11, 12, 14, 15, 16] [[.new 0], [.new 0], [], [], [.new 0], [.new 0], [.new 0]] [[.new 0], [.new 0], [], [], [], [], [], [.new 2], [], []] mixed (by decide +kernel) (by decide +kernel) ?_ | refine awp_seq ?_ | refine awp_blockS ?_ | refine awp_blockC ?_ | refine awp_blockR ?_ | refine awp_skip ?_ | refine awp_ret ?_ | refine awp_exit ?_ | refine awp_region ?_ | refine awp_regionD (id := 4) 7 mixed (by decide +kernel) ?_ | refine awp_regionSE (id := 12) [(11, 10), (12, 11), (14, 12)] [0, 1, 2, 3, 5, 6, 13] [4, 7, 8, 9, 10, 11, 12, 14, 15, 16] [[.new 0], [.new 0], [], [], [.new 0], [.new 0], [.new 0]] [[.new 0], [.new 0], [], [], [], [], [], [.new 2], [], []] mixed (by decide +kernel) (by decide +kernel) ?_ | refine awp_condM ?_ | refine And.intro ?_ ?_ | apply gQ_merge | apply gE_merge | exact EqV_w | exact EqE_w | exact EqV_ptr | exact EqE_ptr | exact EqV_msl | exact EqE_msl | exact EqV_agg | exact EqE_agg | exact EqV_fn | exact EqE_fn | exact EqV_gd | exact EqE_gd | refine gM_splitN ?_ ?_ | refine gM_split ?_ ?_ |  refine condM_splitDN ?_ ?_ | refine condM_splitD ?_ ?_ | refine condM_splitN ?_ ?_ | refine condM_split ?_ ?_ | refine condM_any ?_ ?_ | refine cw (c1) ?_ | refine cw (c2) ?_ | refine cw (c3) ?_ | intro _) | (simp [*, hlt, hs, cStop, hmul]) | (refine cw_eq (c1) ?_ ?_; (· (simp [*]; done))) | (refine cw_eq (c2) ?_ ?_; (· (simp [*]; done))) | (refine cw_eq (c3) ?_ ?_; (· (simp [*]; done))))
                all_goals try first | exact inI64 (by omega) (by omega) | omega
                all_goals (refine loopK_normal _ _ _ _ _ (k + 1) _ ?_ (by first | omega | (dsimp only; omega) | (simp; omega)) ?_; (· omega); (refine le_of ?_ ?_ <;> first | trivial | (simp [*, (show B (k + 1) = _ from kB)]; done)))
            | some z =>
              obtain ⟨x, d⟩ := z
              have hxl := hlen x d hb
              have c4 := less_c q x (by omega) (by omega)
              have hj : (c < d ∧ B (k + 1) = some (q, c)) ∨ (¬ c < d ∧ c = d ∧ lessS q x = true ∧ B (k + 1) = some (q, c)) ∨ (¬ c < d ∧ c = d ∧ lessS q x = false ∧ B (k + 1) = some (x, d)) ∨ (¬ c < d ∧ ¬ c = d ∧ B (k + 1) = some (x, d)) := by
                rw [hb] at hst
                simp only [joinO] at hst
                rw [hst]
                by_cases h1 : c < d
                · exact .inl ⟨h1, by rw [if_pos (.inl h1)]⟩
                · by_cases h2 : c = d
                  · cases h3 : lessS q x with
                    | true => exact .inr (.inl ⟨h1, h2, rfl, by rw [if_pos (.inr ⟨h2, rfl⟩)]⟩)
                    | false => exact .inr (.inr (.inl ⟨h1, h2, rfl, by rw [if_neg (by simp [h1])]⟩))
                  · exact .inr (.inr (.inr ⟨h1, h2, by rw [if_neg (by simp [h1, h2])]⟩))
              clear hst hlen
              generalize lessS q x = ls at *
              have hsk2 := keep hsk
              clear hsk
              rcases hj with ⟨h1, kB0⟩ | ⟨h1, h2, h3, kB0⟩ | ⟨h1, h2, h3, kB0⟩ | ⟨h1, h2, kB0⟩
              all_goals
                have kB := keep kB0
                clear kB0
                rcases hsk2 with ⟨hx1, ho, hxe⟩ | ⟨hx1, ho, hab⟩ | ⟨hx1, ho, hab, hx2⟩
                all_goals
                  repeat' (first | (with_reducible first | refine awp_regionGv (id := 12) [81] [(11, 10), (12, 11), (14, 12)] [0, 1, 2, 3, 5, 6, 13] [4, 7, 8, 9, 10, 11, 12, 14, 15, 16] [[.new 0], [.new 0], [], [], [.new 0], [.new 0], [.new 0]] [[.new 0], [.new 0], [], [], [], [], [], [.new 2], [], []] mixed (by decide +kernel) (by decide +kernel) ?_ | refine awp_seq ?_ | refine awp_blockS ?_ | refine awp_blockC ?_ | refine awp_blockR ?_ | refine awp_skip ?_ | refine awp_ret ?_ | refine awp_exit ?_ | refine awp_region ?_ | refine awp_regionD (id := 4) 7 mixed (by decide +kernel) ?_ | refine awp_regionSE (id := 12) [(11, 10), (12, 11), (14, 12)] [0, 1, 2, 3, 5, 6, 13] [4, 7, 8, 9, 10, 11, 12, 14, 15, 16] [[.new 0], [.new 0], [], [], [.new 0], [.new 0], [.new 0]] [[.new 0], [.new 0], [], [], [], [], [], [.new 2], [], []] mixed (by decide +kernel) (by decide +kernel) ?_ | refine awp_condM ?_ | refine And.intro ?_ ?_ | apply gQ_merge | apply gE_merge | exact EqV_w | exact EqE_w | exact EqV_ptr | exact EqE_ptr | exact EqV_msl | exact EqE_msl | exact EqV_agg | exact EqE_agg | exact EqV_fn | exact EqE_fn | exact EqV_gd | exact EqE_gd | refine gM_splitN ?_ ?_ | refine gM_split ?_ ?_ |  refine condM_splitDN ?_ ?_ | refine condM_splitD ?_ ?_ | refine condM_splitN ?_ ?_ | refine condM_split ?_ ?_ | refine condM_any ?_ ?_ | refine cw (c1) ?_ | refine cw (c2) ?_ | refine cw (c3) ?_ | refine cw (c4) ?_ | intro _) | (simp [*, hlt, hs, cStop, hmul]) | (refine cw_eq (c1) ?_ ?_; (· (simp [*]; done))) | (refine cw_eq (c2) ?_ ?_; (· (simp [*]; done))) | (refine cw_eq (c3) ?_ ?_; (· (simp [*]; done))) | (refine cw_eq (c4) ?_ ?_; (· (simp [*]; done))))
                  all_goals try first | exact inI64 (by omega) (by omega) | omega
                  all_goals (refine loopK_normal _ _ _ _ _ (k + 1) _ ?_ (by first | omega | (dsimp only; omega) | (simp; omega)) ?_; (· omega); (refine le_of ?_ ?_ <;> first | trivial | (simp [*, (show B (k + 1) = _ from kB)]; done)))
      · have hke : k = p.stops.length := by omega
        subst hke
        have hR : B p.stops.length = R := kend
        repeat' (first | (with_reducible first | refine awp_seq ?_ | refine awp_blockS ?_ | refine awp_blockC ?_ | refine awp_blockR ?_ | refine awp_skip ?_ | refine awp_ret ?_ | refine awp_exit ?_ | refine awp_region ?_ | refine awp_regionD (id := 4) 7 mixed (by decide +kernel) ?_ | refine awp_regionSE (id := 12) [(11, 10), (12, 11), (14, 12)] [0, 1, 2, 3, 5, 6, 13] [4, 7, 8, 9, 10, 11, 12, 14, 15, 16] [[.new 0], [.new 0], [], [], [.new 0], [.new 0], [.new 0]] [[.new 0], [.new 0], [], [], [], [], [], [.new 2], [], []] mixed (by decide +kernel) (by decide +kernel) ?_ | refine awp_condM ?_ | refine And.intro ?_ ?_ | apply gQ_merge | apply gE_merge | exact EqV_w | exact EqE_w | exact EqV_ptr | exact EqE_ptr | exact EqV_msl | exact EqE_msl | exact EqV_agg | exact EqE_agg | exact EqV_fn | exact EqE_fn | exact EqV_gd | exact EqE_gd | refine gM_splitN ?_ ?_ | refine gM_split ?_ ?_ |  refine condM_splitDN ?_ ?_ | refine condM_splitD ?_ ?_ | refine condM_splitN ?_ ?_ | refine condM_split ?_ ?_ | refine condM_any ?_ ?_ | intro _) | (simp [*]))
        all_goals (refine finW_intro () ?_ ?_; (· trivial); (refine le_of ?_ ?_ <;> first | trivial | (simp [*, hR]; done)))
    · rcases R with _ | ⟨q, c⟩
      all_goals
        repeat' (first | (with_reducible first | refine awp_seq ?_ | refine awp_blockS ?_ | refine awp_blockC ?_ | refine awp_blockR ?_ | refine awp_skip ?_ | refine awp_ret ?_ | refine awp_exit ?_ | refine awp_region ?_ | refine awp_regionD (id := 4) 7 mixed (by decide +kernel) ?_ | refine awp_regionSE (id := 12) [(11, 10), (12, 11), (14, 12)] [0, 1, 2, 3, 5, 6, 13] [4, 7, 8, 9, 10, 11, 12, 14, 15, 16] [[.new 0], [.new 0], [], [], [.new 0], [.new 0], [.new 0]] [[.new 0], [.new 0], [], [], [], [], [], [.new 2], [], []] mixed (by decide +kernel) (by decide +kernel) ?_ | refine awp_condM ?_ | refine And.intro ?_ ?_ | apply gQ_merge | apply gE_merge | exact EqV_w | exact EqE_w | exact EqV_ptr | exact EqE_ptr | exact EqV_msl | exact EqE_msl | exact EqV_agg | exact EqE_agg | exact EqV_fn | exact EqE_fn | exact EqV_gd | exact EqE_gd | refine gM_splitN ?_ ?_ | refine gM_split ?_ ?_ |  refine condM_splitDN ?_ ?_ | refine condM_splitD ?_ ?_ | refine condM_splitN ?_ ?_ | refine condM_split ?_ ?_ | refine condM_any ?_ ?_ | intro _) | (simp [*, ordPl, noPlan, withS]))
end Go.Proofs.Ytiialcomflggcaa

