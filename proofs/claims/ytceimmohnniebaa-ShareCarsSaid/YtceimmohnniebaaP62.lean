/- Contracts of functions for this claim: lemmas alone. -/
import Derived.Test.YtceimmohnniebaaP59
import Derived.Test.YtceimmohnniebaaP36
set_option linter.unusedSimpArgs false
set_option linter.unusedVariables false
namespace Go.Proofs.Ytceimmohnniebaa
open Go Go.Fi
set_option maxRecDepth 20000

/-! ### which car takes a rider best -/
@[simp] theorem cPlans_len (l : List Plan) : (cPlans l).length = l.length * 5 := flatMap_len cPlan 5 (fun _ => rfl) l
@[simp] theorem cPlans_drop (l : List Plan) (k : Nat) (h : k < l.length) : ((cPlans l).drop (k * 5)).take 5 = cPlan (nth l k) := flatMap_drop cPlan 5 (fun _ => rfl) l k h
abbrev Choice := Option (Nat × Int × Offer)
def chF (B : Option Offer) (C : Int) (i : Nat) (b : Choice) : Choice :=
  match B, b with
  | none, b => b
  | some x, none => some (i, x.2.2 - C, x)
  | some x, some (c, e, y) => if x.2.2 - C < e then some (i, x.2.2 - C, x) else some (c, e, y)
def carStep (m : Grid) (r : Rider) (i : Nat) (p : Plan) (b : Choice) : Choice := chF (bestS m p r) (costP m p) i b
def carK (m : Grid) (l : List Plan) (r : Rider) : Nat → Choice
  | 0 => none
  | k + 1 => carStep m r k (nth l k) (carK m l r k)
@[simp] theorem carK_zero (m : Grid) (l : List Plan) (r : Rider) : carK m l r 0 = none := rfl
def carsE (m : Grid) (r : Rider) : List Plan → Int
  | [] => 0
  | p :: l => if offE m p r = 0 then carsE m r l else offE m p r
def numV : Choice → Int | none => -1 | some x => x.1
def extV : Choice → Int | none => 0 | some x => x.2.1
def offV : Choice → Offer | none => (0, 0, 0) | some x => x.2.2
@[simp] theorem numV_none : numV none = -1 := rfl
@[simp] theorem extV_none : extV none = 0 := rfl
@[simp] theorem offV_none : offV none = (0, 0, 0) := rfl
theorem carsE_step {m : Grid} {r : Rider} {l : List Plan} {k : Nat} (h : k < l.length) : carsE m r (l.drop k) = if offE m (nth l k) r = 0 then carsE m r (l.drop (k + 1)) else offE m (nth l k) r := by
  rw [drop_nth l k h]; rfl
theorem carsE_end (m : Grid) (r : Rider) (l : List Plan) : carsE m r (l.drop l.length) = 0 := by rw [List.drop_length]; rfl
def carS (m : Grid) (l : List Plan) (r : Rider) : (Int × Offer) × Int :=
  if (mapS m).2.2 = 0 then
    if l.length = 0 then ((0, 0, 0, 0), 10) else if 8 < l.length then ((0, 0, 0, 0), 8) else
    if carsE m r l = 0 then (match carK m l r l.length with | none => ((0, 0, 0, 0), 12) | some (c, _, x) => (((c : Int), x), 0)) else ((0, 0, 0, 0), carsE m r l)
  else ((0, 0, 0, 0), (mapS m).2.2)
def carP (x : (Int × Offer) × Int) : PV := .tup [.int .i64 x.1.1, .agg [.int .i64 x.1.2.1, .int .i64 x.1.2.2.1, .int .i64 x.1.2.2.2], .int .i64 x.2]
theorem costP_bd {m : Grid} {p : Plan} (ok : DriveOk m p) : -1000000 ≤ costP m p ∧ costP m p ≤ 2000000000 := by
  have ht := ok.times noDelay_bd
  have h0 := ok.t0
  have h1 := ok.t1
  unfold costP costS
  split
  · omega
  · have := ht ((timesS m p noDelay).length - 1) (by omega)
    omega
theorem best_bd {m : Grid} {p : Plan} {r : Rider} (ok : OfferOk m p r) {x : Offer} (h : bestS m p r = some x) : -1000000 ≤ x.2.2 ∧ x.2.2 ≤ 2000000000 := by
  have hrl := ok.rl
  have hsl := ok.sl
  rcases bestS_cases (m := m) (p := p) (r := r) with ⟨h1, _⟩ | ⟨y, h1, h2, _⟩
  · rw [h1] at h; cases h
  · rw [h1] at h; injection h with h; subst h
    obtain ⟨i, o, hio, ho, _, e⟩ := mem_offers.1 h2
    rw [e]
    exact costP_bd (insS_tour ok.tour ok.r hio ho (by omega) (by omega)).go
/-- what is known of plans -/
def PlansIn (l : List Plan) : Prop := ∀ k, k < l.length → PlanIn (nth l k) ∧ (nth l k).stops.length < 5000
theorem planS_of {m : Grid} {p : Plan} (h : (mapS m).2.2 = 0) : checkS m p = planS m p := if_pos h
theorem carK_bd {m : Grid} {l : List Plan} {r : Rider} (hl : PlansIn l) {k : Nat} (hk : k ≤ l.length) (h : ∀ j, j < k → offE m (nth l j) r = 0) :
    (numV (carK m l r k) = -1 ∧ carK m l r k = none ∨ 0 ≤ numV (carK m l r k)) ∧ (-3000000000 ≤ extV (carK m l r k) ∧ extV (carK m l r k) ≤ 3000000000) := by
  induction k with
  | zero => exact ⟨.inl ⟨rfl, rfl⟩, by show (-3000000000 : Int) ≤ 0; decide, by show (0 : Int) ≤ 3000000000; decide⟩
  | succ k ih =>
    have hi := ih (by omega) (fun j hj => h j (by omega))
    have he := h k (by omega)
    unfold offE at he
    have hc : (checkS m (nth l k)).2 = 0 := by
      by_cases hc : (checkS m (nth l k)).2 = 0
      · exact hc
      · rw [if_neg hc] at he; exact he
    rw [if_pos hc] at he
    have ok := offer_ok (hl k (by omega)).1 hc he (hl k (by omega)).2
    have cb := costP_bd ok.tour.go
    unfold carK carStep chF
    cases hb : bestS m (nth l k) r with
    | none => exact hi
    | some x =>
      have bb := best_bd ok hb
      have hg : (numV (some (k, x.2.2 - costP m (nth l k), x)) = -1 ∧ (some (k, x.2.2 - costP m (nth l k), x) : Choice) = none ∨ 0 ≤ numV (some (k, x.2.2 - costP m (nth l k), x))) ∧ (-3000000000 ≤ extV (some (k, x.2.2 - costP m (nth l k), x)) ∧ extV (some (k, x.2.2 - costP m (nth l k), x)) ≤ 3000000000) := by
        refine ⟨.inr ?_, ?_, ?_⟩
        · show (0 : Int) ≤ (k : Int); omega
        · show _ ≤ x.2.2 - costP m (nth l k); omega
        · show x.2.2 - costP m (nth l k) ≤ _; omega
      cases hcK : carK m l r k with
      | none => exact hg
      | some y =>
        obtain ⟨c, e, y⟩ := y
        rw [hcK] at hi
        simp only
        split
        · exact hg
        · exact hi
end Go.Proofs.Ytceimmohnniebaa
