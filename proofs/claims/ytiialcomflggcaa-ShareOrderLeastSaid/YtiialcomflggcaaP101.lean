/- Contracts of functions for this claim: lemmas alone. -/
import Derived.Test.YtiialcomflggcaaP12
import Derived.Test.YtiialcomflggcaaP34
set_option linter.unusedSimpArgs false
set_option linter.unusedVariables false
namespace Go.Proofs.Ytiialcomflggcaa
open Go Go.Fi
set_option maxRecDepth 20000

/-! ### lists of stops in their order -/
def lessS : List Stop → List Stop → Bool
  | a :: x, b :: y => if a = b then lessS x y else decide (a.rider < b.rider) || (decide (a.rider = b.rider) && !a.out)
  | _, _ => false
theorem lessS_app (l x y : List Stop) : lessS (l ++ x) (l ++ y) = lessS x y := by
  induction l with
  | nil => rfl
  | cons a l ih => simp [lessS, ih]
/-! ### the best of some lists: of least cost, of several the first in their order -/
section
variable (K : List Stop → Bool) (C : List Stop → Int)
def BestOf (M : List Stop → Prop) : Option (List Stop × Int) → Prop
  | none => ∀ q, M q → K q = false
  | some (q, c) => M q ∧ K q = true ∧ c = C q ∧ ∀ x, M x → K x = true → c < C x ∨ (c = C x ∧ (x = q ∨ lessS q x = true))
def pickO (b : Option (List Stop × Int)) (q : List Stop) : Option (List Stop × Int) :=
  if K q = true then match b with
    | none => some (q, C q)
    | some (_, c) => if C q < c then some (q, C q) else b
  else b
variable {K C}
theorem BestOf.congr {M M' : List Stop → Prop} {r : Option (List Stop × Int)} (h : BestOf K C M r) (e : ∀ q, M q ↔ M' q) : BestOf K C M' r := by
  have : M = M' := funext fun q => propext (e q)
  rw [← this]; exact h
theorem best_pick {M : List Stop → Prop} {b : Option (List Stop × Int)} (h : BestOf K C M b) {q : List Stop} (hq : ∀ x, M x → lessS x q = true) : BestOf K C (fun x => M x ∨ x = q) (pickO K C b q) := by
  unfold pickO
  by_cases hk : K q = true
  · rw [if_pos hk]
    match b, h with
    | none, h =>
      refine ⟨.inr rfl, hk, rfl, fun x hx hkx => ?_⟩
      rcases hx with hx | rfl
      · rw [h x hx] at hkx; cases hkx
      · exact .inr ⟨rfl, .inl rfl⟩
    | some (r, c), h =>
      obtain ⟨h1, h2, h3, h4⟩ := h
      dsimp only
      by_cases hc : C q < c
      · rw [if_pos hc]
        refine ⟨.inr rfl, hk, rfl, fun x hx hkx => ?_⟩
        rcases hx with hx | rfl
        · have := h4 x hx hkx
          exact .inl (by omega)
        · exact .inr ⟨rfl, .inl rfl⟩
      · rw [if_neg hc]
        refine ⟨.inl h1, h2, h3, fun x hx hkx => ?_⟩
        rcases hx with hx | rfl
        · exact h4 x hx hkx
        · by_cases he : c < C x
          · exact .inl he
          · exact .inr ⟨by omega, .inr (hq r h1)⟩
  · rw [if_neg hk]
    match b, h with
    | none, h =>
      intro x hx
      rcases hx with hx | rfl
      · exact h x hx
      · simpa using hk
    | some (r, c), h =>
      obtain ⟨h1, h2, h3, h4⟩ := h
      refine ⟨.inl h1, h2, h3, fun x hx hkx => ?_⟩
      rcases hx with hx | rfl
      · exact h4 x hx hkx
      · exact absurd hkx hk
theorem best_fold : ∀ (todo done : List (List Stop)) (b : Option (List Stop × Int)), (done ++ todo).Pairwise (fun x y => lessS x y = true) → BestOf K C (· ∈ done) b → BestOf K C (· ∈ done ++ todo) (todo.foldl (pickO K C) b)
  | [], done, b, _, h => by simpa using h
  | q :: todo, done, b, hp, h => by
    have hq : ∀ x, x ∈ done → lessS x q = true := fun x hx => (List.pairwise_append.1 hp).2.2 x hx q (by simp)
    have h1 := (best_pick h hq).congr (M' := (· ∈ done ++ [q])) (fun x => by simp)
    have e : done ++ q :: todo = (done ++ [q]) ++ todo := by simp
    rw [e] at hp ⊢
    exact best_fold todo (done ++ [q]) _ hp h1
end
/-! ### all orders of the stops -/
def nextS (rs : List Rider) (l : List Stop) (i : Nat) : Stop := if (nth rs i).aboard || elemB l ⟨(i : Int), false⟩ then ⟨(i : Int), true⟩ else ⟨(i : Int), false⟩
def ordersS (rs : List Rider) : Nat → List Stop → List (List Stop)
  | 0, l => [l]
  | n + 1, l => (List.range rs.length).flatMap fun i => if elemB l (nextS rs l i) then [] else ordersS rs n (l ++ [nextS rs l i])
theorem orders_succ (rs : List Rider) (n : Nat) (l : List Stop) : ordersS rs (n + 1) l = (List.range rs.length).flatMap fun i => if elemB l (nextS rs l i) then [] else ordersS rs n (l ++ [nextS rs l i]) := rfl
theorem nextS_rider (rs : List Rider) (l : List Stop) (i : Nat) : (nextS rs l i).rider = (i : Int) := by
  unfold nextS; split <;> rfl
theorem orders_form (rs : List Rider) : ∀ (n : Nat) (l q : List Stop), q ∈ ordersS rs n l → ∃ t, q = l ++ t ∧ t.length = n
  | 0, l, q, h => ⟨[], by simpa [ordersS] using h, rfl⟩
  | n + 1, l, q, h => by
    unfold ordersS at h
    obtain ⟨i, _, hi⟩ := List.mem_flatMap.1 h
    split at hi
    · cases hi
    · obtain ⟨t, h1, h2⟩ := orders_form rs n _ q hi
      exact ⟨nextS rs l i :: t, by rw [h1]; simp, by simp [h2]⟩
theorem orders_sorted (rs : List Rider) : ∀ (n : Nat) (l : List Stop), (ordersS rs n l).Pairwise (fun x y => lessS x y = true)
  | 0, l => by simp [ordersS]
  | n + 1, l => by
    unfold ordersS
    rw [List.pairwise_flatMap]
    refine ⟨fun i _ => ?_, List.pairwise_lt_range.imp fun {i j} hij x hx y hy => ?_⟩
    · split
      · exact List.Pairwise.nil
      · exact orders_sorted rs n _
    · split at hx
      · cases hx
      · split at hy
        · cases hy
        · obtain ⟨t, h1, _⟩ := orders_form rs n _ x hx
          obtain ⟨u, h2, _⟩ := orders_form rs n _ y hy
          rw [h1, h2, List.append_assoc, List.append_assoc, lessS_app]
          have h3 := nextS_rider rs l i
          have h4 := nextS_rider rs l j
          have hne : nextS rs l i ≠ nextS rs l j := fun e => by rw [e] at h3; omega
          simp [lessS, hne, h3, h4, hij]
/-- the best order, as the program finds it -/
def bestOrd (K : List Stop → Bool) (C : List Stop → Int) (rs : List Rider) (n : Nat) (l : List Stop) : Option (List Stop × Int) := (ordersS rs n l).foldl (pickO K C) none
theorem bestOrd_best (K : List Stop → Bool) (C : List Stop → Int) (rs : List Rider) (n : Nat) (l : List Stop) : BestOf K C (· ∈ ordersS rs n l) (bestOrd K C rs n l) := by
  have := best_fold (K := K) (C := C) (ordersS rs n l) [] none (by simpa using orders_sorted rs n l) (fun q hq => by cases hq)
  rw [List.nil_append] at this
  exact this
/-- what may come next, as the document says it -/
def skipS (rs : List Rider) (l : List Stop) (s : Stop) : Bool := elemB l s || (s.out && !(nth rs s.rider.toNat).aboard && !elemB l ⟨s.rider, false⟩)
/-- stops of a right plan -/
structure AllStops (rs : List Rider) (ss : List Stop) : Prop where
  rng : ∀ s ∈ ss, 0 ≤ s.rider ∧ s.rider < rs.length
  ab : ∀ s ∈ ss, s.out = true ∨ (nth rs s.rider.toNat).aboard = false
  out_ : ∀ i : Nat, i < rs.length → ⟨(i : Int), true⟩ ∈ ss
  in_ : ∀ i : Nat, i < rs.length → (nth rs i).aboard = false → ⟨(i : Int), false⟩ ∈ ss
theorem next_iff {rs : List Rider} {ss l : List Stop} (h : AllStops rs ss) (s : Stop) : (s ∈ ss ∧ skipS rs l s = false) ↔ ∃ i, i < rs.length ∧ elemB l (nextS rs l i) = false ∧ s = nextS rs l i := by
  constructor
  · rintro ⟨hs, hk⟩
    have hr := h.rng s hs
    have ha := h.ab s hs
    obtain ⟨r, o⟩ := s
    simp only at hr ha
    obtain ⟨i, rfl⟩ := Int.eq_ofNat_of_zero_le hr.1
    have hi : i < rs.length := by omega
    simp only [skipS, Bool.or_eq_false_iff, Int.toNat_natCast] at hk ha
    have e : nextS rs l i = ⟨(i : Int), o⟩ := by
      unfold nextS
      cases o with
      | true =>
        rw [if_pos]
        have h2 := hk.2
        cases h3 : (nth rs i).aboard with
        | true => simp
        | false => rw [h3] at h2; simpa using h2
      | false =>
        rw [if_neg]
        have h2 : (nth rs i).aboard = false := by simpa using ha
        rw [h2, hk.1]; simp
    exact ⟨i, hi, by rw [e]; exact hk.1, e.symm⟩
  · rintro ⟨i, hi, hn, rfl⟩
    unfold nextS at hn ⊢
    by_cases h1 : ((nth rs i).aboard || elemB l ⟨(i : Int), false⟩) = true
    · rw [if_pos h1] at hn ⊢
      refine ⟨h.out_ i hi, ?_⟩
      simp only [skipS, hn, Bool.false_or, Int.toNat_natCast, Bool.true_and]
      cases h3 : (nth rs i).aboard with
      | true => simp
      | false => rw [h3] at h1; simpa using h1
    · rw [if_neg h1] at hn ⊢
      have h2 : (nth rs i).aboard = false := by
        cases h3 : (nth rs i).aboard with
        | true => rw [h3] at h1; simp at h1
        | false => rfl
      exact ⟨h.in_ i hi h2, by simp [skipS, hn]⟩
/-- an order that is made step by step is among the orders -/
theorem mem_orders {rs : List Rider} : ∀ (n : Nat) (l t : List Stop), t.length = n → (∀ k, k < n → ∃ i, i < rs.length ∧ elemB (l ++ t.take k) (nextS rs (l ++ t.take k) i) = false ∧ nth t k = nextS rs (l ++ t.take k) i) → l ++ t ∈ ordersS rs n l
  | 0, l, t, ht, _ => by
    have : t = [] := List.eq_nil_of_length_eq_zero ht
    subst this; simp [ordersS]
  | n + 1, l, [], ht, _ => by cases ht
  | n + 1, l, s :: t, ht, h => by
    obtain ⟨i, h1, h2, h3⟩ := h 0 (by omega)
    simp only [List.take_zero, List.append_nil] at h2 h3
    have h3' : s = nextS rs l i := h3
    unfold ordersS
    refine List.mem_flatMap.2 ⟨i, by simpa using h1, ?_⟩
    rw [if_neg (by rw [h2]; decide), ← h3']
    have := mem_orders n (l ++ [s]) t (by simpa using ht) (fun k hk => by
      obtain ⟨j, g1, g2, g3⟩ := h (k + 1) (by omega)
      have e : l ++ (s :: t).take (k + 1) = l ++ [s] ++ t.take k := by simp
      rw [e] at g2 g3
      exact ⟨j, g1, g2, by simpa [nth] using g3⟩)
    simpa using this
/-- each step of an order -/
theorem orders_steps {rs : List Rider} : ∀ (n : Nat) (l q : List Stop), q ∈ ordersS rs n l → ∀ k, l.length ≤ k → k < q.length → ∃ i, i < rs.length ∧ elemB (q.take k) (nextS rs (q.take k) i) = false ∧ nth q k = nextS rs (q.take k) i
  | 0, l, q, h, k, h1, h2 => by
    have : q = l := by simpa [ordersS] using h
    rw [this] at h2; omega
  | n + 1, l, q, h, k, h1, h2 => by
    unfold ordersS at h
    obtain ⟨i, hi, hq⟩ := List.mem_flatMap.1 h
    by_cases g : elemB l (nextS rs l i) = true
    · rw [if_pos g] at hq; cases hq
    · rw [if_neg g] at hq
      by_cases e : k = l.length
      · subst e
        obtain ⟨t, rfl, _⟩ := orders_form rs n _ q hq
        refine ⟨i, by simpa using hi, ?_⟩
        have e1 : (l ++ [nextS rs l i] ++ t).take l.length = l := by simp
        rw [e1]
        refine ⟨by simpa using g, ?_⟩
        simp [nth, List.getD_eq_getElem?_getD]
      · exact orders_steps n _ q hq k (by simp; omega) h2
end Go.Proofs.Ytiialcomflggcaa
namespace Go.Proofs.Ytiialcomflggcaa
open Go Go.Fi
set_option maxRecDepth 20000

/-! ### the orders of a right plan's stops -/
theorem len_le_of_sub : ∀ {q ss : List Stop}, q.Nodup → (∀ x ∈ q, x ∈ ss) → q.length ≤ ss.length
  | [], _, _, _ => Nat.zero_le _
  | a :: q, ss, hn, hs => by
    have ha : a ∈ ss := hs a (by simp)
    have h1 := List.nodup_cons.1 hn
    have ih := len_le_of_sub (q := q) (ss := ss.erase a) h1.2 (fun x hx => (List.mem_erase_of_ne (fun e => h1.1 (by rw [← e]; exact hx))).2 (hs x (by simp [hx])))
    rw [List.length_erase_of_mem ha] at ih
    have := List.length_pos_of_mem ha
    simp only [List.length_cons]; omega
theorem sub_of_len : ∀ {q ss : List Stop}, q.Nodup → (∀ x ∈ q, x ∈ ss) → ss.length ≤ q.length → ∀ x ∈ ss, x ∈ q
  | [], ss, _, _, h => by
    have : ss = [] := List.eq_nil_of_length_eq_zero (by simpa using h)
    subst this; simp
  | a :: q, ss, hn, hs, h => by
    have ha : a ∈ ss := hs a (by simp)
    have h1 := List.nodup_cons.1 hn
    have ih := sub_of_len (q := q) (ss := ss.erase a) h1.2 (fun x hx => (List.mem_erase_of_ne (fun e => h1.1 (by rw [← e]; exact hx))).2 (hs x (by simp [hx])))
      (by rw [List.length_erase_of_mem ha]; simp only [List.length_cons] at h; omega)
    intro x hx
    by_cases e : x = a
    · simp [e]
    · exact List.mem_cons_of_mem _ (ih x ((List.mem_erase_of_ne e).2 hx))
theorem nodup_of_steps : ∀ {l : List Stop}, (∀ k, k < l.length → elemB (l.take k) (nth l k) = false) → l.Nodup := by
  intro l h
  rw [List.nodup_iff_pairwise_ne, List.pairwise_iff_getElem]
  intro i j hi hj hij e
  have h1 := h j hj
  have h2 : elemB (l.take j) (nth l j) = true := elemB_iff.2 (List.mem_iff_getElem.2 ⟨i, by simp; omega, by simp [nth, List.getD_eq_getElem?_getD, List.getElem?_eq_getElem hj, e]⟩)
  rw [h1] at h2; cases h2
def withS (p : Plan) (q : List Stop) : Plan := ⟨p.car, p.riders, q⟩
theorem abB_eq (p : Plan) (s : Stop) : abB p s = (nth p.riders s.rider.toNat).aboard := rfl
theorem PlanOk.all {m : Grid} {p : Plan} (ok : PlanOk m p) : AllStops p.riders p.stops := by
  have hst : ∀ s ∈ p.stops, ∃ k, k < p.stops.length ∧ s = nth p.stops k := fun s hs => by
    obtain ⟨k, hk, rfl⟩ := List.mem_iff_getElem.1 hs
    exact ⟨k, hk, by simp [nth, List.getD_eq_getElem?_getD, List.getElem?_eq_getElem hk]⟩
  have hout : ∀ i : Nat, i < p.riders.length → (⟨(i : Int), true⟩ : Stop) ∈ p.stops := fun i hi => elemB_iff.1 (ok.gaps i hi)
  refine ⟨fun s hs => ?_, fun s hs => ?_, hout, fun i hi ha => ?_⟩
  · obtain ⟨k, hk, rfl⟩ := hst s hs
    exact (stopE_ok.1 (ok.stops k hk)).1
  · obtain ⟨k, hk, rfl⟩ := hst s hs
    exact (stopE_ok.1 (ok.stops k hk)).2.2.1
  · obtain ⟨k, hk, e⟩ := hst _ (hout i hi)
    have h := (stopE_ok.1 (ok.stops k hk)).2.2.2
    rw [← e] at h
    simp only [abB_eq, Int.toNat_natCast, ha] at h
    rcases h with h | h | h
    · cases h
    · cases h
    · exact List.mem_of_mem_take (elemB_iff.1 h)
theorem PlanOk.nodup {m : Grid} {p : Plan} (ok : PlanOk m p) : p.stops.Nodup := nodup_of_steps fun k hk => (stopE_ok.1 (ok.stops k hk)).2.1
theorem PlanOk.in_orders {m : Grid} {p : Plan} (ok : PlanOk m p) : p.stops ∈ ordersS p.riders p.stops.length [] := by
  have h := mem_orders (rs := p.riders) p.stops.length [] p.stops rfl (fun k hk => by
    have h := stopE_ok.1 (ok.stops k hk)
    have hm : nth p.stops k ∈ p.stops := by simp [nth, List.getD_eq_getElem?_getD, List.getElem?_eq_getElem hk]
    obtain ⟨i, h1, h2, h3⟩ := (next_iff ok.all (l := p.stops.take k) (nth p.stops k)).1 ⟨hm, by
      unfold skipS
      rw [h.2.1, Bool.false_or]
      have := h.2.2.2
      rw [abB_eq] at this
      rcases this with h | h | h <;> simp [h]⟩
    rw [List.nil_append]
    exact ⟨i, h1, h2, h3⟩)
  simpa using h
theorem orders_ok {m : Grid} {p : Plan} (ok : PlanOk m p) {q : List Stop} (hq : q ∈ ordersS p.riders p.stops.length []) : PlanOk m (withS p q) := by
  have hst := orders_steps _ _ _ hq
  have hlen : q.length = p.stops.length := by
    obtain ⟨t, rfl, ht⟩ := orders_form _ _ _ _ hq
    simpa using ht
  have hstep : ∀ k, k < q.length → ∃ i, i < p.riders.length ∧ elemB (q.take k) (nextS p.riders (q.take k) i) = false ∧ nth q k = nextS p.riders (q.take k) i := fun k hk => hst k (Nat.zero_le _) hk
  have hin : ∀ k, k < q.length → nth q k ∈ p.stops ∧ skipS p.riders (q.take k) (nth q k) = false := fun k hk => by
    obtain ⟨i, h1, h2, h3⟩ := hstep k hk
    exact (next_iff ok.all (l := q.take k) (nth q k)).2 ⟨i, h1, h2, h3⟩
  have hnd : q.Nodup := nodup_of_steps fun k hk => by
    obtain ⟨i, h1, h2, h3⟩ := hstep k hk
    rw [h3]; exact h2
  have hsub : ∀ x ∈ q, x ∈ p.stops := fun x hx => by
    obtain ⟨k, hk, rfl⟩ := List.mem_iff_getElem.1 hx
    have := (hin k hk).1
    simpa [nth, List.getD_eq_getElem?_getD, List.getElem?_eq_getElem hk] using this
  refine ⟨ok.at0, ok.at1, ok.t0, ok.t1, ok.s0, ok.s1, ok.rl, ok.riders, ok.ab, fun k hk => ?_, fun j hj => ?_⟩
  · have hk' : k < q.length := hk
    obtain ⟨h1, h2⟩ := hin k hk'
    refine stopE_ok.2 ⟨ok.all.rng _ h1, ?_, ?_, ?_⟩
    · unfold skipS at h2
      exact (Bool.or_eq_false_iff.1 h2).1
    · have := ok.all.ab _ h1
      rw [abB_eq]; exact this
    · unfold skipS at h2
      have h3 := (Bool.or_eq_false_iff.1 h2).2
      rw [abB_eq]
      show (nth q k).out = false ∨ (nth p.riders (nth q k).rider.toNat).aboard = true ∨ elemB (q.take k) ⟨(nth q k).rider, false⟩ = true
      cases g1 : (nth q k).out with
      | false => exact .inl rfl
      | true =>
        rw [g1] at h3
        cases g2 : (nth p.riders (nth q k).rider.toNat).aboard with
        | true => exact .inr (.inl rfl)
        | false => rw [g2] at h3; exact .inr (.inr (by simpa using h3))
  · exact elemB_iff.2 (sub_of_len hnd hsub (by omega) _ (ok.all.out_ j hj))
theorem stops_sub {m m' : Grid} {p p' : Plan} (ok : PlanOk m p) (ok' : PlanOk m' p') (hr : p'.riders = p.riders) : ∀ s ∈ p'.stops, s ∈ p.stops := by
  intro s hs
  have h1 := ok'.all.rng s hs
  have h2 := ok'.all.ab s hs
  rw [hr] at h1 h2
  obtain ⟨r, o⟩ := s
  simp only at h1 h2
  obtain ⟨i, rfl⟩ := Int.eq_ofNat_of_zero_le h1.1
  rw [Int.toNat_natCast] at h2
  cases o with
  | true => exact ok.all.out_ i (by omega)
  | false => exact ok.all.in_ i (by omega) (h2.resolve_left (by decide))
/-- another right plan of the same riders has one of the orders -/
theorem orders_of {m m' : Grid} {p p' : Plan} (ok : PlanOk m p) (ok' : PlanOk m' p') (hr : p'.riders = p.riders) : p'.stops ∈ ordersS p.riders p.stops.length [] := by
  have h1 := len_le_of_sub ok'.nodup (stops_sub ok ok' hr)
  have h2 := len_le_of_sub ok.nodup (stops_sub ok' ok hr.symm)
  have := ok'.in_orders
  rw [hr, show p'.stops.length = p.stops.length by omega] at this
  exact this
end Go.Proofs.Ytiialcomflggcaa
namespace Go.Proofs.Ytiialcomflggcaa
open Go Go.Fi
set_option maxRecDepth 20000

/-! ### which list comes first -/
end Go.Proofs.Ytiialcomflggcaa

