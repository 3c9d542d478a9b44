/- Contracts of functions for this claim: lemmas alone. -/
import Derived.Test.YtiialcomflggcaaP12
import Derived.Test.YtiialcomflggcaaP34
set_option linter.unusedSimpArgs false
set_option linter.unusedVariables false
namespace Go.Proofs.Ytiialcomflggcaa
open Go Go.Fi
set_option maxRecDepth 20000

/-! ### lists of stops in their order -/
def lessS : List Stop → List Stop → Bool
  | a :: x, b :: y => if a = b then lessS x y else decide (a.rider < b.rider) || (decide (a.rider = b.rider) && !a.out)
  | _, _ => false
theorem lessS_app (l x y : List Stop) : lessS (l ++ x) (l ++ y) = lessS x y := by
  induction l with
  | nil => rfl
  | cons a l ih => simp [lessS, ih]
theorem lessS_irrefl (x : List Stop) : lessS x x = false := by
  induction x with
  | nil => rfl
  | cons a x ih => simp [lessS, ih]
theorem stop_out {a b : Stop} (h : a ≠ b) (hr : a.rider = b.rider) : a.out = !b.out := by
  obtain ⟨a1, a2⟩ := a; obtain ⟨b1, b2⟩ := b
  simp only at hr; subst hr
  cases a2 <;> cases b2 <;> simp_all
theorem lessS_trans : ∀ {x y z : List Stop}, lessS x y = true → lessS y z = true → lessS x z = true
  | [], _, _, h, _ => by cases h
  | _ :: _, [], _, h, _ => by cases h
  | _ :: _, _ :: _, [], _, h => by cases h
  | a :: x, b :: y, c :: z, h1, h2 => by
    unfold lessS at h1 h2 ⊢
    by_cases e1 : a = b
    · subst e1
      rw [if_pos rfl] at h1
      by_cases e2 : a = c
      · rw [if_pos e2] at h2 ⊢; exact lessS_trans h1 h2
      · rw [if_neg e2] at h2 ⊢; exact h2
    · rw [if_neg e1] at h1
      by_cases e2 : b = c
      · subst e2; rw [if_neg e1]; exact h1
      · rw [if_neg e2] at h2
        simp only [Bool.or_eq_true, Bool.and_eq_true, decide_eq_true_eq, Bool.not_eq_true'] at h1 h2
        have e3 : a ≠ c := by
          rintro rfl
          rcases h1 with h1 | ⟨h1, h1'⟩ <;> rcases h2 with h2 | ⟨h2, h2'⟩
          · omega
          · omega
          · omega
          · have := stop_out e1 h1; rw [h1', h2'] at this; cases this
        rw [if_neg e3]
        simp only [Bool.or_eq_true, Bool.and_eq_true, decide_eq_true_eq, Bool.not_eq_true']
        rcases h1 with h1 | ⟨h1, h1'⟩ <;> rcases h2 with h2 | ⟨h2, h2'⟩
        · exact .inl (by omega)
        · exact .inl (by omega)
        · exact .inl (by omega)
        · exact .inr ⟨by omega, h1'⟩
theorem lessS_tri : ∀ {x y : List Stop}, x.length = y.length → lessS x y = true ∨ x = y ∨ lessS y x = true
  | [], [], _ => .inr (.inl rfl)
  | [], _ :: _, h => by cases h
  | _ :: _, [], h => by cases h
  | a :: x, b :: y, h => by
    by_cases e : a = b
    · subst e
      rcases lessS_tri (x := x) (y := y) (by simpa using h) with h | h | h
      · exact .inl (by simp [lessS, h])
      · exact .inr (.inl (by rw [h]))
      · exact .inr (.inr (by simp [lessS, h]))
    · by_cases e1 : a.rider < b.rider
      · exact .inl (by simp [lessS, e, e1])
      · by_cases e2 : b.rider < a.rider
        · exact .inr (.inr (by simp [lessS, Ne.symm e, e2]))
        · have er : a.rider = b.rider := by omega
          have ho := stop_out e er
          cases hb : b.out with
          | true => rw [hb] at ho; exact .inl (by simp [lessS, e, er, ho])
          | false => rw [hb] at ho; exact .inr (.inr (by simp [lessS, Ne.symm e, er, hb]))
theorem lessS_asymm {x y : List Stop} (h : lessS x y = true) : lessS y x = false := by
  cases hy : lessS y x with
  | false => rfl
  | true => have := lessS_trans h hy; rw [lessS_irrefl] at this; cases this

/-! ### the best of some lists: of least cost, of several the first in their order -/
section
variable (K : List Stop → Bool) (C : List Stop → Int)
def BestOf (M : List Stop → Prop) : Option (List Stop × Int) → Prop
  | none => ∀ q, M q → K q = false
  | some (q, c) => M q ∧ K q = true ∧ c = C q ∧ ∀ x, M x → K x = true → c < C x ∨ (c = C x ∧ (x = q ∨ lessS q x = true))
def pickO (b : Option (List Stop × Int)) (q : List Stop) : Option (List Stop × Int) :=
  if K q = true then match b with
    | none => some (q, C q)
    | some (_, c) => if C q < c then some (q, C q) else b
  else b
def joinO (b r : Option (List Stop × Int)) : Option (List Stop × Int) :=
  match b, r with
  | b, none => b
  | none, r => r
  | some (q, c), some (x, d) => if d < c ∨ (d = c ∧ lessS x q = true) then some (x, d) else some (q, c)
variable {K C}
theorem BestOf.congr {M M' : List Stop → Prop} {r : Option (List Stop × Int)} (h : BestOf K C M r) (e : ∀ q, M q ↔ M' q) : BestOf K C M' r := by
  have : M = M' := funext fun q => propext (e q)
  rw [← this]; exact h
theorem BestOf.unique {M : List Stop → Prop} {a b : Option (List Stop × Int)} (ha : BestOf K C M a) (hb : BestOf K C M b) : a = b := by
  match a, b, ha, hb with
  | none, none, _, _ => rfl
  | none, some (q, c), ha, hb => have := ha q hb.1; rw [hb.2.1] at this; cases this
  | some (q, c), none, ha, hb => have := hb q ha.1; rw [ha.2.1] at this; cases this
  | some (q, c), some (x, d), ha, hb =>
    obtain ⟨a1, a2, a3, a4⟩ := ha
    obtain ⟨b1, b2, b3, b4⟩ := hb
    have h1 := a4 x b1 b2
    have h2 := b4 q a1 a2
    have e : c = d := by omega
    have : q = x := by
      rcases h1 with h1 | ⟨_, h1⟩
      · omega
      · rcases h2 with h2 | ⟨_, h2⟩
        · omega
        · rcases h1 with h1 | h1
          · exact h1.symm
          · rcases h2 with h2 | h2
            · exact h2
            · rw [lessS_asymm h1] at h2; cases h2
    rw [e, this]
theorem best_pick {M : List Stop → Prop} {b : Option (List Stop × Int)} (h : BestOf K C M b) {q : List Stop} (hq : ∀ x, M x → lessS x q = true) : BestOf K C (fun x => M x ∨ x = q) (pickO K C b q) := by
  unfold pickO
  by_cases hk : K q = true
  · rw [if_pos hk]
    match b, h with
    | none, h =>
      refine ⟨.inr rfl, hk, rfl, fun x hx hkx => ?_⟩
      rcases hx with hx | rfl
      · rw [h x hx] at hkx; cases hkx
      · exact .inr ⟨rfl, .inl rfl⟩
    | some (r, c), h =>
      obtain ⟨h1, h2, h3, h4⟩ := h
      dsimp only
      by_cases hc : C q < c
      · rw [if_pos hc]
        refine ⟨.inr rfl, hk, rfl, fun x hx hkx => ?_⟩
        rcases hx with hx | rfl
        · have := h4 x hx hkx
          exact .inl (by omega)
        · exact .inr ⟨rfl, .inl rfl⟩
      · rw [if_neg hc]
        refine ⟨.inl h1, h2, h3, fun x hx hkx => ?_⟩
        rcases hx with hx | rfl
        · exact h4 x hx hkx
        · by_cases he : c < C x
          · exact .inl he
          · exact .inr ⟨by omega, .inr (hq r h1)⟩
  · rw [if_neg hk]
    match b, h with
    | none, h =>
      intro x hx
      rcases hx with hx | rfl
      · exact h x hx
      · simpa using hk
    | some (r, c), h =>
      obtain ⟨h1, h2, h3, h4⟩ := h
      refine ⟨.inl h1, h2, h3, fun x hx hkx => ?_⟩
      rcases hx with hx | rfl
      · exact h4 x hx hkx
      · exact absurd hkx hk
theorem best_fold : ∀ (todo done : List (List Stop)) (b : Option (List Stop × Int)), (done ++ todo).Pairwise (fun x y => lessS x y = true) → BestOf K C (· ∈ done) b → BestOf K C (· ∈ done ++ todo) (todo.foldl (pickO K C) b)
  | [], done, b, _, h => by simpa using h
  | q :: todo, done, b, hp, h => by
    have hq : ∀ x, x ∈ done → lessS x q = true := fun x hx => (List.pairwise_append.1 hp).2.2 x hx q (by simp)
    have h1 := (best_pick h hq).congr (M' := (· ∈ done ++ [q])) (fun x => by simp)
    have e : done ++ q :: todo = (done ++ [q]) ++ todo := by simp
    rw [e] at hp ⊢
    exact best_fold todo (done ++ [q]) _ hp h1
theorem best_join {n : Nat} {M M' : List Stop → Prop} {b r : Option (List Stop × Int)} (hM : ∀ q, M q → q.length = n) (hM' : ∀ q, M' q → q.length = n) (h : BestOf K C M b) (h' : BestOf K C M' r) : BestOf K C (fun x => M x ∨ M' x) (joinO b r) := by
  match b, r, h, h' with
  | none, none, h, h' => exact fun x hx => hx.elim (h x) (h' x)
  | some (q, c), none, h, h' =>
    obtain ⟨h1, h2, h3, h4⟩ := h
    exact ⟨.inl h1, h2, h3, fun x hx hk => hx.elim (fun hx => h4 x hx hk) (fun hx => by rw [h' x hx] at hk; cases hk)⟩
  | none, some (q, c), h, h' =>
    obtain ⟨h1, h2, h3, h4⟩ := h'
    exact ⟨.inr h1, h2, h3, fun x hx hk => hx.elim (fun hx => by rw [h x hx] at hk; cases hk) (fun hx => h4 x hx hk)⟩
  | some (q, c), some (x, d), h, h' =>
    obtain ⟨a1, a2, a3, a4⟩ := h
    obtain ⟨b1, b2, b3, b4⟩ := h'
    simp only [joinO]
    by_cases hc : d < c ∨ (d = c ∧ lessS x q = true)
    · rw [if_pos hc]
      refine ⟨.inr b1, b2, b3, fun y hy hk => ?_⟩
      rcases hy with hy | hy
      · have := a4 y hy hk
        rcases hc with hc | ⟨hc, hl⟩
        · exact .inl (by omega)
        · rcases this with h | ⟨h, h'⟩
          · exact .inl (by omega)
          · refine .inr ⟨by omega, .inr ?_⟩
            rcases h' with rfl | h'
            · exact hl
            · exact lessS_trans hl h'
      · exact b4 y hy hk
    · rw [if_neg hc]
      refine ⟨.inl a1, a2, a3, fun y hy hk => ?_⟩
      rcases hy with hy | hy
      · exact a4 y hy hk
      · have := b4 y hy hk
        by_cases hd : c < d
        · exact .inl (by omega)
        · have hcd : c = d := by
            by_cases h1 : d < c
            · exact absurd (.inl h1) hc
            · omega
          have hl : lessS x q = false := by
            cases e : lessS x q with
            | false => rfl
            | true => exact absurd (.inr ⟨hcd.symm, e⟩) hc
          rcases this with h | ⟨h, h'⟩
          · exact .inl (by omega)
          · refine .inr ⟨by omega, ?_⟩
            rcases lessS_tri (x := q) (y := x) (by rw [hM q a1, hM' x b1]) with g | g | g
            · rcases h' with rfl | h'
              · exact .inr g
              · exact .inr (lessS_trans g h')
            · subst g
              exact h'
            · rw [hl] at g; cases g
end
/-! ### all orders of the stops -/
def nextS (rs : List Rider) (l : List Stop) (i : Nat) : Stop := if (nth rs i).aboard || elemB l ⟨(i : Int), false⟩ then ⟨(i : Int), true⟩ else ⟨(i : Int), false⟩
def ordersS (rs : List Rider) : Nat → List Stop → List (List Stop)
  | 0, l => [l]
  | n + 1, l => (List.range rs.length).flatMap fun i => if elemB l (nextS rs l i) then [] else ordersS rs n (l ++ [nextS rs l i])
theorem orders_succ (rs : List Rider) (n : Nat) (l : List Stop) : ordersS rs (n + 1) l = (List.range rs.length).flatMap fun i => if elemB l (nextS rs l i) then [] else ordersS rs n (l ++ [nextS rs l i]) := rfl
theorem nextS_rider (rs : List Rider) (l : List Stop) (i : Nat) : (nextS rs l i).rider = (i : Int) := by
  unfold nextS; split <;> rfl
theorem orders_form (rs : List Rider) : ∀ (n : Nat) (l q : List Stop), q ∈ ordersS rs n l → ∃ t, q = l ++ t ∧ t.length = n
  | 0, l, q, h => ⟨[], by simpa [ordersS] using h, rfl⟩
  | n + 1, l, q, h => by
    unfold ordersS at h
    obtain ⟨i, _, hi⟩ := List.mem_flatMap.1 h
    split at hi
    · cases hi
    · obtain ⟨t, h1, h2⟩ := orders_form rs n _ q hi
      exact ⟨nextS rs l i :: t, by rw [h1]; simp, by simp [h2]⟩
theorem orders_sorted (rs : List Rider) : ∀ (n : Nat) (l : List Stop), (ordersS rs n l).Pairwise (fun x y => lessS x y = true)
  | 0, l => by simp [ordersS]
  | n + 1, l => by
    unfold ordersS
    rw [List.pairwise_flatMap]
    refine ⟨fun i _ => ?_, List.pairwise_lt_range.imp fun {i j} hij x hx y hy => ?_⟩
    · split
      · exact List.Pairwise.nil
      · exact orders_sorted rs n _
    · split at hx
      · cases hx
      · split at hy
        · cases hy
        · obtain ⟨t, h1, _⟩ := orders_form rs n _ x hx
          obtain ⟨u, h2, _⟩ := orders_form rs n _ y hy
          rw [h1, h2, List.append_assoc, List.append_assoc, lessS_app]
          have h3 := nextS_rider rs l i
          have h4 := nextS_rider rs l j
          have hne : nextS rs l i ≠ nextS rs l j := fun e => by rw [e] at h3; omega
          simp [lessS, hne, h3, h4, hij]
/-- the best order, as the program finds it -/
def bestOrd (K : List Stop → Bool) (C : List Stop → Int) (rs : List Rider) (n : Nat) (l : List Stop) : Option (List Stop × Int) := (ordersS rs n l).foldl (pickO K C) none
theorem bestOrd_best (K : List Stop → Bool) (C : List Stop → Int) (rs : List Rider) (n : Nat) (l : List Stop) : BestOf K C (· ∈ ordersS rs n l) (bestOrd K C rs n l) := by
  have := best_fold (K := K) (C := C) (ordersS rs n l) [] none (by simpa using orders_sorted rs n l) (fun q hq => by cases hq)
  rw [List.nil_append] at this
  exact this
/-- what may come next, as the document says it -/
def skipS (rs : List Rider) (l : List Stop) (s : Stop) : Bool := elemB l s || (s.out && !(nth rs s.rider.toNat).aboard && !elemB l ⟨s.rider, false⟩)
/-- stops of a right plan -/
structure AllStops (rs : List Rider) (ss : List Stop) : Prop where
  rng : ∀ s ∈ ss, 0 ≤ s.rider ∧ s.rider < rs.length
  ab : ∀ s ∈ ss, s.out = true ∨ (nth rs s.rider.toNat).aboard = false
  out_ : ∀ i : Nat, i < rs.length → ⟨(i : Int), true⟩ ∈ ss
  in_ : ∀ i : Nat, i < rs.length → (nth rs i).aboard = false → ⟨(i : Int), false⟩ ∈ ss
theorem next_iff {rs : List Rider} {ss l : List Stop} (h : AllStops rs ss) (s : Stop) : (s ∈ ss ∧ skipS rs l s = false) ↔ ∃ i, i < rs.length ∧ elemB l (nextS rs l i) = false ∧ s = nextS rs l i := by
  constructor
  · rintro ⟨hs, hk⟩
    have hr := h.rng s hs
    have ha := h.ab s hs
    obtain ⟨r, o⟩ := s
    simp only at hr ha
    obtain ⟨i, rfl⟩ := Int.eq_ofNat_of_zero_le hr.1
    have hi : i < rs.length := by omega
    simp only [skipS, Bool.or_eq_false_iff, Int.toNat_natCast] at hk ha
    have e : nextS rs l i = ⟨(i : Int), o⟩ := by
      unfold nextS
      cases o with
      | true =>
        rw [if_pos]
        have h2 := hk.2
        cases h3 : (nth rs i).aboard with
        | true => simp
        | false => rw [h3] at h2; simpa using h2
      | false =>
        rw [if_neg]
        have h2 : (nth rs i).aboard = false := by simpa using ha
        rw [h2, hk.1]; simp
    exact ⟨i, hi, by rw [e]; exact hk.1, e.symm⟩
  · rintro ⟨i, hi, hn, rfl⟩
    unfold nextS at hn ⊢
    by_cases h1 : ((nth rs i).aboard || elemB l ⟨(i : Int), false⟩) = true
    · rw [if_pos h1] at hn ⊢
      refine ⟨h.out_ i hi, ?_⟩
      simp only [skipS, hn, Bool.false_or, Int.toNat_natCast, Bool.true_and]
      cases h3 : (nth rs i).aboard with
      | true => simp
      | false => rw [h3] at h1; simpa using h1
    · rw [if_neg h1] at hn ⊢
      have h2 : (nth rs i).aboard = false := by
        cases h3 : (nth rs i).aboard with
        | true => rw [h3] at h1; simp at h1
        | false => rfl
      exact ⟨h.in_ i hi h2, by simp [skipS, hn]⟩
/-- the best order, as the document finds it -/
def docOrd (K : List Stop → Bool) (C : List Stop → Int) (rs : List Rider) (ss : List Stop) : Nat → List Stop → Option (List Stop × Int)
  | 0, l => if K l = true then some (l, C l) else none
  | n + 1, l => ss.foldl (fun b s => if skipS rs l s then b else joinO b (docOrd K C rs ss n (l ++ [s]))) none
theorem docOrd_best {K : List Stop → Bool} {C : List Stop → Int} {rs : List Rider} {ss : List Stop} (h : AllStops rs ss) : ∀ (n : Nat) (l : List Stop), BestOf K C (· ∈ ordersS rs n l) (docOrd K C rs ss n l)
  | 0, l => by
    unfold docOrd
    by_cases hk : K l = true
    · rw [if_pos hk]
      exact ⟨by simp [ordersS], hk, rfl, fun x hx _ => .inr ⟨by simp [ordersS] at hx; rw [hx], .inl (by simpa [ordersS] using hx)⟩⟩
    · rw [if_neg hk]
      intro q hq
      have : q = l := by simpa [ordersS] using hq
      rw [this]; simpa using hk
  | n + 1, l => by
    have key : ∀ (todo done : List Stop) (b : Option (List Stop × Int)), BestOf K C (fun q => ∃ s, s ∈ done ∧ skipS rs l s = false ∧ q ∈ ordersS rs n (l ++ [s])) b →
        BestOf K C (fun q => ∃ s, s ∈ done ++ todo ∧ skipS rs l s = false ∧ q ∈ ordersS rs n (l ++ [s])) (todo.foldl (fun b s => if skipS rs l s then b else joinO b (docOrd K C rs ss n (l ++ [s]))) b) := by
      intro todo
      induction todo with
      | nil => intro done b hb; simpa using hb
      | cons s todo ih =>
        intro done b hb
        have e : done ++ s :: todo = (done ++ [s]) ++ todo := by simp
        rw [e, List.foldl_cons]
        refine ih (done ++ [s]) _ ?_
        cases hs : skipS rs l s with
        | true =>
          rw [if_pos rfl]
          refine hb.congr fun q => ⟨fun ⟨x, h1, h2⟩ => ⟨x, by simp [h1], h2⟩, fun ⟨x, h1, h2, h3⟩ => ?_⟩
          rcases List.mem_append.1 h1 with h1 | h1
          · exact ⟨x, h1, h2, h3⟩
          · have : x = s := by simpa using h1
            rw [this, hs] at h2; cases h2
        | false =>
          rw [if_neg (by decide)]
          refine (best_join (n := l.length + (n + 1)) ?_ ?_ hb (docOrd_best h n (l ++ [s]))).congr fun q => ?_
          · rintro q ⟨x, _, _, hq⟩
            obtain ⟨t, rfl, ht⟩ := orders_form rs n _ q hq
            simp [ht, Nat.add_assoc, Nat.add_comm]
          · intro q hq
            obtain ⟨t, rfl, ht⟩ := orders_form rs n _ q hq
            simp [ht, Nat.add_assoc, Nat.add_comm]
          · constructor
            · rintro (⟨x, h1, h2⟩ | hq)
              · exact ⟨x, by simp [h1], h2⟩
              · exact ⟨s, by simp, hs, hq⟩
            · rintro ⟨x, h1, h2, h3⟩
              rcases List.mem_append.1 h1 with h1 | h1
              · exact .inl ⟨x, h1, h2, h3⟩
              · have : x = s := by simpa using h1
                rw [this] at h3; exact .inr h3
    have h0 := key ss [] none (by rintro q ⟨s, hs, _⟩; cases hs)
    unfold docOrd
    refine h0.congr fun q => ?_
    rw [orders_succ, List.mem_flatMap]
    constructor
    · rintro ⟨s, h1, h2, h3⟩
      obtain ⟨i, g1, g2, rfl⟩ := (next_iff h s).1 ⟨by simpa using h1, h2⟩
      exact ⟨i, by simpa using g1, by rw [if_neg (by rw [g2]; decide)]; exact h3⟩
    · rintro ⟨i, g1, g2⟩
      by_cases g3 : elemB l (nextS rs l i) = true
      · rw [if_pos g3] at g2; cases g2
      · rw [if_neg g3] at g2
        have g4 : elemB l (nextS rs l i) = false := by simpa using g3
        obtain ⟨h1, h2⟩ := (next_iff h (nextS rs l i)).2 ⟨i, by simpa using g1, g4, rfl⟩
        exact ⟨_, by simpa using h1, h2, g2⟩
theorem ord_same {K : List Stop → Bool} {C : List Stop → Int} {rs : List Rider} {ss : List Stop} (h : AllStops rs ss) (n : Nat) (l : List Stop) : docOrd K C rs ss n l = bestOrd K C rs n l :=
  (docOrd_best h n l).unique (bestOrd_best K C rs n l)
/-- an order that is made step by step is among the orders -/
theorem mem_orders {rs : List Rider} : ∀ (n : Nat) (l t : List Stop), t.length = n → (∀ k, k < n → ∃ i, i < rs.length ∧ elemB (l ++ t.take k) (nextS rs (l ++ t.take k) i) = false ∧ nth t k = nextS rs (l ++ t.take k) i) → l ++ t ∈ ordersS rs n l
  | 0, l, t, ht, _ => by
    have : t = [] := List.eq_nil_of_length_eq_zero ht
    subst this; simp [ordersS]
  | n + 1, l, [], ht, _ => by cases ht
  | n + 1, l, s :: t, ht, h => by
    obtain ⟨i, h1, h2, h3⟩ := h 0 (by omega)
    simp only [List.take_zero, List.append_nil] at h2 h3
    have h3' : s = nextS rs l i := h3
    unfold ordersS
    refine List.mem_flatMap.2 ⟨i, by simpa using h1, ?_⟩
    rw [if_neg (by rw [h2]; decide), ← h3']
    have := mem_orders n (l ++ [s]) t (by simpa using ht) (fun k hk => by
      obtain ⟨j, g1, g2, g3⟩ := h (k + 1) (by omega)
      have e : l ++ (s :: t).take (k + 1) = l ++ [s] ++ t.take k := by simp
      rw [e] at g2 g3
      exact ⟨j, g1, g2, by simpa [nth] using g3⟩)
    simpa using this
/-- each step of an order -/
theorem orders_steps {rs : List Rider} : ∀ (n : Nat) (l q : List Stop), q ∈ ordersS rs n l → ∀ k, l.length ≤ k → k < q.length → ∃ i, i < rs.length ∧ elemB (q.take k) (nextS rs (q.take k) i) = false ∧ nth q k = nextS rs (q.take k) i
  | 0, l, q, h, k, h1, h2 => by
    have : q = l := by simpa [ordersS] using h
    rw [this] at h2; omega
  | n + 1, l, q, h, k, h1, h2 => by
    unfold ordersS at h
    obtain ⟨i, hi, hq⟩ := List.mem_flatMap.1 h
    by_cases g : elemB l (nextS rs l i) = true
    · rw [if_pos g] at hq; cases hq
    · rw [if_neg g] at hq
      by_cases e : k = l.length
      · subst e
        obtain ⟨t, rfl, _⟩ := orders_form rs n _ q hq
        refine ⟨i, by simpa using hi, ?_⟩
        have e1 : (l ++ [nextS rs l i] ++ t).take l.length = l := by simp
        rw [e1]
        refine ⟨by simpa using g, ?_⟩
        simp [nth, List.getD_eq_getElem?_getD]
      · exact orders_steps n _ q hq k (by simp; omega) h2
end Go.Proofs.Ytiialcomflggcaa
namespace Go.Proofs.Ytiialcomflggcaa
open Go Go.Fi
set_option maxRecDepth 20000

/-! ### the orders of a right plan's stops -/
theorem len_le_of_sub : ∀ {q ss : List Stop}, q.Nodup → (∀ x ∈ q, x ∈ ss) → q.length ≤ ss.length
  | [], _, _, _ => Nat.zero_le _
  | a :: q, ss, hn, hs => by
    have ha : a ∈ ss := hs a (by simp)
    have h1 := List.nodup_cons.1 hn
    have ih := len_le_of_sub (q := q) (ss := ss.erase a) h1.2 (fun x hx => (List.mem_erase_of_ne (fun e => h1.1 (by rw [← e]; exact hx))).2 (hs x (by simp [hx])))
    rw [List.length_erase_of_mem ha] at ih
    have := List.length_pos_of_mem ha
    simp only [List.length_cons]; omega
theorem sub_of_len : ∀ {q ss : List Stop}, q.Nodup → (∀ x ∈ q, x ∈ ss) → ss.length ≤ q.length → ∀ x ∈ ss, x ∈ q
  | [], ss, _, _, h => by
    have : ss = [] := List.eq_nil_of_length_eq_zero (by simpa using h)
    subst this; simp
  | a :: q, ss, hn, hs, h => by
    have ha : a ∈ ss := hs a (by simp)
    have h1 := List.nodup_cons.1 hn
    have ih := sub_of_len (q := q) (ss := ss.erase a) h1.2 (fun x hx => (List.mem_erase_of_ne (fun e => h1.1 (by rw [← e]; exact hx))).2 (hs x (by simp [hx])))
      (by rw [List.length_erase_of_mem ha]; simp only [List.length_cons] at h; omega)
    intro x hx
    by_cases e : x = a
    · simp [e]
    · exact List.mem_cons_of_mem _ (ih x ((List.mem_erase_of_ne e).2 hx))
theorem nodup_of_steps : ∀ {l : List Stop}, (∀ k, k < l.length → elemB (l.take k) (nth l k) = false) → l.Nodup := by
  intro l h
  rw [List.nodup_iff_pairwise_ne, List.pairwise_iff_getElem]
  intro i j hi hj hij e
  have h1 := h j hj
  have h2 : elemB (l.take j) (nth l j) = true := elemB_iff.2 (List.mem_iff_getElem.2 ⟨i, by simp; omega, by simp [nth, List.getD_eq_getElem?_getD, List.getElem?_eq_getElem hj, e]⟩)
  rw [h1] at h2; cases h2
def withS (p : Plan) (q : List Stop) : Plan := ⟨p.car, p.riders, q⟩
theorem abB_eq (p : Plan) (s : Stop) : abB p s = (nth p.riders s.rider.toNat).aboard := rfl
theorem PlanOk.all {m : Grid} {p : Plan} (ok : PlanOk m p) : AllStops p.riders p.stops := by
  have hst : ∀ s ∈ p.stops, ∃ k, k < p.stops.length ∧ s = nth p.stops k := fun s hs => by
    obtain ⟨k, hk, rfl⟩ := List.mem_iff_getElem.1 hs
    exact ⟨k, hk, by simp [nth, List.getD_eq_getElem?_getD, List.getElem?_eq_getElem hk]⟩
  have hout : ∀ i : Nat, i < p.riders.length → (⟨(i : Int), true⟩ : Stop) ∈ p.stops := fun i hi => elemB_iff.1 (ok.gaps i hi)
  refine ⟨fun s hs => ?_, fun s hs => ?_, hout, fun i hi ha => ?_⟩
  · obtain ⟨k, hk, rfl⟩ := hst s hs
    exact (stopE_ok.1 (ok.stops k hk)).1
  · obtain ⟨k, hk, rfl⟩ := hst s hs
    exact (stopE_ok.1 (ok.stops k hk)).2.2.1
  · obtain ⟨k, hk, e⟩ := hst _ (hout i hi)
    have h := (stopE_ok.1 (ok.stops k hk)).2.2.2
    rw [← e] at h
    simp only [abB_eq, Int.toNat_natCast, ha] at h
    rcases h with h | h | h
    · cases h
    · cases h
    · exact List.mem_of_mem_take (elemB_iff.1 h)
theorem PlanOk.nodup {m : Grid} {p : Plan} (ok : PlanOk m p) : p.stops.Nodup := nodup_of_steps fun k hk => (stopE_ok.1 (ok.stops k hk)).2.1
theorem PlanOk.in_orders {m : Grid} {p : Plan} (ok : PlanOk m p) : p.stops ∈ ordersS p.riders p.stops.length [] := by
  have h := mem_orders (rs := p.riders) p.stops.length [] p.stops rfl (fun k hk => by
    have h := stopE_ok.1 (ok.stops k hk)
    have hm : nth p.stops k ∈ p.stops := by simp [nth, List.getD_eq_getElem?_getD, List.getElem?_eq_getElem hk]
    obtain ⟨i, h1, h2, h3⟩ := (next_iff ok.all (l := p.stops.take k) (nth p.stops k)).1 ⟨hm, by
      unfold skipS
      rw [h.2.1, Bool.false_or]
      have := h.2.2.2
      rw [abB_eq] at this
      rcases this with h | h | h <;> simp [h]⟩
    rw [List.nil_append]
    exact ⟨i, h1, h2, h3⟩)
  simpa using h
theorem orders_ok {m : Grid} {p : Plan} (ok : PlanOk m p) {q : List Stop} (hq : q ∈ ordersS p.riders p.stops.length []) : PlanOk m (withS p q) := by
  have hst := orders_steps _ _ _ hq
  have hlen : q.length = p.stops.length := by
    obtain ⟨t, rfl, ht⟩ := orders_form _ _ _ _ hq
    simpa using ht
  have hstep : ∀ k, k < q.length → ∃ i, i < p.riders.length ∧ elemB (q.take k) (nextS p.riders (q.take k) i) = false ∧ nth q k = nextS p.riders (q.take k) i := fun k hk => hst k (Nat.zero_le _) hk
  have hin : ∀ k, k < q.length → nth q k ∈ p.stops ∧ skipS p.riders (q.take k) (nth q k) = false := fun k hk => by
    obtain ⟨i, h1, h2, h3⟩ := hstep k hk
    exact (next_iff ok.all (l := q.take k) (nth q k)).2 ⟨i, h1, h2, h3⟩
  have hnd : q.Nodup := nodup_of_steps fun k hk => by
    obtain ⟨i, h1, h2, h3⟩ := hstep k hk
    rw [h3]; exact h2
  have hsub : ∀ x ∈ q, x ∈ p.stops := fun x hx => by
    obtain ⟨k, hk, rfl⟩ := List.mem_iff_getElem.1 hx
    have := (hin k hk).1
    simpa [nth, List.getD_eq_getElem?_getD, List.getElem?_eq_getElem hk] using this
  refine ⟨ok.at0, ok.at1, ok.t0, ok.t1, ok.s0, ok.s1, ok.rl, ok.riders, ok.ab, fun k hk => ?_, fun j hj => ?_⟩
  · have hk' : k < q.length := hk
    obtain ⟨h1, h2⟩ := hin k hk'
    refine stopE_ok.2 ⟨ok.all.rng _ h1, ?_, ?_, ?_⟩
    · unfold skipS at h2
      exact (Bool.or_eq_false_iff.1 h2).1
    · have := ok.all.ab _ h1
      rw [abB_eq]; exact this
    · unfold skipS at h2
      have h3 := (Bool.or_eq_false_iff.1 h2).2
      rw [abB_eq]
      show (nth q k).out = false ∨ (nth p.riders (nth q k).rider.toNat).aboard = true ∨ elemB (q.take k) ⟨(nth q k).rider, false⟩ = true
      cases g1 : (nth q k).out with
      | false => exact .inl rfl
      | true =>
        rw [g1] at h3
        cases g2 : (nth p.riders (nth q k).rider.toNat).aboard with
        | true => exact .inr (.inl rfl)
        | false => rw [g2] at h3; exact .inr (.inr (by simpa using h3))
  · exact elemB_iff.2 (sub_of_len hnd hsub (by omega) _ (ok.all.out_ j hj))
end Go.Proofs.Ytiialcomflggcaa
namespace Go.Proofs.Ytiialcomflggcaa
open Go Go.Fi
set_option maxRecDepth 20000

/-! ### which list comes first -/
theorem lessS_drop (a b : List Stop) (k : Nat) (ha : k < a.length) (hb : k < b.length) : lessS (a.drop k) (b.drop k) = if nth a k = nth b k then lessS (a.drop (k + 1)) (b.drop (k + 1)) else decide ((nth a k).rider < (nth b k).rider) || (decide ((nth a k).rider = (nth b k).rider) && !(nth a k).out) := by
  rw [drop_nth a k ha, drop_nth b k hb]; rfl
theorem less_c (a b : List Stop) (hl : a.length = b.length) (hn : a.length < 100000) : RealCall Try.prog 80 [.sl a.length (cStops a), .sl b.length (cStops b)] (.bool (lessS a b)) true := by
  generalize hR : lessS a b = R
  have kR := keep hR
  clear hR
  have hln := keep hl
  have hnb : b.length < 100000 := by omega
  clear hl
  refine realcall_intro Try.func80 (by kernel_rfl) rfl (Nat.le_of_ble_eq_true (by kernel_rfl)) ?_
  simp only [Try.results80, Try.ntmps80]
  repeat' (first | (with_reducible first | refine awp_seq ?_ | refine awp_blockS ?_ | refine awp_blockC ?_ | refine awp_blockR ?_ | refine awp_skip ?_ | refine awp_ret ?_ | refine awp_exit ?_ | refine awp_region ?_ | refine awp_regionD (id := 4) 9 mixed (by decide +kernel) ?_ | refine awp_regionD (id := 5) 33 mixed (by decide +kernel) ?_ | refine awp_condM ?_ | refine And.intro ?_ ?_ | apply gQ_merge | apply gE_merge | exact EqV_w | exact EqE_w | exact EqV_ptr | exact EqE_ptr | exact EqV_msl | exact EqE_msl | exact EqV_agg | exact EqE_agg | exact EqV_fn | exact EqE_fn | exact EqV_gd | exact EqE_gd | refine gM_splitN ?_ ?_ | refine gM_split ?_ ?_ |  refine condM_splitDN ?_ ?_ | refine condM_splitD ?_ ?_ | refine condM_splitN ?_ ?_ | refine condM_split ?_ ?_ | refine condM_any ?_ ?_ | intro _) | (simp [*]))
  refine awp_for3 (fun (k : Nat) => k ≤ a.length ∧ lessS (a.drop k) (b.drop k) = R) [0, 1] (fun (k : Nat) => [(5, .w false false (.int .i64 k))]) [] (fun (k : Nat) => []) (fun (k : Nat) => a.length - k) (fun (_u : Unit) => R = false) [] (fun (_u : Unit) => []) [] (fun (_u : Unit) => []) (0) ⟨Nat.zero_le _, kR⟩ (by simp) (by simp) (fun k hk => ?_) (fun _u hf => ?_)
  · obtain ⟨hk, hf⟩ := hk
    by_cases hlt : k < a.length
    · have hltb : k < b.length := by have h : a.length = b.length := hln; omega
      rw [lessS_drop a b k hlt hltb] at hf
      have kf := keep hf
      clear hf
      repeat' (first | (with_reducible first | refine awp_seq ?_ | refine awp_blockS ?_ | refine awp_blockC ?_ | refine awp_blockR ?_ | refine awp_skip ?_ | refine awp_ret ?_ | refine awp_exit ?_ | refine awp_region ?_ | refine awp_regionD (id := 4) 9 mixed (by decide +kernel) ?_ | refine awp_regionD (id := 5) 33 mixed (by decide +kernel) ?_ | refine awp_condM ?_ | refine And.intro ?_ ?_ | apply gQ_merge | apply gE_merge | exact EqV_w | exact EqE_w | exact EqV_ptr | exact EqE_ptr | exact EqV_msl | exact EqE_msl | exact EqV_agg | exact EqE_agg | exact EqV_fn | exact EqE_fn | exact EqV_gd | exact EqE_gd | refine gM_splitN ?_ ?_ | refine gM_split ?_ ?_ |  refine condM_splitDN ?_ ?_ | refine condM_splitD ?_ ?_ | refine condM_splitN ?_ ?_ | refine condM_split ?_ ?_ | refine condM_any ?_ ?_ | intro _) | (simp [*, hlt, hltb, cStop]))
      all_goals try first | omega | exact inI64 (by omega) (by omega)
      · rename_i hc
        have he : nth a k ≠ nth b k := fun e => by rw [e] at hc; simp at hc
        have h := kf
        unfold Keep at h
        rw [if_neg he] at h
        exact h
      · rename_i hc
        have he : nth a k = nth b k := (stopEq_iff _ _).1 (by unfold stopEq; simpa using hc)
        have kf2 : Keep (lessS (a.drop (k + 1)) (b.drop (k + 1)) = R) := by
          have h := kf
          unfold Keep at h ⊢
          rw [if_pos he] at h
          exact h
        clear hc he kf
        (refine loopK_normal _ _ _ _ _ (k + 1) _ ?_ (by first | omega | (dsimp only; omega) | (simp; omega)) ?_; (· exact ⟨by omega, kf2⟩); (refine le_of ?_ ?_ <;> first | trivial | (simp [*]; done)))
    · have hke : k = a.length := by omega
      have hfR : R = false := by
        rw [← hf, List.drop_eq_nil_of_le (show a.length ≤ k by omega)]; rfl
      repeat' (first | (with_reducible first | refine awp_seq ?_ | refine awp_blockS ?_ | refine awp_blockC ?_ | refine awp_blockR ?_ | refine awp_skip ?_ | refine awp_ret ?_ | refine awp_exit ?_ | refine awp_region ?_ | refine awp_regionD (id := 4) 9 mixed (by decide +kernel) ?_ | refine awp_regionD (id := 5) 33 mixed (by decide +kernel) ?_ | refine awp_condM ?_ | refine And.intro ?_ ?_ | apply gQ_merge | apply gE_merge | exact EqV_w | exact EqE_w | exact EqV_ptr | exact EqE_ptr | exact EqV_msl | exact EqE_msl | exact EqV_agg | exact EqE_agg | exact EqV_fn | exact EqE_fn | exact EqV_gd | exact EqE_gd | refine gM_splitN ?_ ?_ | refine gM_split ?_ ?_ |  refine condM_splitDN ?_ ?_ | refine condM_splitD ?_ ?_ | refine condM_splitN ?_ ?_ | refine condM_split ?_ ?_ | refine condM_any ?_ ?_ | intro _) | (simp [*, hke]))
      all_goals (refine finW_intro () ?_ ?_; (· first | exact hfR | trivial); (refine le_of ?_ ?_ <;> first | trivial | (simp [*]; done)))
  · repeat' (first | (with_reducible first | refine awp_seq ?_ | refine awp_blockS ?_ | refine awp_blockC ?_ | refine awp_blockR ?_ | refine awp_skip ?_ | refine awp_ret ?_ | refine awp_exit ?_ | refine awp_region ?_ | refine awp_regionD (id := 4) 9 mixed (by decide +kernel) ?_ | refine awp_regionD (id := 5) 33 mixed (by decide +kernel) ?_ | refine awp_condM ?_ | refine And.intro ?_ ?_ | apply gQ_merge | apply gE_merge | exact EqV_w | exact EqE_w | exact EqV_ptr | exact EqE_ptr | exact EqV_msl | exact EqE_msl | exact EqV_agg | exact EqE_agg | exact EqV_fn | exact EqE_fn | exact EqV_gd | exact EqE_gd | refine gM_splitN ?_ ?_ | refine gM_split ?_ ?_ |  refine condM_splitDN ?_ ?_ | refine condM_splitD ?_ ?_ | refine condM_splitN ?_ ?_ | refine condM_split ?_ ?_ | refine condM_any ?_ ?_ | intro _) | (simp [*, hf]))
end Go.Proofs.Ytiialcomflggcaa

