/- Contracts of functions for this claim: lemmas alone. -/
import Derived.Test.YtchpdgojiibjcaaP67
import Derived.Test.YtchpdgojiibjcaaP51
import Derived.Test.YtchpdgojiibjcaaP23
set_option linter.unusedSimpArgs false
set_option linter.unusedVariables false
namespace Go.Proofs.Ytchpdgojiibjcaa
open Go Go.Fi

/-! ### fewer stops cost no more, in a closed map (no program in sight) -/
def legOf (p : Plan) (s : Stop) : Int × Int := (placeOf p s, leastOf p s)
def goL (m : Grid) (x l : Int × Int) : Int × Int := (l.1, mxI (x.2 + cellM m x.1 l.1) l.2)
def runL (m : Grid) (x : Int × Int) (L : List (Int × Int)) : Int × Int := L.foldl (goL m) x
theorem run_clock (m : Grid) (p : Plan) : ∀ k, k ≤ p.stops.length → runL m (p.car.at_, p.car.time) ((p.stops.take k).map (legOf p)) = (atK p k, clockK m p noDelay k)
  | 0, _ => by simp [runL]
  | k + 1, hk => by
    have ih := run_clock m p k (by omega)
    rw [take_succ_nth p.stops k (by omega), List.map_append]
    unfold runL at ih ⊢
    rw [List.foldl_append, ih]
    show goL m (atK p k, clockK m p noDelay k) (legOf p (nth p.stops k)) = _
    unfold goL legOf
    show (placeOf p (nth p.stops k), mxI (clockK m p noDelay k + cellM m (atK p k) (placeOf p (nth p.stops k))) (leastOf p (nth p.stops k))) = (placeOf p (nth p.stops k), mxI (clockK m p noDelay k + cellM m (atK p k) (placeOf p (nth p.stops k)) + (if (k : Int) = noDelay.stop then noDelay.by_ else 0)) (leastOf p (nth p.stops k)))
    have : (if (k : Int) = noDelay.stop then noDelay.by_ else 0) = 0 := by unfold noDelay; split <;> rfl
    rw [this, Int.add_zero]
theorem costP_run (m : Grid) (p : Plan) : costP m p = (runL m (p.car.at_, p.car.time) (p.stops.map (legOf p))).2 - p.car.time := by
  have h := run_clock m p p.stops.length (Nat.le_refl _)
  rw [List.take_length] at h
  rw [h]
  unfold costP costS
  rw [timesS_len]
  by_cases hz : p.stops.length = 0
  · rw [if_pos hz, hz]; simp
  · rw [if_neg hz]
    unfold timesS
    rw [timesK_nth m p noDelay _ _ (by omega), show p.stops.length - 1 + 1 = p.stops.length by omega]
def inN (n : Nat) (x : Int) : Prop := 0 ≤ x ∧ x < (n : Int)
section
variable {n : Nat} {m : Grid}
theorem cell_tri (ht : Tri n m) {a b c : Int} (ha : inN n a) (hb : inN n b) (hc : inN n c) : cellM m a c ≤ cellM m a b + cellM m b c := by
  unfold inN at *
  exact ht a.toNat b.toNat c.toNat (by omega) (by omega) (by omega)
theorem cell_pos (hq : Sq n m) {a b : Int} (ha : inN n a) (hb : inN n b) : 0 ≤ cellM m a b := by
  unfold inN at *
  exact (hq.bd a.toNat b.toNat (by omega) (by omega)).1
theorem cell_dg (hq : Sq n m) {a : Int} (ha : inN n a) : cellM m a a = 0 := by
  unfold inN at *
  exact hq.dg a.toNat (by omega)
theorem mxI_ge (a b : Int) : a ≤ mxI a b ∧ b ≤ mxI a b := by unfold mxI; split <;> omega
theorem mxI_mono2 {a b l : Int} (h : a ≤ b) : mxI a l ≤ mxI b l := by unfold mxI; split <;> split <;> omega
theorem sub_run (hq : Sq n m) (ht : Tri n m) {L' L : List (Int × Int)} (hs : L'.Sublist L) : (∀ l ∈ L, inN n l.1) → ∀ a t a' t', inN n a → inN n a' → (∀ x, inN n x → t' + cellM m a' x ≤ t + cellM m a x) →
    (∀ x, inN n x → (runL m (a', t') L').2 + cellM m (runL m (a', t') L').1 x ≤ (runL m (a, t) L).2 + cellM m (runL m (a, t) L).1 x) ∧ inN n (runL m (a', t') L').1 ∧ inN n (runL m (a, t) L).1 := by
  induction hs with
  | slnil => intro _ a t a' t' h1 h2 h; exact ⟨h, h2, h1⟩
  | @cons L' L y hs ih =>
    intro hL a t a' t' h1 h2 h
    have hy := hL y List.mem_cons_self
    show (∀ x, inN n x → (runL m (a', t') L').2 + cellM m (runL m (a', t') L').1 x ≤ (runL m (goL m (a, t) y) L).2 + cellM m (runL m (goL m (a, t) y) L).1 x) ∧ inN n (runL m (a', t') L').1 ∧ inN n (runL m (goL m (a, t) y) L).1
    refine ih (fun l hl => hL l (List.mem_cons_of_mem _ hl)) y.1 _ a' t' hy h2 (fun x hx => ?_)
    have e1 := h x hx
    have e2 := cell_tri ht h1 hy hx
    have e3 := (mxI_ge (t + cellM m a y.1) y.2).1
    show t' + cellM m a' x ≤ mxI (t + cellM m a y.1) y.2 + cellM m y.1 x
    omega
  | @cons_cons L' L y hs ih =>
    intro hL a t a' t' h1 h2 h
    have hy := hL y List.mem_cons_self
    show (∀ x, inN n x → (runL m (goL m (a', t') y) L').2 + cellM m (runL m (goL m (a', t') y) L').1 x ≤ (runL m (goL m (a, t) y) L).2 + cellM m (runL m (goL m (a, t) y) L).1 x) ∧ inN n (runL m (goL m (a', t') y) L').1 ∧ inN n (runL m (goL m (a, t) y) L).1
    refine ih (fun l hl => hL l (List.mem_cons_of_mem _ hl)) y.1 _ y.1 _ hy hy (fun x hx => ?_)
    have e1 := mxI_mono2 (l := y.2) (h y.1 hy)
    show mxI (t' + cellM m a' y.1) y.2 + cellM m y.1 x ≤ mxI (t + cellM m a y.1) y.2 + cellM m y.1 x
    omega
theorem sub_le (hq : Sq n m) (ht : Tri n m) {L' L : List (Int × Int)} (hs : L'.Sublist L) (hL : ∀ l ∈ L, inN n l.1) {a t : Int} (ha : inN n a) : (runL m (a, t) L').2 ≤ (runL m (a, t) L).2 := by
  obtain ⟨h1, h2, h3⟩ := sub_run hq ht hs hL a t a t ha ha (fun x _ => Int.le_refl _)
  have e1 := h1 _ h3
  have e2 := cell_pos hq h2 h3
  have e3 := cell_dg hq h3
  omega
theorem legs_in {p : Plan} (ok : DriveOk m p) (e : m.length = n) : ∀ l ∈ p.stops.map (legOf p), inN n l.1 := by
  intro l hl
  obtain ⟨s, hs, rfl⟩ := List.mem_map.1 hl
  obtain ⟨k, hk, rfl⟩ := nth_of_mem hs
  have := ok.to hk
  unfold inN
  rw [← e]
  exact this
end

theorem ins_sub {m : Grid} {p : Plan} (ok : DriveOk m p) (r : Rider) {i o : Nat} (hio : i < o) (ho : o ≤ p.stops.length + 1) : (p.stops.map (legOf p)).Sublist ((insS p r i o).stops.map (legOf (insS p r i o))) := by
  have hleg : ∀ c, c < p.stops.length → legOf (insS p r i o) (nth p.stops c) = legOf p (nth p.stops c) := fun c hc => by
    have hr := ok.stops c hc
    have e : riderOf (insS p r i o) (nth p.stops c) = riderOf p (nth p.stops c) := riders_app p r (by omega)
    unfold legOf placeOf leastOf
    rw [e]
  have main : ∀ k, k ≤ p.stops.length + 2 → ((p.stops.take (cntK i o k)).map (legOf p)).Sublist ((insK p i o k).map (legOf (insS p r i o))) := by
    intro k
    induction k with
    | zero => intro _; simp [cntK]
    | succ k ih =>
      intro hk
      have ih := ih (by omega)
      show List.Sublist _ ((insK p i o k ++ [insAt p i o k]).map (legOf (insS p r i o)))
      rw [List.map_append]
      by_cases h1 : k = i
      · subst h1
        rw [cntK_i hio]
        exact ih.trans (List.sublist_append_left _ _)
      · by_cases h2 : k = o
        · subst h2
          rw [cntK_o hio]
          exact ih.trans (List.sublist_append_left _ _)
        · have hc := cntK_lt hio ho h1 h2 (by omega : k < p.stops.length + 2)
          have e : insAt p i o k = nth p.stops (cntK i o k) := by unfold insAt; rw [if_neg h1, if_neg h2]
          rw [cntK_r hio h1 h2, take_succ_nth p.stops _ hc, List.map_append, e]
          refine List.Sublist.append ih ?_
          show List.Sublist [legOf p _] [legOf (insS p r i o) _]
          rw [hleg _ hc]
          exact List.Sublist.refl _
  have h := main (p.stops.length + 2) (Nat.le_refl _)
  have e : cntK i o (p.stops.length + 2) = p.stops.length := by
    unfold cntK
    rw [if_pos (by omega), if_pos (by omega)]
    omega
  rw [e, List.take_length] at h
  exact h
theorem ins_cost {n : Nat} {m : Grid} (hq : Sq n m) (ht : Tri n m) {p : Plan} {r : Rider} (ok : OfferOk m p r) {i o : Nat} (hio : i < o) (ho : o ≤ p.stops.length + 1) : costP m p ≤ costP m (insS p r i o) := by
  have hrl := ok.rl
  have hsl := ok.sl
  rw [costP_run, costP_run]
  have tour := insS_tour ok.tour ok.r hio ho (by omega) (by omega)
  have := sub_le hq ht (ins_sub ok.tour.go r hio ho) (legs_in tour.go hq.len) (a := p.car.at_) (t := p.car.time) (by
    have h1 := ok.tour.go.at0
    have h2 := ok.tour.go.at1
    unfold inN
    rw [← hq.len]
    exact ⟨h1, h2⟩)
  show _ ≤ (runL m (p.car.at_, p.car.time) ((insS p r i o).stops.map (legOf (insS p r i o)))).2 - p.car.time
  omega
theorem offer_cost {n : Nat} {m : Grid} (hq : Sq n m) (ht : Tri n m) {p : Plan} {r : Rider} (ok : OfferOk m p r) {x : Offer} (h : bestS m p r = some x) : costP m p ≤ x.2.2 := by
  rcases bestS_cases (m := m) (p := p) (r := r) with ⟨h1, _⟩ | ⟨y, h1, h2, _⟩
  · rw [h1] at h; cases h
  · rw [h1] at h; injection h with h; subst h
    obtain ⟨i, o, hio, ho, _, e⟩ := mem_offers.1 h2
    rw [e]
    exact ins_cost hq ht ok hio ho

/-! ### the plan without a rider -/
theorem nth_cut {α : Type} [Inhabited α] (l : List α) (j k : Nat) (hj : j < l.length) : nth (l.take j ++ l.drop (j + 1)) k = if k < j then nth l k else nth l (k + 1) := by
  simp only [nth, List.getD_eq_getElem?_getD]
  by_cases h : k < j
  · rw [if_pos h, List.getElem?_append_left (by rw [List.length_take]; omega), List.getElem?_take, if_pos h]
  · rw [if_neg h, List.getElem?_append_right (by rw [List.length_take]; omega), List.getElem?_drop, List.length_take]
    congr 2
    omega
theorem cut_len {α : Type} (l : List α) (j : Nat) (hj : j < l.length) : (l.take j ++ l.drop (j + 1)).length = l.length - 1 := by
  rw [List.length_append, List.length_take, List.length_drop]; omega
theorem dec_rider {p : Plan} {j : Nat} (hj : j < p.riders.length) {s : Stop} (h0 : 0 ≤ s.rider) (hne : s.rider ≠ (j : Int)) : riderOf (woS p j) (decS (j : Int) s) = riderOf p s := by
  unfold riderOf woS decS
  dsimp only
  rw [nth_cut _ _ _ hj]
  by_cases h : (j : Int) < s.rider
  · rw [if_pos h, if_neg (by omega)]
    congr 1
    omega
  · rw [if_neg h, if_pos (by omega)]
theorem dec_leg {p : Plan} {j : Nat} (hj : j < p.riders.length) {s : Stop} (h0 : 0 ≤ s.rider) (hne : s.rider ≠ (j : Int)) : legOf (woS p j) (decS (j : Int) s) = legOf p s := by
  unfold legOf placeOf leastOf
  rw [dec_rider hj h0 hne]
  rfl
theorem wo_sub {p : Plan} {j : Nat} (hj : j < p.riders.length) : ∀ {l : List Stop}, (∀ s ∈ l, 0 ≤ s.rider) → ((woF (j : Int) l).map (legOf (woS p j))).Sublist (l.map (legOf p))
  | [], _ => List.Sublist.refl _
  | s :: l, h => by
    have ih := wo_sub hj (l := l) (fun x hx => h x (List.mem_cons_of_mem _ hx))
    unfold woF
    by_cases e : s.rider = (j : Int)
    · rw [if_pos e, List.map_cons]
      exact ih.cons _
    · rw [if_neg e, List.map_cons, List.map_cons, dec_leg hj (h s List.mem_cons_self) e]
      exact ih.cons_cons _
theorem wo_cost {n : Nat} {m : Grid} (hq : Sq n m) (ht : Tri n m) {p : Plan} (ok : DriveOk m p) {j : Nat} (hj : j < p.riders.length) : costP m (woS p j) ≤ costP m p := by
  rw [costP_run, costP_run]
  have := sub_le hq ht (wo_sub (p := p) hj (l := p.stops) (fun s hs => by
    obtain ⟨k, hk, rfl⟩ := nth_of_mem hs
    exact (ok.stops k hk).1)) (legs_in ok hq.len) (a := p.car.at_) (t := p.car.time) (by
    have h1 := ok.at0
    have h2 := ok.at1
    unfold inN
    rw [← hq.len]
    exact ⟨h1, h2⟩)
  show (runL m (p.car.at_, p.car.time) ((woF (j : Int) p.stops).map (legOf (woS p j)))).2 - p.car.time ≤ _
  omega
end Go.Proofs.Ytchpdgojiibjcaa
