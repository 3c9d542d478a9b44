/- Contracts of functions for this claim: lemmas alone. -/
import Derived.Test.YtmkahgnfoefnjaaP13
set_option linter.unusedSimpArgs false
set_option linter.unusedVariables false
namespace Go.Proofs.Ytmkahgnfoefnjaa
open Go Go.Fi

/-! least numbers of places, round by round -/
structure GS where
  l : List Int
  b : List Int
  deriving Inhabited
def relax (f : Road → Int → Int) (r : Road) (i : Nat) (s : GS) : GS × Bool :=
  if nth s.l r.frm.toNat = -1 then (s, false)
  else if nth s.l r.to.toNat = -1 ∨ f r (nth s.l r.frm.toNat) < nth s.l r.to.toNat then (⟨s.l.set r.to.toNat (f r (nth s.l r.frm.toNat)), s.b.set r.to.toNat i⟩, true)
  else (s, false)
def runR (f : Road → Int → Int) (roads : List Road) : Nat → Nat → GS → Bool → GS × Bool
  | 0, _, s, c => (s, c)
  | m + 1, k, s, c => runR f roads m (k + 1) (relax f (nth roads k) k s).1 (c || (relax f (nth roads k) k s).2)
def growF (f : Road → Int → Int) (roads : List Road) : Nat → GS → GS
  | 0, s => s
  | m + 1, s => if (runR f roads roads.length 0 s false).2 then growF f roads m (runR f roads roads.length 0 s false).1 else (runR f roads roads.length 0 s false).1
def wt (x : Int) : Nat := if x = -1 then 100000000 else x.toNat
def ct (x : Int) : Nat := if x = -1 then 0 else 1
def sumW (w : Int → Nat) : List Int → Nat
  | [] => 0
  | x :: r => w x + sumW w r
theorem sum_set (w : Int → Nat) : ∀ (l : List Int) (i : Nat) (v : Int), i < l.length → sumW w (l.set i v) + w (nth l i) = sumW w l + w v
  | [], i, v, h => by simp at h
  | x :: r, 0, v, _ => by simp [sumW]; omega
  | x :: r, i + 1, v, h => by
    have := sum_set w r i v (by simpa using h)
    simp only [List.set_cons_succ, sumW, nth_succ]; omega
theorem sum_ct_le : ∀ l : List Int, sumW ct l ≤ l.length
  | [] => Nat.le_refl _
  | x :: r => by
    have := sum_ct_le r
    have h : ct x ≤ 1 := by unfold ct; split <;> omega
    simp only [sumW, List.length_cons]; omega
theorem nth_set (l : List Int) (i j : Nat) (v : Int) (h : i < l.length) : nth (l.set i v) j = if i = j then v else nth l j := by
  unfold nth
  rw [List.getD_eq_getElem?_getD, List.getElem?_set]
  split
  · rename_i e; subst e; rfl
  · rw [List.getD_eq_getElem?_getD]
def mu (s : GS) : Nat := sumW wt s.l
/-- how a number becomes another one along a road: it does not fall, and grows by M at most -/
structure Along (n : Net) (f : Road → Int → Int) : Prop where
  lo : ∀ k m, k < n.roads.length → 0 ≤ m → m ≤ 10000000 → m ≤ f (nth n.roads k) m
  hi : ∀ k m, k < n.roads.length → 0 ≤ m → m ≤ 10000000 → f (nth n.roads k) m ≤ m + 100000
structure Inv (n : Net) (s : GS) : Prop where
  ll : s.l.length = n.places.length
  lb : s.b.length = n.places.length
  bd : ∀ i, i < n.places.length → nth s.l i = -1 ∨ (0 ≤ nth s.l i ∧ nth s.l i ≤ 700000 + 100000 * sumW ct s.l)
  by_ : ∀ i, i < n.places.length → -1 ≤ nth s.b i ∧ nth s.b i < n.roads.length
section
variable {n : Net} {f : Road → Int → Int}
theorem Inv.small (h : NetOk n) {s : GS} (hs : Inv n s) {i : Nat} (hi : i < n.places.length) : nth s.l i = -1 ∨ (0 ≤ nth s.l i ∧ nth s.l i ≤ 5000000) := by
  have h1 := sum_ct_le s.l
  rw [hs.ll] at h1
  have := h.np
  rcases hs.bd i hi with h2 | h2
  · exact .inl h2
  · exact .inr (by omega)
theorem relax_inv (h : NetOk n) (ha : Along n f) {s : GS} (hs : Inv n s) {k : Nat} (hk : k < n.roads.length) :
    Inv n (relax f (nth n.roads k) k s).1 ∧ ((relax f (nth n.roads k) k s).2 = false → (relax f (nth n.roads k) k s).1 = s) ∧ ((relax f (nth n.roads k) k s).2 = true → mu (relax f (nth n.roads k) k s).1 < mu s) := by
  have hr := h.road k hk
  have h1 : (nth n.roads k).frm.toNat < n.places.length := by have := hr.frm; omega
  have h2 : (nth n.roads k).to.toNat < n.places.length := by have := hr.to; omega
  have b1 := hs.small h h1
  have b2 := hs.small h h2
  have hlo := ha.lo k (nth s.l (nth n.roads k).frm.toNat) hk
  have hhi := ha.hi k (nth s.l (nth n.roads k).frm.toNat) hk
  have hnb := hs.bd _ h1
  unfold relax
  generalize nth s.l (nth n.roads k).frm.toNat = a at *
  generalize hv : f (nth n.roads k) a = v at *
  generalize (nth n.roads k).to.toNat = t at *
  split
  · exact ⟨hs, fun _ => rfl, fun h => (by cases h)⟩
  · rename_i hne
    have hv0 : 0 ≤ a ∧ a ≤ v ∧ v ≤ a + 100000 := by
      rcases b1 with h | h
      · exact absurd h hne
      · exact ⟨h.1, hlo h.1 (by omega), hhi h.1 (by omega)⟩
    split
    · rename_i hc
      have hlen : t < s.l.length := by rw [hs.ll]; exact h2
      have sw := sum_set wt s.l t v hlen
      have sc := sum_set ct s.l t v hlen
      have cv : ct v = 1 := by unfold ct; rw [if_neg (by omega)]
      have co : ct (nth s.l t) ≤ 1 := by unfold ct; split <;> omega
      refine ⟨⟨by simp [hs.ll], by simp [hs.lb], fun i hi => ?_, fun i hi => ?_⟩, fun h => (by cases h), fun _ => ?_⟩
      · show nth (s.l.set t v) i = -1 ∨ _
        rw [nth_set _ _ _ _ hlen]
        show _ ∨ (_ ∧ _ ≤ 700000 + 100000 * (sumW ct (s.l.set t v) : Int))
        split
        · refine .inr ⟨by omega, ?_⟩
          by_cases ho : nth s.l t = -1
          · have : ct (nth s.l t) = 0 := by unfold ct; rw [if_pos ho]
            rcases hnb with h | h <;> omega
          · have : ct (nth s.l t) = 1 := by unfold ct; rw [if_neg ho]
            rcases hc with h | h
            · exact absurd h ho
            · rcases hs.bd t h2 with h' | h'
              · exact absurd h' ho
              · omega
        · rcases hs.bd i hi with h' | h'
          · exact .inl h'
          · refine .inr ⟨h'.1, ?_⟩
            omega
      · show -1 ≤ nth (s.b.set t k) i ∧ nth (s.b.set t k) i < n.roads.length
        rw [nth_set _ _ _ _ (by rw [hs.lb]; exact h2)]
        split
        · omega
        · exact hs.by_ i hi
      · show sumW wt (s.l.set t v) < sumW wt s.l
        have w1 : wt v = v.toNat := by unfold wt; rw [if_neg (by omega)]
        by_cases ho : nth s.l t = -1
        · have : wt (nth s.l t) = 100000000 := by unfold wt; rw [if_pos ho]
          omega
        · have : wt (nth s.l t) = (nth s.l t).toNat := by unfold wt; rw [if_neg ho]
          rcases hc with h | h
          · exact absurd h ho
          · omega
    · exact ⟨hs, fun _ => rfl, fun h => (by cases h)⟩
theorem runR_inv (h : NetOk n) (ha : Along n f) : ∀ (m k : Nat) (s : GS) (c : Bool), Inv n s → k + m = n.roads.length →
    Inv n (runR f n.roads m k s c).1 ∧ mu (runR f n.roads m k s c).1 ≤ mu s ∧ ((runR f n.roads m k s c).2 = false → (runR f n.roads m k s c).1 = s ∧ c = false) ∧ (c = false → (runR f n.roads m k s c).2 = true → mu (runR f n.roads m k s c).1 < mu s)
  | 0, k, s, c, hs, _ => ⟨hs, Nat.le_refl _, fun h => ⟨rfl, h⟩, fun h h' => by rw [show (runR f n.roads 0 k s c).2 = c from rfl, h] at h'; cases h'⟩
  | m + 1, k, s, c, hs, hk => by
    obtain ⟨r1, r2, r3⟩ := relax_inv h ha hs (k := k) (by omega)
    obtain ⟨i1, i2, i3, i4⟩ := runR_inv h ha m (k + 1) _ (c || (relax f (nth n.roads k) k s).2) r1 (by omega)
    have hle : mu (relax f (nth n.roads k) k s).1 ≤ mu s := by
      cases hr : (relax f (nth n.roads k) k s).2 with
      | true => exact Nat.le_of_lt (r3 hr)
      | false => rw [r2 hr]; exact Nat.le_refl _
    simp only [runR]
    refine ⟨i1, Nat.le_trans i2 hle, fun hf => ?_, fun hc hf => ?_⟩
    · obtain ⟨j1, j2⟩ := i3 hf
      simp only [Bool.or_eq_false_iff] at j2
      exact ⟨j1.trans (r2 j2.2), j2.1⟩
    · by_cases hr : (relax f (nth n.roads k) k s).2 = true
      · exact Nat.lt_of_le_of_lt i2 (r3 hr)
      · have := i4 (by rw [hc, Bool.eq_false_iff.2 hr]; rfl) hf
        exact Nat.lt_of_lt_of_le this hle
theorem growF_fuel (h : NetOk n) (ha : Along n f) : ∀ (m : Nat) (s : GS), Inv n s → mu s < m → growF f n.roads m s = growF f n.roads (mu s + 1) s
  | 0, s, _, hm => by omega
  | m + 1, s, hs, hm => by
    obtain ⟨i1, _, _, i4⟩ := runR_inv h ha n.roads.length 0 s false hs (by omega)
    simp only [growF]
    cases hr : (runR f n.roads n.roads.length 0 s false).2 with
    | false => simp
    | true =>
      have hlt := i4 rfl hr
      simp only [if_true]
      rw [growF_fuel h ha m _ i1 (by omega), growF_fuel h ha (mu s) _ i1 hlt]
end
def grow0 (n : Net) (from_ : Nat) (start : Int) : GS := ⟨(List.replicate n.places.length (-1)).set from_ start, List.replicate n.places.length (-1)⟩
def growS (f : Road → Int → Int) (n : Net) (from_ : Nat) (start : Int) : GS := growF f n.roads (mu (grow0 n from_ start) + 1) (grow0 n from_ start)
theorem nth_replicate (m i : Nat) (v : Int) (h : i < m) : nth (List.replicate m v) i = v := by
  simp [nth, List.getD_eq_getElem?_getD, List.getElem?_replicate, h]
theorem inv0 {n : Net} (h : NetOk n) {from_ : Nat} {start : Int} (hf : from_ < n.places.length) (h0 : 0 ≤ start) (h1 : start ≤ 700000) : Inv n (grow0 n from_ start) := by
  have hl : from_ < (List.replicate n.places.length (-1 : Int)).length := by simpa using hf
  refine ⟨by simp [grow0], by simp [grow0], fun i hi => ?_, fun i hi => ?_⟩
  · have e : nth (grow0 n from_ start).l i = if from_ = i then start else -1 := by
      show nth ((List.replicate n.places.length (-1)).set from_ start) i = _
      rw [nth_set _ _ _ _ hl, nth_replicate _ _ _ hi]
    rw [e]
    split
    · refine .inr ⟨h0, ?_⟩
      have : (0 : Int) ≤ (sumW ct (grow0 n from_ start).l : Int) := by omega
      omega
    · exact .inl rfl
  · show -1 ≤ nth (List.replicate n.places.length (-1)) i ∧ nth (List.replicate n.places.length (-1)) i < _
    rw [nth_replicate _ _ _ hi]; omega
theorem growF_inv {n : Net} {f : Road → Int → Int} (h : NetOk n) (ha : Along n f) : ∀ (m : Nat) (s : GS), Inv n s → Inv n (growF f n.roads m s)
  | 0, s, hs => hs
  | m + 1, s, hs => by
    obtain ⟨i1, _⟩ := runR_inv h ha n.roads.length 0 s false hs (by omega)
    simp only [growF]
    split
    · exact growF_inv h ha m _ i1
    · exact i1
theorem growS_inv {n : Net} {f : Road → Int → Int} (h : NetOk n) (ha : Along n f) {from_ : Nat} {start : Int} (hf : from_ < n.places.length) (h0 : 0 ≤ start) (h1 : start ≤ 700000) : Inv n (growS f n from_ start) := growF_inv h ha _ _ (inv0 h hf h0 h1)
end Go.Proofs.Ytmkahgnfoefnjaa
