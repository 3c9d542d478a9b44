/- Contracts of functions for this claim: lemmas alone. -/
import Derived.Test.YtgoemokfpfnlkaaP26
set_option linter.unusedSimpArgs false
set_option linter.unusedVariables false
namespace Go.Proofs.Ytgoemokfpfnlkaa
open Go Go.Fi

/-- what a walk along roads arrives with -/
inductive Reach (n : Net) (f : Road → Int → Int) (a : Nat) (st : Int) : Nat → Int → Prop
  | here : Reach n f a st a st
  | road {v : Int} (k : Nat) (hk : k < n.roads.length) (h : Reach n f a st (nth n.roads k).frm.toNat v) : Reach n f a st (nth n.roads k).to.toNat (f (nth n.roads k) v)
section
variable {n : Net} {f : Road → Int → Int}
theorem runR_keep (P : GS → Prop) (h : NetOk n) (ha : Along n f) (hp : ∀ k s, k < n.roads.length → Inv n s → P s → P (relax f (nth n.roads k) k s).1) : ∀ (m k : Nat) (s : GS) (c : Bool), Inv n s → P s → k + m = n.roads.length → P (runR f n.roads m k s c).1
  | 0, _, _, _, _, hs, _ => hs
  | m + 1, k, s, c, hi, hs, hk => by
    simp only [runR]
    exact runR_keep P h ha hp m (k + 1) _ _ (relax_inv h ha hi (by omega)).1 (hp k s (by omega) hi hs) (by omega)
theorem growF_keep (P : GS → Prop) (h : NetOk n) (ha : Along n f) (hp : ∀ k s, k < n.roads.length → Inv n s → P s → P (relax f (nth n.roads k) k s).1) : ∀ (m : Nat) (s : GS), Inv n s → P s → P (growF f n.roads m s)
  | 0, _, _, hs => hs
  | m + 1, s, hi, hs => by
    obtain ⟨i1, _⟩ := runR_inv h ha n.roads.length 0 s false hi (by omega)
    have p1 := runR_keep P h ha hp n.roads.length 0 s false hi hs (by omega)
    simp only [growF]
    split
    · exact growF_keep P h ha hp m _ i1 p1
    · exact p1
theorem growF_end (h : NetOk n) (ha : Along n f) : ∀ (m : Nat) (s : GS), Inv n s → mu s < m → (runR f n.roads n.roads.length 0 (growF f n.roads m s) false).2 = false
  | 0, _, _, hm => by omega
  | m + 1, s, hs, hm => by
    obtain ⟨i1, _, i3, i4⟩ := runR_inv h ha n.roads.length 0 s false hs (by omega)
    simp only [growF]
    cases hr : (runR f n.roads n.roads.length 0 s false).2 with
    | false =>
      rw [if_neg (by decide), (i3 hr).1, hr]
    | true =>
      have hlt := i4 rfl hr
      rw [if_pos rfl]
      exact growF_end h ha m _ i1 (by omega)
theorem runR_fix (h : NetOk n) (ha : Along n f) : ∀ (m k : Nat) (s : GS) (c : Bool), Inv n s → k + m = n.roads.length → (runR f n.roads m k s c).2 = false → ∀ j, k ≤ j → j < n.roads.length → (relax f (nth n.roads j) j s).2 = false
  | 0, k, s, c, _, hk, _, j, h1, h2 => by omega
  | m + 1, k, s, c, hs, hk, hf, j, h1, h2 => by
    obtain ⟨r1, r2, _⟩ := relax_inv h ha hs (k := k) (by omega)
    simp only [runR] at hf
    obtain ⟨_, _, i3, _⟩ := runR_inv h ha m (k + 1) _ (c || (relax f (nth n.roads k) k s).2) r1 (by omega)
    have hc := (i3 hf).2
    simp only [Bool.or_eq_false_iff] at hc
    have e := r2 hc.2
    by_cases hj : j = k
    · subst hj; exact hc.2
    · rw [e] at hf
      exact runR_fix h ha m (k + 1) s _ hs (by omega) hf j (by omega) h2
structure Fixed (n : Net) (f : Road → Int → Int) (a : Nat) (st : Int) (s : GS) : Prop where
  inv : Inv n s
  la : 0 ≤ nth s.l a ∧ nth s.l a ≤ st
  road : ∀ k, k < n.roads.length → 0 ≤ nth s.l (nth n.roads k).frm.toNat → 0 ≤ nth s.l (nth n.roads k).to.toNat ∧ nth s.l (nth n.roads k).to.toNat ≤ f (nth n.roads k) (nth s.l (nth n.roads k).frm.toNat)
  reach : ∀ i, i < n.places.length → nth s.l i = -1 ∨ Reach n f a st i (nth s.l i)
theorem relax_of (h : NetOk n) (ha : Along n f) {s : GS} (hs : Inv n s) {k : Nat} (hk : k < n.roads.length) :
    (relax f (nth n.roads k) k s).1.l = s.l ∨ (0 ≤ nth s.l (nth n.roads k).frm.toNat ∧ 0 ≤ f (nth n.roads k) (nth s.l (nth n.roads k).frm.toNat) ∧ (nth s.l (nth n.roads k).to.toNat = -1 ∨ f (nth n.roads k) (nth s.l (nth n.roads k).frm.toNat) < nth s.l (nth n.roads k).to.toNat) ∧ (relax f (nth n.roads k) k s).1.l = s.l.set (nth n.roads k).to.toNat (f (nth n.roads k) (nth s.l (nth n.roads k).frm.toNat))) := by
  have hr := h.road k hk
  have h1 : (nth n.roads k).frm.toNat < n.places.length := by have := hr.frm; omega
  have b1 := hs.small h h1
  have hlo := ha.lo k (nth s.l (nth n.roads k).frm.toNat) hk
  unfold relax
  split
  · exact .inl rfl
  · rename_i hne
    have h0 : 0 ≤ nth s.l (nth n.roads k).frm.toNat ∧ nth s.l (nth n.roads k).frm.toNat ≤ 5000000 := b1.resolve_left hne
    have := hlo h0.1 (by omega)
    split
    · rename_i hc
      exact .inr ⟨h0.1, by omega, hc, rfl⟩
    · exact .inl rfl
theorem growS_fixed (h : NetOk n) (ha : Along n f) {a : Nat} {st : Int} (hf : a < n.places.length) (h0 : 0 ≤ st) (h1 : st ≤ 700000) : Fixed n f a st (growS f n a st) := by
  have i0 := inv0 h hf h0 h1
  have hi := growS_inv h ha hf h0 h1
  have hl : a < (List.replicate n.places.length (-1 : Int)).length := by simpa using hf
  have e0 : ∀ i, i < n.places.length → nth (grow0 n a st).l i = if a = i then st else -1 := fun i hi => by
    show nth ((List.replicate n.places.length (-1)).set a st) i = _
    rw [nth_set _ _ _ _ hl, nth_replicate _ _ _ hi]
  have hend := growF_end h ha (mu (grow0 n a st) + 1) _ i0 (by omega)
  have hfix := runR_fix h ha n.roads.length 0 (growS f n a st) false hi (by omega) hend
  refine ⟨hi, ?_, fun k hk h2 => ?_, ?_⟩
  · refine growF_keep (fun s => 0 ≤ nth s.l a ∧ nth s.l a ≤ st) h ha (fun k s hk hs hp => ?_) _ _ i0 (by rw [e0 a hf, if_pos rfl]; omega)
    have hto : (nth n.roads k).to.toNat < s.l.length := by have := (h.road k hk).to; have := hs.ll; omega
    rcases relax_of h ha hs hk with e | ⟨g1, g2, g3, e⟩
    · rw [e]; exact hp
    · rw [e, nth_set _ _ _ _ hto]
      split
      · rename_i he; rw [he] at g3; omega
      · exact hp
  · have := hfix k (Nat.zero_le _) hk
    have hto : (nth n.roads k).to.toNat < n.places.length := by have := (h.road k hk).to; omega
    have b2 := hi.small h hto
    unfold relax at this
    rw [if_neg (by omega)] at this
    split at this
    · cases this
    · rename_i hc
      omega
  · refine growF_keep (fun s => ∀ i, i < n.places.length → nth s.l i = -1 ∨ Reach n f a st i (nth s.l i)) h ha (fun k s hk hs hp => ?_) _ _ i0 (fun i hi => ?_)
    · have hto : (nth n.roads k).to.toNat < s.l.length := by have := (h.road k hk).to; have := hs.ll; omega
      have hfr : (nth n.roads k).frm.toNat < n.places.length := by have := (h.road k hk).frm; omega
      rcases relax_of h ha hs hk with e | ⟨g1, g2, g3, e⟩
      · rw [e]; exact hp
      · rw [e]
        intro i hi
        rw [nth_set _ _ _ _ hto]
        split
        · rename_i he
          subst he
          exact .inr (.road k hk ((hp _ hfr).resolve_left (by omega)))
        · exact hp i hi
    · rw [e0 i hi]
      split
      · rename_i he; subst he; exact .inr .here
      · exact .inl rfl
/-- a number becomes no smaller one if it was larger before -/
def Mono (n : Net) (f : Road → Int → Int) : Prop := ∀ k m m', k < n.roads.length → 0 ≤ m → m ≤ m' → f (nth n.roads k) m ≤ f (nth n.roads k) m'
theorem fixed_least (h : NetOk n) (hm : Mono n f) {a : Nat} {st st' : Int} {s : GS} (hs : Fixed n f a st s) (hst : st ≤ st') {i : Nat} {v : Int} (hr : Reach n f a st' i v) : 0 ≤ nth s.l i ∧ nth s.l i ≤ v := by
  induction hr with
  | here => exact ⟨hs.la.1, Int.le_trans hs.la.2 hst⟩
  | @road v k hk hr ih =>
    obtain ⟨r1, r2⟩ := hs.road k hk ih.1
    exact ⟨r1, Int.le_trans r2 (hm k _ _ hk ih.1 ih.2)⟩
theorem reach_any {g : Road → Int → Int} {a : Nat} {st st' : Int} {i : Nat} {v : Int} (hr : Reach n f a st i v) : ∃ v', Reach n g a st' i v' := by
  induction hr with
  | here => exact ⟨_, .here⟩
  | road k hk hr ih => obtain ⟨v', h'⟩ := ih; exact ⟨_, .road k hk h'⟩
theorem grow_mono (h : NetOk n) (ha : Along n f) (hm : Mono n f) {a : Nat} (hf : a < n.places.length) {st st' : Int} (h0 : 0 ≤ st) (h1 : st ≤ st') (h2 : st' ≤ 700000) {i : Nat} (hi : i < n.places.length) : nth (growS f n a st).l i ≤ nth (growS f n a st').l i := by
  have f1 := growS_fixed h ha hf h0 (by omega)
  have f2 := growS_fixed h ha hf (by omega) h2
  rcases f2.reach i hi with e | e
  · rcases f1.reach i hi with e' | e'
    · omega
    · obtain ⟨v', hv⟩ := reach_any (g := f) (st' := st') e'
      have := fixed_least h hm f2 (Int.le_refl _) hv
      omega
  · exact (fixed_least h hm f1 h1 e).2
theorem grow_some {g : Road → Int → Int} (h : NetOk n) (ha : Along n f) (hb : Along n g) (hm : Mono n g) {a : Nat} (hf : a < n.places.length) {st st' : Int} (h0 : 0 ≤ st) (h1 : st ≤ 700000) (h0' : 0 ≤ st') (h1' : st' ≤ 700000) {i : Nat} (hi : i < n.places.length) (hs : 0 ≤ nth (growS f n a st).l i) : 0 ≤ nth (growS g n a st').l i := by
  have f1 := growS_fixed h ha hf h0 h1
  have f2 := growS_fixed h hb hf h0' h1'
  rcases f1.reach i hi with e | e
  · omega
  · obtain ⟨v', hv⟩ := reach_any (g := g) (st' := st') e
    exact (fixed_least h hm f2 (Int.le_refl _) hv).1
end
end Go.Proofs.Ytgoemokfpfnlkaa
namespace Go.Proofs.Ytgoemokfpfnlkaa
open Go Go.Fi

theorem ceil_seg (A g d : Int) (hd : 0 < d) (hA : -d ≤ A) : ceilS (A * g) d ≤ ceilS (A * (g + 1)) d + 1 := by
  have h1 := (ceilS_ge (A * (g + 1)) d hd).1
  have h2 := (ceilS_ge (A * g) d hd).2
  generalize ceilS (A * (g + 1)) d = c at *
  generalize ceilS (A * g) d = b at *
  have e : A * (g + 1) = A * g + A := by rw [Int.mul_add, Int.mul_one]
  have e2 : (c + 1) * d = c * d + d := by rw [Int.add_mul, Int.one_mul]
  have h3 : (b - 1) * d < (c + 1) * d := by omega
  have := Int.lt_of_mul_lt_mul_right h3 (Int.le_of_lt hd)
  omega
theorem ceil_full (A d : Int) (hd : 0 < d) : ceilS (A * d) d ≤ A := by
  have h2 := (ceilS_ge (A * d) d hd).2
  have := Int.lt_of_mul_lt_mul_right h2 (Int.le_of_lt hd)
  omega
theorem ceil_zero (A d : Int) : ceilS (A * 0) d = 0 := by
  rw [Int.mul_zero]; simp [ceilS]
theorem next_seg {l : List Pt} (hl : PtsOk l) (hi : PtsInc l) {x y : Int} (h0 : 0 ≤ x) (h1 : x < 86400) (hy : y = if x = 86399 then 0 else x + 1) :
    (lastI l y l.length = lastI l x l.length ∧ goneS y (nth l (lastI l x l.length)).at_ = goneS x (nth l (lastI l x l.length)).at_ + 1) ∨
    (lastI l y l.length = (lastI l x l.length + 1) % l.length ∧ goneS y (nth l ((lastI l x l.length + 1) % l.length)).at_ = 0 ∧ goneS x (nth l (lastI l x l.length)).at_ + 1 = gapS (nth l (lastI l x l.length)).at_ (nth l ((lastI l x l.length + 1) % l.length)).at_) := by
  have hs := lastI_spec l x l.length (Nat.le_refl _)
  have hs' := lastI_spec l y l.length (Nat.le_refl _)
  have hlt := lastI_lt l x hl.pos l.length (Nat.le_refl _)
  have hlt' := lastI_lt l y hl.pos l.length (Nat.le_refl _)
  have hpos := hl.pos
  generalize lastI l x l.length = i at *
  generalize lastI l y l.length = i' at *
  have b1 := hl.at_ i hlt
  have b1' := hl.at_ i' hlt'
  have b0 := hl.at_ 0 hpos
  have hj : (i + 1) % l.length < l.length := Nat.mod_lt _ hpos
  have b2 := hl.at_ _ hj
  have hjj : (i + 1 < l.length ∧ (i + 1) % l.length = i + 1) ∨ (i = l.length - 1 ∧ (i + 1) % l.length = 0) := by
    by_cases h : i + 1 < l.length
    · exact .inl ⟨h, Nat.mod_eq_of_lt h⟩
    · exact .inr ⟨by omega, by rw [show i + 1 = l.length by omega]; exact Nat.mod_self _⟩
  generalize (i + 1) % l.length = j at *
  have L1 : i < i' → (nth l i).at_ < (nth l i').at_ := fun h => hi.lt h hlt'
  have L2 : i' < i → (nth l i').at_ < (nth l i).at_ := fun h => hi.lt h hlt
  have L3 : j < i' → (nth l j).at_ < (nth l i').at_ := fun h => hi.lt h hlt'
  have L4 : i' < j → (nth l i').at_ < (nth l j).at_ := fun h => hi.lt h hj
  have L5 : 0 < i → (nth l 0).at_ < (nth l i).at_ := fun h => hi.lt h hlt
  have L6 : 0 < i' → (nth l 0).at_ < (nth l i').at_ := fun h => hi.lt h hlt'
  by_cases hc : (nth l j).at_ = y
  · refine .inr ⟨?_, by unfold goneS; split <;> omega, ?_⟩
    · rcases hs' with ⟨_, g2, g3⟩ | ⟨_, g2⟩
      · have := g3 j
        by_cases h : i' = j
        · exact h
        · rcases Nat.lt_or_gt_of_ne h with h | h
          · have := this h hj; omega
          · have := L3 h; omega
      · have := g2 j hj; omega
    · unfold goneS gapS
      split at hy <;> split <;> split <;> omega
  · refine .inl ?_
    have hii : i' = i ∧ (nth l i).at_ ≠ y + (if y = 0 then 0 else 86400) ∧ ((x < (nth l i).at_ → y < (nth l i).at_)) ∧ (y = 0 → 0 < (nth l i).at_) := by
      rcases hs with ⟨_, g2, g3⟩ | ⟨g1, g2⟩
      · split at hy
        · have hlast : i = l.length - 1 := by
            rcases hjj with ⟨q1, q2⟩ | ⟨q1, q2⟩
            · have := g3 (i + 1) (by omega) q1
              have := hl.at_ (i + 1) q1
              omega
            · exact q1
          rcases hjj with ⟨q1, q2⟩ | ⟨q1, q2⟩
          · omega
          · subst q2
            have hp : 0 < (nth l i).at_ := by
              by_cases h : 0 < i
              · have := L5 h; omega
              · have : i = 0 := by omega
                subst this; omega
            rcases hs' with ⟨_, k2, k3⟩ | ⟨k1, k2⟩
            · by_cases h : 0 < i'
              · have := L6 h; omega
              · have : i' = 0 := by omega
                subst this; omega
            · exact ⟨by omega, by split <;> omega, by omega, fun _ => hp⟩
        · rcases hs' with ⟨_, k2, k3⟩ | ⟨k1, k2⟩
          · refine ⟨?_, by split <;> omega, by omega, by omega⟩
            by_cases h : i' = i
            · exact h
            · rcases Nat.lt_or_gt_of_ne h with h | h
              · have := k3 i h hlt; omega
              · rcases hjj with ⟨q1, q2⟩ | ⟨q1, q2⟩
                · subst q2
                  have := g3 (i + 1) (by omega) q1
                  by_cases h' : i + 1 < i'
                  · have := L3 h'; omega
                  · have : i' = i + 1 := by omega
                    subst this; omega
                · omega
          · have := k2 i hlt; omega
      · have hx : ¬ x = 86399 := by have := g2 i hlt; omega
        rw [if_neg hx] at hy
        rcases hjj with ⟨q1, q2⟩ | ⟨q1, q2⟩
        · omega
        · subst q2
          have c0 := g2 0 hpos
          have ci := g2 i hlt
          have hyi : y < (nth l i).at_ := by
            by_cases h : 0 < i
            · have := L5 h; omega
            · have : i = 0 := by omega
              subst this; omega
          rcases hs' with ⟨_, k2, k3⟩ | ⟨k1, k2⟩
          · by_cases h : 0 < i'
            · have := L6 h; omega
            · have : i' = 0 := by omega
              subst this; omega
          · exact ⟨by omega, by split <;> omega, fun _ => hyi, by omega⟩
    obtain ⟨h2, _, h4, h5⟩ := hii
    refine ⟨h2, ?_⟩
    unfold goneS
    split at hy <;> split <;> split <;> omega
theorem takes_step {l : List Pt} (hl : PtsOk l) (hi : PtsInc l) (ho : ∀ k, k < l.length → inOrderB l k = true) (m : Int) (late : Bool) : takesS l m late ≤ takesS l (m + 1) late + 1 := by
  unfold takesS
  dsimp only
  have hx0 : 0 ≤ m % 86400 := by omega
  have hx1 : m % 86400 < 86400 := by omega
  have hy : (m + 1) % 86400 = if m % 86400 = 86399 then 0 else m % 86400 + 1 := by split <;> omega
  have hn := next_seg hl hi hx0 hx1 hy
  have hlt := lastI_lt l (m % 86400) hl.pos l.length (Nat.le_refl _)
  generalize m % 86400 = x at *
  generalize (m + 1) % 86400 = y at *
  generalize lastI l x l.length = i at *
  generalize lastI l y l.length = i' at *
  have hj : (i + 1) % l.length < l.length := Nat.mod_lt _ hl.pos
  have hd := gapS_bd (hl.at_ i hlt) (hl.at_ _ hj)
  have hor : ptv late (nth l i) - gapS (nth l i).at_ (nth l ((i + 1) % l.length)).at_ ≤ ptv late (nth l ((i + 1) % l.length)) := by
    have := ho i hlt
    unfold inOrderB at this
    simp only [Bool.and_eq_true, decide_eq_true_eq] at this
    cases late
    · exact this.1
    · exact this.2
  rcases hn with ⟨rfl, h2⟩ | ⟨rfl, h2, h3⟩
  · rw [h2]
    generalize (i' + 1) % l.length = j at *
    have := ceil_seg (ptv late (nth l j) - ptv late (nth l i')) (goneS x (nth l i').at_) _ hd (by omega)
    omega
  · rw [h2, ceil_zero]
    generalize (i + 1) % l.length = j at *
    have c1 := ceil_seg (ptv late (nth l j) - ptv late (nth l i)) (goneS x (nth l i).at_) _ hd (by omega)
    rw [h3] at c1
    have c2 := ceil_full (ptv late (nth l j) - ptv late (nth l i)) _ hd
    omega
theorem takes_mono {l : List Pt} (hl : PtsOk l) (hi : PtsInc l) (ho : ∀ k, k < l.length → inOrderB l k = true) (late : Bool) (m : Int) : ∀ d : Nat, m + takesS l m late ≤ m + d + takesS l (m + d) late
  | 0 => by simp
  | d + 1 => by
    have h1 := takes_mono hl hi ho late m d
    have h2 := takes_step hl hi ho (m + d) late
    rw [show m + ((d + 1 : Nat) : Int) = m + d + 1 by omega]
    omega
theorem time_mono {n : Net} (h : NetOk n) (late : Bool) : Mono n (fTime late) := fun k m m' hk _ hm => by
  have hr := h.road k hk
  have := takes_mono hr.pts hr.inc hr.ord late m (m' - m).toNat
  rw [show m + ((m' - m).toNat : Int) = m' by omega] at this
  exact this
theorem len_mono {n : Net} : Mono n fLen := fun k m m' _ _ hm => by unfold fLen; omega
end Go.Proofs.Ytgoemokfpfnlkaa
