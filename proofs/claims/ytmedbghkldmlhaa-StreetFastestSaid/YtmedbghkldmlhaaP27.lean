/- Contracts of functions for this claim: lemmas alone. -/
import Derived.Test.YtmedbghkldmlhaaP26
set_option linter.unusedSimpArgs false
set_option linter.unusedVariables false
namespace Go.Proofs.Ytmedbghkldmlhaa
open Go Go.Fi

/-- what a walk along roads arrives with -/
inductive Reach (n : Net) (f : Road → Int → Int) (a : Nat) (st : Int) : Nat → Int → Prop
  | here : Reach n f a st a st
  | road {v : Int} (k : Nat) (hk : k < n.roads.length) (h : Reach n f a st (nth n.roads k).frm.toNat v) : Reach n f a st (nth n.roads k).to.toNat (f (nth n.roads k) v)
section
variable {n : Net} {f : Road → Int → Int}
theorem runR_keep (P : GS → Prop) (h : NetOk n) (ha : Along n f) (hp : ∀ k s, k < n.roads.length → Inv n s → P s → P (relax f (nth n.roads k) k s).1) : ∀ (m k : Nat) (s : GS) (c : Bool), Inv n s → P s → k + m = n.roads.length → P (runR f n.roads m k s c).1
  | 0, _, _, _, _, hs, _ => hs
  | m + 1, k, s, c, hi, hs, hk => by
    simp only [runR]
    exact runR_keep P h ha hp m (k + 1) _ _ (relax_inv h ha hi (by omega)).1 (hp k s (by omega) hi hs) (by omega)
theorem growF_keep (P : GS → Prop) (h : NetOk n) (ha : Along n f) (hp : ∀ k s, k < n.roads.length → Inv n s → P s → P (relax f (nth n.roads k) k s).1) : ∀ (m : Nat) (s : GS), Inv n s → P s → P (growF f n.roads m s)
  | 0, _, _, hs => hs
  | m + 1, s, hi, hs => by
    obtain ⟨i1, _⟩ := runR_inv h ha n.roads.length 0 s false hi (by omega)
    have p1 := runR_keep P h ha hp n.roads.length 0 s false hi hs (by omega)
    simp only [growF]
    split
    · exact growF_keep P h ha hp m _ i1 p1
    · exact p1
theorem growF_end (h : NetOk n) (ha : Along n f) : ∀ (m : Nat) (s : GS), Inv n s → mu s < m → (runR f n.roads n.roads.length 0 (growF f n.roads m s) false).2 = false
  | 0, _, _, hm => by omega
  | m + 1, s, hs, hm => by
    obtain ⟨i1, _, i3, i4⟩ := runR_inv h ha n.roads.length 0 s false hs (by omega)
    simp only [growF]
    cases hr : (runR f n.roads n.roads.length 0 s false).2 with
    | false =>
      rw [if_neg (by decide), (i3 hr).1, hr]
    | true =>
      have hlt := i4 rfl hr
      rw [if_pos rfl]
      exact growF_end h ha m _ i1 (by omega)
theorem runR_fix (h : NetOk n) (ha : Along n f) : ∀ (m k : Nat) (s : GS) (c : Bool), Inv n s → k + m = n.roads.length → (runR f n.roads m k s c).2 = false → ∀ j, k ≤ j → j < n.roads.length → (relax f (nth n.roads j) j s).2 = false
  | 0, k, s, c, _, hk, _, j, h1, h2 => by omega
  | m + 1, k, s, c, hs, hk, hf, j, h1, h2 => by
    obtain ⟨r1, r2, _⟩ := relax_inv h ha hs (k := k) (by omega)
    simp only [runR] at hf
    obtain ⟨_, _, i3, _⟩ := runR_inv h ha m (k + 1) _ (c || (relax f (nth n.roads k) k s).2) r1 (by omega)
    have hc := (i3 hf).2
    simp only [Bool.or_eq_false_iff] at hc
    have e := r2 hc.2
    by_cases hj : j = k
    · subst hj; exact hc.2
    · rw [e] at hf
      exact runR_fix h ha m (k + 1) s _ hs (by omega) hf j (by omega) h2
structure Fixed (n : Net) (f : Road → Int → Int) (a : Nat) (st : Int) (s : GS) : Prop where
  inv : Inv n s
  la : 0 ≤ nth s.l a ∧ nth s.l a ≤ st
  road : ∀ k, k < n.roads.length → 0 ≤ nth s.l (nth n.roads k).frm.toNat → 0 ≤ nth s.l (nth n.roads k).to.toNat ∧ nth s.l (nth n.roads k).to.toNat ≤ f (nth n.roads k) (nth s.l (nth n.roads k).frm.toNat)
  reach : ∀ i, i < n.places.length → nth s.l i = -1 ∨ Reach n f a st i (nth s.l i)
theorem relax_of (h : NetOk n) (ha : Along n f) {s : GS} (hs : Inv n s) {k : Nat} (hk : k < n.roads.length) :
    (relax f (nth n.roads k) k s).1.l = s.l ∨ (0 ≤ nth s.l (nth n.roads k).frm.toNat ∧ 0 ≤ f (nth n.roads k) (nth s.l (nth n.roads k).frm.toNat) ∧ (nth s.l (nth n.roads k).to.toNat = -1 ∨ f (nth n.roads k) (nth s.l (nth n.roads k).frm.toNat) < nth s.l (nth n.roads k).to.toNat) ∧ (relax f (nth n.roads k) k s).1.l = s.l.set (nth n.roads k).to.toNat (f (nth n.roads k) (nth s.l (nth n.roads k).frm.toNat))) := by
  have hr := h.road k hk
  have h1 : (nth n.roads k).frm.toNat < n.places.length := by have := hr.frm; omega
  have b1 := hs.small h h1
  have hlo := ha.lo k (nth s.l (nth n.roads k).frm.toNat) hk
  unfold relax
  split
  · exact .inl rfl
  · rename_i hne
    have h0 : 0 ≤ nth s.l (nth n.roads k).frm.toNat ∧ nth s.l (nth n.roads k).frm.toNat ≤ 5000000 := b1.resolve_left hne
    have := hlo h0.1 (by omega)
    split
    · rename_i hc
      exact .inr ⟨h0.1, by omega, hc, rfl⟩
    · exact .inl rfl
theorem growS_fixed (h : NetOk n) (ha : Along n f) {a : Nat} {st : Int} (hf : a < n.places.length) (h0 : 0 ≤ st) (h1 : st ≤ 700000) : Fixed n f a st (growS f n a st) := by
  have i0 := inv0 h hf h0 h1
  have hi := growS_inv h ha hf h0 h1
  have hl : a < (List.replicate n.places.length (-1 : Int)).length := by simpa using hf
  have e0 : ∀ i, i < n.places.length → nth (grow0 n a st).l i = if a = i then st else -1 := fun i hi => by
    show nth ((List.replicate n.places.length (-1)).set a st) i = _
    rw [nth_set _ _ _ _ hl, nth_replicate _ _ _ hi]
  have hend := growF_end h ha (mu (grow0 n a st) + 1) _ i0 (by omega)
  have hfix := runR_fix h ha n.roads.length 0 (growS f n a st) false hi (by omega) hend
  refine ⟨hi, ?_, fun k hk h2 => ?_, ?_⟩
  · refine growF_keep (fun s => 0 ≤ nth s.l a ∧ nth s.l a ≤ st) h ha (fun k s hk hs hp => ?_) _ _ i0 (by rw [e0 a hf, if_pos rfl]; omega)
    have hto : (nth n.roads k).to.toNat < s.l.length := by have := (h.road k hk).to; have := hs.ll; omega
    rcases relax_of h ha hs hk with e | ⟨g1, g2, g3, e⟩
    · rw [e]; exact hp
    · rw [e, nth_set _ _ _ _ hto]
      split
      · rename_i he; rw [he] at g3; omega
      · exact hp
  · have := hfix k (Nat.zero_le _) hk
    have hto : (nth n.roads k).to.toNat < n.places.length := by have := (h.road k hk).to; omega
    have b2 := hi.small h hto
    unfold relax at this
    rw [if_neg (by omega)] at this
    split at this
    · cases this
    · rename_i hc
      omega
  · refine growF_keep (fun s => ∀ i, i < n.places.length → nth s.l i = -1 ∨ Reach n f a st i (nth s.l i)) h ha (fun k s hk hs hp => ?_) _ _ i0 (fun i hi => ?_)
    · have hto : (nth n.roads k).to.toNat < s.l.length := by have := (h.road k hk).to; have := hs.ll; omega
      have hfr : (nth n.roads k).frm.toNat < n.places.length := by have := (h.road k hk).frm; omega
      rcases relax_of h ha hs hk with e | ⟨g1, g2, g3, e⟩
      · rw [e]; exact hp
      · rw [e]
        intro i hi
        rw [nth_set _ _ _ _ hto]
        split
        · rename_i he
          subst he
          exact .inr (.road k hk ((hp _ hfr).resolve_left (by omega)))
        · exact hp i hi
    · rw [e0 i hi]
      split
      · rename_i he; subst he; exact .inr .here
      · exact .inl rfl
/-- a number becomes no smaller one if it was larger before -/
def Mono (n : Net) (f : Road → Int → Int) : Prop := ∀ k m m', k < n.roads.length → 0 ≤ m → m ≤ m' → f (nth n.roads k) m ≤ f (nth n.roads k) m'
theorem fixed_least (h : NetOk n) (hm : Mono n f) {a : Nat} {st st' : Int} {s : GS} (hs : Fixed n f a st s) (hst : st ≤ st') {i : Nat} {v : Int} (hr : Reach n f a st' i v) : 0 ≤ nth s.l i ∧ nth s.l i ≤ v := by
  induction hr with
  | here => exact ⟨hs.la.1, Int.le_trans hs.la.2 hst⟩
  | @road v k hk hr ih =>
    obtain ⟨r1, r2⟩ := hs.road k hk ih.1
    exact ⟨r1, Int.le_trans r2 (hm k _ _ hk ih.1 ih.2)⟩
theorem reach_any {g : Road → Int → Int} {a : Nat} {st st' : Int} {i : Nat} {v : Int} (hr : Reach n f a st i v) : ∃ v', Reach n g a st' i v' := by
  induction hr with
  | here => exact ⟨_, .here⟩
  | road k hk hr ih => obtain ⟨v', h'⟩ := ih; exact ⟨_, .road k hk h'⟩
theorem grow_mono (h : NetOk n) (ha : Along n f) (hm : Mono n f) {a : Nat} (hf : a < n.places.length) {st st' : Int} (h0 : 0 ≤ st) (h1 : st ≤ st') (h2 : st' ≤ 700000) {i : Nat} (hi : i < n.places.length) : nth (growS f n a st).l i ≤ nth (growS f n a st').l i := by
  have f1 := growS_fixed h ha hf h0 (by omega)
  have f2 := growS_fixed h ha hf (by omega) h2
  rcases f2.reach i hi with e | e
  · rcases f1.reach i hi with e' | e'
    · omega
    · obtain ⟨v', hv⟩ := reach_any (g := f) (st' := st') e'
      have := fixed_least h hm f2 (Int.le_refl _) hv
      omega
  · exact (fixed_least h hm f1 h1 e).2
theorem grow_some {g : Road → Int → Int} (h : NetOk n) (ha : Along n f) (hb : Along n g) (hm : Mono n g) {a : Nat} (hf : a < n.places.length) {st st' : Int} (h0 : 0 ≤ st) (h1 : st ≤ 700000) (h0' : 0 ≤ st') (h1' : st' ≤ 700000) {i : Nat} (hi : i < n.places.length) (hs : 0 ≤ nth (growS f n a st).l i) : 0 ≤ nth (growS g n a st').l i := by
  have f1 := growS_fixed h ha hf h0 h1
  have f2 := growS_fixed h hb hf h0' h1'
  rcases f1.reach i hi with e | e
  · omega
  · obtain ⟨v', hv⟩ := reach_any (g := g) (st' := st') e
    exact (fixed_least h hm f2 (Int.le_refl _) hv).1
end
end Go.Proofs.Ytmedbghkldmlhaa
