/- Contracts of functions for this claim: lemmas alone. -/
import Derived.Test.YtgoemokfpfnlkaaP27
set_option linter.unusedSimpArgs false
set_option linter.unusedVariables false
namespace Go.Proofs.Ytgoemokfpfnlkaa
open Go Go.Fi

/-- what is wrong with a way -/
def fWay (n : Net) (w : List Int) (i : Nat) : Option Tri :=
  if winB (nth w i) 0 (n.roads.length - 1) = false then some (i, 0, 6)
  else if 0 < i ∧ (nth n.roads (nth w i).toNat).frm ≠ (nth n.roads (nth w (i - 1)).toNat).to then some (i, 0, 23) else none
def wayS (n : Net) (w : List Int) : Tri := if 200 < w.length then (0, 0, 8) else fin (scan (fWay n w) w.length 0) (0, 0, 0)
/-- a right way: its roads, and that each one begins where the one before ends -/
structure WayOk (n : Net) (w : List Int) : Prop where
  idx : ∀ i, i < w.length → 0 ≤ nth w i ∧ nth w i < n.roads.length
  join : ∀ i, 0 < i → i < w.length → (nth n.roads (nth w i).toNat).frm = (nth n.roads (nth w (i - 1)).toNat).to
def joinsB (n : Net) (w : List Int) (a b : Int) : Bool :=
  if w.length = 0 then decide (a = b) else decide ((nth n.roads (nth w 0).toNat).frm = a) && decide ((nth n.roads (nth w (w.length - 1)).toNat).to = b)
theorem fWay_ne {n : Net} {w : List Int} {i : Nat} {r : Tri} (h : fWay n w i = some r) : r.2.2 ≠ 0 ∧ r.2.1 = 0 := by
  unfold fWay at h
  split at h
  · injection h with h; subst h; exact ⟨(by decide : (6 : Int) ≠ 0), rfl⟩
  · split at h
    · injection h with h; subst h; exact ⟨(by decide : (23 : Int) ≠ 0), rfl⟩
    · cases h
theorem way_len {n : Net} {w : List Int} (h : (wayS n w).2.2 = 0) : w.length ≤ 200 := by
  unfold wayS at h
  split at h
  · exact absurd h (by decide)
  · omega
theorem way_ok {n : Net} {w : List Int} (h : (wayS n w).2.2 = 0) : WayOk n w := by
  have hl := way_len h
  unfold wayS at h
  rw [if_neg (by omega)] at h
  have hs : scan (fWay n w) w.length 0 = none := by
    cases hs : scan (fWay n w) w.length 0 with
    | none => rfl
    | some r =>
      rw [hs] at h
      obtain ⟨j, _, _, hj⟩ := scan_some hs
      exact absurd h (fWay_ne hj).1
  have hk := scan_none hs
  refine ⟨fun i hi => ?_, fun i h0 hi => ?_⟩
  · have := hk i hi
    unfold fWay at this
    split at this
    · cases this
    · rename_i hw
      have := win_of (by cases hx : winB (nth w i) 0 (n.roads.length - 1) with | true => rfl | false => exact absurd hx hw : winB (nth w i) 0 (n.roads.length - 1) = true)
      omega
  · have := hk i hi
    unfold fWay at this
    split at this
    · cases this
    · split at this
      · cases this
      · rename_i hc
        by_cases he : (nth n.roads (nth w i).toNat).frm = (nth n.roads (nth w (i - 1)).toNat).to
        · exact he
        · exact absurd ⟨h0, he⟩ hc
theorem way_zero {n : Net} {w : List Int} (h : (wayS n w).2.2 = 0) : wayS n w = (0, 0, 0) := by
  unfold wayS at h ⊢
  split at h
  · exact absurd h (by decide)
  · rename_i hl
    rw [if_neg hl]
    cases hs : scan (fWay n w) w.length 0 with
    | none => rfl
    | some r =>
      rw [hs] at h
      obtain ⟨j, _, _, hj⟩ := scan_some hs
      exact absurd h (fWay_ne hj).1
theorem way_of {n : Net} {w : List Int} (h : WayOk n w) (hl : w.length ≤ 200) : wayS n w = (0, 0, 0) := by
  unfold wayS
  rw [if_neg (by omega)]
  cases hs : scan (fWay n w) w.length 0 with
  | none => rfl
  | some r =>
    obtain ⟨j, _, h2, hj⟩ := scan_some hs
    have hlt : j < w.length := by omega
    have hx := h.idx j hlt
    unfold fWay at hj
    have hw : winB (nth w j) 0 (n.roads.length - 1) = true := by unfold winB; simp; omega
    rw [hw, if_neg (by decide)] at hj
    split at hj
    · rename_i hc
      exact absurd (h.join j hc.1 hlt) hc.2
    · cases hj
theorem way_mid {n : Net} {w : List Int} : (wayS n w).2.1 = 0 := by
  unfold wayS
  split
  · rfl
  · cases hs : scan (fWay n w) w.length 0 with
    | none => rfl
    | some r =>
      obtain ⟨j, _, h2, hj⟩ := scan_some hs
      exact (fWay_ne hj).2
/-- what one arrives with by a way -/
def evalW (n : Net) (f : Road → Int → Int) : List Int → Int → Int
  | [], v => v
  | k :: r, v => evalW n f r (f (nth n.roads k.toNat) v)
theorem evalW_snoc (n : Net) (f : Road → Int → Int) : ∀ (w : List Int) (k v : Int), evalW n f (w ++ [k]) v = f (nth n.roads k.toNat) (evalW n f w v)
  | [], _, _ => rfl
  | x :: r, k, v => evalW_snoc n f r k _
theorem evalW_drop (n : Net) (f : Road → Int → Int) (w : List Int) (k : Nat) (v : Int) (h : k < w.length) : evalW n f (w.drop k) v = evalW n f (w.drop (k + 1)) (f (nth n.roads (nth w k).toNat) v) := by
  rw [drop_nth w k h]; rfl
theorem nth_snoc (w : List Int) (x : Int) (i : Nat) (h : i ≤ w.length) : nth (w ++ [x]) i = if i < w.length then nth w i else x := by
  unfold nth
  rw [List.getD_eq_getElem?_getD, List.getD_eq_getElem?_getD]
  split
  · rename_i h; rw [List.getElem?_append_left h]
  · have : i = w.length := by omega
    subst this; simp
theorem nth_take {α : Type} [Inhabited α] (w : List α) (k i : Nat) (h : i < k) : nth (w.take k) i = nth w i := by
  unfold nth
  rw [List.getD_eq_getElem?_getD, List.getD_eq_getElem?_getD, List.getElem?_take, if_pos h]
section
variable {n : Net} {f : Road → Int → Int}
theorem way_reach (h : NetOk n) {w : List Int} (hw : WayOk n w) (a : Nat) (st : Int) (h0 : w.length ≠ 0 → (nth n.roads (nth w 0).toNat).frm.toNat = a) : ∀ k, k ≤ w.length → Reach n f a st (if k = 0 then a else (nth n.roads (nth w (k - 1)).toNat).to.toNat) (evalW n f (w.take k) st)
  | 0, _ => .here
  | k + 1, hk => by
    have ih := way_reach h hw a st h0 k (by omega)
    rw [take_succ_nth w k (by omega), evalW_snoc]
    have hx := hw.idx k (by omega)
    have e : (if k = 0 then a else (nth n.roads (nth w (k - 1)).toNat).to.toNat) = (nth n.roads (nth w k).toNat).frm.toNat := by
      by_cases hk0 : k = 0
      · subst hk0; rw [if_pos rfl, h0 (by omega)]
      · rw [if_neg hk0, hw.join k (by omega) (by omega)]
    rw [e] at ih
    exact Reach.road (nth w k).toNat (by omega) ih
theorem joins_reach (h : NetOk n) {w : List Int} (hw : WayOk n w) (a b : Nat) (st : Int) (hj : joinsB n w a b = true) : Reach n f a st b (evalW n f w st) := by
  unfold joinsB at hj
  by_cases hl : w.length = 0
  · rw [if_pos hl] at hj
    have hab : a = b := by have := of_decide_eq_true hj; omega
    subst hab
    have : w = [] := List.eq_nil_of_length_eq_zero hl
    subst this
    exact .here
  · rw [if_neg hl] at hj
    simp only [Bool.and_eq_true, decide_eq_true_eq] at hj
    have := way_reach (f := f) h hw a st (fun _ => by rw [hj.1]; omega) w.length (Nat.le_refl _)
    rw [if_neg hl, List.take_length, hj.2] at this
    have e : ((b : Int)).toNat = b := by omega
    rw [e] at this
    exact this
/-- a way that leads from a place to another one -/
structure WayTo (n : Net) (w : List Int) (a b : Nat) : Prop where
  ok : WayOk n w
  j0 : w.length ≠ 0 → (nth n.roads (nth w 0).toNat).frm.toNat = a
  j1 : if w.length = 0 then a = b else (nth n.roads (nth w (w.length - 1)).toNat).to.toNat = b
theorem WayTo.snoc {w : List Int} {a p : Nat} (hw : WayTo n w a p) (k : Int) (hk : 0 ≤ k ∧ k < n.roads.length) (h : NetOk n) (hp : (nth n.roads k.toNat).frm.toNat = p) : WayTo n (w ++ [k]) a (nth n.roads k.toNat).to.toNat := by
  have hlen : (w ++ [k]).length = w.length + 1 := by simp
  refine ⟨⟨fun i hi => ?_, fun i h0 hi => ?_⟩, fun _ => ?_, ?_⟩
  · rw [hlen] at hi
    rw [nth_snoc w k i (by omega)]
    split
    · exact hw.ok.idx i (by assumption)
    · exact hk
  · rw [hlen] at hi
    rw [nth_snoc w k i (by omega), nth_snoc w k (i - 1) (by omega), if_pos (show i - 1 < w.length by omega)]
    split
    · exact hw.ok.join i h0 (by assumption)
    · have e : i = w.length := by omega
      subst e
      have := hw.j1
      rw [if_neg (by omega)] at this
      have hx := hw.ok.idx (w.length - 1) (by omega)
      have r1 := (h.road k.toNat (by omega)).frm
      have r2 := (h.road (nth w (w.length - 1)).toNat (by omega)).to
      omega
  · rw [nth_snoc w k 0 (by omega)]
    split
    · rename_i h0; exact hw.j0 (by omega)
    · have := hw.j1
      rw [if_pos (by omega)] at this
      rw [hp, this]
  · rw [if_neg (by omega), hlen, Nat.add_sub_cancel, nth_snoc w k _ (Nat.le_refl _), if_neg (by omega)]
theorem WayTo.joins {w : List Int} {a b : Nat} (h : NetOk n) (hw : WayTo n w a b) : joinsB n w a b = true := by
  unfold joinsB
  have j1 := hw.j1
  by_cases hl : w.length = 0
  · rw [if_pos hl] at j1 ⊢; subst j1; simp
  · rw [if_neg hl] at j1 ⊢
    have j0 := hw.j0 hl
    have x0 := hw.ok.idx 0 (by omega)
    have x1 := hw.ok.idx (w.length - 1) (by omega)
    have r1 := (h.road (nth w 0).toNat (by omega)).frm
    have r2 := (h.road (nth w (w.length - 1)).toNat (by omega)).to
    simp only [Bool.and_eq_true, decide_eq_true_eq]
    omega

theorem relax_is (h : NetOk n) (ha : Along n f) {s : GS} (hs : Inv n s) {k : Nat} (hk : k < n.roads.length) :
    (relax f (nth n.roads k) k s).1 = s ∨ (0 ≤ nth s.l (nth n.roads k).frm.toNat ∧ nth s.l (nth n.roads k).frm.toNat ≤ f (nth n.roads k) (nth s.l (nth n.roads k).frm.toNat) ∧ (nth s.l (nth n.roads k).to.toNat = -1 ∨ f (nth n.roads k) (nth s.l (nth n.roads k).frm.toNat) < nth s.l (nth n.roads k).to.toNat) ∧ (relax f (nth n.roads k) k s).1 = ⟨s.l.set (nth n.roads k).to.toNat (f (nth n.roads k) (nth s.l (nth n.roads k).frm.toNat)), s.b.set (nth n.roads k).to.toNat k⟩) := by
  have hr := h.road k hk
  have h1 : (nth n.roads k).frm.toNat < n.places.length := by have := hr.frm; omega
  have b1 := hs.small h h1
  have hlo := ha.lo k (nth s.l (nth n.roads k).frm.toNat) hk
  unfold relax
  split
  · exact .inl rfl
  · rename_i hne
    have h0 : 0 ≤ nth s.l (nth n.roads k).frm.toNat ∧ nth s.l (nth n.roads k).frm.toNat ≤ 5000000 := b1.resolve_left hne
    have := hlo h0.1 (by omega)
    split
    · rename_i hc
      exact .inr ⟨h0.1, by omega, hc, rfl⟩
    · exact .inl rfl
/-- the tree: by which road each place has its number -/
structure Tr (n : Net) (f : Road → Int → Int) (a : Nat) (st : Int) (s : GS) : Prop where
  by_ : ∀ v, v < n.places.length → nth s.b v ≠ -1 → 0 ≤ nth s.b v ∧ nth s.b v < n.roads.length ∧ (nth n.roads (nth s.b v).toNat).to.toNat = v ∧ 0 ≤ nth s.l (nth n.roads (nth s.b v).toNat).frm.toNat ∧ f (nth n.roads (nth s.b v).toNat) (nth s.l (nth n.roads (nth s.b v).toNat).frm.toNat) ≤ nth s.l v
  root : ∀ v, v < n.places.length → nth s.l v ≠ -1 → nth s.b v = -1 → v = a
  la : nth s.l a = st
  ba : nth s.b a = -1
  ge : ∀ v, v < n.places.length → nth s.l v ≠ -1 → st ≤ nth s.l v
  ch : ∀ v, v < n.places.length → nth s.l v ≠ -1 → ∃ m R, backF n s.b m v = some R
theorem tr_relax (h : NetOk n) (ha : Along n f) (hm : Mono n f) {a : Nat} {st : Int} (hst : 0 ≤ st) (haN : a < n.places.length) (k : Nat) (s : GS) (hk : k < n.roads.length) (hi : Inv n s) (ht : Tr n f a st s) : Tr n f a st (relax f (nth n.roads k) k s).1 := by
  rcases relax_is h ha hi hk with e | ⟨g1, g2, g3, e⟩
  · rw [e]; exact ht
  · rw [e]
    have hr := h.road k hk
    have hu : (nth n.roads k).frm.toNat < n.places.length := by have := hr.frm; omega
    have hv : (nth n.roads k).to.toNat < n.places.length := by have := hr.to; omega
    have huv : (nth n.roads k).frm.toNat ≠ (nth n.roads k).to.toNat := by have := hr.ne; have := hr.frm; have := hr.to; omega
    have bd : ∀ v, v < n.places.length → nth s.l v = -1 ∨ (0 ≤ nth s.l v ∧ nth s.l v ≤ 5000000) := fun v hv => hi.small h hv
    have par : ∀ v, v < n.places.length → nth s.b v ≠ -1 → (nth n.roads (nth s.b v).toNat).frm.toNat < n.places.length ∧ nth s.l (nth n.roads (nth s.b v).toNat).frm.toNat ≠ -1 ∧ nth s.l (nth n.roads (nth s.b v).toNat).frm.toNat ≤ nth s.l v := fun v hv hb => by
      obtain ⟨p1, p2, p3, p4, p5⟩ := ht.by_ v hv hb
      have hf := (h.road (nth s.b v).toNat (by omega)).frm
      have hp : (nth n.roads (nth s.b v).toNat).frm.toNat < n.places.length := by omega
      have b := bd _ hp
      have := ha.lo (nth s.b v).toNat _ (by omega) p4 (by omega)
      exact ⟨hp, by omega, by omega⟩
    have el : ∀ w, nth (s.l.set (nth n.roads k).to.toNat (f (nth n.roads k) (nth s.l (nth n.roads k).frm.toNat))) w = if (nth n.roads k).to.toNat = w then f (nth n.roads k) (nth s.l (nth n.roads k).frm.toNat) else nth s.l w := fun w => nth_set _ _ _ _ (by rw [hi.ll]; exact hv)
    have eb : ∀ w, nth (s.b.set (nth n.roads k).to.toNat (k : Int)) w = if (nth n.roads k).to.toNat = w then (k : Int) else nth s.b w := fun w => nth_set _ _ _ _ (by rw [hi.lb]; exact hv)
    clear e
    generalize hb' : s.b.set (nth n.roads k).to.toNat (k : Int) = b' at *
    generalize hl' : s.l.set (nth n.roads k).to.toNat (f (nth n.roads k) (nth s.l (nth n.roads k).frm.toNat)) = l' at *
    have hA : ∀ (m w : Nat) (R : List Int), w < n.places.length → backF n s.b m w = some R → nth s.l w ≠ -1 → (nth s.l (nth n.roads k).to.toNat = -1 ∨ nth s.l w < nth s.l (nth n.roads k).to.toNat) → backF n b' m w = some R := by
      intro m
      induction m with
      | zero => intro w R _ hb; cases hb
      | succ m ih =>
        intro w R hw hb hl hlt
        have hwv : (nth n.roads k).to.toNat ≠ w := fun h => by rw [h] at hlt; omega
        have ebw := eb w
        rw [if_neg hwv] at ebw
        simp only [backF] at hb ⊢
        rw [ebw]
        by_cases h1 : nth s.b w = -1
        · rw [if_pos h1] at hb ⊢; exact hb
        · rw [if_neg h1] at hb ⊢
          obtain ⟨p1, p2, p3⟩ := par w hw h1
          cases hR : backF n s.b m (nth n.roads (nth s.b w).toNat).frm.toNat with
          | none => rw [hR] at hb; cases hb
          | some R' =>
            rw [ih _ R' p1 hR p2 (by omega)]
            rw [hR] at hb; exact hb
    have hB : ∃ m R, backF n b' m (nth n.roads k).to.toNat = some R := by
      obtain ⟨m, R, hR⟩ := ht.ch _ hu (by omega)
      have := hA m _ R hu hR (by omega) (by omega)
      refine ⟨m + 1, (k : Int) :: R, ?_⟩
      simp only [backF]
      have ev := eb (nth n.roads k).to.toNat
      rw [if_pos rfl] at ev
      rw [ev, if_neg (by omega), Int.toNat_natCast, this]
      rfl
    have hC : ∀ (m w : Nat) (R : List Int), w < n.places.length → backF n s.b m w = some R → nth s.l w ≠ -1 → ∃ m' R', backF n b' m' w = some R' := by
      intro m
      induction m with
      | zero => intro w R _ hb; cases hb
      | succ m ih =>
        intro w R hw hb hl
        by_cases hwv : (nth n.roads k).to.toNat = w
        · rw [← hwv]; exact hB
        · have ebw := eb w
          rw [if_neg hwv] at ebw
          simp only [backF] at hb
          by_cases h1 : nth s.b w = -1
          · refine ⟨1, [], ?_⟩
            simp only [backF]
            rw [ebw, if_pos h1]
          · rw [if_neg h1] at hb
            obtain ⟨p1, p2, p3⟩ := par w hw h1
            cases hR : backF n s.b m (nth n.roads (nth s.b w).toNat).frm.toNat with
            | none => rw [hR] at hb; cases hb
            | some R' =>
              obtain ⟨m', R2, h2⟩ := ih _ R' p1 hR p2
              refine ⟨m' + 1, nth s.b w :: R2, ?_⟩
              simp only [backF]
              rw [ebw, if_neg h1, h2]; rfl
    refine ⟨fun w hw hb => ?_, fun w hw hl hb => ?_, ?_, ?_, fun w hw hl => ?_, fun w hw hl => ?_⟩
    · dsimp only at hb ⊢
      rw [eb w] at hb ⊢
      by_cases hwv : (nth n.roads k).to.toNat = w
      · rw [if_pos hwv, Int.toNat_natCast, el, el, if_neg (by omega), if_pos hwv]
        exact ⟨by omega, by omega, hwv, g1, Int.le_refl _⟩
      · rw [if_neg hwv] at hb ⊢
        obtain ⟨p1, p2, p3, p4, p5⟩ := ht.by_ w hw hb
        refine ⟨p1, p2, p3, ?_⟩
        rw [el, el, if_neg hwv]
        split
        · rename_i hp
          rw [← hp] at p4 p5
          refine ⟨by omega, Int.le_trans (hm _ _ _ (by omega) (by omega) ?_) p5⟩
          omega
        · exact ⟨p4, p5⟩
    · dsimp only at hl hb
      rw [eb w] at hb
      by_cases hwv : (nth n.roads k).to.toNat = w
      · rw [if_pos hwv] at hb; omega
      · rw [if_neg hwv] at hb
        rw [el, if_neg hwv] at hl
        exact ht.root w hw hl hb
    · dsimp only
      have := ht.la
      have := ht.ge _ hu (by omega)
      rw [el]
      split
      · rename_i hva; rw [hva] at g3; omega
      · assumption
    · dsimp only
      have := ht.la
      have := ht.ge _ hu (by omega)
      rw [eb]
      split
      · rename_i hva; rw [hva] at g3; omega
      · exact ht.ba
    · dsimp only at hl ⊢
      rw [el] at hl ⊢
      have := ht.ge _ hu (by omega)
      split
      · omega
      · rename_i hwv; rw [if_neg hwv] at hl; exact ht.ge w hw hl
    · dsimp only at hl ⊢
      rw [el] at hl
      by_cases hwv : (nth n.roads k).to.toNat = w
      · rw [← hwv]; exact hB
      · rw [if_neg hwv] at hl
        obtain ⟨m, R, hR⟩ := ht.ch w hw hl
        exact hC m w R hw hR hl
theorem tr_grow (h : NetOk n) (ha : Along n f) (hm : Mono n f) {a : Nat} {st : Int} (hf : a < n.places.length) (h0 : 0 ≤ st) (h1 : st ≤ 700000) : Tr n f a st (growS f n a st) := by
  refine growF_keep (Tr n f a st) h ha (fun k s hk hi ht => tr_relax h ha hm h0 hf k s hk hi ht) _ _ (inv0 h hf h0 h1) ?_
  have hl : a < (List.replicate n.places.length (-1 : Int)).length := by simpa using hf
  have e0 : ∀ i, i < n.places.length → nth (grow0 n a st).l i = if a = i then st else -1 := fun i hi => by
    show nth ((List.replicate n.places.length (-1)).set a st) i = _
    rw [nth_set _ _ _ _ hl, nth_replicate _ _ _ hi]
  have eb : ∀ i, i < n.places.length → nth (grow0 n a st).b i = -1 := fun i hi => nth_replicate _ _ _ hi
  refine ⟨fun v hv hb => absurd (eb v hv) hb, fun v hv hl _ => ?_, ?_, eb a hf, fun v hv hl => ?_, fun v hv hl => ?_⟩
  · rw [e0 v hv] at hl
    split at hl
    · rename_i h; exact h.symm
    · exact absurd rfl hl
  · rw [e0 a hf, if_pos rfl]
  · rw [e0 v hv] at hl ⊢
    split at hl
    · rename_i h; rw [if_pos h]; exact Int.le_refl _
    · exact absurd rfl hl
  · refine ⟨1, [], ?_⟩
    simp only [backF]
    rw [eb v hv, if_pos rfl]
theorem backF_det (b : List Int) : ∀ (m1 m2 v : Nat) (R1 R2 : List Int), backF n b m1 v = some R1 → backF n b m2 v = some R2 → R1 = R2
  | 0, _, _, _, _, h, _ => by cases h
  | _ + 1, 0, _, _, _, _, h => by cases h
  | m1 + 1, m2 + 1, v, R1, R2, h1, h2 => by
    simp only [backF] at h1 h2
    by_cases hb : nth b v = -1
    · rw [if_pos hb] at h1 h2; injection h1 with h1; injection h2 with h2; rw [← h1, ← h2]
    · rw [if_neg hb] at h1 h2
      cases e1 : backF n b m1 (nth n.roads (nth b v).toNat).frm.toNat with
      | none => rw [e1] at h1; cases h1
      | some S1 =>
        cases e2 : backF n b m2 (nth n.roads (nth b v).toNat).frm.toNat with
        | none => rw [e2] at h2; cases h2
        | some S2 =>
          have := backF_det b m1 m2 _ S1 S2 e1 e2
          rw [e1] at h1; rw [e2] at h2
          injection h1 with h1; injection h2 with h2
          rw [← h1, ← h2, this]
theorem backF_fuel (b : List Int) : ∀ (m v : Nat) (R : List Int), backF n b m v = some R → backF n b (R.length + 1) v = some R
  | 0, _, _, h => by cases h
  | m + 1, v, R, h => by
    simp only [backF] at h
    by_cases hb : nth b v = -1
    · rw [if_pos hb] at h; injection h with h; subst h; simp only [backF]; rw [if_pos hb]
    · rw [if_neg hb] at h
      cases e1 : backF n b m (nth n.roads (nth b v).toNat).frm.toNat with
      | none => rw [e1] at h; cases h
      | some S1 =>
        have := backF_fuel b m _ S1 e1
        rw [e1] at h
        injection h with h
        subst h
        rw [backF, if_neg hb, List.length_cons, this]; rfl
/-- the places on the way back -/
def nodesF (n : Net) (b : List Int) : Nat → Nat → List Nat
  | 0, _ => []
  | m + 1, v => v :: (if nth b v = -1 then [] else nodesF n b m (nth n.roads (nth b v).toNat).frm.toNat)
theorem nodup_le : ∀ (N : Nat) (l : List Nat), l.Nodup → (∀ x, x ∈ l → x < N) → l.length ≤ N
  | 0, l, _, h => by
    cases l with
    | nil => simp
    | cons x r => exact absurd (h x (by simp)) (by omega)
  | N + 1, l, hd, h => by
    have h1 := nodup_le N (l.erase N) (hd.erase N) (fun x hx => by
      have := (hd.mem_erase_iff).1 hx
      have := h x this.2
      omega)
    by_cases hm : N ∈ l
    · rw [List.length_erase_of_mem hm] at h1; omega
    · rw [List.erase_of_not_mem hm] at h1; omega
theorem nodes_back (b : List Int) : ∀ (m v : Nat) (R : List Int), backF n b m v = some R → (nodesF n b m v).length = R.length + 1 ∧ (∀ w, w ∈ nodesF n b m v → ∃ m' R', backF n b m' w = some R' ∧ R'.length ≤ R.length) ∧ (nodesF n b m v).Nodup
  | 0, _, _, h => by cases h
  | m + 1, v, R, h => by
    have h' := h
    simp only [backF] at h
    simp only [nodesF]
    by_cases hb : nth b v = -1
    · rw [if_pos hb] at h ⊢
      injection h with h; subst h
      refine ⟨rfl, fun w hw => ?_, by simp⟩
      simp at hw; subst hw
      exact ⟨m + 1, [], h', Nat.le_refl _⟩
    · rw [if_neg hb] at h ⊢
      cases e1 : backF n b m (nth n.roads (nth b v).toNat).frm.toNat with
      | none => rw [e1] at h; cases h
      | some S1 =>
        rw [e1] at h
        injection h with h
        obtain ⟨i1, i2, i3⟩ := nodes_back b m _ S1 e1
        have hl : R.length = S1.length + 1 := by rw [← h]; rfl
        refine ⟨by rw [List.length_cons, i1, hl], fun w hw => ?_, List.nodup_cons.2 ⟨fun hv => ?_, i3⟩⟩
        · rcases List.mem_cons.1 hw with hw | hw
          · subst hw; exact ⟨m + 1, R, h', Nat.le_refl _⟩
          · obtain ⟨m', R', q1, q2⟩ := i2 w hw
            exact ⟨m', R', q1, by omega⟩
        · obtain ⟨m', R', q1, q2⟩ := i2 v hv
          have := backF_det b _ _ v _ _ h' q1
          rw [this] at hl
          omega
theorem tree_up (h : NetOk n) (ha : Along n f) {a : Nat} {st : Int} {s : GS} (hi : Inv n s) (ht : Tr n f a st s) (hfix : ∀ k, k < n.roads.length → 0 ≤ nth s.l (nth n.roads k).frm.toNat → nth s.l (nth n.roads k).to.toNat ≤ f (nth n.roads k) (nth s.l (nth n.roads k).frm.toNat)) : ∀ (m v : Nat) (R : List Int), v < n.places.length → nth s.l v ≠ -1 → backF n s.b m v = some R → WayTo n R.reverse a v ∧ evalW n f R.reverse st = nth s.l v ∧ ∀ w, w ∈ nodesF n s.b m v → w < n.places.length
  | 0, _, _, _, _, h => by cases h
  | m + 1, v, R, hv, hl, hb => by
    simp only [backF] at hb
    simp only [nodesF]
    by_cases h1 : nth s.b v = -1
    · rw [if_pos h1] at hb ⊢
      injection hb with hb; subst hb
      have := ht.root v hv hl h1
      subst this
      exact ⟨⟨⟨fun i hi => absurd hi (by simp), fun i _ hi => absurd hi (by simp)⟩, fun h => absurd rfl h, by simp⟩, ht.la.symm, fun w hw => by simp at hw; subst hw; exact hv⟩
    · rw [if_neg h1] at hb ⊢
      obtain ⟨p1, p2, p3, p4, p5⟩ := ht.by_ v hv h1
      have hr := h.road (nth s.b v).toNat (by omega)
      have hp : (nth n.roads (nth s.b v).toNat).frm.toNat < n.places.length := by have := hr.frm; omega
      cases e1 : backF n s.b m (nth n.roads (nth s.b v).toNat).frm.toNat with
      | none => rw [e1] at hb; cases hb
      | some S1 =>
        rw [e1] at hb
        injection hb with hb
        obtain ⟨i1, i2, i3⟩ := tree_up h ha hi ht hfix m _ S1 hp (by omega) e1
        have hw := i1.snoc (nth s.b v) ⟨p1, p2⟩ h rfl
        rw [p3] at hw
        rw [← hb, List.reverse_cons, evalW_snoc, i2]
        have := hfix (nth s.b v).toNat (by omega) p4
        rw [p3] at this
        exact ⟨hw, by omega, fun w hw => by
          rcases List.mem_cons.1 hw with hw | hw
          · subst hw; exact hv
          · exact i3 w hw⟩
theorem tree_way (h : NetOk n) (ha : Along n f) (hm : Mono n f) {a : Nat} {st : Int} (hf : a < n.places.length) (h0 : 0 ≤ st) (h1 : st ≤ 700000) {v : Nat} (hv : v < n.places.length) (hl : nth (growS f n a st).l v ≠ -1) :
    ∃ R, backF n (growS f n a st).b (R.length + 1) v = some R ∧ R.length < 20 ∧ WayTo n R.reverse a v ∧ evalW n f R.reverse st = nth (growS f n a st).l v := by
  have ht := tr_grow h ha hm hf h0 h1
  have hx := growS_fixed h ha hf h0 h1
  obtain ⟨m, R, hR⟩ := ht.ch v hv hl
  obtain ⟨u1, u2, u3⟩ := tree_up h ha hx.inv ht (fun k hk hp => (hx.road k hk hp).2) m v R hv hl hR
  obtain ⟨n1, n2, n3⟩ := nodes_back _ m v R hR
  have := nodup_le n.places.length _ n3 u3
  have := h.np
  exact ⟨R, backF_fuel _ m v R hR, by omega, u1, u2⟩
end
end Go.Proofs.Ytgoemokfpfnlkaa
namespace Go.Proofs.Ytgoemokfpfnlkaa
open Go Go.Fi

theorem ceil_ends (A B C D g d : Int) (hd : 0 < d) (hg : 0 ≤ g) (hgd : g ≤ d) (h1 : A ≤ C) (h2 : B ≤ D) : A + ceilS ((B - A) * g) d ≤ C + ceilS ((D - C) * g) d := by
  have a1 := (ceilS_ge ((B - A) * g) d hd).2
  have a2 := (ceilS_ge ((D - C) * g) d hd).1
  generalize ceilS ((B - A) * g) d = c1 at *
  generalize ceilS ((D - C) * g) d = c2 at *
  have m1 : (C - A) * g ≤ (C - A) * d := Int.mul_le_mul_of_nonneg_left hgd (by omega)
  have m2 : 0 ≤ (D - B) * g := Int.mul_nonneg (by omega) hg
  by_cases hc : A + c1 ≤ C + c2
  · exact hc
  · have m3 : (C - A + c2) * d ≤ (c1 - 1) * d := Int.mul_le_mul_of_nonneg_right (by omega) (by omega)
    simp only [Int.sub_mul, Int.add_mul, Int.one_mul] at *
    omega
theorem takes_ends {l : List Pt} (hl : PtsOk l) (hi : PtsInc l) (at_ : Int) : takesS l at_ false ≤ takesS l at_ true := by
  unfold takesS
  dsimp only
  have hg := gone_le hl hi (x := at_ % 86400) (by omega) (by omega)
  have hlt := lastI_lt l (at_ % 86400) hl.pos l.length (Nat.le_refl _)
  generalize at_ % 86400 = x at *
  generalize lastI l x l.length = i at *
  have hj : (i + 1) % l.length < l.length := Nat.mod_lt _ hl.pos
  have b1 := hl.at_ i hlt
  have b2 := hl.at_ _ hj
  have s1 := hi.le i hlt
  have s2 := hi.le _ hj
  exact ceil_ends _ _ _ _ _ _ (gapS_bd b1 b2) hg.1 hg.2 s1 s2
section
variable {n : Net}
theorem evalW_bd (h : NetOk n) (late : Bool) : ∀ (w : List Int) (v : Int), (∀ i, i < w.length → 0 ≤ nth w i ∧ nth w i < n.roads.length) → v ≤ evalW n (fTime late) w v ∧ evalW n (fTime late) w v ≤ v + 14400 * w.length
  | [], v, _ => by simp [evalW]
  | k :: r, v, hw => by
    have h0 := hw 0 (by simp)
    rw [nth_zero] at h0
    have hb := fTime_bd h (k := k.toNat) (by omega) v late
    have ih := evalW_bd h late r (fTime late (nth n.roads k.toNat) v) (fun i hi => by have := hw (i + 1) (by simpa using hi); rwa [nth_succ] at this)
    simp only [evalW, List.length_cons]
    have e : fTime late (nth n.roads k.toNat) v = v + takesS (nth n.roads k.toNat).pts v late := rfl
    rw [e] at ih ⊢
    omega
theorem evalW_mono {f : Road → Int → Int} (h : NetOk n) (ha : ∀ k m, k < n.roads.length → 0 ≤ m → 0 ≤ f (nth n.roads k) m) (hm : Mono n f) : ∀ (w : List Int) (v v' : Int), (∀ i, i < w.length → 0 ≤ nth w i ∧ nth w i < n.roads.length) → 0 ≤ v → v ≤ v' → evalW n f w v ≤ evalW n f w v'
  | [], v, v', _, _, h => h
  | k :: r, v, v', hw, h0, h1 => by
    have hk := hw 0 (by simp)
    rw [nth_zero] at hk
    exact evalW_mono h ha hm r _ _ (fun i hi => by have := hw (i + 1) (by simpa using hi); rwa [nth_succ] at this) (ha _ _ (by omega) h0) (hm _ _ _ (by omega) h0 h1)
theorem evalW_ends (h : NetOk n) : ∀ (w : List Int) (v v' : Int), (∀ i, i < w.length → 0 ≤ nth w i ∧ nth w i < n.roads.length) → 0 ≤ v → v ≤ v' → evalW n (fTime false) w v ≤ evalW n (fTime true) w v'
  | [], v, v', _, _, h => h
  | k :: r, v, v', hw, h0, h1 => by
    have hk := hw 0 (by simp)
    rw [nth_zero] at hk
    have hr := h.road k.toNat (by omega)
    have hb := fTime_bd h (k := k.toNat) (by omega) v false
    have he := takes_ends hr.pts hr.inc v
    have hm := time_mono h true k.toNat v v' (by omega) h0 h1
    refine evalW_ends h r _ _ (fun i hi => by have := hw (i + 1) (by simpa using hi); rwa [nth_succ] at this) (by unfold fTime; omega) ?_
    refine Int.le_trans ?_ hm
    unfold fTime; omega
/-- the metres of a way -/
def metS (n : Net) : List Int → Int
  | [] => 0
  | k :: r => (nth n.roads k.toNat).metres + metS n r
theorem evalW_len : ∀ (w : List Int) (v : Int), evalW n fLen w v = v + metS n w
  | [], v => by simp [evalW, metS]
  | k :: r, v => by simp only [evalW, metS]; rw [evalW_len r]; unfold fLen; omega
theorem metS_snoc : ∀ (w : List Int) (k : Int), metS n (w ++ [k]) = metS n w + (nth n.roads k.toNat).metres
  | [], k => by simp [metS]
  | x :: r, k => by simp only [List.cons_append, metS]; rw [metS_snoc r]; omega
theorem metS_bd (h : NetOk n) : ∀ (w : List Int), (∀ i, i < w.length → 0 ≤ nth w i ∧ nth w i < n.roads.length) → 0 ≤ metS n w ∧ metS n w ≤ 100000 * w.length
  | [], _ => by simp [metS]
  | k :: r, hw => by
    have hk := hw 0 (by simp)
    rw [nth_zero] at hk
    have hr := (h.road k.toNat (by omega)).met
    have ih := metS_bd h r (fun i hi => by have := hw (i + 1) (by simpa using hi); rwa [nth_succ] at this)
    simp only [metS, List.length_cons]
    omega
/-- the ways told: the arrival of a right way -/
def arrS (n : Net) (w : List Int) (at_ : Int) : Tri :=
  if (netS n).2.2 ≠ 0 then (0, 0, (netS n).2.2)
  else if (wayS n w).2.2 ≠ 0 then (0, 0, (wayS n w).2.2)
  else if winB at_ 0 604800 = false then (0, 0, 2)
  else (evalW n (fTime false) w at_, evalW n (fTime true) w at_, 0)
def metE (n : Net) (w : List Int) : Int × Int :=
  if (netS n).2.2 ≠ 0 then (0, (netS n).2.2)
  else if (wayS n w).2.2 ≠ 0 then (0, (wayS n w).2.2)
  else (metS n w, 0)
end
end Go.Proofs.Ytgoemokfpfnlkaa
