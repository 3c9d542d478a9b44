/- Contracts of functions for this claim: lemmas alone. -/
import Derived.Test.YtmedbghkldmlhaaP67
set_option linter.unusedSimpArgs false
set_option linter.unusedVariables false
namespace Go.Proofs.Ytmedbghkldmlhaa
open Go Go.Fi

theorem minK_ex {l : List Road} {a b : Int} : ∀ k, k ≤ l.length → minK l a b k ≠ -1 → ∃ j, j < k ∧ (nth l j).frm = a ∧ (nth l j).to = b ∧ (nth l j).metres = minK l a b k
  | 0, _, h => absurd (minK_zero l a b) h
  | k + 1, hk, h => by
    have e : minK l a b (k + 1) = minStep (nth l k) a b (minK l a b k) := rfl
    rw [e] at h ⊢
    by_cases hc : (nth l k).frm = a ∧ (nth l k).to = b ∧ (minK l a b k = -1 ∨ (nth l k).metres < minK l a b k)
    · exact ⟨k, by omega, hc.1, hc.2.1, by unfold minStep; rw [if_pos hc]⟩
    · rw [min_keep hc] at h ⊢
      obtain ⟨j, h1, h2⟩ := minK_ex k (by omega) h
      exact ⟨j, by omega, h2⟩
theorem minK_le {n : Net} (h : NetOk n) {a b : Int} : ∀ k, k ≤ n.roads.length → ∀ j, j < k → (nth n.roads j).frm = a → (nth n.roads j).to = b → minK n.roads a b k ≠ -1 ∧ minK n.roads a b k ≤ (nth n.roads j).metres
  | 0, _, j, hj, _, _ => absurd hj (Nat.not_lt_zero _)
  | k + 1, hk, j, hj, h1, h2 => by
    have e : minK n.roads a b (k + 1) = minStep (nth n.roads k) a b (minK n.roads a b k) := rfl
    have hm := (h.road k (by omega)).met
    have hb := minK_bd h a b k (by omega)
    rw [e]
    by_cases hc : (nth n.roads k).frm = a ∧ (nth n.roads k).to = b ∧ (minK n.roads a b k = -1 ∨ (nth n.roads k).metres < minK n.roads a b k)
    · have es : minStep (nth n.roads k) a b (minK n.roads a b k) = (nth n.roads k).metres := if_pos hc
      rw [es]
      by_cases hjk : j = k
      · subst hjk; omega
      · obtain ⟨g1, g2⟩ := minK_le h k (by omega) j (by omega) h1 h2
        rcases hc.2.2 with g | g
        · exact absurd g g1
        · omega
    · rw [min_keep hc]
      by_cases hjk : j = k
      · subst hjk
        have : ¬ (minK n.roads a b j = -1 ∨ (nth n.roads j).metres < minK n.roads a b j) := fun g => hc ⟨h1, h2, g⟩
        omega
      · exact minK_le h k (by omega) j (by omega) h1 h2
/-- the places told can be reached, one after the other -/
theorem told_reach {n : Net} {pl : List Int} : ∀ k, holeB n pl k = false → Reach n fLen (nth pl 0).toNat 0 (nth pl k).toNat (sumK n pl k)
  | 0, _ => by rw [sumK_zero]; exact .here
  | k + 1, h => by
    simp only [holeB, Bool.or_eq_false_iff, decide_eq_false_iff_not] at h
    obtain ⟨j, h1, h2, h3, h4⟩ := minK_ex n.roads.length (Nat.le_refl _) h.2
    have ih := told_reach k h.1
    rw [← h2] at ih
    have := Reach.road j h1 ih
    rw [h3] at this
    have e : fLen (nth n.roads j) (sumK n pl k) = sumK n pl (k + 1) := by
      unfold fLen
      have : sumK n pl (k + 1) = sumK n pl k + minS n (nth pl k) (nth pl (k + 1)) := rfl
      rw [this, h4]; rfl
    rw [e] at this
    exact this
theorem hole_down {n : Net} {pl : List Int} {m : Nat} (h : holeB n pl m = false) : ∀ k, k ≤ m → holeB n pl k = false := fun k hk => by
  cases hh : holeB n pl k with
  | false => rfl
  | true => rw [hole_mono hh m hk] at h; cases h
/-- the places of a way -/
def tK (n : Net) (a : Nat) (s : List Int) (k : Nat) : List Int := (a : Int) :: (s.take k).map fun r => (nth n.roads r.toNat).to
theorem tK_len {n : Net} {a : Nat} {s : List Int} {k : Nat} (h : k ≤ s.length) : (tK n a s k).length = k + 1 := by simp [tK, Nat.min_eq_left h]
theorem tK_succ {n : Net} {a : Nat} {s : List Int} {k : Nat} (h : k < s.length) : tK n a s (k + 1) = tK n a s k ++ [(nth n.roads (nth s k).toNat).to] := by
  unfold tK
  rw [take_succ_nth s k h]; simp
theorem nth_mapI (s : List Int) (f : Int → Int) : ∀ (i : Nat), i < s.length → nth (s.map f) i = f (nth s i) := fun i hi => by
  simp [nth, List.getD_eq_getElem?_getD, List.getElem?_eq_getElem hi]
theorem tK_nth {n : Net} {a : Nat} {s : List Int} {i : Nat} (h : i < s.length) : nth (tK n a s s.length) (i + 1) = (nth n.roads (nth s i).toNat).to := by
  unfold tK
  rw [nth_succ, List.take_length, nth_mapI _ _ _ h]
theorem told_way {n : Net} (h : NetOk n) {a b : Nat} (la : a < n.places.length) {s : List Int} (hs : s.length ≠ 0) (hl : s.length ≤ 20) (hw : WayTo n s a b) (hm : metS n s = nth (growS fLen n a 0).l b) (hx : Fixed n fLen a 0 (growS fLen n a 0)) :
    exS n (tK n a s s.length) 0 = (metS n s, metS n s, true, 0) := by
  have hlen := tK_len (n := n) (a := a) (s := s) (Nat.le_refl s.length)
  have e0 : nth (tK n a s s.length) 0 = a := rfl
  have hrd : ∀ i, i < s.length → (nth s i).toNat < n.roads.length := fun i hi => by have := hw.ok.idx i hi; omega
  have hfr : ∀ i, i < s.length → nth (tK n a s s.length) i = (nth n.roads (nth s i).toNat).frm := fun i hi => by
    cases i with
    | zero =>
      have := hw.j0 (by omega)
      have hr := (h.road _ (hrd 0 hi)).frm
      rw [e0]; omega
    | succ i =>
      rw [tK_nth (by omega)]
      exact (hw.ok.join (i + 1) (by omega) hi).symm
  have hp : placesB n (tK n a s s.length) 0 = false := anyD_all (fun k hk => by
    rw [hlen] at hk
    have : 0 ≤ nth (tK n a s s.length) k ∧ nth (tK n a s s.length) k ≤ n.places.length - 1 := by
      cases k with
      | zero => rw [e0]; omega
      | succ k =>
        rw [tK_nth (by omega)]
        have := (h.road _ (hrd k (by omega))).to
        omega
    unfold winB; simp; omega) _ 0 rfl (Nat.zero_le _)
  have hst : ∀ k, k ≤ s.length → holeB n (tK n a s s.length) k = false ∧ sumK n (tK n a s s.length) k ≤ metS n (s.take k) := by
    intro k
    induction k with
    | zero => intro _; exact ⟨rfl, by simp [metS]⟩
    | succ k ih =>
      intro hk
      obtain ⟨i1, i2⟩ := ih (by omega)
      have hmin := minK_le h (a := nth (tK n a s s.length) k) (b := nth (tK n a s s.length) (k + 1)) n.roads.length (Nat.le_refl _) (nth s k).toNat (hrd k (by omega)) (hfr k (by omega)).symm (tK_nth (by omega)).symm
      have em : minS n (nth (tK n a s s.length) k) (nth (tK n a s s.length) (k + 1)) = minK n.roads (nth (tK n a s s.length) k) (nth (tK n a s s.length) (k + 1)) n.roads.length := rfl
      refine ⟨?_, ?_⟩
      · simp only [holeB]
        rw [i1, em, decide_eq_false hmin.1]; rfl
      · rw [take_succ_nth s k (by omega), metS_snoc]
        simp only [sumK]
        rw [em]; omega
  obtain ⟨hh, hle⟩ := hst s.length (Nat.le_refl _)
  rw [List.take_length] at hle
  have hr := told_reach s.length hh
  rw [e0, Int.toNat_natCast] at hr
  have hge := (fixed_least h len_mono hx (Int.le_refl _) hr).2
  have elast : (nth (tK n a s s.length) s.length).toNat = b := by
    have : s.length = (s.length - 1) + 1 := by omega
    have hj := hw.j1
    rw [if_neg hs] at hj
    have q : nth (tK n a s s.length) ((s.length - 1) + 1) = (nth n.roads (nth s (s.length - 1)).toNat).to := tK_nth (by omega)
    rw [← this] at q
    rw [q]; exact hj
  rw [elast] at hge
  have es : sumK n (tK n a s s.length) s.length = metS n s := by omega
  unfold exS
  rw [if_neg (by omega), if_neg (by omega), hp, if_neg (by decide), if_neg (by decide), hlen, Nat.add_sub_cancel, hh, if_neg (by decide), es, e0, Int.toNat_natCast, elast, ← hm]
  rw [decide_eq_true (by omega)]
theorem exam_good {n : Net} {pl : List Int} {more : Int} (h : (exS n pl more).2.2.2 = 0) : 2 ≤ pl.length ∧ pl.length ≤ 200 ∧ (∀ k, k < pl.length → 0 ≤ nth pl k ∧ nth pl k < n.places.length) ∧ holeB n pl (pl.length - 1) = false ∧ (exS n pl more).2.1 = nth (growS fLen n (nth pl 0).toNat 0).l (nth pl (pl.length - 1)).toNat := by
  unfold exS at h ⊢
  by_cases g1 : pl.length < 2
  · rw [if_pos g1] at h; exact absurd h (by decide)
  rw [if_neg g1] at h ⊢
  by_cases g2 : 200 < pl.length
  · rw [if_pos g2] at h; exact absurd h (by decide)
  rw [if_neg g2] at h ⊢
  cases g3 : placesB n pl 0 with
  | true => rw [g3, if_pos rfl] at h; exact absurd h (by decide)
  | false =>
    rw [g3, if_neg (by decide)] at h
    rw [if_neg (by decide)]
    by_cases g4 : winB more 0 1000 = false
    · rw [if_pos g4] at h; exact absurd h (by decide)
    · rw [if_neg g4] at h ⊢
      cases g5 : holeB n pl (pl.length - 1) with
      | true => rw [g5, if_pos rfl] at h; exact absurd h (by decide)
      | false =>
        rw [if_neg (by decide)]
        exact ⟨by omega, by omega, places_ok g3, rfl, rfl⟩
end Go.Proofs.Ytmedbghkldmlhaa
