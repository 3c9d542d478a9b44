/- Contracts of functions for this claim: lemmas alone. -/
import Derived.Test.YtacepceplonceaaP9
set_option linter.unusedSimpArgs false
set_option linter.unusedVariables false
namespace Go.Proofs.Ytacepceplonceaa
open Go Go.Fi

theorem fPt_ne {l : List Pt} {i k : Nat} {r : Tri} (h : fPt l i k = some r) : r.2.2 ≠ 0 := by
  unfold fPt at h; split at h
  · cases h
  · injection h with h; subst h; assumption
theorem fOrd_ne {l : List Pt} {i k : Nat} {r : Tri} (h : fOrd l i k = some r) : r.2.2 ≠ 0 := by
  unfold fOrd at h; split at h
  · cases h
  · injection h with h; subst h; exact (by decide : (23 : Int) ≠ 0)
theorem scan_some {f : Nat → Option Tri} {r : Tri} : ∀ {m k : Nat}, scan f m k = some r → ∃ j, k ≤ j ∧ j < k + m ∧ f j = some r
  | 0, k, h => by cases h
  | m + 1, k, h => by
    simp only [scan] at h
    cases hf : f k with
    | some q => rw [hf] at h; injection h with h; subst h; exact ⟨k, Nat.le_refl _, by omega, hf⟩
    | none =>
      rw [hf] at h
      obtain ⟨j, h1, h2, h3⟩ := scan_some h
      exact ⟨j, by omega, by omega, h3⟩
theorem fRoad_ne {n : Net} {k : Nat} {r : Tri} (h : fRoad n k = some r) : r.2.2 ≠ 0 := by
  unfold fRoad at h
  split at h
  · unfold orE at h
    split at h
    · rename_i hs
      injection h with h; subst h
      obtain ⟨j, _, _, hj⟩ := scan_some hs
      exact fPt_ne hj
    · obtain ⟨j, _, _, hj⟩ := scan_some h
      exact fOrd_ne hj
  · injection h with h; subst h; assumption
theorem fPlace_ne {n : Net} {k : Nat} {r : Tri} (h : fPlace n k = some r) : r.2.2 ≠ 0 := by
  unfold fPlace at h; split at h
  · cases h
  · injection h with h; subst h; assumption

structure PtsInc (l : List Pt) : Prop where
  inc : ∀ k, 0 < k → k < l.length → (nth l (k - 1)).at_ < (nth l k).at_
  le : ∀ k, k < l.length → (nth l k).lo ≤ (nth l k).hi
  small : ∀ k, k < l.length → 0 ≤ (nth l k).lo ∧ (nth l k).lo ≤ 7200 ∧ 0 ≤ (nth l k).hi ∧ (nth l k).hi ≤ 7200
theorem pts_inc {l : List Pt} {i : Nat} (h : scan (fPt l i) l.length 0 = none) : PtsInc l := by
  have hp : ∀ k, k < l.length → pointE l k = 0 := fun k hk => by
    have := scan_none h k hk
    unfold fPt at this
    split at this
    · assumption
    · cases this
  have hq : ∀ k, k < l.length → (winB (nth l k).at_ 0 86399 && winB (nth l k).lo 0 7200 && winB (nth l k).hi 0 7200) = true ∧ (decide ((nth l k).lo ≤ (nth l k).hi) && (decide (k = 0) || decide ((nth l (k - 1)).at_ < (nth l k).at_))) = true := fun k hk => by
    have h0 := hp k hk
    unfold pointE at h0
    have h1 := firstS_nth h0 0 (show (0 : Nat) < 2 by omega)
    have h2 := firstS_nth h0 1 (show (1 : Nat) < 2 by omega)
    simp only [nth_zero, nth_succ, errUnless] at h1 h2
    constructor
    · cases hb : (winB (nth l k).at_ 0 86399 && winB (nth l k).lo 0 7200 && winB (nth l k).hi 0 7200) with
      | true => rfl
      | false => rw [hb] at h1; exact absurd h1 (by decide)
    · cases hb : (decide ((nth l k).lo ≤ (nth l k).hi) && (decide (k = 0) || decide ((nth l (k - 1)).at_ < (nth l k).at_))) with
      | true => rfl
      | false => rw [hb] at h2; exact absurd h2 (by decide)
  refine ⟨fun k h0 hk => ?_, fun k hk => ?_, fun k hk => ?_⟩
  · have := (hq k hk).2
    simp only [Bool.and_eq_true, Bool.or_eq_true, decide_eq_true_eq] at this
    omega
  · have := (hq k hk).2
    simp only [Bool.and_eq_true, Bool.or_eq_true, decide_eq_true_eq] at this
    omega
  · have := (hq k hk).1
    simp only [Bool.and_eq_true, winB, decide_eq_true_eq] at this
    omega
theorem PtsInc.lt {l : List Pt} (h : PtsInc l) {i : Nat} : ∀ {j : Nat}, i < j → j < l.length → (nth l i).at_ < (nth l j).at_
  | 0, h1, _ => by omega
  | j + 1, h1, h2 => by
    have h3 := h.inc (j + 1) (by omega) h2
    simp only [Nat.add_sub_cancel] at h3
    by_cases hij : i = j
    · subst hij; exact h3
    · have := h.lt (i := i) (j := j) (by omega) (by omega)
      omega

structure RoadOk (n : Net) (r : Road) : Prop where
  frm : 0 ≤ r.frm ∧ r.frm < n.places.length
  to : 0 ≤ r.to ∧ r.to < n.places.length
  ne : r.frm ≠ r.to
  met : 0 ≤ r.metres ∧ r.metres ≤ 100000
  pts : PtsOk r.pts
  inc : PtsInc r.pts
  len : r.pts.length ≤ 8
  ord : ∀ k, k < r.pts.length → inOrderB r.pts k = true
structure NetOk (n : Net) : Prop where
  pos : 0 < n.places.length
  np : n.places.length ≤ 20
  nr : n.roads.length ≤ 60
  pname : ∀ k, k < n.places.length → nameB (nth n.places k) = true ∧ ((n.places.take k).any fun x => decide (nth n.places k = x)) = false
  rname : ∀ k, k < n.roads.length → nameB (nth n.roads k).name = true ∧ ((n.roads.take k).any fun x => decide (x.name = (nth n.roads k).name)) = false
  road : ∀ k, k < n.roads.length → RoadOk n (nth n.roads k)

theorem unless_zero {b : Bool} {e : Int} (he : e ≠ 0) (h : errUnless b e = 0) : b = true := by
  cases b with
  | true => rfl
  | false => exact absurd h he
theorem win_of {a lo hi : Int} (h : winB a lo hi = true) : lo ≤ a ∧ a ≤ hi := by
  simpa [winB] using h
theorem net_ok {n : Net} (hn : NetIn n) (h : (netS n).2.2 = 0) : NetOk n := by
  unfold netS at h
  split at h
  · rename_i h0
    have a1 := unless_zero (by decide) (firstS_nth h0 0 (show (0 : Nat) < 2 by omega))
    have a2 := unless_zero (by decide) (firstS_nth h0 1 (show (1 : Nat) < 2 by omega))
    simp only [decide_eq_true_eq] at a1 a2
    cases hp : scan (fPlace n) n.places.length 0 with
    | some r =>
      rw [hp] at h
      obtain ⟨j, _, _, hj⟩ := scan_some hp
      exact absurd h (fPlace_ne hj)
    | none =>
      rw [hp] at h
      simp only [fin, netB] at h
      split at h
      · exact absurd h (by decide)
      · rename_i h60
        cases hr : scan (fRoad n) n.roads.length 0 with
        | some r =>
          rw [hr] at h
          obtain ⟨j, _, _, hj⟩ := scan_some hr
          exact absurd h (fRoad_ne hj)
        | none =>
          have e1 : ∀ k, k < n.roads.length → errR n k = 0 := fun k hk => by
            have := scan_none hr k hk
            unfold fRoad at this
            split at this
            · assumption
            · cases this
          refine ⟨a1, by omega, by omega, fun k hk => ?_, fun k hk => ?_, fun k hk => ?_⟩
          · have := scan_none hp k hk
            unfold fPlace at this
            split at this
            · rename_i he
              have b1 := unless_zero (by decide) (firstS_nth he 0 (show (0 : Nat) < 2 by omega))
              have b2 := unless_zero (by decide) (firstS_nth he 1 (show (1 : Nat) < 2 by omega))
              exact ⟨b1, by simpa using b2⟩
            · cases this
          · have he := e1 k hk
            have b1 := unless_zero (by decide) (firstS_nth he 0 (show (0 : Nat) < 7 by omega))
            have b2 := unless_zero (by decide) (firstS_nth he 1 (show (1 : Nat) < 7 by omega))
            exact ⟨b1, by simpa using b2⟩
          · have he := e1 k hk
            have b2 := unless_zero (by decide) (firstS_nth he 2 (show (2 : Nat) < 7 by omega))
            have b3 := unless_zero (by decide) (firstS_nth he 3 (show (3 : Nat) < 7 by omega))
            have b4 := unless_zero (by decide) (firstS_nth he 4 (show (4 : Nat) < 7 by omega))
            have b5 := unless_zero (by decide) (firstS_nth he 5 (show (5 : Nat) < 7 by omega))
            have b6 := unless_zero (by decide) (firstS_nth he 6 (show (6 : Nat) < 7 by omega))
            simp only [Bool.and_eq_true] at b2
            have c1 := win_of b2.1
            have c2 := win_of b2.2
            have c4 := win_of b4
            simp only [Bool.not_eq_true', decide_eq_false_iff_not, decide_eq_true_eq] at b3 b5 b6
            have hf := scan_none hr k hk
            unfold fRoad at hf
            rw [if_pos he] at hf
            unfold orE at hf
            split at hf
            · cases hf
            · rename_i hs
              have hlen := hn.rp k hk
              refine ⟨by omega, by omega, b3, c4, pts_ok b5 hlen hs, pts_inc hs, by omega, fun i hi => ?_⟩
              have := scan_none hf i hi
              unfold fOrd at this
              split at this
              · assumption
              · cases this
  · rename_i h0
    exact absurd h h0

def takesR (n : Net) (road at_ : Int) : Tri :=
  if firstS [(netS n).2.2, errUnless (winB road 0 (n.roads.length - 1)) 6, errUnless (winB at_ 0 604800) 2] = 0 then (takesS (nth n.roads road.toNat).pts at_ false, takesS (nth n.roads road.toNat).pts at_ true, 0)
  else (0, 0, firstS [(netS n).2.2, errUnless (winB road 0 (n.roads.length - 1)) 6, errUnless (winB at_ 0 604800) 2])
theorem takesR_c (r : Road) (at_ : Int) (hi : Bool) (hl : PtsOk r.pts) (h0 : 0 ≤ at_) (h1 : at_ ≤ 4000000000000000) : RealCall Try.prog 44 [.agg (cRoad r), .int .i64 at_, endV hi] (.int .i64 (takesS r.pts at_ hi)) true := takes_c r.name r.frm r.to r.metres r.pts at_ hi hl h0 h1
end Go.Proofs.Ytacepceplonceaa
