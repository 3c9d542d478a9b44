/- Contracts of functions for this claim: lemmas alone. -/
import Derived.Test.YtmedbghkldmlhaaP33
set_option linter.unusedSimpArgs false
set_option linter.unusedVariables false
namespace Go.Proofs.Ytmedbghkldmlhaa
open Go Go.Fi

theorem ceil_ends (A B C D g d : Int) (hd : 0 < d) (hg : 0 ≤ g) (hgd : g ≤ d) (h1 : A ≤ C) (h2 : B ≤ D) : A + ceilS ((B - A) * g) d ≤ C + ceilS ((D - C) * g) d := by
  have a1 := (ceilS_ge ((B - A) * g) d hd).2
  have a2 := (ceilS_ge ((D - C) * g) d hd).1
  generalize ceilS ((B - A) * g) d = c1 at *
  generalize ceilS ((D - C) * g) d = c2 at *
  have m1 : (C - A) * g ≤ (C - A) * d := Int.mul_le_mul_of_nonneg_left hgd (by omega)
  have m2 : 0 ≤ (D - B) * g := Int.mul_nonneg (by omega) hg
  by_cases hc : A + c1 ≤ C + c2
  · exact hc
  · have m3 : (C - A + c2) * d ≤ (c1 - 1) * d := Int.mul_le_mul_of_nonneg_right (by omega) (by omega)
    simp only [Int.sub_mul, Int.add_mul, Int.one_mul] at *
    omega
theorem takes_ends {l : List Pt} (hl : PtsOk l) (hi : PtsInc l) (at_ : Int) : takesS l at_ false ≤ takesS l at_ true := by
  unfold takesS
  dsimp only
  have hg := gone_le hl hi (x := at_ % 86400) (by omega) (by omega)
  have hlt := lastI_lt l (at_ % 86400) hl.pos l.length (Nat.le_refl _)
  generalize at_ % 86400 = x at *
  generalize lastI l x l.length = i at *
  have hj : (i + 1) % l.length < l.length := Nat.mod_lt _ hl.pos
  have b1 := hl.at_ i hlt
  have b2 := hl.at_ _ hj
  have s1 := hi.le i hlt
  have s2 := hi.le _ hj
  exact ceil_ends _ _ _ _ _ _ (gapS_bd b1 b2) hg.1 hg.2 s1 s2
section
variable {n : Net}
theorem evalW_bd (h : NetOk n) (late : Bool) : ∀ (w : List Int) (v : Int), (∀ i, i < w.length → 0 ≤ nth w i ∧ nth w i < n.roads.length) → v ≤ evalW n (fTime late) w v ∧ evalW n (fTime late) w v ≤ v + 14400 * w.length
  | [], v, _ => by simp [evalW]
  | k :: r, v, hw => by
    have h0 := hw 0 (by simp)
    rw [nth_zero] at h0
    have hb := fTime_bd h (k := k.toNat) (by omega) v late
    have ih := evalW_bd h late r (fTime late (nth n.roads k.toNat) v) (fun i hi => by have := hw (i + 1) (by simpa using hi); rwa [nth_succ] at this)
    simp only [evalW, List.length_cons]
    have e : fTime late (nth n.roads k.toNat) v = v + takesS (nth n.roads k.toNat).pts v late := rfl
    rw [e] at ih ⊢
    omega
theorem evalW_mono {f : Road → Int → Int} (h : NetOk n) (ha : ∀ k m, k < n.roads.length → 0 ≤ m → 0 ≤ f (nth n.roads k) m) (hm : Mono n f) : ∀ (w : List Int) (v v' : Int), (∀ i, i < w.length → 0 ≤ nth w i ∧ nth w i < n.roads.length) → 0 ≤ v → v ≤ v' → evalW n f w v ≤ evalW n f w v'
  | [], v, v', _, _, h => h
  | k :: r, v, v', hw, h0, h1 => by
    have hk := hw 0 (by simp)
    rw [nth_zero] at hk
    exact evalW_mono h ha hm r _ _ (fun i hi => by have := hw (i + 1) (by simpa using hi); rwa [nth_succ] at this) (ha _ _ (by omega) h0) (hm _ _ _ (by omega) h0 h1)
theorem evalW_ends (h : NetOk n) : ∀ (w : List Int) (v v' : Int), (∀ i, i < w.length → 0 ≤ nth w i ∧ nth w i < n.roads.length) → 0 ≤ v → v ≤ v' → evalW n (fTime false) w v ≤ evalW n (fTime true) w v'
  | [], v, v', _, _, h => h
  | k :: r, v, v', hw, h0, h1 => by
    have hk := hw 0 (by simp)
    rw [nth_zero] at hk
    have hr := h.road k.toNat (by omega)
    have hb := fTime_bd h (k := k.toNat) (by omega) v false
    have he := takes_ends hr.pts hr.inc v
    have hm := time_mono h true k.toNat v v' (by omega) h0 h1
    refine evalW_ends h r _ _ (fun i hi => by have := hw (i + 1) (by simpa using hi); rwa [nth_succ] at this) (by unfold fTime; omega) ?_
    refine Int.le_trans ?_ hm
    unfold fTime; omega
/-- the metres of a way -/
def metS (n : Net) : List Int → Int
  | [] => 0
  | k :: r => (nth n.roads k.toNat).metres + metS n r
theorem evalW_len : ∀ (w : List Int) (v : Int), evalW n fLen w v = v + metS n w
  | [], v => by simp [evalW, metS]
  | k :: r, v => by simp only [evalW, metS]; rw [evalW_len r]; unfold fLen; omega
theorem metS_snoc : ∀ (w : List Int) (k : Int), metS n (w ++ [k]) = metS n w + (nth n.roads k.toNat).metres
  | [], k => by simp [metS]
  | x :: r, k => by simp only [List.cons_append, metS]; rw [metS_snoc r]; omega
theorem metS_bd (h : NetOk n) : ∀ (w : List Int), (∀ i, i < w.length → 0 ≤ nth w i ∧ nth w i < n.roads.length) → 0 ≤ metS n w ∧ metS n w ≤ 100000 * w.length
  | [], _ => by simp [metS]
  | k :: r, hw => by
    have hk := hw 0 (by simp)
    rw [nth_zero] at hk
    have hr := (h.road k.toNat (by omega)).met
    have ih := metS_bd h r (fun i hi => by have := hw (i + 1) (by simpa using hi); rwa [nth_succ] at this)
    simp only [metS, List.length_cons]
    omega
/-- the ways told: the arrival of a right way -/
def arrS (n : Net) (w : List Int) (at_ : Int) : Tri :=
  if (netS n).2.2 ≠ 0 then (0, 0, (netS n).2.2)
  else if (wayS n w).2.2 ≠ 0 then (0, 0, (wayS n w).2.2)
  else if winB at_ 0 604800 = false then (0, 0, 2)
  else (evalW n (fTime false) w at_, evalW n (fTime true) w at_, 0)
def metE (n : Net) (w : List Int) : Int × Int :=
  if (netS n).2.2 ≠ 0 then (0, (netS n).2.2)
  else if (wayS n w).2.2 ≠ 0 then (0, (wayS n w).2.2)
  else (metS n w, 0)
end
end Go.Proofs.Ytmedbghkldmlhaa
