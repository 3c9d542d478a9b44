/- Contracts of functions for this claim: lemmas alone. -/
import Derived.Test.YtfpamehamllndaaGreatDoorP12
set_option linter.unusedSimpArgs false
set_option linter.unusedVariables false
namespace Go.Proofs.YtfpamehamllndaaGreatDoor
open Go Go.Fi

/-! least numbers of places, round by round -/
structure GS where
  l : List Int
  b : List Int
  deriving Inhabited
def relax (f : Road → Int → Int) (r : Road) (i : Nat) (s : GS) : GS × Bool :=
  if nth s.l r.frm.toNat = -1 then (s, false)
  else if nth s.l r.to.toNat = -1 ∨ f r (nth s.l r.frm.toNat) < nth s.l r.to.toNat then (⟨s.l.set r.to.toNat (f r (nth s.l r.frm.toNat)), s.b.set r.to.toNat i⟩, true)
  else (s, false)
def runR (f : Road → Int → Int) (roads : List Road) : Nat → Nat → GS → Bool → GS × Bool
  | 0, _, s, c => (s, c)
  | m + 1, k, s, c => runR f roads m (k + 1) (relax f (nth roads k) k s).1 (c || (relax f (nth roads k) k s).2)
def growF (f : Road → Int → Int) (roads : List Road) : Nat → GS → GS
  | 0, s => s
  | m + 1, s => if (runR f roads roads.length 0 s false).2 then growF f roads m (runR f roads roads.length 0 s false).1 else (runR f roads roads.length 0 s false).1
def wt (x : Int) : Nat := if x = -1 then 100000000 else x.toNat
def ct (x : Int) : Nat := if x = -1 then 0 else 1
def sumW (w : Int → Nat) : List Int → Nat
  | [] => 0
  | x :: r => w x + sumW w r
theorem sum_set (w : Int → Nat) : ∀ (l : List Int) (i : Nat) (v : Int), i < l.length → sumW w (l.set i v) + w (nth l i) = sumW w l + w v
  | [], i, v, h => by simp at h
  | x :: r, 0, v, _ => by simp [sumW]; omega
  | x :: r, i + 1, v, h => by
    have := sum_set w r i v (by simpa using h)
    simp only [List.set_cons_succ, sumW, nth_succ]; omega
theorem sum_ct_le : ∀ l : List Int, sumW ct l ≤ l.length
  | [] => Nat.le_refl _
  | x :: r => by
    have := sum_ct_le r
    have h : ct x ≤ 1 := by unfold ct; split <;> omega
    simp only [sumW, List.length_cons]; omega
theorem nth_set (l : List Int) (i j : Nat) (v : Int) (h : i < l.length) : nth (l.set i v) j = if i = j then v else nth l j := by
  unfold nth
  rw [List.getD_eq_getElem?_getD, List.getElem?_set]
  split
  · rename_i e; subst e; rfl
  · rw [List.getD_eq_getElem?_getD]
def mu (s : GS) : Nat := sumW wt s.l
/-- how a number becomes another one along a road: it does not fall, and grows by M at most -/
structure Along (n : Net) (f : Road → Int → Int) : Prop where
  lo : ∀ k m, k < n.roads.length → 0 ≤ m → m ≤ 10000000 → m ≤ f (nth n.roads k) m
  hi : ∀ k m, k < n.roads.length → 0 ≤ m → m ≤ 10000000 → f (nth n.roads k) m ≤ m + 100000
structure Inv (n : Net) (s : GS) : Prop where
  ll : s.l.length = n.places.length
  lb : s.b.length = n.places.length
  bd : ∀ i, i < n.places.length → nth s.l i = -1 ∨ (0 ≤ nth s.l i ∧ nth s.l i ≤ 700000 + 100000 * sumW ct s.l)
  by_ : ∀ i, i < n.places.length → -1 ≤ nth s.b i ∧ nth s.b i < n.roads.length
section
variable {n : Net} {f : Road → Int → Int}
theorem Inv.small (h : NetOk n) {s : GS} (hs : Inv n s) {i : Nat} (hi : i < n.places.length) : nth s.l i = -1 ∨ (0 ≤ nth s.l i ∧ nth s.l i ≤ 5000000) := by
  have h1 := sum_ct_le s.l
  rw [hs.ll] at h1
  have := h.np
  rcases hs.bd i hi with h2 | h2
  · exact .inl h2
  · exact .inr (by omega)
theorem relax_inv (h : NetOk n) (ha : Along n f) {s : GS} (hs : Inv n s) {k : Nat} (hk : k < n.roads.length) :
    Inv n (relax f (nth n.roads k) k s).1 ∧ ((relax f (nth n.roads k) k s).2 = false → (relax f (nth n.roads k) k s).1 = s) ∧ ((relax f (nth n.roads k) k s).2 = true → mu (relax f (nth n.roads k) k s).1 < mu s) := by
  have hr := h.road k hk
  have h1 : (nth n.roads k).frm.toNat < n.places.length := by have := hr.frm; omega
  have h2 : (nth n.roads k).to.toNat < n.places.length := by have := hr.to; omega
  have b1 := hs.small h h1
  have b2 := hs.small h h2
  have hlo := ha.lo k (nth s.l (nth n.roads k).frm.toNat) hk
  have hhi := ha.hi k (nth s.l (nth n.roads k).frm.toNat) hk
  have hnb := hs.bd _ h1
  unfold relax
  generalize nth s.l (nth n.roads k).frm.toNat = a at *
  generalize hv : f (nth n.roads k) a = v at *
  generalize (nth n.roads k).to.toNat = t at *
  split
  · exact ⟨hs, fun _ => rfl, fun h => (by cases h)⟩
  · rename_i hne
    have hv0 : 0 ≤ a ∧ a ≤ v ∧ v ≤ a + 100000 := by
      rcases b1 with h | h
      · exact absurd h hne
      · exact ⟨h.1, hlo h.1 (by omega), hhi h.1 (by omega)⟩
    split
    · rename_i hc
      have hlen : t < s.l.length := by rw [hs.ll]; exact h2
      have sw := sum_set wt s.l t v hlen
      have sc := sum_set ct s.l t v hlen
      have cv : ct v = 1 := by unfold ct; rw [if_neg (by omega)]
      have co : ct (nth s.l t) ≤ 1 := by unfold ct; split <;> omega
      refine ⟨⟨by simp [hs.ll], by simp [hs.lb], fun i hi => ?_, fun i hi => ?_⟩, fun h => (by cases h), fun _ => ?_⟩
      · show nth (s.l.set t v) i = -1 ∨ _
        rw [nth_set _ _ _ _ hlen]
        show _ ∨ (_ ∧ _ ≤ 700000 + 100000 * (sumW ct (s.l.set t v) : Int))
        split
        · refine .inr ⟨by omega, ?_⟩
          by_cases ho : nth s.l t = -1
          · have : ct (nth s.l t) = 0 := by unfold ct; rw [if_pos ho]
            rcases hnb with h | h <;> omega
          · have : ct (nth s.l t) = 1 := by unfold ct; rw [if_neg ho]
            rcases hc with h | h
            · exact absurd h ho
            · rcases hs.bd t h2 with h' | h'
              · exact absurd h' ho
              · omega
        · rcases hs.bd i hi with h' | h'
          · exact .inl h'
          · refine .inr ⟨h'.1, ?_⟩
            omega
      · show -1 ≤ nth (s.b.set t k) i ∧ nth (s.b.set t k) i < n.roads.length
        rw [nth_set _ _ _ _ (by rw [hs.lb]; exact h2)]
        split
        · omega
        · exact hs.by_ i hi
      · show sumW wt (s.l.set t v) < sumW wt s.l
        have w1 : wt v = v.toNat := by unfold wt; rw [if_neg (by omega)]
        by_cases ho : nth s.l t = -1
        · have : wt (nth s.l t) = 100000000 := by unfold wt; rw [if_pos ho]
          omega
        · have : wt (nth s.l t) = (nth s.l t).toNat := by unfold wt; rw [if_neg ho]
          rcases hc with h | h
          · exact absurd h ho
          · omega
    · exact ⟨hs, fun _ => rfl, fun h => (by cases h)⟩
theorem runR_inv (h : NetOk n) (ha : Along n f) : ∀ (m k : Nat) (s : GS) (c : Bool), Inv n s → k + m = n.roads.length →
    Inv n (runR f n.roads m k s c).1 ∧ mu (runR f n.roads m k s c).1 ≤ mu s ∧ ((runR f n.roads m k s c).2 = false → (runR f n.roads m k s c).1 = s ∧ c = false) ∧ (c = false → (runR f n.roads m k s c).2 = true → mu (runR f n.roads m k s c).1 < mu s)
  | 0, k, s, c, hs, _ => ⟨hs, Nat.le_refl _, fun h => ⟨rfl, h⟩, fun h h' => by rw [show (runR f n.roads 0 k s c).2 = c from rfl, h] at h'; cases h'⟩
  | m + 1, k, s, c, hs, hk => by
    obtain ⟨r1, r2, r3⟩ := relax_inv h ha hs (k := k) (by omega)
    obtain ⟨i1, i2, i3, i4⟩ := runR_inv h ha m (k + 1) _ (c || (relax f (nth n.roads k) k s).2) r1 (by omega)
    have hle : mu (relax f (nth n.roads k) k s).1 ≤ mu s := by
      cases hr : (relax f (nth n.roads k) k s).2 with
      | true => exact Nat.le_of_lt (r3 hr)
      | false => rw [r2 hr]; exact Nat.le_refl _
    simp only [runR]
    refine ⟨i1, Nat.le_trans i2 hle, fun hf => ?_, fun hc hf => ?_⟩
    · obtain ⟨j1, j2⟩ := i3 hf
      simp only [Bool.or_eq_false_iff] at j2
      exact ⟨j1.trans (r2 j2.2), j2.1⟩
    · by_cases hr : (relax f (nth n.roads k) k s).2 = true
      · exact Nat.lt_of_le_of_lt i2 (r3 hr)
      · have := i4 (by rw [hc, Bool.eq_false_iff.2 hr]; rfl) hf
        exact Nat.lt_of_lt_of_le this hle
theorem growF_fuel (h : NetOk n) (ha : Along n f) : ∀ (m : Nat) (s : GS), Inv n s → mu s < m → growF f n.roads m s = growF f n.roads (mu s + 1) s
  | 0, s, _, hm => by omega
  | m + 1, s, hs, hm => by
    obtain ⟨i1, _, _, i4⟩ := runR_inv h ha n.roads.length 0 s false hs (by omega)
    simp only [growF]
    cases hr : (runR f n.roads n.roads.length 0 s false).2 with
    | false => simp
    | true =>
      have hlt := i4 rfl hr
      simp only [if_true]
      rw [growF_fuel h ha m _ i1 (by omega), growF_fuel h ha (mu s) _ i1 hlt]
end
def grow0 (n : Net) (from_ : Nat) (start : Int) : GS := ⟨(List.replicate n.places.length (-1)).set from_ start, List.replicate n.places.length (-1)⟩
def growS (f : Road → Int → Int) (n : Net) (from_ : Nat) (start : Int) : GS := growF f n.roads (mu (grow0 n from_ start) + 1) (grow0 n from_ start)
theorem nth_replicate (m i : Nat) (v : Int) (h : i < m) : nth (List.replicate m v) i = v := by
  simp [nth, List.getD_eq_getElem?_getD, List.getElem?_replicate, h]
theorem inv0 {n : Net} (h : NetOk n) {from_ : Nat} {start : Int} (hf : from_ < n.places.length) (h0 : 0 ≤ start) (h1 : start ≤ 700000) : Inv n (grow0 n from_ start) := by
  have hl : from_ < (List.replicate n.places.length (-1 : Int)).length := by simpa using hf
  refine ⟨by simp [grow0], by simp [grow0], fun i hi => ?_, fun i hi => ?_⟩
  · have e : nth (grow0 n from_ start).l i = if from_ = i then start else -1 := by
      show nth ((List.replicate n.places.length (-1)).set from_ start) i = _
      rw [nth_set _ _ _ _ hl, nth_replicate _ _ _ hi]
    rw [e]
    split
    · refine .inr ⟨h0, ?_⟩
      have : (0 : Int) ≤ (sumW ct (grow0 n from_ start).l : Int) := by omega
      omega
    · exact .inl rfl
  · show -1 ≤ nth (List.replicate n.places.length (-1)) i ∧ nth (List.replicate n.places.length (-1)) i < _
    rw [nth_replicate _ _ _ hi]; omega
theorem growF_inv {n : Net} {f : Road → Int → Int} (h : NetOk n) (ha : Along n f) : ∀ (m : Nat) (s : GS), Inv n s → Inv n (growF f n.roads m s)
  | 0, s, hs => hs
  | m + 1, s, hs => by
    obtain ⟨i1, _⟩ := runR_inv h ha n.roads.length 0 s false hs (by omega)
    simp only [growF]
    split
    · exact growF_inv h ha m _ i1
    · exact i1
theorem growS_inv {n : Net} {f : Road → Int → Int} (h : NetOk n) (ha : Along n f) {from_ : Nat} {start : Int} (hf : from_ < n.places.length) (h0 : 0 ≤ start) (h1 : start ≤ 700000) : Inv n (growS f n from_ start) := growF_inv h ha _ _ (inv0 h hf h0 h1)
end Go.Proofs.YtfpamehamllndaaGreatDoor
namespace Go.Proofs.YtfpamehamllndaaGreatDoor
open Go Go.Fi

def iA (l : List Int) : List AV := (ints l).map (AV.w false false)
@[simp] theorem iA_len (l : List Int) : (iA l).length = l.length := by simp [iA]
@[simp] theorem iA_get (l : List Int) (i : Nat) (h : i < l.length) : nthA (iA l) i = .w false false (.int .i64 (nth l i)) := by
  unfold iA; rw [nthA_map _ _ _ (by simpa using h), ints_get l i h]
@[simp] theorem iA_set (l : List Int) (i : Nat) (v : Int) : (iA l).set i (.w false false (.int .i64 v)) = iA (l.set i v) := by
  simp [iA, ints, List.map_set]
@[simp] theorem iA_lt (l : List Int) (n : Nat) : AV.lt.ltL n (iA l) = true := ltL_map n false false (ints l)
@[simp] theorem iA_self {D : List Nat} {h : Heap} {n n' : Nat} (l : List Int) : cellsLe D h n n' (iA l) (iA l) = True := eq_true (cellsLe_w false false _)
@[simp high] theorem iA_frz (h : Heap) (d : Nat) (l : List Int) : (iA l).mapM (frz h d) = some (ints l) := mapM_frz h d false false (ints l)
@[simp] theorem ints_flat : ∀ l : List Int, flatL (ints l) = true
  | [] => rfl
  | x :: r => by have := ints_flat r; simpa [ints, flatL] using this
@[simp high] theorem iA_fresh (h : Heap) (d : Nat) (l : List Int) : (iA l).all (freshA h d) = true := all_flat h d false false (ints l) (ints_flat l)
@[simp] theorem repl_lt (k n : Nat) (o f : Bool) (p : PV) : AV.lt.ltL n (List.replicate k (.w o f p)) = true := by
  induction k with
  | zero => rfl
  | succ k ih => rw [List.replicate_succ]; simp [AV.lt.ltL, AV.lt, ih]
def initL (n k : Nat) : List Int := List.replicate k (-1) ++ List.replicate (n - k) 0
@[simp] theorem initL_len (n k : Nat) (h : k ≤ n) : (initL n k).length = n := by simp [initL]; omega
theorem initL_set (n k : Nat) (h : k < n) : (initL n k).set k (-1) = initL n (k + 1) := by
  unfold initL
  rw [List.set_append, if_neg (by simp), List.length_replicate, Nat.sub_self, show n - k = (n - (k + 1)) + 1 by omega, List.replicate_succ, List.set_cons_zero, List.replicate_succ', List.append_assoc]
  rfl
@[simp] theorem iA_init0 (n : Nat) : iA (initL n 0) = List.replicate n (.w false false (.int .i64 0)) := by simp [iA, ints, initL]
theorem initL_all (n : Nat) : initL n n = List.replicate n (-1) := by simp [initL]
theorem runR_step {f : Road → Int → Int} {roads : List Road} {k : Nat} {s : GS} {c : Bool} (h : k < roads.length) :
    runR f roads (roads.length - k) k s c = runR f roads (roads.length - (k + 1)) (k + 1) (relax f (nth roads k) k s).1 (c || (relax f (nth roads k) k s).2) := by
  rw [show roads.length - k = (roads.length - (k + 1)) + 1 by omega]; rfl

set_option maxHeartbeats 8000000 in
theorem grow_c (n : Net) (h : NetOk n) (f : Road → Int → Int) (ha : Along n f) (from_ : Nat) (hfr : from_ < n.places.length) (start : Int) (h0 : 0 ≤ start) (h1 : start ≤ 700000) (g : Nat) (caps : List PV)
    (hg : ∀ k m, k < n.roads.length → 0 ≤ m → m ≤ 10000000 → RealCall Tryz.prog g (.agg (cRoad (nth n.roads k)) :: .int .i64 m :: caps) (.int .i64 (f (nth n.roads k) m)) true) :
    RealCall Tryz.prog 67 [aNet n, .int .i64 from_, .int .i64 start, .fn g caps] (.agg [.sl n.places.length (ints (growS f n from_ start).l), .sl n.places.length (ints (growS f n from_ start).b)]) true := by
  have hnp := h.np
  have hnr := h.nr
  have i0 := inv0 h hfr h0 h1
  have hR : growF f n.roads (mu (grow0 n from_ start) + 1) (grow0 n from_ start) = growS f n from_ start := rfl
  have hRi := growS_inv h ha hfr h0 h1
  generalize growS f n from_ start = R at *
  have hs0 : grow0 n from_ start = ⟨(initL n.places.length n.places.length).set from_ start, initL n.places.length n.places.length⟩ := by rw [initL_all]; rfl
  rw [hs0] at i0 hR
  have kk := keep (And.intro h (And.intro ha (And.intro i0 (And.intro hR hRi))))
  clear hs0 i0 hR hRi
  have kg := keep hg
  clear hg
  unfold aNet cNet
  refine realcall_intro Tryz.func67 (by kernel_rfl) rfl (Nat.le_of_ble_eq_true (by kernel_rfl)) ?_
  simp only [Tryz.results67, Tryz.ntmps67]
  repeat' (first | (with_reducible first | refine awp_seq ?_ | refine awp_region ?_ | refine awp_regionD (id := 1) 12 mixed (by decide +kernel) ?_ | refine And.intro ?_ ?_ | intro _) | (simp [*]))
  all_goals try omega
  refine awp_for3 (fun (k : Nat) => k ≤ n.places.length) [1, 2, 3, 4, 8, 9, 28] (fun (k : Nat) => [(29, .w false false (.int .i64 k))]) [4, 1, 0] (fun (k : Nat) => [(3, iA (initL n.places.length k)), (2, iA (initL n.places.length k))]) (fun (k : Nat) => n.places.length - k) (fun (_u : Unit) => True) [1, 2, 3, 4, 8, 9] (fun (_u : Unit) => []) [4, 1, 0] (fun (_u : Unit) => [(3, iA (initL n.places.length n.places.length)), (2, iA (initL n.places.length n.places.length))]) (0) (Nat.zero_le _) (by simp) (by simp) (fun k hk => ?_) (fun _u hf => ?_)
  · by_cases hlt : k < n.places.length
    · have hset := initL_set n.places.length k hlt
      have hlen := initL_len n.places.length k hk
      repeat' (first | (with_reducible first | refine awp_seq ?_ | refine awp_blockS ?_ | refine awp_skip ?_ | refine awp_region ?_ | refine awp_regionS (id := 5) [0, 1, 2, 3, 4, 5, 6] [7, 8, 9] [[], [], [], [.fld 9 105 0], [.fld 9 105 0], [.fld 9 105 0], []] [[.fld 9 105 0], [], [.fld 9 105 1]] mixed (by decide +kernel) ?_ | refine awp_condM ?_ | refine And.intro ?_ ?_ | intro _) | (simp [*, hlt, hlen]))
      all_goals first
        | exact inI64 (by omega) (by omega)
        | omega
        | (refine loopK_normal _ _ _ _ _ (k + 1) _ ?_ (by first | omega | (dsimp only; omega) | (simp; omega)) ?_; (· omega); (refine le_of ?_ ?_ <;> first | trivial | (simp [*, hset]; done)))
    · have hke : k = n.places.length := by omega
      subst hke
      repeat' (first | (with_reducible first | refine awp_seq ?_ | refine awp_exit ?_ | refine awp_region ?_ | refine awp_condM ?_ | intro _) | (simp [*]))
      (refine finW_intro () ?_ ?_; (· trivial); (refine le_of ?_ ?_ <;> first | trivial | (simp [*]; done)))
  · have hlen := initL_len n.places.length n.places.length (Nat.le_refl _)
    repeat' (first | (with_reducible first | refine awp_seq ?_ | refine awp_region ?_ | refine And.intro ?_ ?_ | intro _) | (simp [*, hfr, hlen]))
    all_goals try omega
    generalize (initL n.places.length n.places.length).set from_ start = l0 at *
    generalize initL n.places.length n.places.length = b0 at *
    obtain ⟨h, ha, i0, hR, hRi⟩ := kk
    have kR := keep hRi
    clear hRi hlen
    refine awp_for3 (fun (x : GS × Bool) => Inv n x.1 ∧ (if x.2 = true then growF f n.roads (mu x.1 + 1) x.1 else x.1) = R) [3, 4, 8, 9] (fun (x : GS × Bool) => [(11, .w false false (.bool x.2))]) [4, 1, 0] (fun (x : GS × Bool) => [(3, iA x.1.b), (2, iA x.1.l)]) (fun (x : GS × Bool) => 2 * mu x.1 + (if x.2 = true then 1 else 0)) (fun (_u : Unit) => True) [8, 9] (fun (_u : Unit) => []) [4, 1] (fun (_u : Unit) => [(3, iA R.b), (2, iA R.l)]) (((⟨l0, b0⟩ : GS), true)) ⟨i0, hR⟩ (by simp) (by simp) (fun x hk => ?_) (fun _u hf => ?_)
    · obtain ⟨s, c⟩ := x
      obtain ⟨hi, hj⟩ := hk
      dsimp only at hi hj ⊢
      cases c with
      | false =>
        simp only [Bool.false_eq_true, if_false] at hj
        subst hj
        repeat' (first | (with_reducible first | refine awp_seq ?_ | refine awp_exit ?_ | refine awp_region ?_ | refine awp_condM ?_ | intro _) | (simp [*]))
        (refine finW_intro () ?_ ?_; (· trivial); (refine le_of ?_ ?_ <;> first | trivial | (simp [*]; done)))
      | true =>
        simp only [if_true] at hj
        obtain ⟨r1, r2, r3, r4⟩ := runR_inv h ha n.roads.length 0 s false hi (by omega)
        have hg : growF f n.roads (mu s + 1) s = if (runR f n.roads n.roads.length 0 s false).2 = true then growF f n.roads (mu s) (runR f n.roads n.roads.length 0 s false).1 else (runR f n.roads n.roads.length 0 s false).1 := rfl
        rw [hg] at hj
        have hfu := growF_fuel h ha (mu s) _ r1
        generalize hRR : runR f n.roads n.roads.length 0 s false = RR at *
        have kk := keep (And.intro r1 (And.intro r2 (And.intro r3 (And.intro r4 (And.intro hj hfu)))))
        clear hg r1 r2 r3 r4 hj hfu
        repeat' (first | (with_reducible first | refine awp_seq ?_ | refine awp_blockS ?_ | refine awp_skip ?_ | refine awp_region ?_ | refine awp_condM ?_ | intro _) | (simp [*]))
        refine awp_for3 (fun (y : Nat × GS × Bool) => y.1 ≤ n.roads.length ∧ Inv n y.2.1 ∧ runR f n.roads (n.roads.length - y.1) y.1 y.2.1 y.2.2 = RR) [3, 4, 8, 9, 49, 50] (fun (y : Nat × GS × Bool) => [(11, .w false false (.bool y.2.2)), (51, .w false false (.int .i64 y.1))]) [4, 1, 0] (fun (y : Nat × GS × Bool) => [(3, iA y.2.1.b), (2, iA y.2.1.l)]) (fun (y : Nat × GS × Bool) => n.roads.length - y.1) (fun (_u : Unit) => True) [3, 4, 8, 9] (fun (_u : Unit) => [(11, .w false false (.bool RR.2))]) [4, 1, 0] (fun (_u : Unit) => [(3, iA RR.1.b), (2, iA RR.1.l)]) (((0 : Nat), s, false)) ⟨Nat.zero_le _, hi, hRR⟩ (by simp) (by simp) (fun y hk => ?_) (fun _u hf => ?_)
        · obtain ⟨k, s, c⟩ := y
          obtain ⟨hk, hi, hj⟩ := hk
          dsimp only at hk hi hj ⊢
          by_cases hlt : k < n.roads.length
          · rw [runR_step hlt] at hj
            have hri := relax_inv h ha hi hlt
            have hcg := kg k (nth s.l (nth n.roads k).frm.toNat) hlt
            have hok := h.road k hlt
            have f1 := hok.frm
            have f2 := hok.to
            have hll := hi.ll
            have hlb := hi.lb
            have hs1 := hi.small h (i := (nth n.roads k).frm.toNat) (by omega)
            generalize hr : nth n.roads k = r at *
            have t1 : r.frm.toNat < n.places.length := by omega
            have t2 : r.to.toNat < n.places.length := by omega
            by_cases ha1 : nth s.l r.frm.toNat = -1
            · have hrel : relax f r k s = (s, false) := if_pos ha1
              rw [hrel, Bool.or_false] at hj
              have kj := keep (And.intro hi hj)
              clear hj hri hi hrel hcg hs1 hok hRR
              repeat' (first | (with_reducible first | refine awp_seq ?_ | refine awp_blockS ?_ | refine awp_skip ?_ | refine awp_exit ?_ | refine awp_region ?_ | refine awp_condM ?_ | refine And.intro ?_ ?_ | intro _) | (simp [*, hlt, hr, cRoad, t1, t2, hll, hlb]))
              all_goals first
                | exact inI64 (by omega) (by omega)
                | omega
                | (refine loopK_normal _ _ _ _ _ (k + 1, s, c) _ ?_ (by first | omega | (dsimp only; omega) | (simp; omega)) ?_; (· exact ⟨by dsimp only; omega, kj.1, kj.2⟩); (refine le_of ?_ ?_ <;> first | trivial | (simp [*]; done)))
            · have hsm : 0 ≤ nth s.l r.frm.toNat ∧ nth s.l r.frm.toNat ≤ 5000000 := by
                rcases hs1 with h | h
                · exact absurd h ha1
                · exact h
              have hcc : RealCall Tryz.prog g (.agg [.str r.name, .int .i64 r.frm, .int .i64 r.to, .int .i64 r.metres, .sl r.pts.length (cPts r.pts)] :: .int .i64 (nth s.l r.frm.toNat) :: caps) (.int .i64 (f r (nth s.l r.frm.toNat))) true := hcg hsm.1 (by omega)
              have hrel0 : relax f r k s = if nth s.l r.to.toNat = -1 ∨ f r (nth s.l r.frm.toNat) < nth s.l r.to.toNat then (⟨s.l.set r.to.toNat (f r (nth s.l r.frm.toNat)), s.b.set r.to.toNat k⟩, true) else (s, false) := if_neg ha1
              clear hcg hs1 hok hRR
              generalize f r (nth s.l r.frm.toNat) = v at *
              by_cases hb : nth s.l r.to.toNat = -1 ∨ v < nth s.l r.to.toNat
              · rw [if_pos hb] at hrel0
                rw [hrel0] at hj hri
                rw [Bool.or_true] at hj
                have kj := keep (And.intro hri.1 hj)
                clear hj hri hi hrel0
                by_cases hb1 : nth s.l r.to.toNat = -1
                · clear hb
                  repeat' (first | (with_reducible first | refine awp_seq ?_ | refine awp_blockS ?_ | refine awp_skip ?_ | refine awp_region ?_ | refine awp_regionD (id := 15) 10 mixed (by decide +kernel) ?_ | refine awp_regionS (id := 17) [0, 1, 2, 3, 4, 5, 6, 7, 8, 9, 10] [11, 12, 13, 14] [[], [], [], [], [.fld 9 105 0], [.fld 9 105 0], [.fld 9 105 0], [.fld 9 105 0], [], [.fld 9 105 0], []] [[.fld 9 105 0], [], [.fld 9 105 1], []] mixed (by decide +kernel) ?_ | refine awp_condM ?_ | refine And.intro ?_ ?_ | refine cw (hcc) ?_ | intro _) | (simp [*, hlt, hr, cRoad, t1, t2, hll, hlb]))
                  all_goals first
                    | exact inI64 (by omega) (by omega)
                    | omega
                    | (refine loopK_normal _ _ _ _ _ (k + 1, ⟨s.l.set r.to.toNat v, s.b.set r.to.toNat k⟩, true) _ ?_ (by first | omega | (dsimp only; omega) | (simp; omega)) ?_; (· exact ⟨by dsimp only; omega, kj.1, kj.2⟩); (refine le_of ?_ ?_ <;> first | trivial | (simp [*]; done)))
                    | skip
                · have hb2 : v < nth s.l r.to.toNat := hb.resolve_left hb1
                  clear hb
                  repeat' (first | (with_reducible first | refine awp_seq ?_ | refine awp_blockS ?_ | refine awp_skip ?_ | refine awp_region ?_ | refine awp_regionD (id := 15) 10 mixed (by decide +kernel) ?_ | refine awp_regionS (id := 17) [0, 1, 2, 3, 4, 5, 6, 7, 8, 9, 10] [11, 12, 13, 14] [[], [], [], [], [.fld 9 105 0], [.fld 9 105 0], [.fld 9 105 0], [.fld 9 105 0], [], [.fld 9 105 0], []] [[.fld 9 105 0], [], [.fld 9 105 1], []] mixed (by decide +kernel) ?_ | refine awp_condM ?_ | refine And.intro ?_ ?_ | refine cw (hcc) ?_ | intro _) | (simp [*, hlt, hr, cRoad, t1, t2, hll, hlb]))
                  all_goals first
                    | exact inI64 (by omega) (by omega)
                    | omega
                    | (refine loopK_normal _ _ _ _ _ (k + 1, ⟨s.l.set r.to.toNat v, s.b.set r.to.toNat k⟩, true) _ ?_ (by first | omega | (dsimp only; omega) | (simp; omega)) ?_; (· exact ⟨by dsimp only; omega, kj.1, kj.2⟩); (refine le_of ?_ ?_ <;> first | trivial | (simp [*]; done)))
                    | skip
              · rw [if_neg hb] at hrel0
                rw [hrel0] at hj hri
                rw [Bool.or_false] at hj
                have kj := keep (And.intro hi hj)
                have hb1 : ¬ nth s.l r.to.toNat = -1 := fun h => hb (.inl h)
                have hb2 : ¬ v < nth s.l r.to.toNat := fun h => hb (.inr h)
                clear hj hri hi hrel0 hb
                repeat' (first | (with_reducible first | refine awp_seq ?_ | refine awp_blockS ?_ | refine awp_skip ?_ | refine awp_region ?_ | refine awp_regionD (id := 15) 10 mixed (by decide +kernel) ?_ | refine awp_condM ?_ | refine And.intro ?_ ?_ | refine cw (hcc) ?_ | intro _) | (simp [*, hlt, hr, cRoad, t1, t2, hll, hlb]))
                all_goals first
                  | exact inI64 (by omega) (by omega)
                  | omega
                  | (refine loopK_normal _ _ _ _ _ (k + 1, s, c) _ ?_ (by first | omega | (dsimp only; omega) | (simp; omega)) ?_; (· exact ⟨by dsimp only; omega, kj.1, kj.2⟩); (refine le_of ?_ ?_ <;> first | trivial | (simp [*]; done)))
                  | skip
          · have hke : k = n.roads.length := by omega
            subst hke
            rw [Nat.sub_self] at hj
            have hj : (s, c) = RR := hj
            subst hj
            repeat' (first | (with_reducible first | refine awp_seq ?_ | refine awp_exit ?_ | refine awp_region ?_ | refine awp_condM ?_ | intro _) | (simp [*]))
            (refine finW_intro () ?_ ?_; (· trivial); (refine le_of ?_ ?_ <;> first | trivial | (simp [*]; done)))
        · obtain ⟨r1, r2, r3, r4, hj, hfu⟩ := kk
          clear hRR
          obtain ⟨s', c'⟩ := RR
          dsimp only at r1 r2 r3 r4 hj hfu ⊢
          cases c' with
          | true =>
            have hlt := r4 rfl rfl
            rw [if_pos rfl, hfu hlt] at hj
            have kj := keep (And.intro r1 hj)
            clear hfu hj r3 r4
            repeat' (first | (with_reducible first | intro _) | (simp [*]))
            (refine loopK_normal _ _ _ _ _ (s', true) _ ?_ (by first | omega | (dsimp only; omega) | (simp; omega)) ?_; (· exact ⟨kj.1, kj.2⟩); (refine le_of ?_ ?_ <;> first | trivial | (simp [*]; done)))
          | false =>
            have he := (r3 rfl).1
            rw [if_neg (by decide)] at hj
            have kj := keep (And.intro r1 hj)
            have hmu : mu s' = mu s := by rw [he]
            clear hfu hj r3 r4 he
            repeat' (first | (with_reducible first | intro _) | (simp [*]))
            (refine loopK_normal _ _ _ _ _ (s', false) _ ?_ (by first | omega | (dsimp only; omega) | (simp; omega)) ?_; (· exact ⟨kj.1, kj.2⟩); (refine le_of ?_ ?_ <;> first | trivial | (simp [*]; done)))
    · have hRl := kR.ll
      have hRb := kR.lb
      repeat' (first | (with_reducible first | refine awp_seq ?_ | refine awp_ret ?_ | refine awp_region ?_ | intro _) | (simp [*, hRl, hRb]))
end Go.Proofs.YtfpamehamllndaaGreatDoor

