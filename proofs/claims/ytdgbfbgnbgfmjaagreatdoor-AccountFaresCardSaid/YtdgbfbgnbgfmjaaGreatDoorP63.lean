/- Contracts of functions for this claim: lemmas alone. -/
import Derived.Test.YtdgbfbgnbgfmjaaGreatDoorP61
import Derived.Test.YtdgbfbgnbgfmjaaGreatDoorP60
import Derived.Test.YtdgbfbgnbgfmjaaGreatDoorP29
set_option linter.unusedSimpArgs false
set_option linter.unusedVariables false
namespace Go.Proofs.YtdgbfbgnbgfmjaaGreatDoor
open Go Go.Fi
set_option maxRecDepth 20000

/-! ### trips: the plain law -/
theorem shareE_zero {l : List Int} (h : shareE l = 0) : (∀ x ∈ l, 0 ≤ x ∧ x ≤ 1000000) ∧ ∃ x ∈ l, 0 < x := by
  unfold shareE at h
  have hz := firstS_zero h
  have h1 := unless_zero (hz (errUnless (!l.any fun x => !winB x 0 1000000) 2) (by simp)) (by decide)
  have h2 := unless_zero (hz (errUnless (l.any fun x => decide (0 < x)) 11) (by simp)) (by decide)
  refine ⟨fun x hx => ?_, ?_⟩
  · by_cases hw : winB x 0 1000000 = true
    · exact winB_iff.1 hw
    · rw [List.any_eq_true.2 ⟨x, hx, by simpa using hw⟩] at h1
      cases h1
  · obtain ⟨x, hx, hp⟩ := List.any_eq_true.1 h2
    exact ⟨x, hx, of_decide_eq_true hp⟩
def sharesN (r : Rule) : List Nat := [r.s0.toNat, r.s1.toNat, r.s2.toNat]
def partsS (r : Rule) (f : Int) : List Int := splitS f.toNat (sharesN r)
@[simp] theorem partsS_len (r : Rule) (f : Int) : (partsS r f).length = 3 := by unfold partsS; rw [splitS_len]; rfl
structure SharesOk (r : Rule) : Prop where
  b0 : 0 ≤ r.s0 ∧ r.s0 ≤ 1000000
  b1 : 0 ≤ r.s1 ∧ r.s1 ≤ 1000000
  b2 : 0 ≤ r.s2 ∧ r.s2 ≤ 1000000
  pos : 0 < r.s0 + r.s1 + r.s2
theorem sharesOk {r : Rule} (h : shareE (sharesOf r) = 0) : SharesOk r := by
  obtain ⟨h1, x, hx, hp⟩ := shareE_zero h
  have a0 := h1 r.s0 (by simp [sharesOf])
  have a1 := h1 r.s1 (by simp [sharesOf])
  have a2 := h1 r.s2 (by simp [sharesOf])
  refine ⟨a0, a1, a2, ?_⟩
  simp only [sharesOf, List.mem_cons, List.not_mem_nil, or_false] at hx
  rcases hx with rfl | rfl | rfl <;> omega
theorem SharesOk.sum {r : Rule} (h : SharesOk r) : 0 < sumN (sharesN r) := by
  obtain ⟨h0, h1, h2, h3⟩ := h
  show 0 < r.s0.toNat + (r.s1.toNat + (r.s2.toNat + 0))
  omega
theorem SharesOk.toI {r : Rule} (h : SharesOk r) : toI (sharesN r) = sharesOf r := by
  obtain ⟨h0, h1, h2, h3⟩ := h
  show [((r.s0.toNat : Nat) : Int), ((r.s1.toNat : Nat) : Int), ((r.s2.toNat : Nat) : Int)] = [r.s0, r.s1, r.s2]
  rw [Int.toNat_of_nonneg h0.1, Int.toNat_of_nonneg h1.1, Int.toNat_of_nonneg h2.1]
theorem SharesOk.le {r : Rule} (h : SharesOk r) : ∀ k, k < (sharesN r).length → nth (sharesN r) k ≤ 1000000 := by
  obtain ⟨h0, h1, h2, h3⟩ := h
  intro k hk
  have hk3 : k < 3 := hk
  match k, hk3 with
  | 0, _ => show r.s0.toNat ≤ 1000000; omega
  | 1, _ => show r.s1.toNat ≤ 1000000; omega
  | 2, _ => show r.s2.toNat ≤ 1000000; omega
theorem SharesOk.split {r : Rule} (h : SharesOk r) {f : Int} (h0 : 0 ≤ f) (h1 : f ≤ 1000000000) : SplitIn f.toNat (sharesN r) ∧ DivAll f.toNat (sharesN r) := by
  have hl := h.le
  refine ⟨⟨by show 3 ≤ 20; decide, h.sum, hl, by omega⟩, divAll_small _ _ h.sum (fun k hk => ?_)⟩
  have := Nat.mul_le_mul (show f.toNat ≤ 1000000000 by omega) (hl k hk)
  omega
theorem parts_pos {r : Rule} (h : SharesOk r) (f : Int) (k : Nat) (hk : k < 3) : 0 ≤ nth (partsS r f) k := splitS_pos _ _ h.sum k hk
theorem parts_le {r : Rule} (h : SharesOk r) {f : Int} (h0 : 0 ≤ f) (k : Nat) (hk : k < 3) : nth (partsS r f) k ≤ f := by
  have := splitS_le f.toNat (sharesN r) h.sum k hk
  unfold partsS
  omega
theorem parts_sum {r : Rule} (h : SharesOk r) {f : Int} (h0 : 0 ≤ f) : nth (partsS r f) 0 + nth (partsS r f) 1 + nth (partsS r f) 2 = f := by
  have e := splitS_sum f.toNat (sharesN r) h.sum
  have hl := partsS_len r f
  unfold partsS at hl ⊢
  generalize splitS f.toNat (sharesN r) = p at *
  match p, hl with
  | [a, b, c], _ =>
    simp only [sumI] at e
    show a + b + c = f
    omega
def fareLn (r : Rule) (t : Trip) : List Line := fareL r t.fare t.tip t.voucher (partsS r t.fare)
def fareR (r : Rule) (t : Trip) : Entry × Int := if fareChk 0 t = 0 then (if (fareLn r t).length = 0 then (noEntry, 12) else largestS ⟨t.date, t.note, fareLn r t⟩) else (noEntry, fareChk 0 t)
noncomputable def fareS (l : List Acc) (r : Rule) (t : Trip) : Entry × Int := if ruleS l r = 0 then fareR r t else (noEntry, ruleS l r)
theorem fareChk_of (e : Int) (t : Trip) : fareChk e t = if e = 0 then fareChk 0 t else e := by
  unfold fareChk
  by_cases h : e = 0
  · subst h; rw [if_pos rfl]
  · rw [if_neg h]; simp only [firstS]; rw [if_neg h]
structure TripOk (t : Trip) : Prop where
  date : 0 ≤ t.date ∧ t.date ≤ 100000
  note : nameB t.note = true
  fare : moneyOk t.fare
  tip : moneyOk t.tip
  voucher : moneyOk t.voucher
  le : t.voucher ≤ t.fare
theorem fareChk_zero {t : Trip} (h : fareChk 0 t = 0) : TripOk t := by
  unfold fareChk at h
  have hz := firstS_zero h
  have hm := moneyE_zero (hz (moneyE [t.fare, t.tip, t.voucher]) (by simp))
  exact ⟨winB_iff.1 (unless_zero (hz (dateE t.date) (by simp)) (by decide)), unless_zero (hz (noteE t.note) (by simp)) (by decide), hm t.fare (by simp), hm t.tip (by simp), hm t.voucher (by simp),
    of_decide_eq_true (unless_zero (hz (errUnless (decide (t.voucher ≤ t.fare)) 24) (by simp)) (by decide))⟩
/-! sums over lines -/
def sumW (w : ByteArray → Bool) : List Line → Int
  | [] => 0
  | y :: r => (if w y.acc = true then y.amt else 0) + sumW w r
@[simp] theorem sumW_nil (w : ByteArray → Bool) : sumW w [] = 0 := rfl
theorem sumW_snoc (w : ByteArray → Bool) (y : Line) : ∀ l : List Line, sumW w (l ++ [y]) = sumW w l + (if w y.acc = true then y.amt else 0)
  | [] => by simp [sumW]
  | x :: l => by simp only [List.cons_append, sumW, sumW_snoc w y l]; omega
theorem sumW_succ (w : ByteArray → Bool) (l : List Line) (k : Nat) (h : k < l.length) : sumW w (l.take (k + 1)) = sumW w (l.take k) + (if w (nth l k).acc = true then (nth l k).amt else 0) := by
  rw [take_succ_nth l k h, sumW_snoc]
theorem sumW_addL (w : ByteArray → Bool) (ls : List Line) (a : ByteArray) (n : Int) : sumW w (addL ls a n) = sumW w ls + (if w a = true then n else 0) := by
  unfold addL
  split
  · rename_i h; subst h; split <;> omega
  · rw [sumW_snoc]
theorem sumA_W : ∀ l : List Line, sumA l = sumW (fun _ => true) l
  | [] => rfl
  | y :: l => by simp only [sumA, sumW, sumA_W l, if_true]
theorem fareL_sumW (w : ByteArray → Bool) (r : Rule) (f t v : Int) (p : List Int) : sumW w (fareL r f t v p) = (if w r.cash = true then f + t - v else 0) + (if w r.vouch = true then v else 0) + (if w r.owner = true then -(nth p 0) else 0) + (if w r.driver = true then -(nth p 1) else 0) + (if w r.office = true then -(nth p 2) else 0) + (if w r.driver = true then -t else 0) := by
  unfold fareL
  rw [sumW_addL]
  simp only [addK]
  rw [sumW_addL, sumW_addL, sumW_addL]
  unfold base2 base1
  rw [sumW_addL, sumW_addL, sumW_nil]
  simp only [show nth (three r) 0 = r.owner from rfl, show nth (three r) 1 = r.driver from rfl, show nth (three r) 2 = r.office from rfl]
  omega
theorem addL_all {P : Line → Prop} {ls : List Line} {a : ByteArray} {n : Int} (h : ∀ y ∈ ls, P y) (hn : n ≠ 0 → P ⟨a, n⟩) : ∀ y ∈ addL ls a n, P y := by
  unfold addL
  split
  · exact h
  · rename_i hz
    intro y hy
    rw [List.mem_append, List.mem_singleton] at hy
    rcases hy with hy | rfl
    · exact h y hy
    · exact hn hz
theorem fareL_all {P : Line → Prop} (r : Rule) (f t v : Int) (p : List Int) (h1 : ∀ n, n ≠ 0 → P ⟨r.cash, n⟩) (h2 : ∀ n, n ≠ 0 → P ⟨r.vouch, n⟩) (h3 : ∀ n, n ≠ 0 → P ⟨r.owner, n⟩) (h4 : ∀ n, n ≠ 0 → P ⟨r.driver, n⟩) (h5 : ∀ n, n ≠ 0 → P ⟨r.office, n⟩) : ∀ y ∈ fareL r f t v p, P y := by
  unfold fareL
  simp only [addK]
  unfold base2 base1
  exact addL_all (addL_all (addL_all (addL_all (addL_all (addL_all (fun y hy => by cases hy) (h1 _)) (h2 _)) (h3 _)) (h4 _)) (h5 _)) (h4 _)
theorem fareL_len (r : Rule) (f t v : Int) (p : List Int) : (fareL r f t v p).length ≤ 6 := by
  unfold fareL
  have a1 := addL_len [] r.cash (f + t - v)
  have a2 := addL_len (base1 r f t v) r.vouch v
  have a3 := addL_len (addK r p (base2 r f t v) 0) (nth (three r) 0) (-(nth p 0))
  have a4 := addL_len (addK r p (base2 r f t v) 1) (nth (three r) 1) (-(nth p 1))
  have a5 := addL_len (addK r p (base2 r f t v) 2) (nth (three r) 2) (-(nth p 2))
  have a6 := addL_len (addK r p (base2 r f t v) 3) r.driver (-t)
  have b1 : (base1 r f t v).length ≤ 0 + 1 := a1
  have b2 : (base2 r f t v).length ≤ (base1 r f t v).length + 1 := a2
  have b3 : (addK r p (base2 r f t v) 1).length ≤ (base2 r f t v).length + 1 := a3
  have b4 : (addK r p (base2 r f t v) 2).length ≤ (addK r p (base2 r f t v) 1).length + 1 := a4
  have b5 : (addK r p (base2 r f t v) 3).length ≤ (addK r p (base2 r f t v) 2).length + 1 := a5
  omega
theorem linesF_all (a : List Acc) : ∀ (l : List Line) (i : Nat) (s : Int), (∀ y ∈ l, lineE a y = 0) → linesF a l i s = (0, errUnless (decide (s + sumA l = 0)) 27)
  | [], i, s, _ => by
    have := linesF_end a [] 0 s (Nat.le_refl _)
    simp only [linesF, sumA_nil, Int.add_zero]
  | y :: r, i, s, h => by
    unfold linesF
    rw [if_pos (h y (by simp)), linesF_all a r _ _ (fun z hz => h z (by simp [hz]))]
    simp only [sumA, Int.add_assoc]
    rfl
theorem largestS_yes {e : Entry} (h : (largestS e).2 = 0) : muchB e = false ∧ largestS e = (e, 0) := by
  unfold largestS at h ⊢
  cases hm : muchB e with
  | true => rw [hm, if_pos rfl] at h; cases h
  | false => exact ⟨rfl, if_neg (by decide)⟩
theorem muchB_no {e : Entry} (h : muchB e = false) : (∀ y ∈ e.lines, -1000000000 ≤ y.amt ∧ y.amt ≤ 1000000000) ∧ e.lines.length ≤ 12 := by
  unfold muchB at h
  rw [Bool.or_eq_false_iff] at h
  refine ⟨fun y hy => ?_, by have := of_decide_eq_false h.2; omega⟩
  by_cases hg : greatB y = true
  · rw [List.any_eq_true.2 ⟨y, hy, hg⟩] at h; cases h.1
  · unfold greatB at hg
    have : smallB y.amt 1000000000 = true := by simpa using hg
    have := winB_iff.1 this
    omega
/-- the entry of a trip is right -/
theorem fareR_right {l : List Acc} {r : Rule} {t : Trip} (hr : RuleOk l r) (hs : SharesOk r) (h : (fareR r t).2 = 0) : (entryS l (fareR r t).1).2 = 0 ∧ (fareR r t).1 = ⟨t.date, t.note, fareLn r t⟩ ∧ sumW (fun a => decide (a = r.owner) || decide (a = r.driver) || decide (a = r.office)) (fareLn r t) = -(t.fare + t.tip) := by
  unfold fareR at h ⊢
  by_cases hc : fareChk 0 t = 0
  · rw [if_pos hc] at h ⊢
    obtain ⟨td, tn, tf, tt, tv, tl⟩ := fareChk_zero hc
    by_cases hz : (fareLn r t).length = 0
    · rw [if_pos hz] at h; cases h
    · rw [if_neg hz] at h ⊢
      obtain ⟨hm, hl⟩ := largestS_yes h
      rw [hl]
      obtain ⟨m1, m2⟩ := muchB_no hm
      dsimp only at m1 m2 ⊢
      have hsum := parts_sum hs tf.1
      have hA : sumA (fareLn r t) = 0 := by
        rw [sumA_W]; unfold fareLn; rw [fareL_sumW]
        simp only [if_true]
        omega
      have hacc : ∀ k, k < 5 → hasS l (nth (five r) k) = true := hr.has
      have hlines : ∀ y ∈ fareLn r t, lineE l y = 0 := by
        intro y hy
        have hp : hasS l y.acc = true ∧ y.amt ≠ 0 := fareL_all (P := fun y => hasS l y.acc = true ∧ y.amt ≠ 0) r _ _ _ _ (fun n hn => ⟨hacc 3 (by decide), hn⟩) (fun n hn => ⟨hacc 4 (by decide), hn⟩) (fun n hn => ⟨hacc 0 (by decide), hn⟩) (fun n hn => ⟨hacc 1 (by decide), hn⟩) (fun n hn => ⟨hacc 2 (by decide), hn⟩) y hy
        have hb := m1 y hy
        have hw : smallB y.amt 1000000000 = true := winB_iff.2 ⟨by omega, hb.2⟩
        unfold lineE
        rw [hp.1, hw, decide_eq_false hp.2]
        rfl
      have h2 : 2 ≤ (fareLn r t).length := by
        match hL : fareLn r t with
        | [] => rw [hL] at hz; exact absurd rfl hz
        | [y] =>
          rw [hL] at hA hlines
          have := (lineE_zero (hlines y (by simp))).2.1
          simp only [sumA] at hA
          omega
        | _ :: _ :: _ => simp
      refine ⟨?_, rfl, ?_⟩
      · unfold entryS headE dateE noteE
        dsimp only
        rw [winB_iff.2 td, tn, decide_eq_true (show (2 : Int) ≤ ((fareLn r t).length : Int) by omega), decide_eq_true (show ((fareLn r t).length : Int) ≤ 12 by omega)]
        rw [if_pos (show firstS [errUnless true 2, errUnless true 4, errUnless true 10, errUnless true 8] = 0 from rfl), linesF_all l _ _ _ hlines, hA]
        rfl
      · have ap : ∀ k, k < 5 → Lib.containsS ((five r).take k) (nth (five r) k) = false := hr.apart
        have a3 : ¬ r.cash ∈ [r.owner, r.driver, r.office] := fun hm => by
          have h1 := (Lib.containsS_iff _ _).2 hm
          rw [show Lib.containsS [r.owner, r.driver, r.office] r.cash = false from ap 3 (by decide)] at h1
          cases h1
        have a4 : ¬ r.vouch ∈ [r.owner, r.driver, r.office, r.cash] := fun hm => by
          have h1 := (Lib.containsS_iff _ _).2 hm
          rw [show Lib.containsS [r.owner, r.driver, r.office, r.cash] r.vouch = false from ap 4 (by decide)] at h1
          cases h1
        simp only [List.mem_cons, List.not_mem_nil, or_false, not_or] at a3 a4
        unfold fareLn
        rw [fareL_sumW]
        simp [a3, a4, Ne.symm]
        omega
  · rw [if_neg hc] at h; exact absurd h hc
/-! refunds -/
def negL (l : List Line) : List Line := l.map fun y => ⟨y.acc, -y.amt⟩
@[simp] theorem negL_len (l : List Line) : (negL l).length = l.length := by simp [negL]
noncomputable def refundS (l : List Acc) (r : Rule) (c : Compl) : Entry × Int :=
  if ruleS l r = 0 then (if (decS c).2.2 = 0 then (if 0 < (decS c).1 then (⟨c.date, c.note, negL (fareL r (decS c).1 0 0 (partsS r (decS c).1))⟩, 0) else (noEntry, 12)) else (noEntry, (decS c).2.2)) else (noEntry, ruleS l r)
end Go.Proofs.YtdgbfbgnbgfmjaaGreatDoor
namespace Go.Proofs.YtdgbfbgnbgfmjaaGreatDoor
open Go Go.Fi
set_option maxRecDepth 20000

/-! ### the document's checks of rules, trips and complaints -/
def zeroK (l : List Int) : Nat → Bool
  | 0 => true
  | k + 1 => zeroK l k && decide (nth l k = 0)
@[simp] theorem zeroK_zero (l : List Int) : zeroK l 0 = true := rfl
theorem zeroK_succ (l : List Int) (k : Nat) : zeroK l (k + 1) = (zeroK l k && decide (nth l k = 0)) := rfl
theorem zeroK_iff (l : List Int) : ∀ k, zeroK l k = true ↔ ∀ j, j < k → nth l j = 0
  | 0 => by simp
  | k + 1 => by
    rw [zeroK_succ, Bool.and_eq_true, zeroK_iff l k, decide_eq_true_eq]
    constructor
    · rintro ⟨h1, h2⟩ j hj
      rcases Nat.lt_or_eq_of_le (Nat.le_of_lt_succ hj) with h | h
      · exact h1 j h
      · rw [h]; exact h2
    · intro h
      exact ⟨fun j hj => h j (by omega), h k (by omega)⟩
theorem any_nth {p : Int → Bool} {l : List Int} : l.any p = true ↔ ∃ k, k < l.length ∧ p (nth l k) = true := by
  rw [List.any_eq_true]
  constructor
  · rintro ⟨x, hx, hp⟩
    obtain ⟨k, hk, rfl⟩ := mem_nth hx
    exact ⟨k, hk, hp⟩
  · rintro ⟨k, hk, hp⟩
    refine ⟨nth l k, ?_, hp⟩
    simp only [nth, List.getD_eq_getElem?_getD, List.getElem?_eq_getElem hk, Option.getD_some]
    exact List.getElem_mem hk
theorem shareE_out {l : List Int} {k : Nat} (hk : k < l.length) (h : winB (nth l k) 0 1000000 = false) : shareE l = 2 := by
  unfold shareE
  rw [any_nth.2 ⟨k, hk, by rw [h]; rfl⟩]
  rfl
theorem shareE_in {l : List Int} (h : ∀ k, k < l.length → winB (nth l k) 0 1000000 = true) : shareE l = if zeroK l l.length = true then 11 else 0 := by
  unfold shareE
  have h1 : (l.any fun x => !winB x 0 1000000) = false := by
    cases ha : l.any fun x => !winB x 0 1000000 with
    | false => rfl
    | true =>
      obtain ⟨k, hk, hp⟩ := any_nth.1 ha
      rw [h k hk] at hp; cases hp
  rw [h1]
  by_cases hz : zeroK l l.length = true
  · rw [if_pos hz]
    have h2 : (l.any fun x => decide (0 < x)) = false := by
      cases ha : l.any fun x => decide (0 < x) with
      | false => rfl
      | true =>
        obtain ⟨k, hk, hp⟩ := any_nth.1 ha
        have := (zeroK_iff l l.length).1 hz k hk
        have := of_decide_eq_true hp
        omega
    rw [h2]; rfl
  · rw [if_neg hz]
    have h2 : (l.any fun x => decide (0 < x)) = true := by
      cases ha : l.any fun x => decide (0 < x) with
      | true => rfl
      | false =>
        refine absurd ((zeroK_iff l l.length).2 fun j hj => ?_) hz
        have hw := winB_iff.1 (h j hj)
        rcases Int.lt_or_eq_of_le hw.1 with hp | hp
        · rw [any_nth.2 ⟨j, hj, decide_eq_true hp⟩] at ha; cases ha
        · omega
    rw [h2]; rfl
theorem rSharesErr_c (l : List Int) (hl : l.length < 100000) : RealCall Tryz.prog 88 [.sl l.length (ints l)] (.int .i64 (shareE l)) true := by
  have q2 := fun k hk h => shareE_out (l := l) (k := k) hk h
  have q0 := shareE_in (l := l)
  generalize shareE l = R at *
  have k2 := keep q2
  have k0 := keep q0
  clear q2 q0
  refine realcall_intro Tryz.func88 (by kernel_rfl) rfl (Nat.le_of_ble_eq_true (by kernel_rfl)) ?_
  simp only [Tryz.results88, Tryz.ntmps88]
  repeat' (first | (with_reducible first | refine awp_seq ?_ | refine awp_blockS ?_ | refine awp_blockC ?_ | refine awp_blockR ?_ | refine awp_skip ?_ | refine awp_ret ?_ | refine awp_exit ?_ | refine awp_region ?_ | refine awp_condM ?_ | refine And.intro ?_ ?_ | apply gQ_merge | apply gE_merge | exact EqV_w | exact EqE_w | exact EqV_ptr | exact EqE_ptr | exact EqV_msl | exact EqE_msl | exact EqV_agg | exact EqE_agg | exact EqV_fn | exact EqE_fn | exact EqV_gd | exact EqE_gd | refine gM_splitN ?_ ?_ | refine gM_split ?_ ?_ |  refine condM_splitDN ?_ ?_ | refine condM_splitD ?_ ?_ | refine condM_splitN ?_ ?_ | refine condM_split ?_ ?_ | refine condM_any ?_ ?_ | intro _) | (simp [*]))
  refine awp_for3 (fun (k : Nat) => k ≤ l.length ∧ (∀ j, j < k → winB (nth l j) 0 1000000 = true)) [0] (fun (k : Nat) => [(4, .w false false (.int .i64 k)), (3, .w false false (.bool (zeroK l k)))]) [] (fun (k : Nat) => []) (fun (k : Nat) => l.length - k) (fun (_u : Unit) => ∀ j, j < l.length → winB (nth l j) 0 1000000 = true) [] (fun (_u : Unit) => [(3, .w false false (.bool (zeroK l l.length)))]) [] (fun (_u : Unit) => []) (0) ⟨Nat.zero_le _, fun j hj => absurd hj (Nat.not_lt_zero _)⟩ (by simp) (by simp) (fun k hk => ?_) (fun _u hf => ?_)
  · obtain ⟨hk, hj⟩ := hk
    have kj := keep hj
    clear hj
    by_cases hlt : k < l.length
    · have c1 := rWithin_c (nth l k) 0 1000000
      have hs := zeroK_succ l k
      cases hw : winB (nth l k) 0 1000000 with
      | false =>
        rw [hw] at c1
        have hR := (show ∀ k, k < l.length → winB (nth l k) 0 1000000 = false → R = 2 from k2) k hlt hw
        subst hR
        clear k2 k0 hs hw
        repeat' (first | (with_reducible first | refine awp_seq ?_ | refine awp_blockS ?_ | refine awp_blockC ?_ | refine awp_blockR ?_ | refine awp_skip ?_ | refine awp_ret ?_ | refine awp_exit ?_ | refine awp_region ?_ | refine awp_condM ?_ | refine And.intro ?_ ?_ | apply gQ_merge | apply gE_merge | exact EqV_w | exact EqE_w | exact EqV_ptr | exact EqE_ptr | exact EqV_msl | exact EqE_msl | exact EqV_agg | exact EqE_agg | exact EqV_fn | exact EqE_fn | exact EqV_gd | exact EqE_gd | refine gM_splitN ?_ ?_ | refine gM_split ?_ ?_ |  refine condM_splitDN ?_ ?_ | refine condM_splitD ?_ ?_ | refine condM_splitN ?_ ?_ | refine condM_split ?_ ?_ | refine condM_any ?_ ?_ | refine cw (c1) ?_ | intro _) | (simp [*, hlt]) | (refine cw_eq (c1) ?_ ?_; (· (simp [*]; done))))
        all_goals try first | exact inI64 (by omega) (by omega) | omega
      | true =>
        rw [hw] at c1
        have kj2 : Keep (∀ j, j < k + 1 → winB (nth l j) 0 1000000 = true) := keep (fun j hj => by
          rcases Nat.lt_or_eq_of_le (Nat.le_of_lt_succ hj) with h | h
          · exact (show ∀ j, j < k → winB (nth l j) 0 1000000 = true from kj) j h
          · rw [h]; exact hw)
        clear k2 k0 hw kj
        cases hz : zeroK l k with
        | false =>
          have ks := keep (show zeroK l (k + 1) = false by rw [hs, hz]; rfl)
          clear hs hz
          repeat' (first | (with_reducible first | refine awp_seq ?_ | refine awp_blockS ?_ | refine awp_blockC ?_ | refine awp_blockR ?_ | refine awp_skip ?_ | refine awp_ret ?_ | refine awp_exit ?_ | refine awp_region ?_ | refine awp_condM ?_ | refine And.intro ?_ ?_ | apply gQ_merge | apply gE_merge | exact EqV_w | exact EqE_w | exact EqV_ptr | exact EqE_ptr | exact EqV_msl | exact EqE_msl | exact EqV_agg | exact EqE_agg | exact EqV_fn | exact EqE_fn | exact EqV_gd | exact EqE_gd | refine gM_splitN ?_ ?_ | refine gM_split ?_ ?_ |  refine condM_splitDN ?_ ?_ | refine condM_splitD ?_ ?_ | refine condM_splitN ?_ ?_ | refine condM_split ?_ ?_ | refine condM_any ?_ ?_ | refine cw (c1) ?_ | intro _) | (simp [*, hlt]) | (refine cw_eq (c1) ?_ ?_; (· (simp [*]; done))))
          all_goals try first | exact inI64 (by omega) (by omega) | omega
          all_goals (refine loopK_normal _ _ _ _ _ (k + 1) _ ?_ (by first | omega | (dsimp only; omega) | (simp; omega)) ?_; (· exact ⟨by omega, kj2⟩); (refine le_of ?_ ?_ <;> first | trivial | (simp [*, (show zeroK l (k + 1) = _ from ks)]; done)))
        | true =>
          have ks := keep (show zeroK l (k + 1) = decide (nth l k = 0) by rw [hs, hz]; rfl)
          clear hs hz
          repeat' (first | (with_reducible first | refine awp_seq ?_ | refine awp_blockS ?_ | refine awp_blockC ?_ | refine awp_blockR ?_ | refine awp_skip ?_ | refine awp_ret ?_ | refine awp_exit ?_ | refine awp_region ?_ | refine awp_condM ?_ | refine And.intro ?_ ?_ | apply gQ_merge | apply gE_merge | exact EqV_w | exact EqE_w | exact EqV_ptr | exact EqE_ptr | exact EqV_msl | exact EqE_msl | exact EqV_agg | exact EqE_agg | exact EqV_fn | exact EqE_fn | exact EqV_gd | exact EqE_gd | refine gM_splitN ?_ ?_ | refine gM_split ?_ ?_ |  refine condM_splitDN ?_ ?_ | refine condM_splitD ?_ ?_ | refine condM_splitN ?_ ?_ | refine condM_split ?_ ?_ | refine condM_any ?_ ?_ | refine cw (c1) ?_ | intro _) | (simp [*, hlt]) | (refine cw_eq (c1) ?_ ?_; (· (simp [*]; done))))
          all_goals try first | exact inI64 (by omega) (by omega) | omega
          all_goals (refine loopK_normal _ _ _ _ _ (k + 1) _ ?_ (by first | omega | (dsimp only; omega) | (simp; omega)) ?_; (· exact ⟨by omega, kj2⟩); (refine le_of ?_ ?_ <;> first | trivial | (simp [*, (show zeroK l (k + 1) = _ from ks)]; done)))
    · have hke : k = l.length := by omega
      subst hke
      clear k2 k0
      repeat' (first | (with_reducible first | refine awp_seq ?_ | refine awp_blockS ?_ | refine awp_blockC ?_ | refine awp_blockR ?_ | refine awp_skip ?_ | refine awp_ret ?_ | refine awp_exit ?_ | refine awp_region ?_ | refine awp_condM ?_ | refine And.intro ?_ ?_ | apply gQ_merge | apply gE_merge | exact EqV_w | exact EqE_w | exact EqV_ptr | exact EqE_ptr | exact EqV_msl | exact EqE_msl | exact EqV_agg | exact EqE_agg | exact EqV_fn | exact EqE_fn | exact EqV_gd | exact EqE_gd | refine gM_splitN ?_ ?_ | refine gM_split ?_ ?_ |  refine condM_splitDN ?_ ?_ | refine condM_splitD ?_ ?_ | refine condM_splitN ?_ ?_ | refine condM_split ?_ ?_ | refine condM_any ?_ ?_ | intro _) | (simp [*]))
      all_goals (refine finW_intro () ?_ ?_; (· exact kj); (refine le_of ?_ ?_ <;> first | trivial | (simp [*]; done)))
  · have hR := (show (∀ k, k < l.length → winB (nth l k) 0 1000000 = true) → R = if zeroK l l.length = true then 11 else 0 from k0) hf
    clear k2 k0 hf
    cases hz : zeroK l l.length with
    | true =>
      rw [hz, if_pos rfl] at hR
      subst hR
      clear hz
      repeat' (first | (with_reducible first | refine awp_seq ?_ | refine awp_blockS ?_ | refine awp_blockC ?_ | refine awp_blockR ?_ | refine awp_skip ?_ | refine awp_ret ?_ | refine awp_exit ?_ | refine awp_region ?_ | refine awp_condM ?_ | refine And.intro ?_ ?_ | apply gQ_merge | apply gE_merge | exact EqV_w | exact EqE_w | exact EqV_ptr | exact EqE_ptr | exact EqV_msl | exact EqE_msl | exact EqV_agg | exact EqE_agg | exact EqV_fn | exact EqE_fn | exact EqV_gd | exact EqE_gd | refine gM_splitN ?_ ?_ | refine gM_split ?_ ?_ |  refine condM_splitDN ?_ ?_ | refine condM_splitD ?_ ?_ | refine condM_splitN ?_ ?_ | refine condM_split ?_ ?_ | refine condM_any ?_ ?_ | intro _) | (simp [*]))
    | false =>
      rw [hz, if_neg (by decide)] at hR
      subst hR
      clear hz
      repeat' (first | (with_reducible first | refine awp_seq ?_ | refine awp_blockS ?_ | refine awp_blockC ?_ | refine awp_blockR ?_ | refine awp_skip ?_ | refine awp_ret ?_ | refine awp_exit ?_ | refine awp_region ?_ | refine awp_condM ?_ | refine And.intro ?_ ?_ | apply gQ_merge | apply gE_merge | exact EqV_w | exact EqE_w | exact EqV_ptr | exact EqE_ptr | exact EqV_msl | exact EqE_msl | exact EqV_agg | exact EqE_agg | exact EqV_fn | exact EqE_fn | exact EqV_gd | exact EqE_gd | refine gM_splitN ?_ ?_ | refine gM_split ?_ ?_ |  refine condM_splitDN ?_ ?_ | refine condM_splitD ?_ ?_ | refine condM_splitN ?_ ?_ | refine condM_split ?_ ?_ | refine condM_any ?_ ?_ | intro _) | (simp [*]))
theorem hasText_c (l : List ByteArray) (hl : l.length < 100000) (s : ByteArray) : RealCall Tryz.prog 97 [.sl l.length (strP l), .str s] (.bool (Lib.containsS l s)) true := by
  have q1 : ∀ k, k < l.length → nth l k = s → Lib.containsS l s = true := fun k hk h => (Lib.containsS_iff l s).2 (by
    rw [← h]
    simp only [nth, List.getD_eq_getElem?_getD, List.getElem?_eq_getElem hk, Option.getD_some]
    exact List.getElem_mem hk)
  have q0 : (∀ k, k < l.length → ¬ nth l k = s) → Lib.containsS l s = false := fun h => by
    cases hc : Lib.containsS l s with
    | false => rfl
    | true =>
      obtain ⟨k, hk, e⟩ := mem_nth ((Lib.containsS_iff l s).1 hc)
      exact absurd e (h k hk)
  generalize Lib.containsS l s = R at *
  have k1 := keep q1
  have k0 := keep q0
  clear q1 q0
  have hsl : (strP l).length = l.length := by simp [strP]
  have hg : ∀ k, k < l.length → nthP (strP l) k = .str (nth l k) := fun k hk => nthP_map _ l k hk
  refine realcall_intro Tryz.func97 (by kernel_rfl) rfl (Nat.le_of_ble_eq_true (by kernel_rfl)) ?_
  simp only [Tryz.results97, Tryz.ntmps97]
  repeat' (first | (with_reducible first | refine awp_seq ?_ | refine awp_blockS ?_ | refine awp_blockC ?_ | refine awp_blockR ?_ | refine awp_skip ?_ | refine awp_ret ?_ | refine awp_exit ?_ | refine awp_region ?_ | refine awp_condM ?_ | refine And.intro ?_ ?_ | apply gQ_merge | apply gE_merge | exact EqV_w | exact EqE_w | exact EqV_ptr | exact EqE_ptr | exact EqV_msl | exact EqE_msl | exact EqV_agg | exact EqE_agg | exact EqV_fn | exact EqE_fn | exact EqV_gd | exact EqE_gd | refine gM_splitN ?_ ?_ | refine gM_split ?_ ?_ |  refine condM_splitDN ?_ ?_ | refine condM_splitD ?_ ?_ | refine condM_splitN ?_ ?_ | refine condM_split ?_ ?_ | refine condM_any ?_ ?_ | intro _) | (simp [*]))
  refine awp_for3 (fun (k : Nat) => k ≤ l.length ∧ (∀ j, j < k → ¬ nth l j = s)) [0, 1] (fun (k : Nat) => [(5, .w false false (.int .i64 k))]) [] (fun (k : Nat) => []) (fun (k : Nat) => l.length - k) (fun (_u : Unit) => ∀ j, j < l.length → ¬ nth l j = s) [] (fun (_u : Unit) => []) [] (fun (_u : Unit) => []) (0) ⟨Nat.zero_le _, fun j hj => absurd hj (Nat.not_lt_zero _)⟩ (by simp) (by simp) (fun k hk => ?_) (fun _u hf => ?_)
  · obtain ⟨hk, hj⟩ := hk
    have kj := keep hj
    clear hj
    by_cases hlt : k < l.length
    · have hgk := hg k hlt
      clear hg
      by_cases hq : nth l k = s
      · have hR := (show ∀ k, k < l.length → nth l k = s → R = true from k1) k hlt hq
        subst hR
        clear k1 k0
        repeat' (first | (with_reducible first | refine awp_seq ?_ | refine awp_blockS ?_ | refine awp_blockC ?_ | refine awp_blockR ?_ | refine awp_skip ?_ | refine awp_ret ?_ | refine awp_exit ?_ | refine awp_region ?_ | refine awp_condM ?_ | refine And.intro ?_ ?_ | apply gQ_merge | apply gE_merge | exact EqV_w | exact EqE_w | exact EqV_ptr | exact EqE_ptr | exact EqV_msl | exact EqE_msl | exact EqV_agg | exact EqE_agg | exact EqV_fn | exact EqE_fn | exact EqV_gd | exact EqE_gd | refine gM_splitN ?_ ?_ | refine gM_split ?_ ?_ |  refine condM_splitDN ?_ ?_ | refine condM_splitD ?_ ?_ | refine condM_splitN ?_ ?_ | refine condM_split ?_ ?_ | refine condM_any ?_ ?_ | intro _) | (simp [*, hlt, hgk, hq]))
        all_goals try first | exact inI64 (by omega) (by omega) | omega
      · have kj2 : Keep (∀ j, j < k + 1 → ¬ nth l j = s) := keep (fun j hj => by
          rcases Nat.lt_or_eq_of_le (Nat.le_of_lt_succ hj) with h | h
          · exact (show ∀ j, j < k → ¬ nth l j = s from kj) j h
          · rw [h]; exact hq)
        clear k1 k0
        repeat' (first | (with_reducible first | refine awp_seq ?_ | refine awp_blockS ?_ | refine awp_blockC ?_ | refine awp_blockR ?_ | refine awp_skip ?_ | refine awp_ret ?_ | refine awp_exit ?_ | refine awp_region ?_ | refine awp_condM ?_ | refine And.intro ?_ ?_ | apply gQ_merge | apply gE_merge | exact EqV_w | exact EqE_w | exact EqV_ptr | exact EqE_ptr | exact EqV_msl | exact EqE_msl | exact EqV_agg | exact EqE_agg | exact EqV_fn | exact EqE_fn | exact EqV_gd | exact EqE_gd | refine gM_splitN ?_ ?_ | refine gM_split ?_ ?_ |  refine condM_splitDN ?_ ?_ | refine condM_splitD ?_ ?_ | refine condM_splitN ?_ ?_ | refine condM_split ?_ ?_ | refine condM_any ?_ ?_ | intro _) | (simp [*, hlt, hgk, hq]))
        all_goals try first | exact inI64 (by omega) (by omega) | omega
        all_goals (refine loopK_normal _ _ _ _ _ (k + 1) _ ?_ (by first | omega | (dsimp only; omega) | (simp; omega)) ?_; (· exact ⟨by omega, kj2⟩); (refine le_of ?_ ?_ <;> first | trivial | (simp [*]; done)))
    · have hke : k = l.length := by omega
      subst hke
      clear k1 k0 hg
      repeat' (first | (with_reducible first | refine awp_seq ?_ | refine awp_blockS ?_ | refine awp_blockC ?_ | refine awp_blockR ?_ | refine awp_skip ?_ | refine awp_ret ?_ | refine awp_exit ?_ | refine awp_region ?_ | refine awp_condM ?_ | refine And.intro ?_ ?_ | apply gQ_merge | apply gE_merge | exact EqV_w | exact EqE_w | exact EqV_ptr | exact EqE_ptr | exact EqV_msl | exact EqE_msl | exact EqV_agg | exact EqE_agg | exact EqV_fn | exact EqE_fn | exact EqV_gd | exact EqE_gd | refine gM_splitN ?_ ?_ | refine gM_split ?_ ?_ |  refine condM_splitDN ?_ ?_ | refine condM_splitD ?_ ?_ | refine condM_splitN ?_ ?_ | refine condM_split ?_ ?_ | refine condM_any ?_ ?_ | intro _) | (simp [*]))
      all_goals (refine finW_intro () ?_ ?_; (· exact kj); (refine le_of ?_ ?_ <;> first | trivial | (simp [*]; done)))
  · have hR := (show (∀ k, k < l.length → ¬ nth l k = s) → R = false from k0) hf
    subst hR
    clear k1 k0 hf hg
    repeat' (first | (with_reducible first | refine awp_seq ?_ | refine awp_blockS ?_ | refine awp_blockC ?_ | refine awp_blockR ?_ | refine awp_skip ?_ | refine awp_ret ?_ | refine awp_exit ?_ | refine awp_region ?_ | refine awp_condM ?_ | refine And.intro ?_ ?_ | apply gQ_merge | apply gE_merge | exact EqV_w | exact EqE_w | exact EqV_ptr | exact EqE_ptr | exact EqV_msl | exact EqE_msl | exact EqV_agg | exact EqE_agg | exact EqV_fn | exact EqE_fn | exact EqV_gd | exact EqE_gd | refine gM_splitN ?_ ?_ | refine gM_split ?_ ?_ |  refine condM_splitDN ?_ ?_ | refine condM_splitD ?_ ?_ | refine condM_splitN ?_ ?_ | refine condM_split ?_ ?_ | refine condM_any ?_ ?_ | intro _) | (simp [*]))
theorem five_c (r : Rule) : RealCall Tryz.prog 112 [.agg (cRule r)] (.sl 5 (strP (five r))) true := by
  unfold cRule
  refine realcall_intro Tryz.func112 (by kernel_rfl) rfl (Nat.le_of_ble_eq_true (by kernel_rfl)) ?_
  simp only [Tryz.results112, Tryz.ntmps112]
  repeat' (first | (with_reducible first | refine awp_seq ?_ | refine awp_blockS ?_ | refine awp_blockC ?_ | refine awp_blockR ?_ | refine awp_skip ?_ | refine awp_ret ?_ | refine awp_exit ?_ | refine awp_region ?_ | refine awp_condM ?_ | refine And.intro ?_ ?_ | apply gQ_merge | apply gE_merge | exact EqV_w | exact EqE_w | exact EqV_ptr | exact EqE_ptr | exact EqV_msl | exact EqE_msl | exact EqV_agg | exact EqE_agg | exact EqV_fn | exact EqE_fn | exact EqV_gd | exact EqE_gd | refine gM_splitN ?_ ?_ | refine gM_split ?_ ?_ |  refine condM_splitDN ?_ ?_ | refine condM_splitD ?_ ?_ | refine condM_splitN ?_ ?_ | refine condM_split ?_ ?_ | refine condM_any ?_ ?_ | intro _) | (simp [*]))
  all_goals rfl
set_option maxHeartbeats 4000000 in
theorem rCheckRule_c (l : List Acc) (hl : AccsIn l) (r : Rule) : RealCall Tryz.prog 40 [.sl l.length (cAccs l), .agg (cRule r)] (.int .i64 (ruleS l r)) true := by
  have c1 := rCheckAccounts_c l hl
  unfold pairI at c1
  have hlen := hl.len
  clear hl
  by_cases h0 : (accsS l).2 = 0
  · have q6 := fun k hk h1 => ruleS_miss (r := r) h0 k hk h1
    have q26 := fun ha k hk h1 => ruleS_dup (r := r) h0 ha k hk h1
    have q0 := fun ha hb => ruleS_ok (r := r) h0 ha hb
    have c3 := rSharesErr_c (sharesOf r) (show 3 < 100000 by decide)
    have e3 : ints (sharesOf r) = [.int .i64 r.s0, .int .i64 r.s1, .int .i64 r.s2] := rfl
    have e4 : (sharesOf r).length = 3 := rfl
    rw [e3, e4] at c3
    have c5 := five_c r
    generalize shareE (sharesOf r) = E at *
    generalize ruleS l r = R at *
    generalize accsS l = A at *
    clear e3 e4
    have k6 := keep q6
    have k26 := keep q26
    have k0 := keep q0
    clear q6 q26 q0
    have hsl : (strP (five r)).length = 5 := rfl
    have hg : ∀ k, k < 5 → nthP (strP (five r)) k = .str (nth (five r) k) := fun k hk => nthP_map _ (five r) k hk
    have ht : ∀ k, (strP (five r)).take k = strP ((five r).take k) := fun k => by simp [strP, List.map_take]
    unfold cRule at *
    refine realcall_intro Tryz.func40 (by kernel_rfl) rfl (Nat.le_of_ble_eq_true (by kernel_rfl)) ?_
    simp only [Tryz.results40, Tryz.ntmps40]
    repeat' (first | (with_reducible first | refine awp_seq ?_ | refine awp_blockS ?_ | refine awp_blockC ?_ | refine awp_blockR ?_ | refine awp_skip ?_ | refine awp_ret ?_ | refine awp_exit ?_ | refine awp_region ?_ | refine awp_regionD (id := 13) 8 mixed (by decide +kernel) ?_ | refine awp_condM ?_ | refine And.intro ?_ ?_ | apply gQ_merge | apply gE_merge | exact EqV_w | exact EqE_w | exact EqV_ptr | exact EqE_ptr | exact EqV_msl | exact EqE_msl | exact EqV_agg | exact EqE_agg | exact EqV_fn | exact EqE_fn | exact EqV_gd | exact EqE_gd | refine gM_splitN ?_ ?_ | refine gM_split ?_ ?_ |  refine condM_splitDN ?_ ?_ | refine condM_splitD ?_ ?_ | refine condM_splitN ?_ ?_ | refine condM_split ?_ ?_ | refine condM_any ?_ ?_ | refine cw (c1) ?_ | refine cw (c5) ?_ | intro _) | (simp [*, h0]) | (refine cw_eq (c1) ?_ ?_; (· (simp [*]; done))) | (refine cw_eq (c5) ?_ ?_; (· (simp [*]; done))))
    clear c1 c5 h0
    refine awp_for3 (fun (k : Nat) => k ≤ 5 ∧ (∀ j, j < k → hasS l (nth (five r) j) = true)) [0, 3, 7] (fun (k : Nat) => [(8, .w false false (.int .i64 k))]) [0] (fun (k : Nat) => []) (fun (k : Nat) => 5 - k) (fun (_u : Unit) => hasAll l r) [3, 7] (fun (_u : Unit) => []) [0] (fun (_u : Unit) => []) (0) ⟨Nat.zero_le _, fun j hj => absurd hj (Nat.not_lt_zero _)⟩ (by simp) (by simp) (fun k hk => ?_) (fun _u hf => ?_)
    · obtain ⟨hk, hj⟩ := hk
      have kj := keep hj
      clear hj c3
      by_cases hlt : k < 5
      · have c2 := rFind_c l (by omega) (nth (five r) k)
        have hgk := hg k hlt
        have hfh := find_has l (nth (five r) k)
        cases hb : hasS l (nth (five r) k) with
        | true =>
          have hF : ¬ findS l (nth (five r) k) < 0 := by have := of_decide_eq_true (hfh.trans hb); omega
          have kj2 : Keep (∀ j, j < k + 1 → hasS l (nth (five r) j) = true) := keep (fun j hj => by
            rcases Nat.lt_or_eq_of_le (Nat.le_of_lt_succ hj) with h | h
            · exact (show ∀ j, j < k → hasS l (nth (five r) j) = true from kj) j h
            · rw [h]; exact hb)
          clear hb k6 k26 k0 hfh hg ht
          generalize findS l (nth (five r) k) = F at *
          repeat' (first | (with_reducible first | refine awp_seq ?_ | refine awp_blockS ?_ | refine awp_blockC ?_ | refine awp_blockR ?_ | refine awp_skip ?_ | refine awp_ret ?_ | refine awp_exit ?_ | refine awp_region ?_ | refine awp_regionD (id := 13) 8 mixed (by decide +kernel) ?_ | refine awp_condM ?_ | refine And.intro ?_ ?_ | apply gQ_merge | apply gE_merge | exact EqV_w | exact EqE_w | exact EqV_ptr | exact EqE_ptr | exact EqV_msl | exact EqE_msl | exact EqV_agg | exact EqE_agg | exact EqV_fn | exact EqE_fn | exact EqV_gd | exact EqE_gd | refine gM_splitN ?_ ?_ | refine gM_split ?_ ?_ |  refine condM_splitDN ?_ ?_ | refine condM_splitD ?_ ?_ | refine condM_splitN ?_ ?_ | refine condM_split ?_ ?_ | refine condM_any ?_ ?_ | refine cw (c2) ?_ | intro _) | (simp [*, hlt, hgk, hF]) | (refine cw_eq (c2) ?_ ?_; (· (simp [*]; done))))
          all_goals try first | exact inI64 (by omega) (by omega) | omega
          all_goals (refine loopK_normal _ _ _ _ _ (k + 1) _ ?_ (by first | omega | (dsimp only; omega) | (simp; omega)) ?_; (· exact ⟨by omega, kj2⟩); (refine le_of ?_ ?_ <;> first | trivial | (simp [*]; done)))
        | false =>
          have hF : findS l (nth (five r) k) < 0 := by have := of_decide_eq_false (hfh.trans hb); omega
          have hR := (show ∀ k, k < 5 → hasS l (nth (five r) k) = false → R = 6 from k6) k hlt hb
          subst hR
          clear hb k6 k26 k0 hfh hg ht
          generalize findS l (nth (five r) k) = F at *
          repeat' (first | (with_reducible first | refine awp_seq ?_ | refine awp_blockS ?_ | refine awp_blockC ?_ | refine awp_blockR ?_ | refine awp_skip ?_ | refine awp_ret ?_ | refine awp_exit ?_ | refine awp_region ?_ | refine awp_regionD (id := 13) 8 mixed (by decide +kernel) ?_ | refine awp_condM ?_ | refine And.intro ?_ ?_ | apply gQ_merge | apply gE_merge | exact EqV_w | exact EqE_w | exact EqV_ptr | exact EqE_ptr | exact EqV_msl | exact EqE_msl | exact EqV_agg | exact EqE_agg | exact EqV_fn | exact EqE_fn | exact EqV_gd | exact EqE_gd | refine gM_splitN ?_ ?_ | refine gM_split ?_ ?_ |  refine condM_splitDN ?_ ?_ | refine condM_splitD ?_ ?_ | refine condM_splitN ?_ ?_ | refine condM_split ?_ ?_ | refine condM_any ?_ ?_ | refine cw (c2) ?_ | intro _) | (simp [*, hlt, hgk, hF]) | (refine cw_eq (c2) ?_ ?_; (· (simp [*]; done))))
          all_goals try first | exact inI64 (by omega) (by omega) | omega
      · have hke : k = 5 := by omega
        subst hke
        clear k6 k26 k0 hg ht
        repeat' (first | (with_reducible first | refine awp_seq ?_ | refine awp_blockS ?_ | refine awp_blockC ?_ | refine awp_blockR ?_ | refine awp_skip ?_ | refine awp_ret ?_ | refine awp_exit ?_ | refine awp_region ?_ | refine awp_regionD (id := 13) 8 mixed (by decide +kernel) ?_ | refine awp_condM ?_ | refine And.intro ?_ ?_ | apply gQ_merge | apply gE_merge | exact EqV_w | exact EqE_w | exact EqV_ptr | exact EqE_ptr | exact EqV_msl | exact EqE_msl | exact EqV_agg | exact EqE_agg | exact EqV_fn | exact EqE_fn | exact EqV_gd | exact EqE_gd | refine gM_splitN ?_ ?_ | refine gM_split ?_ ?_ |  refine condM_splitDN ?_ ?_ | refine condM_splitD ?_ ?_ | refine condM_splitN ?_ ?_ | refine condM_split ?_ ?_ | refine condM_any ?_ ?_ | intro _) | (simp [*]))
        all_goals (refine finW_intro () ?_ ?_; (· exact kj); (refine le_of ?_ ?_ <;> first | trivial | (simp [*]; done)))
    have kf := keep hf
    clear hf k6
    repeat' (first | (with_reducible first | refine awp_seq ?_ | refine awp_blockS ?_ | refine awp_blockC ?_ | refine awp_blockR ?_ | refine awp_skip ?_ | refine awp_ret ?_ | refine awp_exit ?_ | refine awp_region ?_ | refine awp_regionD (id := 13) 8 mixed (by decide +kernel) ?_ | refine awp_condM ?_ | refine And.intro ?_ ?_ | apply gQ_merge | apply gE_merge | exact EqV_w | exact EqE_w | exact EqV_ptr | exact EqE_ptr | exact EqV_msl | exact EqE_msl | exact EqV_agg | exact EqE_agg | exact EqV_fn | exact EqE_fn | exact EqV_gd | exact EqE_gd | refine gM_splitN ?_ ?_ | refine gM_split ?_ ?_ |  refine condM_splitDN ?_ ?_ | refine condM_splitD ?_ ?_ | refine condM_splitN ?_ ?_ | refine condM_split ?_ ?_ | refine condM_any ?_ ?_ | intro _) | (simp [*]))
    refine awp_for4 1 (fun (k : Nat) => k ≤ 5 ∧ (∀ j, j < k → Lib.containsS ((five r).take j) (nth (five r) j) = false)) [7] (fun (k : Nat) => [(9, .w false false (.int .i64 k)), (3, .w false false (.ip [.str r.owner, .str r.driver, .str r.office, .int .i64 r.s0, .int .i64 r.s1, .int .i64 r.s2, .str r.cash, .str r.vouch] 0))]) [] (fun (k : Nat) => []) (fun (k : Nat) => 5 - k) (fun (_u : Unit) => apart r) [] (fun (_u : Unit) => [(3, .w false false (.ip [.str r.owner, .str r.driver, .str r.office, .int .i64 r.s0, .int .i64 r.s1, .int .i64 r.s2, .str r.cash, .str r.vouch] 0))]) [] (fun (_u : Unit) => []) (0) ⟨Nat.zero_le _, fun j hj => absurd hj (Nat.not_lt_zero _)⟩ (le_gen [0] (by simp) (by simp)) (fun k hk => ?_) (fun _u hf => ?_)
    · obtain ⟨hk, hj⟩ := hk
      have kj := keep hj
      clear hj c3
      by_cases hlt : k < 5
      · have c2 := hasText_c ((five r).take k) (by rw [List.length_take]; omega) (nth (five r) k)
        rw [take_len _ _ (show k ≤ (five r).length from hk)] at c2
        have hgk := hg k hlt
        have htk := ht k
        clear hg ht
        cases hb : Lib.containsS ((five r).take k) (nth (five r) k) with
        | false =>
          rw [hb] at c2
          have kj2 : Keep (∀ j, j < k + 1 → Lib.containsS ((five r).take j) (nth (five r) j) = false) := keep (fun j hj => by
            rcases Nat.lt_or_eq_of_le (Nat.le_of_lt_succ hj) with h | h
            · exact (show ∀ j, j < k → Lib.containsS ((five r).take j) (nth (five r) j) = false from kj) j h
            · rw [h]; exact hb)
          clear hb k26 k0 kf kj
          repeat' (first | (with_reducible first | refine awp_seq ?_ | refine awp_blockS ?_ | refine awp_blockC ?_ | refine awp_blockR ?_ | refine awp_skip ?_ | refine awp_ret ?_ | refine awp_exit ?_ | refine awp_region ?_ | refine awp_regionD (id := 13) 8 mixed (by decide +kernel) ?_ | refine awp_condM ?_ | refine And.intro ?_ ?_ | apply gQ_merge | apply gE_merge | exact EqV_w | exact EqE_w | exact EqV_ptr | exact EqE_ptr | exact EqV_msl | exact EqE_msl | exact EqV_agg | exact EqE_agg | exact EqV_fn | exact EqE_fn | exact EqV_gd | exact EqE_gd | refine gM_splitN ?_ ?_ | refine gM_split ?_ ?_ |  refine condM_splitDN ?_ ?_ | refine condM_splitD ?_ ?_ | refine condM_splitN ?_ ?_ | refine condM_split ?_ ?_ | refine condM_any ?_ ?_ | refine cw (c2) ?_ | intro _) | (simp [*, hlt, hgk, htk]) | (refine cw_eq (c2) ?_ ?_; (· (simp [*]; done))))
          all_goals try first | exact inI64 (by omega) (by omega) | omega
          all_goals (refine loopK_normal _ _ _ _ _ (k + 1) _ ?_ (by first | omega | (dsimp only; omega) | (simp; omega)) ?_; (· exact ⟨by omega, kj2⟩); (refine le_of ?_ ?_ <;> first | trivial | (simp [*]; done)))
        | true =>
          rw [hb] at c2
          have hR := (show hasAll l r → ∀ k, k < 5 → Lib.containsS ((five r).take k) (nth (five r) k) = true → R = 26 from k26) kf k hlt hb
          subst hR
          clear hb k26 k0 kf kj
          repeat' (first | (with_reducible first | refine awp_seq ?_ | refine awp_blockS ?_ | refine awp_blockC ?_ | refine awp_blockR ?_ | refine awp_skip ?_ | refine awp_ret ?_ | refine awp_exit ?_ | refine awp_region ?_ | refine awp_regionD (id := 13) 8 mixed (by decide +kernel) ?_ | refine awp_condM ?_ | refine And.intro ?_ ?_ | apply gQ_merge | apply gE_merge | exact EqV_w | exact EqE_w | exact EqV_ptr | exact EqE_ptr | exact EqV_msl | exact EqE_msl | exact EqV_agg | exact EqE_agg | exact EqV_fn | exact EqE_fn | exact EqV_gd | exact EqE_gd | refine gM_splitN ?_ ?_ | refine gM_split ?_ ?_ |  refine condM_splitDN ?_ ?_ | refine condM_splitD ?_ ?_ | refine condM_splitN ?_ ?_ | refine condM_split ?_ ?_ | refine condM_any ?_ ?_ | refine cw (c2) ?_ | intro _) | (simp [*, hlt, hgk, htk]) | (refine cw_eq (c2) ?_ ?_; (· (simp [*]; done))))
          all_goals try first | exact inI64 (by omega) (by omega) | omega
      · have hke : k = 5 := by omega
        subst hke
        clear k26 k0 kf hg ht
        repeat' (first | (with_reducible first | refine awp_seq ?_ | refine awp_blockS ?_ | refine awp_blockC ?_ | refine awp_blockR ?_ | refine awp_skip ?_ | refine awp_ret ?_ | refine awp_exit ?_ | refine awp_region ?_ | refine awp_regionD (id := 13) 8 mixed (by decide +kernel) ?_ | refine awp_condM ?_ | refine And.intro ?_ ?_ | apply gQ_merge | apply gE_merge | exact EqV_w | exact EqE_w | exact EqV_ptr | exact EqE_ptr | exact EqV_msl | exact EqE_msl | exact EqV_agg | exact EqE_agg | exact EqV_fn | exact EqE_fn | exact EqV_gd | exact EqE_gd | refine gM_splitN ?_ ?_ | refine gM_split ?_ ?_ |  refine condM_splitDN ?_ ?_ | refine condM_splitD ?_ ?_ | refine condM_splitN ?_ ?_ | refine condM_split ?_ ?_ | refine condM_any ?_ ?_ | intro _) | (simp [*]))
        all_goals (refine finW_intro () ?_ ?_; (· exact kj); (refine le_of ?_ ?_ <;> first | trivial | (simp [*]; done)))
    · have hR := (show hasAll l r → apart r → R = E from k0) kf hf
      subst hR
      clear hf kf k26 k0 hg ht
      repeat' (first | (with_reducible first | refine awp_seq ?_ | refine awp_blockS ?_ | refine awp_blockC ?_ | refine awp_blockR ?_ | refine awp_skip ?_ | refine awp_ret ?_ | refine awp_exit ?_ | refine awp_region ?_ | refine awp_regionD (id := 13) 8 mixed (by decide +kernel) ?_ | refine awp_condM ?_ | refine And.intro ?_ ?_ | apply gQ_merge | apply gE_merge | exact EqV_w | exact EqE_w | exact EqV_ptr | exact EqE_ptr | exact EqV_msl | exact EqE_msl | exact EqV_agg | exact EqE_agg | exact EqV_fn | exact EqE_fn | exact EqV_gd | exact EqE_gd | refine gM_splitN ?_ ?_ | refine gM_split ?_ ?_ |  refine condM_splitDN ?_ ?_ | refine condM_splitD ?_ ?_ | refine condM_splitN ?_ ?_ | refine condM_split ?_ ?_ | refine condM_any ?_ ?_ | refine cw (c3) ?_ | intro _) | (simp [*]) | (refine cw_eq (c3) ?_ ?_; (· (simp [*]; done))))
  · rw [ruleS_bad r h0]
    generalize accsS l = A at *
    unfold cRule
    refine realcall_intro Tryz.func40 (by kernel_rfl) rfl (Nat.le_of_ble_eq_true (by kernel_rfl)) ?_
    simp only [Tryz.results40, Tryz.ntmps40]
    repeat' (first | (with_reducible first | refine awp_seq ?_ | refine awp_blockS ?_ | refine awp_blockC ?_ | refine awp_blockR ?_ | refine awp_skip ?_ | refine awp_ret ?_ | refine awp_exit ?_ | refine awp_region ?_ | refine awp_regionD (id := 13) 8 mixed (by decide +kernel) ?_ | refine awp_condM ?_ | refine And.intro ?_ ?_ | apply gQ_merge | apply gE_merge | exact EqV_w | exact EqE_w | exact EqV_ptr | exact EqE_ptr | exact EqV_msl | exact EqE_msl | exact EqV_agg | exact EqE_agg | exact EqV_fn | exact EqE_fn | exact EqV_gd | exact EqE_gd | refine gM_splitN ?_ ?_ | refine gM_split ?_ ?_ |  refine condM_splitDN ?_ ?_ | refine condM_splitD ?_ ?_ | refine condM_splitN ?_ ?_ | refine condM_split ?_ ?_ | refine condM_any ?_ ?_ | refine cw (c1) ?_ | intro _) | (simp [*, h0]) | (refine cw_eq (c1) ?_ ?_; (· (simp [*]; done))))
theorem isMoney_c (x : Int) : RealCall Tryz.prog 114 [.int .i64 x] (.bool (winB x 0 1000000000)) true := by
  refine realcall_intro Tryz.func114 (by kernel_rfl) rfl (Nat.le_of_ble_eq_true (by kernel_rfl)) ?_
  simp only [Tryz.results114, Tryz.ntmps114]
  repeat' (first | (with_reducible first | refine awp_seq ?_ | refine awp_blockS ?_ | refine awp_blockC ?_ | refine awp_blockR ?_ | refine awp_skip ?_ | refine awp_ret ?_ | refine awp_exit ?_ | refine awp_region ?_ | refine awp_condM ?_ | refine And.intro ?_ ?_ | apply gQ_merge | apply gE_merge | exact EqV_w | exact EqE_w | exact EqV_ptr | exact EqE_ptr | exact EqV_msl | exact EqE_msl | exact EqV_agg | exact EqE_agg | exact EqV_fn | exact EqE_fn | exact EqV_gd | exact EqE_gd | refine gM_splitN ?_ ?_ | refine gM_split ?_ ?_ |  refine condM_splitDN ?_ ?_ | refine condM_splitD ?_ ?_ | refine condM_splitN ?_ ?_ | refine condM_split ?_ ?_ | refine condM_any ?_ ?_ | refine cw (rWithin_c _ _ _) ?_ | intro _) | (simp [*]) | (refine cw_eq (rWithin_c _ _ _) ?_ ?_; (· (simp [*]; done))))
theorem tooMuch_c (e : Entry) (hl : e.lines.length < 100000) : RealCall Tryz.prog 115 [.agg (cEntry e)] (.bool (muchB e)) true := by
  have q1 : ∀ k, k < e.lines.length → greatB (nth e.lines k) = true → muchB e = true := fun k hk h => by
    unfold muchB
    rw [List.any_eq_true.2 ⟨nth e.lines k, by
      simp only [nth, List.getD_eq_getElem?_getD, List.getElem?_eq_getElem hk, Option.getD_some]
      exact List.getElem_mem hk, h⟩]
    rfl
  have q0 : (∀ k, k < e.lines.length → greatB (nth e.lines k) = false) → muchB e = decide (12 < (e.lines.length : Int)) := fun h => by
    unfold muchB
    have : e.lines.any greatB = false := by
      cases ha : e.lines.any greatB with
      | false => rfl
      | true =>
        obtain ⟨y, hy, hg⟩ := List.any_eq_true.1 ha
        obtain ⟨k, hk, rfl⟩ := mem_nth hy
        rw [h k hk] at hg; cases hg
    rw [this, Bool.false_or]
    exact decide_eq_decide.2 (by omega)
  generalize muchB e = R at *
  have k1 := keep q1
  have k0 := keep q0
  clear q1 q0
  obtain ⟨ed, en, el⟩ := e
  unfold cEntry
  dsimp only at *
  refine realcall_intro Tryz.func115 (by kernel_rfl) rfl (Nat.le_of_ble_eq_true (by kernel_rfl)) ?_
  simp only [Tryz.results115, Tryz.ntmps115]
  repeat' (first | (with_reducible first | refine awp_seq ?_ | refine awp_blockS ?_ | refine awp_blockC ?_ | refine awp_blockR ?_ | refine awp_skip ?_ | refine awp_ret ?_ | refine awp_exit ?_ | refine awp_region ?_ | refine awp_condM ?_ | refine And.intro ?_ ?_ | apply gQ_merge | apply gE_merge | exact EqV_w | exact EqE_w | exact EqV_ptr | exact EqE_ptr | exact EqV_msl | exact EqE_msl | exact EqV_agg | exact EqE_agg | exact EqV_fn | exact EqE_fn | exact EqV_gd | exact EqE_gd | refine gM_splitN ?_ ?_ | refine gM_split ?_ ?_ |  refine condM_splitDN ?_ ?_ | refine condM_splitD ?_ ?_ | refine condM_splitN ?_ ?_ | refine condM_split ?_ ?_ | refine condM_any ?_ ?_ | intro _) | (simp [*]))
  refine awp_for3 (fun (k : Nat) => k ≤ el.length ∧ (∀ j, j < k → greatB (nth el j) = false)) [1] (fun (k : Nat) => [(3, .w false false (.int .i64 k))]) [0] (fun (k : Nat) => []) (fun (k : Nat) => el.length - k) (fun (_u : Unit) => ∀ j, j < el.length → greatB (nth el j) = false) [1] (fun (_u : Unit) => []) [0] (fun (_u : Unit) => []) (0) ⟨Nat.zero_le _, fun j hj => absurd hj (Nat.not_lt_zero _)⟩ (by simp) (by simp) (fun k hk => ?_) (fun _u hf => ?_)
  · obtain ⟨hk, hj⟩ := hk
    have kj := keep hj
    clear hj
    by_cases hlt : k < el.length
    · have c1 := rSmall_c (nth el k).amt 1000000000 (by decide) (by decide)
      cases hb : smallB (nth el k).amt 1000000000 with
      | true =>
        rw [hb] at c1
        have kj2 : Keep (∀ j, j < k + 1 → greatB (nth el j) = false) := keep (fun j hj => by
          rcases Nat.lt_or_eq_of_le (Nat.le_of_lt_succ hj) with h | h
          · exact (show ∀ j, j < k → greatB (nth el j) = false from kj) j h
          · rw [h]; unfold greatB; rw [hb]; rfl)
        clear hb k1 k0
        repeat' (first | (with_reducible first | refine awp_seq ?_ | refine awp_blockS ?_ | refine awp_blockC ?_ | refine awp_blockR ?_ | refine awp_skip ?_ | refine awp_ret ?_ | refine awp_exit ?_ | refine awp_region ?_ | refine awp_condM ?_ | refine And.intro ?_ ?_ | apply gQ_merge | apply gE_merge | exact EqV_w | exact EqE_w | exact EqV_ptr | exact EqE_ptr | exact EqV_msl | exact EqE_msl | exact EqV_agg | exact EqE_agg | exact EqV_fn | exact EqE_fn | exact EqV_gd | exact EqE_gd | refine gM_splitN ?_ ?_ | refine gM_split ?_ ?_ |  refine condM_splitDN ?_ ?_ | refine condM_splitD ?_ ?_ | refine condM_splitN ?_ ?_ | refine condM_split ?_ ?_ | refine condM_any ?_ ?_ | refine cw (c1) ?_ | intro _) | (simp [*, hlt]) | (refine cw_eq (c1) ?_ ?_; (· (simp [*]; done))))
        all_goals try first | exact inI64 (by omega) (by omega) | omega
        all_goals (refine loopK_normal _ _ _ _ _ (k + 1) _ ?_ (by first | omega | (dsimp only; omega) | (simp; omega)) ?_; (· exact ⟨by omega, kj2⟩); (refine le_of ?_ ?_ <;> first | trivial | (simp [*]; done)))
      | false =>
        rw [hb] at c1
        have hR := (show ∀ k, k < el.length → greatB (nth el k) = true → R = true from k1) k hlt (by unfold greatB; rw [hb]; rfl)
        subst hR
        clear hb k1 k0
        repeat' (first | (with_reducible first | refine awp_seq ?_ | refine awp_blockS ?_ | refine awp_blockC ?_ | refine awp_blockR ?_ | refine awp_skip ?_ | refine awp_ret ?_ | refine awp_exit ?_ | refine awp_region ?_ | refine awp_condM ?_ | refine And.intro ?_ ?_ | apply gQ_merge | apply gE_merge | exact EqV_w | exact EqE_w | exact EqV_ptr | exact EqE_ptr | exact EqV_msl | exact EqE_msl | exact EqV_agg | exact EqE_agg | exact EqV_fn | exact EqE_fn | exact EqV_gd | exact EqE_gd | refine gM_splitN ?_ ?_ | refine gM_split ?_ ?_ |  refine condM_splitDN ?_ ?_ | refine condM_splitD ?_ ?_ | refine condM_splitN ?_ ?_ | refine condM_split ?_ ?_ | refine condM_any ?_ ?_ | refine cw (c1) ?_ | intro _) | (simp [*, hlt]) | (refine cw_eq (c1) ?_ ?_; (· (simp [*]; done))))
        all_goals try first | exact inI64 (by omega) (by omega) | omega
    · have hke : k = el.length := by omega
      subst hke
      clear k1 k0
      repeat' (first | (with_reducible first | refine awp_seq ?_ | refine awp_blockS ?_ | refine awp_blockC ?_ | refine awp_blockR ?_ | refine awp_skip ?_ | refine awp_ret ?_ | refine awp_exit ?_ | refine awp_region ?_ | refine awp_condM ?_ | refine And.intro ?_ ?_ | apply gQ_merge | apply gE_merge | exact EqV_w | exact EqE_w | exact EqV_ptr | exact EqE_ptr | exact EqV_msl | exact EqE_msl | exact EqV_agg | exact EqE_agg | exact EqV_fn | exact EqE_fn | exact EqV_gd | exact EqE_gd | refine gM_splitN ?_ ?_ | refine gM_split ?_ ?_ |  refine condM_splitDN ?_ ?_ | refine condM_splitD ?_ ?_ | refine condM_splitN ?_ ?_ | refine condM_split ?_ ?_ | refine condM_any ?_ ?_ | intro _) | (simp [*]))
      all_goals (refine finW_intro () ?_ ?_; (· exact kj); (refine le_of ?_ ?_ <;> first | trivial | (simp [*]; done)))
  · have hR := (show (∀ k, k < el.length → greatB (nth el k) = false) → R = decide (12 < (el.length : Int)) from k0) hf
    subst hR
    clear hf k1 k0
    repeat' (first | (with_reducible first | refine awp_seq ?_ | refine awp_blockS ?_ | refine awp_blockC ?_ | refine awp_blockR ?_ | refine awp_skip ?_ | refine awp_ret ?_ | refine awp_exit ?_ | refine awp_region ?_ | refine awp_condM ?_ | refine And.intro ?_ ?_ | apply gQ_merge | apply gE_merge | exact EqV_w | exact EqE_w | exact EqV_ptr | exact EqE_ptr | exact EqV_msl | exact EqE_msl | exact EqV_agg | exact EqE_agg | exact EqV_fn | exact EqE_fn | exact EqV_gd | exact EqE_gd | refine gM_splitN ?_ ?_ | refine gM_split ?_ ?_ |  refine condM_splitDN ?_ ?_ | refine condM_splitD ?_ ?_ | refine condM_splitN ?_ ?_ | refine condM_split ?_ ?_ | refine condM_any ?_ ?_ | intro _) | (simp [*]))
theorem moneyE_bad {l : List Int} {x : Int} (h : x ∈ l) (hw : winB x 0 1000000000 = false) : moneyE l = 2 := by
  unfold moneyE
  rw [List.any_eq_true.2 ⟨x, h, by rw [hw]; rfl⟩]
  rfl
theorem moneyE_ok {l : List Int} (h : ∀ x ∈ l, winB x 0 1000000000 = true) : moneyE l = 0 := by
  unfold moneyE
  have : (l.any fun x => !winB x 0 1000000000) = false := by
    cases ha : l.any fun x => !winB x 0 1000000000 with
    | false => rfl
    | true =>
      obtain ⟨x, hx, hp⟩ := List.any_eq_true.1 ha
      rw [h x hx] at hp; cases hp
  rw [this]; rfl
set_option maxHeartbeats 4000000 in
theorem rComplaintErr_c (c : Compl) (hn : c.note.size < 1000000) : RealCall Tryz.prog 57 [.agg (cCompl c)] (.int .i64 (decH c)) true := by
  have c1 := rDateErr_c c.date
  have c2 := rNoteErr_c c.note hn
  have m1 := isMoney_c c.paid
  have m2 := isMoney_c c.lo
  have m3 := isMoney_c c.hi
  have m4 := isMoney_c c.slack
  unfold decH
  have hb1 := fun h => moneyE_bad (l := [c.paid, c.lo, c.hi, c.slack]) (x := c.paid) (by simp) h
  have hb2 := fun h => moneyE_bad (l := [c.paid, c.lo, c.hi, c.slack]) (x := c.lo) (by simp) h
  have hb3 := fun h => moneyE_bad (l := [c.paid, c.lo, c.hi, c.slack]) (x := c.hi) (by simp) h
  have hb4 := fun h => moneyE_bad (l := [c.paid, c.lo, c.hi, c.slack]) (x := c.slack) (by simp) h
  have hok : winB c.paid 0 1000000000 = true → winB c.lo 0 1000000000 = true → winB c.hi 0 1000000000 = true → winB c.slack 0 1000000000 = true → moneyE [c.paid, c.lo, c.hi, c.slack] = 0 := fun h1 h2 h3 h4 => moneyE_ok (fun x hx => by
    simp only [List.mem_cons, List.not_mem_nil, or_false] at hx
    rcases hx with rfl | rfl | rfl | rfl <;> assumption)
  generalize moneyE [c.paid, c.lo, c.hi, c.slack] = M at *
  obtain ⟨cd, cn, cp, cl, ch, cs⟩ := c
  unfold cCompl
  dsimp only at *
  generalize dateE cd = D at *
  generalize noteE cn = E at *
  by_cases h1 : D = 0
  · subst h1
    by_cases h2 : E = 0
    · subst h2
      cases w1 : winB cp 0 1000000000 with
      | false =>
        have := hb1 w1; subst this
        rw [w1] at m1
        clear hb1 hb2 hb3 hb4 hok w1
        refine realcall_intro Tryz.func57 (by kernel_rfl) rfl (Nat.le_of_ble_eq_true (by kernel_rfl)) ?_
        simp only [Tryz.results57, Tryz.ntmps57]
        repeat' (first | (with_reducible first | refine awp_seq ?_ | refine awp_blockS ?_ | refine awp_blockC ?_ | refine awp_blockR ?_ | refine awp_skip ?_ | refine awp_ret ?_ | refine awp_exit ?_ | refine awp_region ?_ | refine awp_condM ?_ | refine And.intro ?_ ?_ | apply gQ_merge | apply gE_merge | exact EqV_w | exact EqE_w | exact EqV_ptr | exact EqE_ptr | exact EqV_msl | exact EqE_msl | exact EqV_agg | exact EqE_agg | exact EqV_fn | exact EqE_fn | exact EqV_gd | exact EqE_gd | refine gM_splitN ?_ ?_ | refine gM_split ?_ ?_ |  refine condM_splitDN ?_ ?_ | refine condM_splitD ?_ ?_ | refine condM_splitN ?_ ?_ | refine condM_split ?_ ?_ | refine condM_any ?_ ?_ | refine cw (c1) ?_ | refine cw (c2) ?_ | refine cw (m1) ?_ | refine cw (m2) ?_ | refine cw (m3) ?_ | refine cw (m4) ?_ | intro _) | (simp [*, firstS]) | (refine cw_eq (c1) ?_ ?_; (· (simp [*]; done))) | (refine cw_eq (c2) ?_ ?_; (· (simp [*]; done))) | (refine cw_eq (m1) ?_ ?_; (· (simp [*]; done))) | (refine cw_eq (m2) ?_ ?_; (· (simp [*]; done))) | (refine cw_eq (m3) ?_ ?_; (· (simp [*]; done))) | (refine cw_eq (m4) ?_ ?_; (· (simp [*]; done))))
      | true =>
        rw [w1] at m1
        cases w2 : winB cl 0 1000000000 with
        | false =>
          have := hb2 w2; subst this
          rw [w2] at m2
          clear hb1 hb2 hb3 hb4 hok w1 w2
          refine realcall_intro Tryz.func57 (by kernel_rfl) rfl (Nat.le_of_ble_eq_true (by kernel_rfl)) ?_
          simp only [Tryz.results57, Tryz.ntmps57]
          repeat' (first | (with_reducible first | refine awp_seq ?_ | refine awp_blockS ?_ | refine awp_blockC ?_ | refine awp_blockR ?_ | refine awp_skip ?_ | refine awp_ret ?_ | refine awp_exit ?_ | refine awp_region ?_ | refine awp_condM ?_ | refine And.intro ?_ ?_ | apply gQ_merge | apply gE_merge | exact EqV_w | exact EqE_w | exact EqV_ptr | exact EqE_ptr | exact EqV_msl | exact EqE_msl | exact EqV_agg | exact EqE_agg | exact EqV_fn | exact EqE_fn | exact EqV_gd | exact EqE_gd | refine gM_splitN ?_ ?_ | refine gM_split ?_ ?_ |  refine condM_splitDN ?_ ?_ | refine condM_splitD ?_ ?_ | refine condM_splitN ?_ ?_ | refine condM_split ?_ ?_ | refine condM_any ?_ ?_ | refine cw (c1) ?_ | refine cw (c2) ?_ | refine cw (m1) ?_ | refine cw (m2) ?_ | refine cw (m3) ?_ | refine cw (m4) ?_ | intro _) | (simp [*, firstS]) | (refine cw_eq (c1) ?_ ?_; (· (simp [*]; done))) | (refine cw_eq (c2) ?_ ?_; (· (simp [*]; done))) | (refine cw_eq (m1) ?_ ?_; (· (simp [*]; done))) | (refine cw_eq (m2) ?_ ?_; (· (simp [*]; done))) | (refine cw_eq (m3) ?_ ?_; (· (simp [*]; done))) | (refine cw_eq (m4) ?_ ?_; (· (simp [*]; done))))
        | true =>
          rw [w2] at m2
          cases w3 : winB ch 0 1000000000 with
          | false =>
            have := hb3 w3; subst this
            rw [w3] at m3
            clear hb1 hb2 hb3 hb4 hok w1 w2 w3
            refine realcall_intro Tryz.func57 (by kernel_rfl) rfl (Nat.le_of_ble_eq_true (by kernel_rfl)) ?_
            simp only [Tryz.results57, Tryz.ntmps57]
            repeat' (first | (with_reducible first | refine awp_seq ?_ | refine awp_blockS ?_ | refine awp_blockC ?_ | refine awp_blockR ?_ | refine awp_skip ?_ | refine awp_ret ?_ | refine awp_exit ?_ | refine awp_region ?_ | refine awp_condM ?_ | refine And.intro ?_ ?_ | apply gQ_merge | apply gE_merge | exact EqV_w | exact EqE_w | exact EqV_ptr | exact EqE_ptr | exact EqV_msl | exact EqE_msl | exact EqV_agg | exact EqE_agg | exact EqV_fn | exact EqE_fn | exact EqV_gd | exact EqE_gd | refine gM_splitN ?_ ?_ | refine gM_split ?_ ?_ |  refine condM_splitDN ?_ ?_ | refine condM_splitD ?_ ?_ | refine condM_splitN ?_ ?_ | refine condM_split ?_ ?_ | refine condM_any ?_ ?_ | refine cw (c1) ?_ | refine cw (c2) ?_ | refine cw (m1) ?_ | refine cw (m2) ?_ | refine cw (m3) ?_ | refine cw (m4) ?_ | intro _) | (simp [*, firstS]) | (refine cw_eq (c1) ?_ ?_; (· (simp [*]; done))) | (refine cw_eq (c2) ?_ ?_; (· (simp [*]; done))) | (refine cw_eq (m1) ?_ ?_; (· (simp [*]; done))) | (refine cw_eq (m2) ?_ ?_; (· (simp [*]; done))) | (refine cw_eq (m3) ?_ ?_; (· (simp [*]; done))) | (refine cw_eq (m4) ?_ ?_; (· (simp [*]; done))))
          | true =>
            rw [w3] at m3
            cases w4 : winB cs 0 1000000000 with
            | false =>
              have := hb4 w4; subst this
              rw [w4] at m4
              clear hb1 hb2 hb3 hb4 hok w1 w2 w3 w4
              refine realcall_intro Tryz.func57 (by kernel_rfl) rfl (Nat.le_of_ble_eq_true (by kernel_rfl)) ?_
              simp only [Tryz.results57, Tryz.ntmps57]
              repeat' (first | (with_reducible first | refine awp_seq ?_ | refine awp_blockS ?_ | refine awp_blockC ?_ | refine awp_blockR ?_ | refine awp_skip ?_ | refine awp_ret ?_ | refine awp_exit ?_ | refine awp_region ?_ | refine awp_condM ?_ | refine And.intro ?_ ?_ | apply gQ_merge | apply gE_merge | exact EqV_w | exact EqE_w | exact EqV_ptr | exact EqE_ptr | exact EqV_msl | exact EqE_msl | exact EqV_agg | exact EqE_agg | exact EqV_fn | exact EqE_fn | exact EqV_gd | exact EqE_gd | refine gM_splitN ?_ ?_ | refine gM_split ?_ ?_ |  refine condM_splitDN ?_ ?_ | refine condM_splitD ?_ ?_ | refine condM_splitN ?_ ?_ | refine condM_split ?_ ?_ | refine condM_any ?_ ?_ | refine cw (c1) ?_ | refine cw (c2) ?_ | refine cw (m1) ?_ | refine cw (m2) ?_ | refine cw (m3) ?_ | refine cw (m4) ?_ | intro _) | (simp [*, firstS]) | (refine cw_eq (c1) ?_ ?_; (· (simp [*]; done))) | (refine cw_eq (c2) ?_ ?_; (· (simp [*]; done))) | (refine cw_eq (m1) ?_ ?_; (· (simp [*]; done))) | (refine cw_eq (m2) ?_ ?_; (· (simp [*]; done))) | (refine cw_eq (m3) ?_ ?_; (· (simp [*]; done))) | (refine cw_eq (m4) ?_ ?_; (· (simp [*]; done))))
            | true =>
              have := hok w1 w2 w3 w4; subst this
              rw [w4] at m4
              clear hb1 hb2 hb3 hb4 hok w1 w2 w3 w4
              by_cases hle : ch < cl
              · have e : errUnless (decide (cl ≤ ch)) 9 = 9 := by rw [decide_eq_false (by omega)]; rfl
                rw [e]
                refine realcall_intro Tryz.func57 (by kernel_rfl) rfl (Nat.le_of_ble_eq_true (by kernel_rfl)) ?_
                simp only [Tryz.results57, Tryz.ntmps57]
                repeat' (first | (with_reducible first | refine awp_seq ?_ | refine awp_blockS ?_ | refine awp_blockC ?_ | refine awp_blockR ?_ | refine awp_skip ?_ | refine awp_ret ?_ | refine awp_exit ?_ | refine awp_region ?_ | refine awp_condM ?_ | refine And.intro ?_ ?_ | apply gQ_merge | apply gE_merge | exact EqV_w | exact EqE_w | exact EqV_ptr | exact EqE_ptr | exact EqV_msl | exact EqE_msl | exact EqV_agg | exact EqE_agg | exact EqV_fn | exact EqE_fn | exact EqV_gd | exact EqE_gd | refine gM_splitN ?_ ?_ | refine gM_split ?_ ?_ |  refine condM_splitDN ?_ ?_ | refine condM_splitD ?_ ?_ | refine condM_splitN ?_ ?_ | refine condM_split ?_ ?_ | refine condM_any ?_ ?_ | refine cw (c1) ?_ | refine cw (c2) ?_ | refine cw (m1) ?_ | refine cw (m2) ?_ | refine cw (m3) ?_ | refine cw (m4) ?_ | intro _) | (simp [*, firstS, hle]) | (refine cw_eq (c1) ?_ ?_; (· (simp [*]; done))) | (refine cw_eq (c2) ?_ ?_; (· (simp [*]; done))) | (refine cw_eq (m1) ?_ ?_; (· (simp [*]; done))) | (refine cw_eq (m2) ?_ ?_; (· (simp [*]; done))) | (refine cw_eq (m3) ?_ ?_; (· (simp [*]; done))) | (refine cw_eq (m4) ?_ ?_; (· (simp [*]; done))))
              · have e : errUnless (decide (cl ≤ ch)) 9 = 0 := by rw [decide_eq_true (by omega)]; rfl
                rw [e]
                refine realcall_intro Tryz.func57 (by kernel_rfl) rfl (Nat.le_of_ble_eq_true (by kernel_rfl)) ?_
                simp only [Tryz.results57, Tryz.ntmps57]
                repeat' (first | (with_reducible first | refine awp_seq ?_ | refine awp_blockS ?_ | refine awp_blockC ?_ | refine awp_blockR ?_ | refine awp_skip ?_ | refine awp_ret ?_ | refine awp_exit ?_ | refine awp_region ?_ | refine awp_condM ?_ | refine And.intro ?_ ?_ | apply gQ_merge | apply gE_merge | exact EqV_w | exact EqE_w | exact EqV_ptr | exact EqE_ptr | exact EqV_msl | exact EqE_msl | exact EqV_agg | exact EqE_agg | exact EqV_fn | exact EqE_fn | exact EqV_gd | exact EqE_gd | refine gM_splitN ?_ ?_ | refine gM_split ?_ ?_ |  refine condM_splitDN ?_ ?_ | refine condM_splitD ?_ ?_ | refine condM_splitN ?_ ?_ | refine condM_split ?_ ?_ | refine condM_any ?_ ?_ | refine cw (c1) ?_ | refine cw (c2) ?_ | refine cw (m1) ?_ | refine cw (m2) ?_ | refine cw (m3) ?_ | refine cw (m4) ?_ | intro _) | (simp [*, firstS, hle]) | (refine cw_eq (c1) ?_ ?_; (· (simp [*]; done))) | (refine cw_eq (c2) ?_ ?_; (· (simp [*]; done))) | (refine cw_eq (m1) ?_ ?_; (· (simp [*]; done))) | (refine cw_eq (m2) ?_ ?_; (· (simp [*]; done))) | (refine cw_eq (m3) ?_ ?_; (· (simp [*]; done))) | (refine cw_eq (m4) ?_ ?_; (· (simp [*]; done))))
    · have hv : firstS [0, E, M, errUnless (decide (cl ≤ ch)) 9] = E := by simp [firstS, h2]
      rw [hv]
      clear hb1 hb2 hb3 hb4 hok hv
      refine realcall_intro Tryz.func57 (by kernel_rfl) rfl (Nat.le_of_ble_eq_true (by kernel_rfl)) ?_
      simp only [Tryz.results57, Tryz.ntmps57]
      repeat' (first | (with_reducible first | refine awp_seq ?_ | refine awp_blockS ?_ | refine awp_blockC ?_ | refine awp_blockR ?_ | refine awp_skip ?_ | refine awp_ret ?_ | refine awp_exit ?_ | refine awp_region ?_ | refine awp_condM ?_ | refine And.intro ?_ ?_ | apply gQ_merge | apply gE_merge | exact EqV_w | exact EqE_w | exact EqV_ptr | exact EqE_ptr | exact EqV_msl | exact EqE_msl | exact EqV_agg | exact EqE_agg | exact EqV_fn | exact EqE_fn | exact EqV_gd | exact EqE_gd | refine gM_splitN ?_ ?_ | refine gM_split ?_ ?_ |  refine condM_splitDN ?_ ?_ | refine condM_splitD ?_ ?_ | refine condM_splitN ?_ ?_ | refine condM_split ?_ ?_ | refine condM_any ?_ ?_ | refine cw (c1) ?_ | refine cw (c2) ?_ | intro _) | (simp [*, h2]) | (refine cw_eq (c1) ?_ ?_; (· (simp [*]; done))) | (refine cw_eq (c2) ?_ ?_; (· (simp [*]; done))))
  · have hv : firstS [D, E, M, errUnless (decide (cl ≤ ch)) 9] = D := by simp [firstS, h1]
    rw [hv]
    clear hb1 hb2 hb3 hb4 hok hv
    refine realcall_intro Tryz.func57 (by kernel_rfl) rfl (Nat.le_of_ble_eq_true (by kernel_rfl)) ?_
    simp only [Tryz.results57, Tryz.ntmps57]
    repeat' (first | (with_reducible first | refine awp_seq ?_ | refine awp_blockS ?_ | refine awp_blockC ?_ | refine awp_blockR ?_ | refine awp_skip ?_ | refine awp_ret ?_ | refine awp_exit ?_ | refine awp_region ?_ | refine awp_condM ?_ | refine And.intro ?_ ?_ | apply gQ_merge | apply gE_merge | exact EqV_w | exact EqE_w | exact EqV_ptr | exact EqE_ptr | exact EqV_msl | exact EqE_msl | exact EqV_agg | exact EqE_agg | exact EqV_fn | exact EqE_fn | exact EqV_gd | exact EqE_gd | refine gM_splitN ?_ ?_ | refine gM_split ?_ ?_ |  refine condM_splitDN ?_ ?_ | refine condM_splitD ?_ ?_ | refine condM_splitN ?_ ?_ | refine condM_split ?_ ?_ | refine condM_any ?_ ?_ | refine cw (c1) ?_ | intro _) | (simp [*, h1]) | (refine cw_eq (c1) ?_ ?_; (· (simp [*]; done))))
theorem decH_slack {c : Compl} (h : decH c = 0) : 0 ≤ c.slack ∧ c.slack ≤ 1000000000 :=
  moneyE_zero (firstS_zero h (moneyE [c.paid, c.lo, c.hi, c.slack]) (by simp)) c.slack (by simp)
theorem rDecide_c (c : Compl) (h : decH c = 0) : RealCall Tryz.prog 58 [.agg (cCompl c)] (.tup [.int .i64 (decS c).1, .int .i64 (decS c).2.1]) true := by
  obtain ⟨⟨p1, p2⟩, q1, q2⟩ := decH_zero h
  obtain ⟨s1, s2⟩ := decH_slack h
  unfold decS
  rw [if_pos h]
  clear h
  obtain ⟨cd, cn, cp, cl, ch, cs⟩ := c
  unfold cCompl
  dsimp only at *
  by_cases h1 : cp - ch ≤ 0
  · have h2 : ¬ cs < cp - ch := by omega
    have h3 : ¬ 0 < cp - ch := by omega
    rw [if_pos h1]
    refine realcall_intro Tryz.func58 (by kernel_rfl) rfl (Nat.le_of_ble_eq_true (by kernel_rfl)) ?_
    simp only [Tryz.results58, Tryz.ntmps58]
    repeat' (first | (with_reducible first | refine awp_seq ?_ | refine awp_blockS ?_ | refine awp_blockC ?_ | refine awp_blockR ?_ | refine awp_skip ?_ | refine awp_ret ?_ | refine awp_exit ?_ | refine awp_region ?_ | refine awp_condM ?_ | refine And.intro ?_ ?_ | apply gQ_merge | apply gE_merge | exact EqV_w | exact EqE_w | exact EqV_ptr | exact EqE_ptr | exact EqV_msl | exact EqE_msl | exact EqV_agg | exact EqE_agg | exact EqV_fn | exact EqE_fn | exact EqV_gd | exact EqE_gd | refine gM_splitN ?_ ?_ | refine gM_split ?_ ?_ |  refine condM_splitDN ?_ ?_ | refine condM_splitD ?_ ?_ | refine condM_splitN ?_ ?_ | refine condM_split ?_ ?_ | refine condM_any ?_ ?_ | intro _) | (simp [*, h2, h3]))
    all_goals try first | exact inI64 (by omega) (by omega) | omega
  · rw [if_neg h1]
    have h3 : 0 < cp - ch := by omega
    by_cases h2 : cp - ch ≤ cs
    · have h4 : ¬ cs < cp - ch := by omega
      rw [if_pos h2]
      refine realcall_intro Tryz.func58 (by kernel_rfl) rfl (Nat.le_of_ble_eq_true (by kernel_rfl)) ?_
      simp only [Tryz.results58, Tryz.ntmps58]
      repeat' (first | (with_reducible first | refine awp_seq ?_ | refine awp_blockS ?_ | refine awp_blockC ?_ | refine awp_blockR ?_ | refine awp_skip ?_ | refine awp_ret ?_ | refine awp_exit ?_ | refine awp_region ?_ | refine awp_condM ?_ | refine And.intro ?_ ?_ | apply gQ_merge | apply gE_merge | exact EqV_w | exact EqE_w | exact EqV_ptr | exact EqE_ptr | exact EqV_msl | exact EqE_msl | exact EqV_agg | exact EqE_agg | exact EqV_fn | exact EqE_fn | exact EqV_gd | exact EqE_gd | refine gM_splitN ?_ ?_ | refine gM_split ?_ ?_ |  refine condM_splitDN ?_ ?_ | refine condM_splitD ?_ ?_ | refine condM_splitN ?_ ?_ | refine condM_split ?_ ?_ | refine condM_any ?_ ?_ | intro _) | (simp [*, h3, h4]))
      all_goals try first | exact inI64 (by omega) (by omega) | omega
    · have h4 : cs < cp - ch := by omega
      rw [if_neg h2]
      refine realcall_intro Tryz.func58 (by kernel_rfl) rfl (Nat.le_of_ble_eq_true (by kernel_rfl)) ?_
      simp only [Tryz.results58, Tryz.ntmps58]
      repeat' (first | (with_reducible first | refine awp_seq ?_ | refine awp_blockS ?_ | refine awp_blockC ?_ | refine awp_blockR ?_ | refine awp_skip ?_ | refine awp_ret ?_ | refine awp_exit ?_ | refine awp_region ?_ | refine awp_condM ?_ | refine And.intro ?_ ?_ | apply gQ_merge | apply gE_merge | exact EqV_w | exact EqE_w | exact EqV_ptr | exact EqE_ptr | exact EqV_msl | exact EqE_msl | exact EqV_agg | exact EqE_agg | exact EqV_fn | exact EqE_fn | exact EqV_gd | exact EqE_gd | refine gM_splitN ?_ ?_ | refine gM_split ?_ ?_ |  refine condM_splitDN ?_ ?_ | refine condM_splitD ?_ ?_ | refine condM_splitN ?_ ?_ | refine condM_split ?_ ?_ | refine condM_any ?_ ?_ | intro _) | (simp [*, h3, h4]))
      all_goals try first | exact inI64 (by omega) (by omega) | omega
end Go.Proofs.YtdgbfbgnbgfmjaaGreatDoor
