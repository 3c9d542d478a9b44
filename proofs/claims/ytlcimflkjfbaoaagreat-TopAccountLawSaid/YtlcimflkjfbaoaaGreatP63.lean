/- Contracts of functions for this claim: lemmas alone. -/
import Derived.Test.YtlcimflkjfbaoaaGreatP60
import Derived.Test.YtlcimflkjfbaoaaGreatP29
set_option linter.unusedSimpArgs false
set_option linter.unusedVariables false
namespace Go.Proofs.YtlcimflkjfbaoaaGreat
open Go Go.Fi
set_option maxRecDepth 20000

/-! ### trips: the plain law -/
theorem shareE_zero {l : List Int} (h : shareE l = 0) : (∀ x ∈ l, 0 ≤ x ∧ x ≤ 1000000) ∧ ∃ x ∈ l, 0 < x := by
  unfold shareE at h
  have hz := firstS_zero h
  have h1 := unless_zero (hz (errUnless (!l.any fun x => !winB x 0 1000000) 2) (by simp)) (by decide)
  have h2 := unless_zero (hz (errUnless (l.any fun x => decide (0 < x)) 11) (by simp)) (by decide)
  refine ⟨fun x hx => ?_, ?_⟩
  · by_cases hw : winB x 0 1000000 = true
    · exact winB_iff.1 hw
    · rw [List.any_eq_true.2 ⟨x, hx, by simpa using hw⟩] at h1
      cases h1
  · obtain ⟨x, hx, hp⟩ := List.any_eq_true.1 h2
    exact ⟨x, hx, of_decide_eq_true hp⟩
def sharesN (r : Rule) : List Nat := [r.s0.toNat, r.s1.toNat, r.s2.toNat]
def partsS (r : Rule) (f : Int) : List Int := splitS f.toNat (sharesN r)
@[simp] theorem partsS_len (r : Rule) (f : Int) : (partsS r f).length = 3 := by unfold partsS; rw [splitS_len]; rfl
structure SharesOk (r : Rule) : Prop where
  b0 : 0 ≤ r.s0 ∧ r.s0 ≤ 1000000
  b1 : 0 ≤ r.s1 ∧ r.s1 ≤ 1000000
  b2 : 0 ≤ r.s2 ∧ r.s2 ≤ 1000000
  pos : 0 < r.s0 + r.s1 + r.s2
theorem sharesOk {r : Rule} (h : shareE (sharesOf r) = 0) : SharesOk r := by
  obtain ⟨h1, x, hx, hp⟩ := shareE_zero h
  have a0 := h1 r.s0 (by simp [sharesOf])
  have a1 := h1 r.s1 (by simp [sharesOf])
  have a2 := h1 r.s2 (by simp [sharesOf])
  refine ⟨a0, a1, a2, ?_⟩
  simp only [sharesOf, List.mem_cons, List.not_mem_nil, or_false] at hx
  rcases hx with rfl | rfl | rfl <;> omega
theorem SharesOk.sum {r : Rule} (h : SharesOk r) : 0 < sumN (sharesN r) := by
  obtain ⟨h0, h1, h2, h3⟩ := h
  show 0 < r.s0.toNat + (r.s1.toNat + (r.s2.toNat + 0))
  omega
theorem SharesOk.toI {r : Rule} (h : SharesOk r) : toI (sharesN r) = sharesOf r := by
  obtain ⟨h0, h1, h2, h3⟩ := h
  show [((r.s0.toNat : Nat) : Int), ((r.s1.toNat : Nat) : Int), ((r.s2.toNat : Nat) : Int)] = [r.s0, r.s1, r.s2]
  rw [Int.toNat_of_nonneg h0.1, Int.toNat_of_nonneg h1.1, Int.toNat_of_nonneg h2.1]
theorem SharesOk.le {r : Rule} (h : SharesOk r) : ∀ k, k < (sharesN r).length → nth (sharesN r) k ≤ 1000000 := by
  obtain ⟨h0, h1, h2, h3⟩ := h
  intro k hk
  have hk3 : k < 3 := hk
  match k, hk3 with
  | 0, _ => show r.s0.toNat ≤ 1000000; omega
  | 1, _ => show r.s1.toNat ≤ 1000000; omega
  | 2, _ => show r.s2.toNat ≤ 1000000; omega
theorem SharesOk.split {r : Rule} (h : SharesOk r) {f : Int} (h0 : 0 ≤ f) (h1 : f ≤ 1000000000) : SplitIn f.toNat (sharesN r) ∧ DivAll f.toNat (sharesN r) := by
  have hl := h.le
  refine ⟨⟨by show 3 ≤ 20; decide, h.sum, hl, by omega⟩, divAll_small _ _ h.sum (fun k hk => ?_)⟩
  have := Nat.mul_le_mul (show f.toNat ≤ 1000000000 by omega) (hl k hk)
  omega
theorem parts_pos {r : Rule} (h : SharesOk r) (f : Int) (k : Nat) (hk : k < 3) : 0 ≤ nth (partsS r f) k := splitS_pos _ _ h.sum k hk
theorem parts_le {r : Rule} (h : SharesOk r) {f : Int} (h0 : 0 ≤ f) (k : Nat) (hk : k < 3) : nth (partsS r f) k ≤ f := by
  have := splitS_le f.toNat (sharesN r) h.sum k hk
  unfold partsS
  omega
theorem parts_sum {r : Rule} (h : SharesOk r) {f : Int} (h0 : 0 ≤ f) : nth (partsS r f) 0 + nth (partsS r f) 1 + nth (partsS r f) 2 = f := by
  have e := splitS_sum f.toNat (sharesN r) h.sum
  have hl := partsS_len r f
  unfold partsS at hl ⊢
  generalize splitS f.toNat (sharesN r) = p at *
  match p, hl with
  | [a, b, c], _ =>
    simp only [sumI] at e
    show a + b + c = f
    omega
def fareLn (r : Rule) (t : Trip) : List Line := fareL r t.fare t.tip t.voucher (partsS r t.fare)
def fareR (r : Rule) (t : Trip) : Entry × Int := if fareChk 0 t = 0 then (if (fareLn r t).length = 0 then (noEntry, 12) else largestS ⟨t.date, t.note, fareLn r t⟩) else (noEntry, fareChk 0 t)
structure TripOk (t : Trip) : Prop where
  date : 0 ≤ t.date ∧ t.date ≤ 100000
  note : nameB t.note = true
  fare : moneyOk t.fare
  tip : moneyOk t.tip
  voucher : moneyOk t.voucher
  le : t.voucher ≤ t.fare
theorem fareChk_zero {t : Trip} (h : fareChk 0 t = 0) : TripOk t := by
  unfold fareChk at h
  have hz := firstS_zero h
  have hm := moneyE_zero (hz (moneyE [t.fare, t.tip, t.voucher]) (by simp))
  exact ⟨winB_iff.1 (unless_zero (hz (dateE t.date) (by simp)) (by decide)), unless_zero (hz (noteE t.note) (by simp)) (by decide), hm t.fare (by simp), hm t.tip (by simp), hm t.voucher (by simp),
    of_decide_eq_true (unless_zero (hz (errUnless (decide (t.voucher ≤ t.fare)) 24) (by simp)) (by decide))⟩
/-! sums over lines -/
def sumW (w : ByteArray → Bool) : List Line → Int
  | [] => 0
  | y :: r => (if w y.acc = true then y.amt else 0) + sumW w r
@[simp] theorem sumW_nil (w : ByteArray → Bool) : sumW w [] = 0 := rfl
theorem sumW_snoc (w : ByteArray → Bool) (y : Line) : ∀ l : List Line, sumW w (l ++ [y]) = sumW w l + (if w y.acc = true then y.amt else 0)
  | [] => by simp [sumW]
  | x :: l => by simp only [List.cons_append, sumW, sumW_snoc w y l]; omega
theorem sumW_addL (w : ByteArray → Bool) (ls : List Line) (a : ByteArray) (n : Int) : sumW w (addL ls a n) = sumW w ls + (if w a = true then n else 0) := by
  unfold addL
  split
  · rename_i h; subst h; split <;> omega
  · rw [sumW_snoc]
theorem sumA_W : ∀ l : List Line, sumA l = sumW (fun _ => true) l
  | [] => rfl
  | y :: l => by simp only [sumA, sumW, sumA_W l, if_true]
theorem fareL_sumW (w : ByteArray → Bool) (r : Rule) (f t v : Int) (p : List Int) : sumW w (fareL r f t v p) = (if w r.cash = true then f + t - v else 0) + (if w r.vouch = true then v else 0) + (if w r.owner = true then -(nth p 0) else 0) + (if w r.driver = true then -(nth p 1) else 0) + (if w r.office = true then -(nth p 2) else 0) + (if w r.driver = true then -t else 0) := by
  unfold fareL
  rw [sumW_addL]
  simp only [addK]
  rw [sumW_addL, sumW_addL, sumW_addL]
  unfold base2 base1
  rw [sumW_addL, sumW_addL, sumW_nil]
  simp only [show nth (three r) 0 = r.owner from rfl, show nth (three r) 1 = r.driver from rfl, show nth (three r) 2 = r.office from rfl]
  omega
theorem addL_all {P : Line → Prop} {ls : List Line} {a : ByteArray} {n : Int} (h : ∀ y ∈ ls, P y) (hn : n ≠ 0 → P ⟨a, n⟩) : ∀ y ∈ addL ls a n, P y := by
  unfold addL
  split
  · exact h
  · rename_i hz
    intro y hy
    rw [List.mem_append, List.mem_singleton] at hy
    rcases hy with hy | rfl
    · exact h y hy
    · exact hn hz
theorem fareL_all {P : Line → Prop} (r : Rule) (f t v : Int) (p : List Int) (h1 : ∀ n, n ≠ 0 → P ⟨r.cash, n⟩) (h2 : ∀ n, n ≠ 0 → P ⟨r.vouch, n⟩) (h3 : ∀ n, n ≠ 0 → P ⟨r.owner, n⟩) (h4 : ∀ n, n ≠ 0 → P ⟨r.driver, n⟩) (h5 : ∀ n, n ≠ 0 → P ⟨r.office, n⟩) : ∀ y ∈ fareL r f t v p, P y := by
  unfold fareL
  simp only [addK]
  unfold base2 base1
  exact addL_all (addL_all (addL_all (addL_all (addL_all (addL_all (fun y hy => by cases hy) (h1 _)) (h2 _)) (h3 _)) (h4 _)) (h5 _)) (h4 _)
theorem fareL_len (r : Rule) (f t v : Int) (p : List Int) : (fareL r f t v p).length ≤ 6 := by
  unfold fareL
  have a1 := addL_len [] r.cash (f + t - v)
  have a2 := addL_len (base1 r f t v) r.vouch v
  have a3 := addL_len (addK r p (base2 r f t v) 0) (nth (three r) 0) (-(nth p 0))
  have a4 := addL_len (addK r p (base2 r f t v) 1) (nth (three r) 1) (-(nth p 1))
  have a5 := addL_len (addK r p (base2 r f t v) 2) (nth (three r) 2) (-(nth p 2))
  have a6 := addL_len (addK r p (base2 r f t v) 3) r.driver (-t)
  have b1 : (base1 r f t v).length ≤ 0 + 1 := a1
  have b2 : (base2 r f t v).length ≤ (base1 r f t v).length + 1 := a2
  have b3 : (addK r p (base2 r f t v) 1).length ≤ (base2 r f t v).length + 1 := a3
  have b4 : (addK r p (base2 r f t v) 2).length ≤ (addK r p (base2 r f t v) 1).length + 1 := a4
  have b5 : (addK r p (base2 r f t v) 3).length ≤ (addK r p (base2 r f t v) 2).length + 1 := a5
  omega
theorem linesF_all (a : List Acc) : ∀ (l : List Line) (i : Nat) (s : Int), (∀ y ∈ l, lineE a y = 0) → linesF a l i s = (0, errUnless (decide (s + sumA l = 0)) 27)
  | [], i, s, _ => by
    have := linesF_end a [] 0 s (Nat.le_refl _)
    simp only [linesF, sumA_nil, Int.add_zero]
  | y :: r, i, s, h => by
    unfold linesF
    rw [if_pos (h y (by simp)), linesF_all a r _ _ (fun z hz => h z (by simp [hz]))]
    simp only [sumA, Int.add_assoc]
    rfl
theorem largestS_yes {e : Entry} (h : (largestS e).2 = 0) : muchB e = false ∧ largestS e = (e, 0) := by
  unfold largestS at h ⊢
  cases hm : muchB e with
  | true => rw [hm, if_pos rfl] at h; cases h
  | false => exact ⟨rfl, if_neg (by decide)⟩
theorem muchB_no {e : Entry} (h : muchB e = false) : (∀ y ∈ e.lines, -1000000000 ≤ y.amt ∧ y.amt ≤ 1000000000) ∧ e.lines.length ≤ 12 := by
  unfold muchB at h
  rw [Bool.or_eq_false_iff] at h
  refine ⟨fun y hy => ?_, by have := of_decide_eq_false h.2; omega⟩
  by_cases hg : greatB y = true
  · rw [List.any_eq_true.2 ⟨y, hy, hg⟩] at h; cases h.1
  · unfold greatB at hg
    have : smallB y.amt 1000000000 = true := by simpa using hg
    have := winB_iff.1 this
    omega
/-- the entry of a trip is right -/
theorem fareR_right {l : List Acc} {r : Rule} {t : Trip} (hr : RuleOk l r) (hs : SharesOk r) (h : (fareR r t).2 = 0) : (entryS l (fareR r t).1).2 = 0 ∧ (fareR r t).1 = ⟨t.date, t.note, fareLn r t⟩ ∧ sumW (fun a => decide (a = r.owner) || decide (a = r.driver) || decide (a = r.office)) (fareLn r t) = -(t.fare + t.tip) := by
  unfold fareR at h ⊢
  by_cases hc : fareChk 0 t = 0
  · rw [if_pos hc] at h ⊢
    obtain ⟨td, tn, tf, tt, tv, tl⟩ := fareChk_zero hc
    by_cases hz : (fareLn r t).length = 0
    · rw [if_pos hz] at h; cases h
    · rw [if_neg hz] at h ⊢
      obtain ⟨hm, hl⟩ := largestS_yes h
      rw [hl]
      obtain ⟨m1, m2⟩ := muchB_no hm
      dsimp only at m1 m2 ⊢
      have hsum := parts_sum hs tf.1
      have hA : sumA (fareLn r t) = 0 := by
        rw [sumA_W]; unfold fareLn; rw [fareL_sumW]
        simp only [if_true]
        omega
      have hacc : ∀ k, k < 5 → hasS l (nth (five r) k) = true := hr.has
      have hlines : ∀ y ∈ fareLn r t, lineE l y = 0 := by
        intro y hy
        have hp : hasS l y.acc = true ∧ y.amt ≠ 0 := fareL_all (P := fun y => hasS l y.acc = true ∧ y.amt ≠ 0) r _ _ _ _ (fun n hn => ⟨hacc 3 (by decide), hn⟩) (fun n hn => ⟨hacc 4 (by decide), hn⟩) (fun n hn => ⟨hacc 0 (by decide), hn⟩) (fun n hn => ⟨hacc 1 (by decide), hn⟩) (fun n hn => ⟨hacc 2 (by decide), hn⟩) y hy
        have hb := m1 y hy
        have hw : smallB y.amt 1000000000 = true := winB_iff.2 ⟨by omega, hb.2⟩
        unfold lineE
        rw [hp.1, hw, decide_eq_false hp.2]
        rfl
      have h2 : 2 ≤ (fareLn r t).length := by
        match hL : fareLn r t with
        | [] => rw [hL] at hz; exact absurd rfl hz
        | [y] =>
          rw [hL] at hA hlines
          have := (lineE_zero (hlines y (by simp))).2.1
          simp only [sumA] at hA
          omega
        | _ :: _ :: _ => simp
      refine ⟨?_, rfl, ?_⟩
      · unfold entryS headE dateE noteE
        dsimp only
        rw [winB_iff.2 td, tn, decide_eq_true (show (2 : Int) ≤ ((fareLn r t).length : Int) by omega), decide_eq_true (show ((fareLn r t).length : Int) ≤ 12 by omega)]
        rw [if_pos (show firstS [errUnless true 2, errUnless true 4, errUnless true 10, errUnless true 8] = 0 from rfl), linesF_all l _ _ _ hlines, hA]
        rfl
      · have ap : ∀ k, k < 5 → Lib.containsS ((five r).take k) (nth (five r) k) = false := hr.apart
        have a3 : ¬ r.cash ∈ [r.owner, r.driver, r.office] := fun hm => by
          have h1 := (Lib.containsS_iff _ _).2 hm
          rw [show Lib.containsS [r.owner, r.driver, r.office] r.cash = false from ap 3 (by decide)] at h1
          cases h1
        have a4 : ¬ r.vouch ∈ [r.owner, r.driver, r.office, r.cash] := fun hm => by
          have h1 := (Lib.containsS_iff _ _).2 hm
          rw [show Lib.containsS [r.owner, r.driver, r.office, r.cash] r.vouch = false from ap 4 (by decide)] at h1
          cases h1
        simp only [List.mem_cons, List.not_mem_nil, or_false, not_or] at a3 a4
        unfold fareLn
        rw [fareL_sumW]
        simp [a3, a4, Ne.symm]
        omega
  · rw [if_neg hc] at h; exact absurd h hc
/-! refunds -/
def negL (l : List Line) : List Line := l.map fun y => ⟨y.acc, -y.amt⟩
@[simp] theorem negL_len (l : List Line) : (negL l).length = l.length := by simp [negL]
end Go.Proofs.YtlcimflkjfbaoaaGreat
namespace Go.Proofs.YtlcimflkjfbaoaaGreat
open Go Go.Fi
set_option maxRecDepth 20000

/-! ### the document's checks of rules, trips and complaints -/
def zeroK (l : List Int) : Nat → Bool
  | 0 => true
  | k + 1 => zeroK l k && decide (nth l k = 0)
@[simp] theorem zeroK_zero (l : List Int) : zeroK l 0 = true := rfl
end Go.Proofs.YtlcimflkjfbaoaaGreat
namespace Go.Proofs.YtlcimflkjfbaoaaGreat
open Go Go.Fi
set_option maxRecDepth 20000

/-! ### the document's split of an amount -/
end Go.Proofs.YtlcimflkjfbaoaaGreat
namespace Go.Proofs.YtlcimflkjfbaoaaGreat
open Go Go.Fi
set_option maxRecDepth 20000

/-! ### the document's entry of a trip -/
theorem split_fare {r : Rule} (hs : SharesOk r) {f : Int} (f0 : 0 ≤ f) (f1 : f ≤ 1000000000) : MkCall Tryz.prog 43 [.int .i64 f, .sl 3 [.int .i64 r.s0, .int .i64 r.s1, .int .i64 r.s2]] [iA (partsS r f)] (.msl 0 3 1 0 3) := by
  have h := split_mk f.toNat (sharesN r) (hs.split f0 f1).1 (hs.split f0 f1).2
  rw [Int.toNat_of_nonneg f0, hs.toI] at h
  exact h
def nzK (l : List Line) : Nat → List Line
  | 0 => []
  | k + 1 => addL (nzK l k) (nth l k).acc (nth l k).amt
@[simp] theorem nzK_zero (l : List Line) : nzK l 0 = [] := rfl
theorem lA_1 (l : List Line) (k : Nat) (h : k < l.length) : nthA (lA l) (k * 2 + 1) = .w false false (.int .i64 (nth l k).amt) := by
  unfold lA; rw [nthA_map _ _ _ (by simp; omega), cLines_1 l k h]
end Go.Proofs.YtlcimflkjfbaoaaGreat

