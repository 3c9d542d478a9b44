/- Contracts of functions for this claim: lemmas alone. -/
import Derived.Test.YtdgbfbgnbgfmjaaGreatDoorP60
import Derived.Test.YtdgbfbgnbgfmjaaGreatDoorP29
set_option linter.unusedSimpArgs false
set_option linter.unusedVariables false
namespace Go.Proofs.YtdgbfbgnbgfmjaaGreatDoor
open Go Go.Fi
set_option maxRecDepth 20000

/-! ### trips: the plain law -/
def sharesN (r : Rule) : List Nat := [r.s0.toNat, r.s1.toNat, r.s2.toNat]
def partsS (r : Rule) (f : Int) : List Int := splitS f.toNat (sharesN r)
@[simp] theorem partsS_len (r : Rule) (f : Int) : (partsS r f).length = 3 := by unfold partsS; rw [splitS_len]; rfl
structure SharesOk (r : Rule) : Prop where
  b0 : 0 ≤ r.s0 ∧ r.s0 ≤ 1000000
  b1 : 0 ≤ r.s1 ∧ r.s1 ≤ 1000000
  b2 : 0 ≤ r.s2 ∧ r.s2 ≤ 1000000
  pos : 0 < r.s0 + r.s1 + r.s2
theorem SharesOk.sum {r : Rule} (h : SharesOk r) : 0 < sumN (sharesN r) := by
  obtain ⟨h0, h1, h2, h3⟩ := h
  show 0 < r.s0.toNat + (r.s1.toNat + (r.s2.toNat + 0))
  omega
theorem SharesOk.toI {r : Rule} (h : SharesOk r) : toI (sharesN r) = sharesOf r := by
  obtain ⟨h0, h1, h2, h3⟩ := h
  show [((r.s0.toNat : Nat) : Int), ((r.s1.toNat : Nat) : Int), ((r.s2.toNat : Nat) : Int)] = [r.s0, r.s1, r.s2]
  rw [Int.toNat_of_nonneg h0.1, Int.toNat_of_nonneg h1.1, Int.toNat_of_nonneg h2.1]
theorem SharesOk.le {r : Rule} (h : SharesOk r) : ∀ k, k < (sharesN r).length → nth (sharesN r) k ≤ 1000000 := by
  obtain ⟨h0, h1, h2, h3⟩ := h
  intro k hk
  have hk3 : k < 3 := hk
  match k, hk3 with
  | 0, _ => show r.s0.toNat ≤ 1000000; omega
  | 1, _ => show r.s1.toNat ≤ 1000000; omega
  | 2, _ => show r.s2.toNat ≤ 1000000; omega
theorem SharesOk.split {r : Rule} (h : SharesOk r) {f : Int} (h0 : 0 ≤ f) (h1 : f ≤ 1000000000) : SplitIn f.toNat (sharesN r) ∧ DivAll f.toNat (sharesN r) := by
  have hl := h.le
  refine ⟨⟨by show 3 ≤ 20; decide, h.sum, hl, by omega⟩, divAll_small _ _ h.sum (fun k hk => ?_)⟩
  have := Nat.mul_le_mul (show f.toNat ≤ 1000000000 by omega) (hl k hk)
  omega
structure TripOk (t : Trip) : Prop where
  date : 0 ≤ t.date ∧ t.date ≤ 100000
  note : nameB t.note = true
  fare : moneyOk t.fare
  tip : moneyOk t.tip
  voucher : moneyOk t.voucher
  le : t.voucher ≤ t.fare
/-! sums over lines -/
def sumW (w : ByteArray → Bool) : List Line → Int
  | [] => 0
  | y :: r => (if w y.acc = true then y.amt else 0) + sumW w r
@[simp] theorem sumW_nil (w : ByteArray → Bool) : sumW w [] = 0 := rfl
/-! refunds -/
def negL (l : List Line) : List Line := l.map fun y => ⟨y.acc, -y.amt⟩
@[simp] theorem negL_len (l : List Line) : (negL l).length = l.length := by simp [negL]
end Go.Proofs.YtdgbfbgnbgfmjaaGreatDoor
namespace Go.Proofs.YtdgbfbgnbgfmjaaGreatDoor
open Go Go.Fi
set_option maxRecDepth 20000

/-! ### the document's checks of rules, trips and complaints -/
def zeroK (l : List Int) : Nat → Bool
  | 0 => true
  | k + 1 => zeroK l k && decide (nth l k = 0)
@[simp] theorem zeroK_zero (l : List Int) : zeroK l 0 = true := rfl
end Go.Proofs.YtdgbfbgnbgfmjaaGreatDoor
namespace Go.Proofs.YtdgbfbgnbgfmjaaGreatDoor
open Go Go.Fi
set_option maxRecDepth 20000

/-! ### the document's split of an amount -/
end Go.Proofs.YtdgbfbgnbgfmjaaGreatDoor
namespace Go.Proofs.YtdgbfbgnbgfmjaaGreatDoor
open Go Go.Fi
set_option maxRecDepth 20000

/-! ### the document's entry of a trip -/
def nzK (l : List Line) : Nat → List Line
  | 0 => []
  | k + 1 => addL (nzK l k) (nth l k).acc (nth l k).amt
@[simp] theorem nzK_zero (l : List Line) : nzK l 0 = [] := rfl
end Go.Proofs.YtdgbfbgnbgfmjaaGreatDoor
namespace Go.Proofs.YtdgbfbgnbgfmjaaGreatDoor
open Go Go.Fi
set_option maxRecDepth 20000

/-! ### opposite entries -/
def negK (l : List Line) (k : Nat) : List Line := negL (l.take k) ++ l.drop k
@[simp] theorem negK_zero (l : List Line) : negK l 0 = l := by simp [negK, negL]
@[simp] theorem negK_len (l : List Line) (k : Nat) : (negK l k).length = l.length := by
  simp [negK, negL]; omega
@[simp] theorem lA_frs : ∀ l : List Line, AV.frs.frsL (lA l) = true
  | [] => rfl
  | x :: l => by
    have ih := lA_frs l
    show (AV.frs (.w false false (.str x.acc)) && (AV.frs (.w false false (.int .i64 x.amt)) && AV.frs.frsL (lA l))) = true
    rw [ih]; rfl
@[simp] theorem lA_sh (n : Nat) (l : List Line) : AV.sh.shL n (lA l) = lA l := shL_map n false false _
@[simp] theorem lA_ones : ∀ l : List Line, ones (lA l) = true
  | [] => rfl
  | x :: l => by
    have ih := lA_ones l
    show (AV.one (.w false false (.str x.acc)) && (AV.one (.w false false (.int .i64 x.amt)) && ones (lA l))) = true
    rw [ih]; rfl
end Go.Proofs.YtdgbfbgnbgfmjaaGreatDoor
namespace Go.Proofs.YtdgbfbgnbgfmjaaGreatDoor
open Go Go.Fi
set_option maxRecDepth 20000

/-! ### opposite, and refunds -/
end Go.Proofs.YtdgbfbgnbgfmjaaGreatDoor
namespace Go.Proofs.YtdgbfbgnbgfmjaaGreatDoor
open Go Go.Fi
set_option maxRecDepth 20000

/-! ### the document's reversed entries and refunds -/
def linesE (ls : List Line) : Int := if 12 < ls.length then 8 else if ls.any greatB = true then 2 else 0
structure RefundL (r : Rule) (n : Int) : Prop where
  len0 : ¬ (fareL r n 0 0 (partsS r n)).length = 0
  err : linesE (fareL r n 0 0 (partsS r n)) = 0
  much : ∀ d s, muchB ⟨d, s, fareL r n 0 0 (partsS r n)⟩ = false
end Go.Proofs.YtdgbfbgnbgfmjaaGreatDoor

