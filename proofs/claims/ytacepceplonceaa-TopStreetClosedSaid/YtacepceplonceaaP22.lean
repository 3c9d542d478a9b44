/- Contracts of functions for this claim: lemmas alone. -/
import Derived.Test.YtacepceplonceaaP21
set_option linter.unusedSimpArgs false
set_option linter.unusedVariables false
namespace Go.Proofs.Ytacepceplonceaa
open Go Go.Fi

def searchF (p : Nat → Bool) : Nat → Nat → Nat → Nat
  | 0, i, _ => i
  | m + 1, i, j => if i < j then (if p ((i + j) / 2) = true then searchF p m i ((i + j) / 2) else searchF p m ((i + j) / 2 + 1) j) else i
def lateB (n : Net) (t : Trip) (a b : Nat) (k : Nat) : Bool := decide (t.at_ < nth (growS (fTime true) n a k).l b)
def latestS (n : Net) (t : Trip) : Int × Int :=
  if otE n t ≠ 0 then (0, otE n t)
  else if nth (growS (fTime true) n t.frm.toNat 0).l t.to.toNat = -1 then (0, 12)
  else if searchF (lateB n t t.frm.toNat t.to.toNat) 604801 0 604801 = 0 then (0, 12)
  else ((searchF (lateB n t t.frm.toNat t.to.toNat) 604801 0 604801 : Int) - 1, 0)
theorem searchF_le (p : Nat → Bool) : ∀ m i j, i ≤ 1000000 → j ≤ 1000000 → searchF p m i j ≤ 1000000
  | 0, i, j, h, _ => h
  | m + 1, i, j, h1, h2 => by
    simp only [searchF]
    split
    · split
      · exact searchF_le p m _ _ h1 (by omega)
      · exact searchF_le p m _ _ (by omega) h2
    · exact h1
end Go.Proofs.Ytacepceplonceaa
