/- A logic of abstract states for this claim (part Lh): lemmas alone. -/
import Derived.Test.YtlcimflkjfbaoaaGreatLf
import Derived.Shelf.Slices.Cells
set_option linter.unusedSimpArgs false
set_option linter.unusedVariables false

namespace Go.Fi
open Go Go.RowKit
variable [LaidW]
variable {fk : Fk}

omit [LaidW] in
theorem setCells_wset (b : Nat) (e : TypeId) : ∀ (vs : List Value) (off : Nat) (w : World) (cs : Array Value), w.heap[b]? = some (.cells cs e (0, 0)) → w.setCells b off vs = wset w b (setArr cs off vs) e
  | [], off, w, cs, h => by simp only [World.setCells, setArr]; exact (wset_self w b cs e h).symm
  | v :: r, off, w, cs, h => by
    have hb : b < w.heap.size := by
      rcases Nat.lt_or_ge b w.heap.size with h1 | h1
      · exact h1
      · rw [Array.getElem?_eq_none h1] at h; cases h
    simp only [World.setCells, setArr]
    rw [setCell_wset h, setCells_wset b e r (off + 1) _ (cs.setIfInBounds off v) (wset_same w b _ e hb), wset_wset]

/-- 'slices.Reverse' at []int, by its contract -/
structure RevC (P : Program) (f : FuncId) : Prop where
  ent : Enterable P f
  nz : ∀ (b off n c : Nat) (zs : List Int) (w : World), n ≤ zs.length → n ≤ 9223372036854775807 → (∀ j, j < zs.length → w.cell? ⟨b, off + j, none⟩ = some (.int .i64 (zs.getD j 0))) → (∀ j, j < n → w.frozen? ⟨b, off + j, none⟩ = false) →
    Calls P f #[.slice (some ⟨b, off, none⟩) n c] w fun e w' => e = .returned (.tuple #[]) ∧ ∃ q, w' = (w.drewN q).setCells b off ((zs.take n).reverse.map (Value.int .i64))
  ez : ∀ (a : Option Addr) (c : Nat) (w : World), Calls P f #[.slice a 0 c] w fun e w' => e = .returned (.tuple #[]) ∧ w' = w

end Go.Fi

