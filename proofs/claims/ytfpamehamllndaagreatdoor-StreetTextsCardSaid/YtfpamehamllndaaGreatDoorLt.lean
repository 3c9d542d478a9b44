/- A logic of abstract states for this claim (part Lt): lemmas alone. -/
import Derived.Test.YtfpamehamllndaaGreatDoorLh
import Derived.Shelf.GgSortMore.Stable
import Derived.Lib.SortBridge
set_option linter.unusedSimpArgs false
set_option linter.unusedVariables false

namespace Go.Fi
open Go Go.RowKit Go.Proofs Go.Sort
variable [LaidW]
variable {fk : Fk}

def fE (m : Nat) (x : Fin (m + 1)) : Value := .int .i64 (x.val : Int)
/-- 'sort.SliceStable' at []int, by its contract -/
structure SortC (P : Program) (f : FuncId) (sl : TypeId) : Prop where
  ent : Enterable P f
  small : ∀ (m g : Nat) (lb : Array Value) (lt : Fin (m + 1) → Fin (m + 1) → Bool) (blk off c : Nat) (d : Array (Fin (m + 1))) (w : World), 2 ≤ d.size → d.size ≤ 20 → (∀ args w, (callFunc g args).run P w = .ok (.enter g args) w) →
    LessReads P g lb (fE m) lt blk off d.size w → Holds (fE m) w blk off d → blk < w.heap.size →
    Calls P f #[.iface sl (.slice (some ⟨blk, off, none⟩) d.size c), .func (.func g) #[] lb] w fun e w' => e = .returned (.tuple #[]) ∧ ∃ n os, w' = grow (putRow (fE m) (Sort.ahead w n) blk off (Sort.insertionSort lt d 0 d.size)) os
  tiny : ∀ (p : Option Addr) (n c : Nat) (g : Nat) (lb : Array Value) (w : World), n ≤ 1 → Calls P f #[.iface sl (.slice p n c), .func (.func g) #[] lb] w fun e w' => e = .returned (.tuple #[]) ∧ ∃ os, w' = grow w os
omit [LaidW] in
theorem Sim0.apart {B : Base} {m : Mm} {w : World} {h : Heap} (hs : Sim0 B h m w) {i j : Nat} {c c' : List AV} {b C b' C' : Nat} (h1 : (i, c) ∈ h) (h2 : (j, c') ∈ h) (hne : i ≠ j) (d1 : m.dom i) (d2 : m.dom j) (a1 : m.addr i c.length = some (b, C)) (a2 : m.addr j c'.length = some (b', C')) : b ≠ b' := by
  rintro rfl
  rcases pairwise_at hs.inj (fun a c hac => ⟨fun e => hac.1 e.symm, fun b C C' d1 d2 a1 a2 => hac.2 b C' C d2 d1 a2 a1⟩) h1 h2 with e | e
  · injection e with e _; exact hne e
  · exact e.2 b C C' d1 d2 a1 a2
end Go.Fi

