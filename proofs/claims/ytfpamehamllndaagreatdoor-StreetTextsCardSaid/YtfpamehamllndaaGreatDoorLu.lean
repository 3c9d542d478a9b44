/- A logic of abstract states for this claim (part Lu): lemmas alone. -/
import Derived.Test.YtfpamehamllndaaGreatDoorLo
import Derived.Test.YtfpamehamllndaaGreatDoorLt
set_option linter.unusedSimpArgs false
set_option linter.unusedVariables false

namespace Go.Fi
open Go Go.RowKit
variable [LaidW]
variable {fk : Fk}

/-- a call that turns one place of the caller's, told by what it does to the memory -/
def ECall (P : Program) (f : FuncId) (args : List AV) (h : Heap) (n : Nat) (id : Nat) (c : List AV) (v : AV) : Prop :=
  Enterable P f ∧ ∀ (B : Base) (m : Mm) (w : World) (vs : Array Value), B.n ≤ w.heap.size → Sim0 B h m w → (∀ i c, (i, c) ∈ h → m.dom i) → args.length = vs.size → (∀ (j : Nat) (p : AV) (u : Value), args[j]? = some p → vs[j]? = some u → RepA B (LB m h) m w p u) →
    Calls P f vs w fun e w' => ∃ u m', e = .returned u ∧ EPost B h m w n (hset h id c) n v u w' m'

section
variable {P : Program} {B : Base} {env : Env} {h : Heap} {n nt : Nat} {a : Act} {w : World} {m : Mm}

/-- in the middle of a region: such a call -/
def ECallM (P : Program) (ops : Array Oper) (nt : Nat) (o : Oper) (post : List Oper) (g : FuncId) (args : Array Operand) (e : Env) (h : Heap) (n : Nat) (K : Env → Heap → Nat → Prop) (_ : Mark (o, post, K)) : Prop :=
  dOk nt o.dst ∧ o.guard = none ∧ ∃ id c v, ECall P g (args.toList.map (ev e)) h n id c v ∧ aOps P ops nt post (put e o.dst v) (hset h id c) n K
omit [LaidW] in
@[congr] theorem ECallM_congr [LaidW] {ops : Array Oper} {nt : Nat} {o : Oper} {post : List Oper} {g : FuncId} {args : Array Operand} {e e' : Env} {h h' : Heap} {n n' : Nat} {K : Env → Heap → Nat → Prop} {mk : Mark (o, post, K)} (h1 : e = e') (h2 : h = h') (h3 : n = n') :
    ECallM P ops nt o post g args e h n K mk = ECallM P ops nt o post g args e' h' n' K mk := by rw [h1, h2, h3]
end
end Go.Fi

namespace Go.Fi
open Go Go.RowKit
variable [LaidW]
variable {fk : Fk}

/-- a row put into a list -/
def insAt {α : Type} (L : List α) (p : Nat) (new : List α) : List α := L.take p ++ new ++ L.drop p
/-- 'slices.Insert' of one element, by its contract: sz cells an element -/
structure InsC (P : Program) (f : FuncId) (t : TypeId) (ty0 : TypeId) (sz by_ : Nat) : Prop where
  ent : Enterable P f
  shift : ∀ (b n cap i vb vc : Nat) (cs vs : Array Value) (ty tv : TypeId) (cl vl : List Value) (w : World), i < n → n < 100000 → n + 1 ≤ cap → cap * sz ≤ cs.size → vl.length = sz → sz ≤ vs.size → cl.length = n * sz → vb ≠ b → w.heap[b]? = some (.cells cs ty (0, 0)) → w.heap[vb]? = some (.cells vs tv (0, 0)) →
    (∀ (j : Nat) (v : Value), cl[j]? = some v → cs[j]? = some v) → (∀ (j : Nat) (v : Value), vl[j]? = some v → vs[j]? = some v) → (∀ v ∈ cl, v.oneCell' = true) → (∀ v ∈ vl, v.oneCell' = true) →
    Calls P f #[.slice (some ⟨b, 0, none⟩) n cap, .int .i64 i, .slice (some ⟨vb, 0, none⟩) 1 vc] w fun e w' => e = .returned (.slice (some ⟨b, 0, none⟩) (n + 1) cap) ∧ Below b w w' ∧ (∀ k, k ≠ b → w'.heap[k]? = w.heap[k]?) ∧
      ∃ row : Array Value, w'.heap[b]? = some (.cells row ty (0, 0)) ∧ row.size = cs.size ∧ ∀ j, j < (n + 1) * sz → row[j]? = (insAt cl (i * sz) vl)[j]?
  grow : ∀ (b n cap i vb vc : Nat) (cs vs : Array Value) (ty tv : TypeId) (cl vl : List Value) (w : World), i < n → n ≤ cap → cap < n + 1 → n + 1 ≤ 1000000000 → by_ ≤ 100000 → cap * sz ≤ cs.size → vl.length = sz → sz ≤ vs.size → cl.length = n * sz → vb ≠ b → w.heap[b]? = some (.cells cs ty (0, 0)) → w.heap[vb]? = some (.cells vs tv (0, 0)) →
    (∀ (j : Nat) (v : Value), cl[j]? = some v → cs[j]? = some v) → (∀ (j : Nat) (v : Value), vl[j]? = some v → vs[j]? = some v) → (∀ v ∈ cl, v.oneCell' = true) → (∀ v ∈ vl, v.oneCell' = true) →
    Calls P f #[.slice (some ⟨b, 0, none⟩) n cap, .int .i64 i, .slice (some ⟨vb, 0, none⟩) 1 vc] w fun e w' => ∃ G : Nat, e = .returned (.slice (some ⟨w.heap.size, 0, none⟩) (n + 1) G) ∧ n + 1 ≤ G ∧ Below w.heap.size w w' ∧
      ∃ (row : Array Value) (ty' : TypeId), w'.heap[w.heap.size]? = some (.cells row ty' (0, 0)) ∧ row.size = G * sz ∧ ∀ j, j < (n + 1) * sz → row[j]? = (insAt cl (i * sz) vl)[j]?
  endc : ∀ (a0 : Option Addr) (n cap vb vc : Nat) (w : World) (v' : Value) (w' : World), n < 1000000000 → n ≤ cap → (a0 = none → cap = 0) → (Builtin.append_ #[t, t] ty0 #[.slice a0 n cap, .slice (some ⟨vb, 0, none⟩) 1 vc]).run P w = .ok v' w' →
    Calls P f #[.slice a0 n cap, .int .i64 n, .slice (some ⟨vb, 0, none⟩) 1 vc] w fun e w1 => e = .returned v' ∧ w1 = w'

end Go.Fi

