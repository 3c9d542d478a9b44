/- A logic of abstract states for this claim (part Lac): lemmas alone. -/
import Derived.Test.YtfpamehamllndaaGreatDoorLo
set_option linter.unusedSimpArgs false
set_option linter.unusedVariables false

namespace Go.Fi
open Go Go.RowKit
variable [LaidW]
variable {fk : Fk}

section
variable {B : Base} {m : Mm} {w : World} {h : Heap} {n : Nat} {env : Env} {a : Act} {P : Program}
end

section
variable {P : Program} {K : Exit → St → Prop}
/-- a call walked in the caller's memory, as an operation -/
def IWY (r : Option RI) (P : Program) (nt : Nat) (e : Env) (h : Heap) (n : Nat) (o : Oper) (g : FuncId) (caps : List AV) (fn : Func) (c : Code) (args : List AV) (K : Env → Heap → Nat → Prop) : Prop :=
  dOk nt o.dst ∧ o.guard = none ∧ AWPk ⟨n, r⟩ P c ⟨envA 0 (args ++ caps), h, n, fn.ntmps⟩ (inlK P fn.results.toList fun v h' n' => K (put e o.dst v) h' n')
/-- a call of a function value in the middle of a region in order, walked on the caller's places, the loop under way still known -/
def InlY (r : Option RI) (P : Program) (ops : Array Oper) (nt : Nat) (o : Oper) (post : List Oper) (f : Operand) (g : FuncId) (fn : Func) (c : Code) (args : Array Operand) (e : Env) (h : Heap) (n : Nat) (K : Env → Heap → Nat → Prop) (_ : Mark (o, post, c, K)) : Prop :=
  ∃ caps, fnOf (ev e f) = some (g, caps) ∧ (args.toList.map (ev e) ++ caps).length ≤ fn.ntmps ∧ IWY r P nt e h n o g caps fn c (args.toList.map (ev e)) fun e'' h'' n'' => aOps P ops nt post e'' h'' n'' K
@[congr] theorem InlY_congr {r : Option RI} {ops : Array Oper} {nt : Nat} {o : Oper} {post : List Oper} {f : Operand} {g : FuncId} {fn : Func} {c : Code} {args : Array Operand} {e e' : Env} {h h' : Heap} {n n' : Nat} {K : Env → Heap → Nat → Prop} {mk : Mark (o, post, c, K)} (h1 : e = e') (h2 : h = h') (h3 : n = n') :
    InlY r P ops nt o post f g fn c args e h n K mk = InlY r P ops nt o post f g fn c args e' h' n' K mk := by rw [h1, h2, h3]
end
end Go.Fi

