/- A logic of abstract states for this claim (part Lo): lemmas alone. -/
import Derived.Test.YtfpamehamllndaaGreatDoorLl
import Derived.Test.YtfpamehamllndaaGreatDoorLm
set_option linter.unusedSimpArgs false
set_option linter.unusedVariables false

namespace Go.Fi
open Go Go.RowKit
variable [LaidW]
variable {fk : Fk}

section
variable {P : Program} {K : Exit → St → Prop} {st st' : St}
end
end Go.Fi

namespace Go.Fi
open Go Go.RowKit
variable [LaidW]
variable {fk : Fk}

section
variable {P : Program} {K : Exit → St → Prop}
@[simp ↓] theorem thenR_normal (b : Code) (s : St) : thenR fk P b K .normal s = AWPr fk P b s K := rfl
@[simp ↓] theorem thenR_ret (b : Code) (s : St) : thenR fk P b K .ret s = K .ret s := rfl
@[simp ↓] theorem thenR_exit (b : Code) (id : Nat) (s : St) : thenR fk P b K (.exit id) s = K (.exit id) s := rfl
@[congr] theorem AWPr_congr {c : Code} {st st' : St} (h : st = st') : AWPr fk P c st K = AWPr fk P c st' K := by rw [h]

/-- a round, and what is not looked into -/
def RoundM (P : Program) (ri : RI) (avs : List AV) (h : Heap) (n : Nat) (K : Heap → Nat → Prop) (_ : Mark (ri, K)) : Prop := Round P ri avs h n K
@[congr] theorem RoundM_congr {ri : RI} {avs avs' : List AV} {h h' : Heap} {n n' : Nat} {K : Heap → Nat → Prop} {mk : Mark (ri, K)} (e1 : avs = avs') (e2 : h = h') (e3 : n = n') : RoundM P ri avs h n K mk = RoundM P ri avs' h' n' K mk := by rw [e1, e2, e3]
@[simp ↓] theorem roundK_normal (k : Nat) (body : Code) (K : Heap → Nat → Prop) (s : St) : roundK P k body K .normal s = AWPk ⟨k, none⟩ P body s (doneK k K) := rfl
@[congr] theorem doneK_congr {k : Nat} {K : Heap → Nat → Prop} {e e' : Exit} {s s' : St} (h1 : e = e') (h2 : s = s') : doneK k K e s = doneK k K e' s' := by rw [h1, h2]
@[congr] theorem roundK_congr {k : Nat} {body : Code} {K : Heap → Nat → Prop} {e e' : Exit} {s s' : St} (h1 : e = e') (h2 : s = s') : roundK P k body K e s = roundK P k body K e' s' := by rw [h1, h2]

section
variable {ri : RI} {ops : Array Oper} {nt : Nat} {e : Env} {h : Heap} {n : Nat} {dst : Option Tmp} {op : Op} {ty : TypeId} {pos : String} {after : Array Edge} {j : Nat} {want : Bool} {Kr : Env → Heap → Nat → Prop}
def yM (P : Program) (ri : RI) (nt : Nat) (e : Env) (h : Heap) (n : Nat) (o : Oper) (K : Env → Heap → Nat → Prop) (_ : Mark K) : Prop := YW P ri nt e h n o K
@[congr] theorem yM_congr {e e' : Env} {h h' : Heap} {n n' : Nat} {o : Oper} {K : Env → Heap → Nat → Prop} {mk : Mark K} (e1 : e = e') (e2 : h = h') (e3 : n = n') : yM P ri nt e h n o K mk = yM P ri nt e' h' n' o K mk := by rw [e1, e2, e3]
def gY (P : Program) (ri : RI) (ops : Array Oper) (nt : Nat) (e : Env) (h : Heap) (n : Nat) (o : Oper) (K : Env → Heap → Nat → Prop) (_ : Mark K) : Prop := gYW P ri ops nt e h n o K
@[congr] theorem gY_congr {e e' : Env} {h h' : Heap} {n n' : Nat} {o : Oper} {K : Env → Heap → Nat → Prop} {mk : Mark K} (e1 : e = e') (e2 : h = h') (e3 : n = n') : gY P ri ops nt e h n o K mk = gY P ri ops nt e' h' n' o K mk := by rw [e1, e2, e3]
def gYm (g : Option Bool) (P : Program) (ri : RI) (nt : Nat) (e : Env) (h : Heap) (n : Nat) (o : Oper) (K : Env → Heap → Nat → Prop) (_ : Mark K) : Prop := gW g (YW P ri nt e h n o K) (K (put e o.dst (.tup [])) h n)
@[congr] theorem gYm_congr {g g' : Option Bool} {e : Env} {h : Heap} {n : Nat} {o : Oper} {K : Env → Heap → Nat → Prop} {mk : Mark K} (e0 : g = g') : gYm g P ri nt e h n o K mk = gYm g' P ri nt e h n o K mk := by rw [e0]
@[simp] theorem gYm_true {o : Oper} {mk : Mark Kr} : gYm (some true) P ri nt e h n o Kr mk = YW P ri nt e h n o Kr := by unfold gYm; exact gW_true _ _
@[simp] theorem gYm_false {o : Oper} {mk : Mark Kr} : gYm (some false) P ri nt e h n o Kr mk = Kr (put e o.dst (.tup [])) h n := by unfold gYm; exact gW_false _ _
@[simp ↓] theorem gY_guard {mk : Mark Kr} : gY P ri ops nt e h n ⟨dst, op, ty, pos, after, some (j, want)⟩ Kr mk = (dOk nt dst ∧ gYm (gOf ops e j want) P ri nt e h n ⟨dst, op, ty, pos, after, some (j, want)⟩ Kr .it) := by
  unfold gY gYW
  rw [wantedA_guard]
  cases gOf ops e j want <;> simp [gYm, gW]
@[simp ↓] theorem gY_plain {mk : Mark Kr} : gY P ri ops nt e h n ⟨dst, op, ty, pos, after, none⟩ Kr mk = (dOk nt dst ∧ YW P ri nt e h n ⟨dst, op, ty, pos, after, none⟩ Kr) := by
  unfold gY gYW
  simp [wantedA]
@[simp ↓] theorem YW_call {f : Operand} {args : Array Operand} {tys : Array TypeId} {g : Option (Nat × Bool)} : YW P ri nt e h n ⟨dst, .call ⟨.value f, args, tys⟩, ty, pos, after, g⟩ Kr =
    (dOk nt dst ∧ (∃ ow fl, ev e f = .w ow fl (.yl ri.l)) ∧ RoundM P ri (args.toList.map (ev e)) h n (fun h' n' => Kr (put e dst (.w false false (.bool true))) h' n') .it) := rfl
end
end
end Go.Fi

namespace Go.Fi
open Go Go.RowKit
variable [LaidW]
variable {fk : Fk}
section
variable {P : Program} {K : Exit → St → Prop}
/-- in the middle of a region in order: less is known from here on -/
def FrzM (fk : Fk) (P : Program) (ops : Array Oper) (nt : Nat) (os : List Oper) (e : Env) (h : Heap) (n : Nat) (K : Env → Heap → Nat → Prop) (_ : Mark (os, K)) : Prop :=
  ∃ e2 h2 n2, Lek fk ⟨e, h, n, nt⟩ ⟨e2, h2, n2, nt⟩ ∧ aOps P ops nt os e2 h2 n2 K
@[congr] theorem FrzM_congr {ops : Array Oper} {nt : Nat} {os : List Oper} {e e' : Env} {h h' : Heap} {n n' : Nat} {K : Env → Heap → Nat → Prop} {mk : Mark (os, K)} (h1 : e = e') (h2 : h = h') (h3 : n = n') : FrzM fk P ops nt os e h n K mk = FrzM fk P ops nt os e' h' n' K mk := by rw [h1, h2, h3]
end
end Go.Fi

namespace Go.Fi
open Go Go.RowKit
variable [LaidW]
variable {fk : Fk}
section
variable {P : Program} {K : Exit → St → Prop}
/-- a call in the middle of a region in order, walked on the caller's places -/
def InlM (P : Program) (ops : Array Oper) (nt : Nat) (o : Oper) (post : List Oper) (g : FuncId) (fn : Func) (c : Code) (args : Array Operand) (e : Env) (h : Heap) (n : Nat) (K : Env → Heap → Nat → Prop) (_ : Mark (o, post, c, K)) : Prop :=
  ∃ caps, fnOf (ev e (.func g)) = some (g, caps) ∧ (args.toList.map (ev e) ++ caps).length ≤ fn.ntmps ∧ IW P nt e h n o g caps fn c (args.toList.map (ev e)) fun e'' h'' n'' => aOps P ops nt post e'' h'' n'' K
@[congr] theorem InlM_congr {ops : Array Oper} {nt : Nat} {o : Oper} {post : List Oper} {g : FuncId} {fn : Func} {c : Code} {args : Array Operand} {e e' : Env} {h h' : Heap} {n n' : Nat} {K : Env → Heap → Nat → Prop} {mk : Mark (o, post, c, K)} (h1 : e = e') (h2 : h = h') (h3 : n = n') :
    InlM P ops nt o post g fn c args e h n K mk = InlM P ops nt o post g fn c args e' h' n' K mk := by rw [h1, h2, h3]
theorem inlM_intro {ops : Array Oper} {nt : Nat} {o : Oper} {post : List Oper} {g : FuncId} {fn : Func} {c : Code} {args : Array Operand} {e : Env} {h : Heap} {n : Nat} {K : Env → Heap → Nat → Prop} {mk : Mark (o, post, c, K)} (hl : args.toList.length ≤ fn.ntmps) (hd : dOk nt o.dst) (hg : o.guard = none)
    (hk : AWPk ⟨n, none⟩ P c ⟨envA 0 (args.toList.map (ev e)), h, n, fn.ntmps⟩ (inlK P fn.results.toList fun v h' n' => aOps P ops nt post (put e o.dst v) h' n' K)) : InlM P ops nt o post g fn c args e h n K mk :=
  ⟨[], rfl, by rw [List.append_nil, List.length_map]; exact hl, hd, hg, by rw [List.append_nil]; exact hk⟩
theorem awp_regionJ {id : Nat} {ops : Array Oper} {env : Env} {h : Heap} {n nt : Nat} (i : Nat) {g : FuncId} {fn : Func} {c : Code} (hfn : P.funcs[g]? = some fn) (hname : (fn.name == "runtime.NumGoroutine") = false) (hb : fn.body = some c)
    (hi : i < ops.toList.length) {args : Array Operand} {tys : Array TypeId} (ho : (ops.toList.getD i default).op = .call { callee := .value (.func g), args := args, argTypes := tys })
    (hk : aOps P ops nt (ops.toList.take i) env h n fun e' h' n' => InlM P ops nt (ops.toList.getD i default) (ops.toList.drop (i + 1)) g fn c args e' h' n' (fun e3 h3 n3 => K .normal ⟨e3, h3, n3, nt⟩) .it) :
    AWPk fk P (.region id ops false) ⟨env, h, n, nt⟩ K := by
  refine awp_regionI (ops.toList.take i) (ops.toList.getD i default) (ops.toList.drop (i + 1)) ?_ ho hfn hname hb hk
  have e : ops.toList.getD i default = ops.toList[i] := by simp [List.getD_eq_getElem?_getD, List.getElem?_eq_getElem hi]
  rw [e, List.getElem_cons_drop, List.take_append_drop]
end
end Go.Fi

