/- A logic of abstract states for this claim (part Lo): lemmas alone. -/
import Derived.Test.YtiialcomflggcaaDoorLl
import Derived.Test.YtiialcomflggcaaDoorLm
set_option linter.unusedSimpArgs false
set_option linter.unusedVariables false

namespace Go.Fi
open Go Go.RowKit
variable [LaidW]
variable {fk : Fk}

/-- what a call gives whose first argument is a nil slice -/
def NilCall (P : Program) (f : FuncId) (q : PV) (res : PV) (fr : Bool) : Prop :=
  Enterable P f ∧ ∀ (G : Nat → Prop) (w : World) (vq : Value), LaidW.ok w → Rep G w q vq →
    Calls P f #[.slice none 0 0, vq] w fun e w' => ∃ v, e = .returned v ∧ Below w.heap.size w w' ∧ Rep (fun b => (b < w.heap.size → G b) ∧ (fr = true → w.heap.size ≤ b)) w' res v

section
variable {P : Program} {K : Exit → St → Prop} {st st' : St}
/-- a function that ranges over functions, called with a nil slice and something -/
theorem nilcall_intro_r {f : FuncId} {fn : Func} {c : Code} {q : PV} {res : PV} {fr : Bool} (hf : P.funcs[f]? = some fn) (hname : (fn.name == "runtime.NumGoroutine") = false) (hb : fn.body = some c) (hnt : 2 ≤ fn.ntmps)
    (h : AWPr fk0 P c ⟨[(0, .w true true (.sl 0 [])), (1, .w false false q)], [], 0, fn.ntmps⟩ (retK P fn.results.toList res fr)) : NilCall P f q res fr := by
  refine ⟨⟨fn, hf, hname, by rw [hb]; rfl⟩, fun G w vq hok hrep => ?_⟩
  generalize hvs : (#[.slice none 0 0, vq] : Array Value) = vs
  have hlen : 2 = vs.size := by rw [← hvs]; rfl
  refine (callsIn_wide (n := 0)).1 (callsIn_of_wp_marks hf hb trivial ?_ rfl)
  have hsim : Sim ⟨w.heap.size, G⟩ (⟨w, [], none, [], [], fun ri h => (by cases h), hok⟩ : Ctx fk0) ⟨[(0, .w true true (.sl 0 [])), (1, .w false false q)], [], 0, fn.ntmps⟩ { tmps := vs ++ Array.replicate (fn.ntmps - vs.size) undef, defers := [] } w ⟨fun _ _ => none, fun _ => 0, fun _ => False⟩ := by
    refine ⟨rfl, Below.refl _ _, rfl, by simp; omega, fun t => ?_, ⟨fun id cells hin => (by cases hin), List.Pairwise.nil⟩, fun i => ⟨fun h => h.elim, fun h => absurd h (Nat.not_lt_zero i)⟩, fun id c hin => (by cases hin), Nat.zero_le _, (fun p hp => by cases hp), fun q hq => by cases hq⟩
    show RepA _ _ _ _ (get [(0, .w true true (.sl 0 [])), (1, .w false false q)] t) _
    have hget : ∀ i, i < 2 → (vs ++ Array.replicate (fn.ntmps - vs.size) undef).getD i undef = vs.getD i undef := fun i hi => by
      have h2 : i < vs.size := by omega
      rw [Array.getD_eq_getD_getElem?, Array.getElem?_append_left h2, Array.getD_eq_getD_getElem?]
    match t with
    | 0 =>
      rw [hget 0 (by omega), ← hvs]
      exact .w .slnil (fun _ a n c e => by injection e with _ e1 e2; omega)
    | 1 =>
      rw [hget 1 (by omega), ← hvs]
      refine .w (hrep.imp fun b hg => ⟨?_, (fun h => by cases h), fun _ => hg⟩) (fun h => by cases h)
      rintro ⟨id, cells, C, hin, _⟩
      cases hin
    | t + 2 => exact .w (.undef _) (fun h => by cases h)
  refine wpIn_mono (h _ _ _ _ _ rfl ⟨List.nodup_nil, fun D h => by cases h⟩ hsim) (fun e a' w' ⟨w1, st', m', g1, g2, g3, hk, hs⟩ => ?_)
  -- the marks, one behind the other
  have main : RetOk P fn.results.toList st' res fr → ∀ (ds : List Nat) (w1 : Ctx fk0) (a1 : Act) (W : World), w1.w = w → w1.ds = ds → DsOk w1 → Sim ⟨w.heap.size, G⟩ w1 st' a1 W m' →
      LeavesInM Fence.wide 0 P fn a1.tmps (fun e w' => ∃ v, e = .returned v ∧ Below w.heap.size w w' ∧ Rep (fun b => (b < w.heap.size → G b) ∧ (fr = true → w.heap.size ≤ b)) w' res v) (marks ds) .returning W := by
    intro hr ds
    induction ds with
    | nil =>
      intro w1 a1 W hw1 hds hdk hs
      unfold RetOk at hr
      split at hr
      · rename_i vs' d hres
        obtain ⟨hd, hfz, hfr⟩ := hr
        obtain ⟨us, h1, h2, h3⟩ := run_results hs _ _ _ hres hd
        have hrun : (results fn a1.tmps).run P W = .ok (if h : us.toArray.size = 1 then us.toArray[0] else .tuple us.toArray) W := by
          have he : results fn a1.tmps = (do
              let vs ← fn.results.mapM (resRun a1.tmps)
              pure (if h : vs.size = 1 then vs[0] else .tuple vs)) := rfl
          rw [he, Array.mapM_eq_mapM_toList]
          simp only [Sem.run_bind, Sem.run_map, h1, Result.andThen_ok, Sem.run_pure]
        have hone : RepA ⟨w.heap.size, G⟩ (LB m' st'.heap) m' W (oneOf vs') (if h : us.toArray.size = 1 then us.toArray[0] else .tuple us.toArray) := by
          have tupc : vs'.length ≠ 1 → RepA ⟨w.heap.size, G⟩ (LB m' st'.heap) m' W (.tup vs') (if h : us.toArray.size = 1 then us.toArray[0] else .tuple us.toArray) := by
            intro hne
            rw [dif_neg (by simp; omega)]
            exact .tup (by simpa using h2) (fun j p u hp hu => h3 j p u hp (by simpa using hu))
          match vs', h2, h3, tupc with
          | [], h2, h3, tupc => exact tupc (by simp)
          | [v], h2, h3, tupc =>
            obtain ⟨u, rfl⟩ : ∃ u, us = [u] := List.length_eq_one_iff.1 (by simpa using h2.symm)
            exact h3 0 v u rfl rfl
          | v :: v2 :: r, h2, h3, tupc => exact tupc (by simp)
        refine ⟨_, hrun, _, rfl, ?_, ?_⟩
        · have hbl := hs.below
          rw [hw1] at hbl
          exact hbl
        exact frz_rep (B := ⟨w.heap.size, G⟩) hs.heap (fun id cs e => hget_mem e) fr (fun b hb => ⟨fun hl => by simp only at hb; omega, fun _ => hb⟩) (fun hf b hg => ⟨hg.2.2, fun h => by rw [hf] at h; cases h⟩) 6 _ _ _ hfz hfr hone
      · exact hr.elim
    | cons D ds ih =>
      intro w1 a1 W hw1 hds hdk hs
      obtain ⟨hBD, hDl, hLD, hDh⟩ := hs.fr.2.2 _ (hdk.2 D (by rw [hds]; simp))
      refine ⟨by simp, .inl ⟨D, _, rfl, run_takeDeferred hDh, ?_⟩⟩
      have hnd := hdk.1
      rw [hds] at hnd
      obtain ⟨hn1, hn2⟩ := List.nodup_cons.1 hnd
      refine ih (⟨w1.w, [], none, w1.obs.filter (fun q => decide (q.1 ≠ D)), ds, fun ri h => (by cases h), w1.ok⟩ : Ctx fk0) { a1 with defers := marks ds } _ hw1 rfl ⟨hn2, fun D' hD' => List.mem_filter.2 ⟨hdk.2 D' (by rw [hds]; simp [hD']), by simp; rintro rfl; exact hn1 hD'⟩⟩ ?_
      refine Sim.put (w1 := (⟨w1.w, [], none, w1.obs.filter (fun q => decide (q.1 ≠ D)), ds, fun ri h => (by cases h), w1.ok⟩ : Ctx fk0)) (o' := .deferred none) hs hDh rfl (fun _ _ h => by cases h) hBD rfl rfl rfl ⟨Nat.zero_le _, (fun p hp => by cases hp), fun q hq => ?_⟩
      obtain ⟨hq, hne⟩ := List.mem_filter.1 hq
      obtain ⟨o1, o2, o3, o4⟩ := hs.fr.2.2 q hq
      exact ⟨o1, by simpa using o2, o3, (World.putObj_heap_other (by simpa using hne)).trans o4⟩
  cases e with
  | normal =>
    show LeavesInM _ _ _ _ _ _ a'.defers _ _
    rw [hs.defers]
    exact main hk _ _ _ _ g1 rfl g3 hs
  | ret =>
    show LeavesInM _ _ _ _ _ _ a'.defers _ _
    rw [hs.defers]
    exact main hk _ _ _ _ g1 rfl g3 hs
  | _ => exact hk.elim

/-- such a call, in a region in order -/
theorem awp_callN {f : FuncId} {q res : PV} (hc : NilCall P f q res true) {rid d1 d2 t ty1 ty2 : Nat} {p1 p2 : String} {a1 a2 : Array Edge} {tys : Array TypeId} {env : Env} {h : Heap} {n nt : Nat} {ops : Array Oper} {rest : List Oper} {ow fl : Bool}
    (hops : ops.toList = ⟨some d1, .move (.tmp t), ty1, p1, a1, none⟩ :: ⟨some d2, .call ⟨.value (.func f), #[.const (.slice none 0 0), .tmp d1], tys⟩, ty2, p2, a2, none⟩ :: rest)
    (hg : get env t = .w ow fl q) (hd1 : d1 < nt) (hd2 : d2 < nt)
    (hk : aOps P ops nt rest ((d2, .w (ownOf true res) false res) :: (d1, .w ow fl q) :: env) h n fun e' h' n' => K .normal ⟨e', h', n', nt⟩) :
    AWPk fk P (.region rid ops false) ⟨env, h, n, nt⟩ K := by
  intro B w0 a w m hs
  refine wpIn_region_list ?_
  rw [hops]
  simp only [wpListIn, Region.wanted, if_true]
  refine wpIn_of_wp (fun c e => by cases e) (estep_sound w0 (⟨some d1, .move (.tmp t), ty1, p1, a1, none⟩ : Oper) (K := fun v h' n' => v = get env t ∧ h' = h ∧ n' = n) (by simp [EStep, QStep, aOp, ev, addE]) hs hd1 _ _ ?_)
  rintro v h' n' a w m ⟨rfl, rfl, rfl⟩ hs
  refine wpIn_of_wp (fun c e => by cases e) ?_
  rw [hg] at hs
  have hx : RepA B (LB m h') m w (.w ow fl q) (a.eval (.tmp d1)) := by
    have := hs.env d1
    rw [show get (St.env ⟨put env (some d1) (.w ow fl q), h', n', nt⟩) d1 = .w ow fl q from by simp [put, get]] at this
    exact this
  obtain ⟨⟨fn, hfn, hname, hbody⟩, hcall⟩ := hc
  have hrun : (execOp a.eval ⟨some d2, .call ⟨.value (.func f), #[.const (.slice none 0 0), .tmp d1], tys⟩, ty2, p2, a2, none⟩).run P w = .ok (.enter f #[.slice none 0 0, a.eval (.tmp d1)]) w := by
    have hn' : ¬ fn.name = "runtime.NumGoroutine" := by simpa using hname
    have hb' : ¬ fn.body = none := by intro h; simp [h] at hbody
    simp [execOp, resolve, Act.eval, Deferred.ofValue, invoke, callFunc, hfn, hn', hb']
  unfold Oper.wp
  rw [hrun, Oper.upon_enter]
  generalize a.eval (.tmp d1) = vq at *
  cases hx with
  | w hr _ =>
    refine (hcall (fun _ => True) w vq hs.ok (hr.imp fun _ _ => trivial)).mono ?_
    rintro e w' ⟨v, rfl, hb, hrep⟩
    have hs' : Sim B w0 ⟨(d2, .w (ownOf true res) false res) :: (d1, .w ow fl q) :: env, h', n', nt⟩ (a.put (some d2) v) w' m := by
      have hmono : ∀ x u, RepA B (LB m h') m w x u → RepA B (LB m h') m w' x u := fun x u hr => hr.mono (Mm.le.refl m) (fun _ _ h => h) (fun b hb' _ => hb.block b hb')
      refine ⟨hs.base, hs.below.trans (hb.mono hs.room), by rw [put_defers]; exact hs.defers, by rw [put_size]; exact hs.size, ?_, hs.heap.below hb, hs.dom, hs.ids, hs.fr.mono (Mm.le.refl m) (fun _ _ h => h) (fun b hb' _ => hb.block b hb') (Nat.le_refl _)⟩
      refine get_put _ a (some d2) _ _ (by show d2 < a.tmps.size; rw [hs.size]; exact hd2) ?_ (fun t => hmono _ _ (hs.env t))
      refine .w (hrep.imp fun b hg => ?_) (fun h => by cases h)
      have hb' := hg.2 rfl
      exact ⟨fun hl => by have := LB_lt hs.heap hl; omega, fun _ => by have := hs.room; omega, fun h => by have := hs.room; omega⟩
    exact aOps_sound (fun _ _ _ _ _ m hk' hs' => ⟨_, m, hk', hs'⟩) rest _ _ _ _ _ m hk hs'
end
end Go.Fi

namespace Go.Fi
open Go Go.RowKit
variable [LaidW]
variable {fk : Fk}

section
variable {P : Program} {K : Exit → St → Prop}
@[simp ↓] theorem thenR_normal (b : Code) (s : St) : thenR fk P b K .normal s = AWPr fk P b s K := rfl
@[simp ↓] theorem thenR_ret (b : Code) (s : St) : thenR fk P b K .ret s = K .ret s := rfl
@[simp ↓] theorem thenR_exit (b : Code) (id : Nat) (s : St) : thenR fk P b K (.exit id) s = K (.exit id) s := rfl
@[congr] theorem AWPr_congr {c : Code} {st st' : St} (h : st = st') : AWPr fk P c st K = AWPr fk P c st' K := by rw [h]

/-- a round, and what is not looked into -/
def RoundM (P : Program) (ri : RI) (avs : List AV) (h : Heap) (n : Nat) (K : Heap → Nat → Prop) (_ : Mark (ri, K)) : Prop := Round P ri avs h n K
@[congr] theorem RoundM_congr {ri : RI} {avs avs' : List AV} {h h' : Heap} {n n' : Nat} {K : Heap → Nat → Prop} {mk : Mark (ri, K)} (e1 : avs = avs') (e2 : h = h') (e3 : n = n') : RoundM P ri avs h n K mk = RoundM P ri avs' h' n' K mk := by rw [e1, e2, e3]
theorem roundM_intro {ri : RI} {avs : List AV} {h : Heap} {n : Nat} {K : Heap → Nat → Prop} {mk : Mark (ri, K)} (h1 : avs.length = ri.ps.size) (h2 : ∀ t ∈ ri.ps, t < ri.nt) (hk : AWPk ⟨n, none⟩ P ri.assign ⟨setE ri.env ri.ps.toList avs, h, n, ri.nt⟩ (roundK P n ri.body K)) : RoundM P ri avs h n K mk := ⟨h1, h2, hk⟩
@[simp ↓] theorem roundK_normal (k : Nat) (body : Code) (K : Heap → Nat → Prop) (s : St) : roundK P k body K .normal s = AWPk ⟨k, none⟩ P body s (doneK k K) := rfl
theorem doneK_intro {k : Nat} {K : Heap → Nat → Prop} {s : St} (h' : Heap) (n' : Nat) (nt' : Nat) (hle : Lek ⟨k, none⟩ s ⟨[], h', n', nt'⟩) (hk : K h' n') : doneK k K .normal s := ⟨h', n', nt', hle, hk⟩
@[congr] theorem doneK_congr {k : Nat} {K : Heap → Nat → Prop} {e e' : Exit} {s s' : St} (h1 : e = e') (h2 : s = s') : doneK k K e s = doneK k K e' s' := by rw [h1, h2]
@[congr] theorem roundK_congr {k : Nat} {body : Code} {K : Heap → Nat → Prop} {e e' : Exit} {s s' : St} (h1 : e = e') (h2 : s = s') : roundK P k body K e s = roundK P k body K e' s' := by rw [h1, h2]

section
variable {ri : RI} {ops : Array Oper} {nt : Nat} {e : Env} {h : Heap} {n : Nat} {dst : Option Tmp} {op : Op} {ty : TypeId} {pos : String} {after : Array Edge} {j : Nat} {want : Bool} {Kr : Env → Heap → Nat → Prop}
def yM (P : Program) (ri : RI) (nt : Nat) (e : Env) (h : Heap) (n : Nat) (o : Oper) (K : Env → Heap → Nat → Prop) (_ : Mark K) : Prop := YW P ri nt e h n o K
@[congr] theorem yM_congr {e e' : Env} {h h' : Heap} {n n' : Nat} {o : Oper} {K : Env → Heap → Nat → Prop} {mk : Mark K} (e1 : e = e') (e2 : h = h') (e3 : n = n') : yM P ri nt e h n o K mk = yM P ri nt e' h' n' o K mk := by rw [e1, e2, e3]
def gY (P : Program) (ri : RI) (ops : Array Oper) (nt : Nat) (e : Env) (h : Heap) (n : Nat) (o : Oper) (K : Env → Heap → Nat → Prop) (_ : Mark K) : Prop := gYW P ri ops nt e h n o K
@[congr] theorem gY_congr {e e' : Env} {h h' : Heap} {n n' : Nat} {o : Oper} {K : Env → Heap → Nat → Prop} {mk : Mark K} (e1 : e = e') (e2 : h = h') (e3 : n = n') : gY P ri ops nt e h n o K mk = gY P ri ops nt e' h' n' o K mk := by rw [e1, e2, e3]
def gYm (g : Option Bool) (P : Program) (ri : RI) (nt : Nat) (e : Env) (h : Heap) (n : Nat) (o : Oper) (K : Env → Heap → Nat → Prop) (_ : Mark K) : Prop := gW g (YW P ri nt e h n o K) (K (put e o.dst (.tup [])) h n)
@[congr] theorem gYm_congr {g g' : Option Bool} {e : Env} {h : Heap} {n : Nat} {o : Oper} {K : Env → Heap → Nat → Prop} {mk : Mark K} (e0 : g = g') : gYm g P ri nt e h n o K mk = gYm g' P ri nt e h n o K mk := by rw [e0]
@[simp] theorem gYm_true {o : Oper} {mk : Mark Kr} : gYm (some true) P ri nt e h n o Kr mk = YW P ri nt e h n o Kr := by unfold gYm; exact gW_true _ _
@[simp] theorem gYm_false {o : Oper} {mk : Mark Kr} : gYm (some false) P ri nt e h n o Kr mk = Kr (put e o.dst (.tup [])) h n := by unfold gYm; exact gW_false _ _
@[simp ↓] theorem gY_guard {mk : Mark Kr} : gY P ri ops nt e h n ⟨dst, op, ty, pos, after, some (j, want)⟩ Kr mk = (dOk nt dst ∧ gYm (gOf ops e j want) P ri nt e h n ⟨dst, op, ty, pos, after, some (j, want)⟩ Kr .it) := by
  unfold gY gYW
  rw [wantedA_guard]
  cases gOf ops e j want <;> simp [gYm, gW]
@[simp ↓] theorem gY_plain {mk : Mark Kr} : gY P ri ops nt e h n ⟨dst, op, ty, pos, after, none⟩ Kr mk = (dOk nt dst ∧ YW P ri nt e h n ⟨dst, op, ty, pos, after, none⟩ Kr) := by
  unfold gY gYW
  simp [wantedA]
@[simp ↓] theorem YW_call {f : Operand} {args : Array Operand} {tys : Array TypeId} {g : Option (Nat × Bool)} : YW P ri nt e h n ⟨dst, .call ⟨.value f, args, tys⟩, ty, pos, after, g⟩ Kr =
    (dOk nt dst ∧ (∃ ow fl, ev e f = .w ow fl (.yl ri.l)) ∧ RoundM P ri (args.toList.map (ev e)) h n (fun h' n' => Kr (put e dst (.w false false (.bool true))) h' n') .it) := rfl
end
theorem awp_regionYk {k : Nat} {ri : RI} {id : Nat} {ops : Array Oper} {env : Env} {h : Heap} {n nt : Nat} (i : Nat) (hi : i < ops.toList.length)
    (hk : aOps P ops nt (ops.toList.take i) env h n fun e' h' n' => gY P ri ops nt e' h' n' (ops.toList.getD i default) (fun e'' h'' n'' => aOps P ops nt (ops.toList.drop (i + 1)) e'' h'' n'' fun e3 h3 n3 => K .normal ⟨e3, h3, n3, nt⟩) .it) :
    AWPk ⟨k, some ri⟩ P (.region id ops false) ⟨env, h, n, nt⟩ K := by
  refine awp_regionY (ops.toList.take i) (ops.toList.getD i default) (ops.toList.drop (i + 1)) ?_ hk
  have e : ops.toList.getD i default = ops.toList[i] := by simp [List.getD_eq_getElem?_getD, List.getElem?_eq_getElem hi]
  rw [e, List.getElem_cons_drop, List.take_append_drop]
end
end Go.Fi

namespace Go.Fi
open Go Go.RowKit
variable [LaidW]
variable {fk : Fk}
section
variable {P : Program} {K : Exit → St → Prop}
/-- in the middle of a region in order: less is known from here on -/
def FrzM (fk : Fk) (P : Program) (ops : Array Oper) (nt : Nat) (os : List Oper) (e : Env) (h : Heap) (n : Nat) (K : Env → Heap → Nat → Prop) (_ : Mark (os, K)) : Prop :=
  ∃ e2 h2 n2, Lek fk ⟨e, h, n, nt⟩ ⟨e2, h2, n2, nt⟩ ∧ aOps P ops nt os e2 h2 n2 K
@[congr] theorem FrzM_congr {ops : Array Oper} {nt : Nat} {os : List Oper} {e e' : Env} {h h' : Heap} {n n' : Nat} {K : Env → Heap → Nat → Prop} {mk : Mark (os, K)} (h1 : e = e') (h2 : h = h') (h3 : n = n') : FrzM fk P ops nt os e h n K mk = FrzM fk P ops nt os e' h' n' K mk := by rw [h1, h2, h3]
end
end Go.Fi

namespace Go.Fi
open Go Go.RowKit
variable [LaidW]
variable {fk : Fk}
section
variable {P : Program} {K : Exit → St → Prop}
/-- a call in the middle of a region in order, walked on the caller's places -/
def InlM (P : Program) (ops : Array Oper) (nt : Nat) (o : Oper) (post : List Oper) (g : FuncId) (fn : Func) (c : Code) (args : Array Operand) (e : Env) (h : Heap) (n : Nat) (K : Env → Heap → Nat → Prop) (_ : Mark (o, post, c, K)) : Prop :=
  ∃ caps, fnOf (ev e (.func g)) = some (g, caps) ∧ (args.toList.map (ev e) ++ caps).length ≤ fn.ntmps ∧ IW P nt e h n o g caps fn c (args.toList.map (ev e)) fun e'' h'' n'' => aOps P ops nt post e'' h'' n'' K
@[congr] theorem InlM_congr {ops : Array Oper} {nt : Nat} {o : Oper} {post : List Oper} {g : FuncId} {fn : Func} {c : Code} {args : Array Operand} {e e' : Env} {h h' : Heap} {n n' : Nat} {K : Env → Heap → Nat → Prop} {mk : Mark (o, post, c, K)} (h1 : e = e') (h2 : h = h') (h3 : n = n') :
    InlM P ops nt o post g fn c args e h n K mk = InlM P ops nt o post g fn c args e' h' n' K mk := by rw [h1, h2, h3]
end
end Go.Fi

