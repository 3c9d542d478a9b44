/- A logic of abstract states for this claim (part Ll): lemmas alone. -/
import Derived.Test.YtfpamehamllndaaGreatDoorLf
set_option linter.unusedSimpArgs false
set_option linter.unusedVariables false

namespace Go.Fi
open Go Go.RowKit
variable [LaidW]
variable {fk : Fk}

def envA : Nat → List AV → Env
  | _, [] => []
  | i, v :: r => (i, v) :: envA (i + 1) r
omit [LaidW] in
@[simp] theorem envA_nil (i : Nat) : envA i [] = [] := rfl
omit [LaidW] in
@[simp] theorem envA_cons (i : Nat) (v : AV) (r : List AV) : envA i (v :: r) = (i, v) :: envA (i + 1) r := rfl

omit [LaidW] in
theorem get_envA : ∀ (l : List AV) (i t : Nat), get (envA i l) t = if i ≤ t ∧ t < i + l.length then l.getD (t - i) (.w false false .undef) else .w false false .undef
  | [], i, t => by simp [envA, get]
  | p :: r, i, t => by
    simp only [envA, get]
    by_cases h : i = t
    · subst h; simp
    · simp only [h, if_false]
      rw [get_envA r (i + 1) t]
      simp only [List.length_cons]
      by_cases h2 : i + 1 ≤ t ∧ t < i + 1 + r.length
      · rw [if_pos h2, if_pos (by omega)]
        have : t - i = (t - (i + 1)) + 1 := by omega
        rw [this]; simp
      · rw [if_neg h2, if_neg (by omega)]

/-- what an inlined function comes to -/
def RetA (P : Program) (rs : List ResultVar) (st : St) (K : AV → Heap → Nat → Prop) : Prop :=
  match resL P st.env st.heap rs with
  | some (vs, c) => c ∧ K (oneOf vs) st.heap st.nxt
  | none => False
def inlK (P : Program) (rs : List ResultVar) (K : AV → Heap → Nat → Prop) : Exit → St → Prop
  | .normal, s => RetA P rs s K
  | .ret, s => RetA P rs s K
  | _, _ => False
omit [LaidW] in
@[simp ↓] theorem inlK_normal (P : Program) (rs : List ResultVar) (K : AV → Heap → Nat → Prop) (s : St) : inlK P rs K .normal s = RetA P rs s K := rfl
omit [LaidW] in
@[simp ↓] theorem inlK_ret (P : Program) (rs : List ResultVar) (K : AV → Heap → Nat → Prop) (s : St) : inlK P rs K .ret s = RetA P rs s K := rfl

section
variable {P : Program} {B : Base} {m : Mm} {w : World} {h : Heap} {n : Nat} {env : Env} {a : Act} {L : Nat → Prop}

omit [LaidW] in
theorem ltL_of {n : Nat} : ∀ {cs : List AV}, (∀ (j : Nat) (x : AV), cs[j]? = some x → x.lt n = true) → AV.lt.ltL n cs = true
  | [], _ => rfl
  | x :: r, h => by
    simp only [AV.lt.ltL, Bool.and_eq_true]
    exact ⟨h 0 x rfl, ltL_of fun j y hy => h (j + 1) y (by simpa using hy)⟩

omit [LaidW] in
theorem RepA.lt_of {x : AV} {v : Value} (h : RepA B L m w x v) (hd : ∀ i, m.dom i → i < n) : x.lt n = true := by
  induction h with
  | w _ _ => rfl
  | ptr hd' _ _ _ => simpa [AV.lt] using hd _ hd'
  | mp hd' _ _ => simpa [AV.lt] using hd _ hd'
  | msl hd' _ _ _ _ => simpa [AV.lt] using hd _ hd'
  | @agg cs vs hl _ ih =>
    simp only [AV.lt]
    refine ltL_of fun j y hy => ?_
    have hj : j < vs.size := by have := (List.getElem?_eq_some_iff.1 hy).1; omega
    exact ih j y _ hy (Array.getElem?_eq_getElem hj)
  | @tup cs vs hl _ ih =>
    simp only [AV.lt]
    refine ltL_of fun j y hy => ?_
    have hj : j < vs.size := by have := (List.getElem?_eq_some_iff.1 hy).1; omega
    exact ih j y _ hy (Array.getElem?_eq_getElem hj)
  | @fn f cs vs hl _ ih =>
    simp only [AV.lt]
    refine ltL_of fun j y hy => ?_
    have hj : j < vs.size := by have := (List.getElem?_eq_some_iff.1 hy).1; omega
    exact ih j y _ hy (Array.getElem?_eq_getElem hj)

omit [LaidW] in
theorem get_key : ∀ (env : Env) (t : Nat), (∃ v, (t, v) ∈ env) ∨ get env t = .w false false .undef
  | [], _ => .inr rfl
  | (k, v) :: r, t => by
    simp only [get]
    by_cases h : k = t
    · subst h; exact .inl ⟨v, by simp⟩
    · rcases get_key r t with ⟨u, hu⟩ | hu
      · exact .inl ⟨u, List.mem_cons_of_mem _ hu⟩
      · rw [if_neg h]; exact .inr hu

/-- A CALL WALKED IN THE CALLER'S MEMORY: the function's body runs on the caller's places -/
theorem inline_sound {w0 : Ctx fk} {nt : Nat} (o : Oper) (f : Operand) (args : Array Operand) (tys : Array TypeId) (ho : o.op = .call { callee := .value f, args := args, argTypes := tys })
    {g : FuncId} {caps : List AV} (hf : fnOf (ev env f) = some (g, caps)) {fn : Func} {c : Code} (hfn : P.funcs[g]? = some fn) (hname : (fn.name == "runtime.NumGoroutine") = false) (hb : fn.body = some c)
    (hnt : (args.toList.map (ev env) ++ caps).length ≤ fn.ntmps) {Kv : AV → Heap → Nat → Prop} (hw : AWPk ⟨n, none⟩ P c ⟨envA 0 (args.toList.map (ev env) ++ caps), h, n, fn.ntmps⟩ (inlK P fn.results.toList Kv))
    (hs : Sim B w0 ⟨env, h, n, nt⟩ a w m) (hdk : dOk nt o.dst) (Q : Exit → Act → World → Prop) (K' : Act → World → Prop)
    (hK : ∀ v h' n' a' w' m', Kv v h' n' → Sim B w0 ⟨put env o.dst v, h', n', nt⟩ a' w' m' → K' a' w') : o.wp P a w K' Q := by
  have hxa : ∀ x : Operand, RepA B (LB m h) m w (ev env x) (a.eval x) := fun x => ev_rep x (fun t _ => hs.env t)
  have hxf := hxa f
  have hfv : ∃ cv : Array Value, a.eval f = .func (.func g) #[] cv ∧ caps.length = cv.size ∧ ∀ (j : Nat) (p : AV) (v : Value), caps[j]? = some p → cv[j]? = some v → RepA B (LB m h) m w p v := by
    unfold fnOf at hf
    split at hf
    · rename_i g' caps' e
      injection hf with hf; injection hf with h1 h2; subst h1; subst h2
      rw [e] at hxf
      generalize hv : a.eval f = vf at hxf
      cases hxf with | fn h1 h2 => exact ⟨_, rfl, h1, h2⟩
    · rename_i own f' g' caps' e
      injection hf with hf; injection hf with h1 h2; subst h1; subst h2
      rw [e] at hxf
      generalize hv : a.eval f = vf at hxf
      cases hxf with
      | w h1 _ =>
        cases h1 with
        | fn h1 h2 =>
          refine ⟨_, rfl, by simpa using h1, fun j p v hp hv => ?_⟩
          obtain ⟨q, hq, rfl⟩ := getElem?_map_some hp
          exact .w (h2 j q v hq hv) (fun h => by cases h)
    · cases hf
  obtain ⟨cv, hfe, hcl, hcr⟩ := hfv
  have hvs : ∀ (j : Nat) (x : AV) (v : Value), (args.toList.map (ev env) ++ caps)[j]? = some x → (args.map a.eval ++ cv)[j]? = some v → RepA B (LB m h) m w x v := by
    intro j x v hj hv
    by_cases hlt : j < args.size
    · rw [List.getElem?_append_left (by simpa using hlt)] at hj
      rw [Array.getElem?_append_left (by simpa using hlt)] at hv
      obtain ⟨y, hy, rfl⟩ := getElem?_map_some hj
      rw [Array.getElem?_map] at hv
      have : args[j]? = some y := by rw [← Array.getElem?_toList]; exact hy
      rw [this] at hv; injection hv with hv; subst hv
      exact hxa y
    · rw [List.getElem?_append_right (by simp; omega)] at hj
      rw [Array.getElem?_append_right (by simp; omega)] at hv
      simp only [List.length_map, Array.length_toList, Array.size_map] at hj hv
      exact hcr _ x v hj hv
  have hlen : (args.toList.map (ev env) ++ caps).length = (args.map a.eval ++ cv).size := by simp [hcl]
  generalize hvsd : args.map a.eval ++ cv = vs at hvs hlen
  generalize hasd : args.toList.map (ev env) ++ caps = avs at hvs hlen hnt hw
  have hrun : (execOp a.eval o).run P w = .ok (.enter g vs) w := by
    have hn' : ¬ fn.name = "runtime.NumGoroutine" := by simpa using hname
    simp [execOp, ho, resolve, hfe, Deferred.ofValue, invoke, callFunc, hfn, hn', hb, ← hvsd]
  unfold Oper.wp
  rw [hrun, Oper.upon_enter]
  have hdom : ∀ i, m.dom i → i < n := fun i hd => (hs.dom i).1 hd
  refine calls_of_wp hfn hb ((wpIn_wide (n := 0)).1 ?_)
  have hsim : Sim B (⟨w0.w, w0.F ++ env.map fun p => (get env p.1, a.tmps.getD p.1 undef), none, w0.obs, [], fun ri h => (by cases h), w0.ok⟩ : Ctx ⟨n, none⟩) ⟨envA 0 avs, h, n, fn.ntmps⟩ { tmps := vs ++ Array.replicate (fn.ntmps - vs.size) undef, defers := [] } w m := by
    refine ⟨hs.base, hs.below, rfl, by simp; omega, fun t => ?_, hs.heap, hs.dom, hs.ids, Nat.le_refl _, fun p hp => ?_, hs.fr.2.2⟩
    · show RepA _ _ _ _ (get (envA 0 avs) t) _
      rw [get_envA]
      split
      · rename_i ht
        have hlt : t < avs.length := by omega
        have : (vs ++ Array.replicate (fn.ntmps - vs.size) undef).getD t undef = vs[t]'(by omega) := by
          rw [Array.getD_eq_getD_getElem?, Array.getElem?_append_left (by omega), Array.getElem?_eq_getElem (by omega)]; rfl
        rw [this]
        exact hvs t _ _ (by simpa using getD_some hlt) (Array.getElem?_eq_getElem (by omega))
      · exact .w (.undef _) (fun h => by cases h)
    · rcases List.mem_append.1 hp with hp | hp
      · exact ⟨AV.lt_mono hs.fr.1 (hs.fr.2.1 p hp).1, (hs.fr.2.1 p hp).2⟩
      · obtain ⟨q, _, rfl⟩ := List.mem_map.1 hp
        exact ⟨(hs.env q.1).lt_of hdom, hs.env q.1⟩
  refine wpIn_mono (hw _ _ _ _ _ hsim) (fun e a' w' ⟨st', m', hk, hs'⟩ => ?_)
  have main : RetA P fn.results.toList st' Kv → a'.defers = [] ∧ ∃ v, (results fn a'.tmps).run P w' = .ok v w' ∧ K' (a.put o.dst v) w' := by
    intro hr
    refine ⟨hs'.defers, ?_⟩
    unfold RetA at hr
    split at hr
    · rename_i vs' d hres
      obtain ⟨hd, hkv⟩ := hr
      obtain ⟨us, h1, h2, h3⟩ := run_results hs' _ _ _ hres hd
      have hrun : (results fn a'.tmps).run P w' = .ok (if h : us.toArray.size = 1 then us.toArray[0] else .tuple us.toArray) w' := by
        have he : results fn a'.tmps = (do
            let vs ← fn.results.mapM (resRun a'.tmps)
            pure (if h : vs.size = 1 then vs[0] else .tuple vs)) := rfl
        rw [he, Array.mapM_eq_mapM_toList]
        simp only [Sem.run_bind, Sem.run_map, h1, Result.andThen_ok, Sem.run_pure]
      have hone : RepA B (LB m' st'.heap) m' w' (oneOf vs') (if h : us.toArray.size = 1 then us.toArray[0] else .tuple us.toArray) := by
        have tupc : vs'.length ≠ 1 → RepA B (LB m' st'.heap) m' w' (.tup vs') (if h : us.toArray.size = 1 then us.toArray[0] else .tuple us.toArray) := by
          intro hne
          rw [dif_neg (by simp; omega)]
          exact .tup (by simpa using h2) (fun j p u hp hu => h3 j p u hp (by simpa using hu))
        match vs', h2, h3, tupc with
        | [], h2, h3, tupc => exact tupc (by simp)
        | [v], h2, h3, tupc =>
          obtain ⟨u, rfl⟩ : ∃ u, us = [u] := List.length_eq_one_iff.1 (by simpa using h2.symm)
          exact h3 0 v u rfl rfl
        | v :: v2 :: r, h2, h3, tupc => exact tupc (by simp)
      refine ⟨_, hrun, ?_⟩
      have hfr := hs'.fr.2.1
      have hold : ∀ t, RepA B (LB m' st'.heap) m' w' (get env t) (a.tmps.getD t undef) := by
        intro t
        rcases get_key env t with ⟨v, hv⟩ | hu
        · exact (hfr (get env t, a.tmps.getD t undef) (List.mem_append.2 (.inr (List.mem_map.2 ⟨(t, v), hv, rfl⟩)))).2
        · rw [hu]; exact .w (.undef _) (fun h => by cases h)
      refine hK (oneOf vs') st'.heap st'.nxt _ _ m' hkv ⟨hs'.base, hs'.below, by rw [put_defers]; exact hs.defers, by rw [put_size]; exact hs.size, ?_, hs'.heap, hs'.dom, hs'.ids, Nat.le_trans hs.fr.1 hs'.fr.1, fun p hp => ?_, hs'.fr.2.2⟩
      · exact get_put env a o.dst _ _ (by rw [hs.size]; exact hdk) hone hold
      · exact ⟨(hs.fr.2.1 p hp).1, (hfr p (List.mem_append.2 (.inl hp))).2⟩
    · exact hr.elim
  cases e with
  | normal => exact main hk
  | ret => exact main hk
  | _ => exact hk.elim
end
end Go.Fi

namespace Go.Fi
open Go Go.RowKit
variable [LaidW]
variable {fk : Fk}

/-! ### What turns no cells -/
section
variable {P : Program} {B : Base} {m : Mm} {w w' : World} {h : Heap} {n : Nat} {env : Env} {a : Act} {L : Nat → Prop}

omit [LaidW] in
theorem Rep.cellsM {G : Nat → Prop} {p : PV} {v : Value} (hc : ∀ a v, w.cell? a = some v → w'.cell? a = some v) (h : Rep G w p v) : Rep G w' p v := by
  induction h with
  | undef v => exact .undef v
  | anyb b => exact .anyb b
  | bool b => exact .bool b
  | int k n => exact .int k n
  | str s => exact .str s
  | agg hl _ ih => exact .agg hl ih
  | tup hl _ ih => exact .tup hl ih
  | slnil => exact .slnil
  | sl vals hn hcc hg hr ih => exact .sl vals hn (fun j hj => hc _ _ (hcc j hj)) hg ih
  | slz hn => exact .slz hn
  | ip vals hcc hg hr ih => exact .ip vals (fun j hj => hc _ _ (hcc j hj)) hg ih
  | nilp => exact .nilp
  | nili => exact .nili
  | ifc _ ih => exact .ifc ih
  | fn hl _ ih => exact .fn hl ih
  | yl l => exact .yl l

omit [LaidW] in
theorem RepA.cellsM {x : AV} {v : Value} (hc : ∀ a v, w.cell? a = some v → w'.cell? a = some v) (h : RepA B L m w x v) : RepA B L m w' x v := by
  induction h with
  | w hr hf => exact .w (hr.cellsM hc) hf
  | ptr hd ht ha hC => exact .ptr hd ht ha hC
  | mp hd ht ha => exact .mp hd ht ha
  | msl hd ht hn h0 h1 => exact .msl hd ht hn h0 h1
  | agg hl _ ih => exact .agg hl ih
  | tup hl _ ih => exact .tup hl ih
  | fn hl _ ih => exact .fn hl ih

omit [LaidW] in
theorem cell_put {l : Nat} {o o' : Obj} (hl : w.heap[l]? = some o) (ho : o.isCells = false) (ad : Addr) (v : Value) (hc : w.cell? ad = some v) : (w.putObj l o').cell? ad = some v := by
  by_cases e : ad.block = l
  · unfold World.cell? at hc
    rw [e, hl] at hc
    cases o <;> simp_all [Obj.isCells]
  · rw [← hc]
    exact World.cell?_of_block (World.putObj_heap_other e)

omit [LaidW] in
theorem below_put {k l : Nat} {o o' : Obj} (hl : w.heap[l]? = some o) (hk : k ≤ l) : Below k w (w.putObj l o') :=
  ⟨rfl, rfl, rfl, by simp, fun i hi => World.putObj_heap_other (by omega)⟩

/-- a block that is no cells turns -/
theorem Sim.put {fk' : Fk} {w0 : Ctx fk} {w1 : Ctx fk'} {st : St} {l : Nat} {o o' : Obj} (hs : Sim B w0 st a w m) (hl : w.heap[l]? = some o) (ho : o.isCells = false) (hom : ∀ es clk, o ≠ .map es clk) (hB : B.n ≤ l) (hw : w1.w = w0.w) {a' : Act} (ht : a'.tmps = a.tmps)
    (hd : a'.defers = marks w1.ds) (hfr : FrOk B w1 (LB m st.heap) m (w.putObj l o') st.nxt) : Sim B w1 st a' (w.putObj l o') m := by
  have hc : ∀ ad v, w.cell? ad = some v → (w.putObj l o').cell? ad = some v := fun ad v h => cell_put hl ho ad v h
  refine ⟨by rw [hw]; exact hs.base, by rw [hw]; exact hs.below.trans (below_put hl hB), hd, by rw [ht]; exact hs.size, fun t => by rw [ht]; exact (hs.env t).cellsM hc, ⟨fun id c hin hdm => ?_, hs.heap.inj⟩, hs.dom, hs.ids, hfr⟩
  obtain ⟨h1, h2⟩ := hs.heap.entry id c hin hdm
  refine ⟨h1, ?_⟩
  rcases h2 with h2 | ⟨b, C, cs, e, e1, e2, e3, e4, e5, e6⟩ | ⟨b, es, clk, e1, e2, e3, e4, e5⟩
  · exact .inl h2
  · refine .inr (.inl ⟨b, C, cs, e, e1, ?_, e3, e4, e5, fun j p v hp hv => (e6 j p v hp hv).cellsM hc⟩)
    rw [← e2]
    refine World.putObj_heap_other (fun hbl => ?_)
    subst hbl
    rw [hl] at e2
    injection e2 with e2
    subst e2
    cases ho
  · refine .inr (.inr ⟨b, es, clk, e1, e2, ?_, e4, e5⟩)
    rw [← e3]
    refine World.putObj_heap_other (fun hbl => ?_)
    subst hbl
    rw [hl] at e3
    injection e3 with e3
    exact hom _ _ e3

/-- a new block that is no cells -/
theorem Sim.lay {fk' : Fk} {w0 : Ctx fk} {w1 : Ctx fk'} {st : St} (o : Obj) (hs : Sim B w0 st a w m) (hw : w1.w = w0.w) {a' : Act} (ht : a'.tmps = a.tmps)
    (hd : a'.defers = marks w1.ds) (hfr : FrOk B w1 (LB m st.heap) m (w.alloc o) st.nxt) : Sim B w1 st a' (w.alloc o) m := by
  have hb : Below w.heap.size w (w.alloc o) := (Below.refl _ w).alloc (Nat.le_refl _) o
  exact ⟨by rw [hw]; exact hs.base, by rw [hw]; exact hs.below.trans (hb.mono hs.room), hd, by rw [ht]; exact hs.size, fun t => by rw [ht]; exact (hs.env t).mono (Mm.le.refl m) (fun _ _ h => h) (fun b hb' _ => hb.block b hb'), hs.heap.below hb, hs.dom, hs.ids, hfr⟩
end

/-! ### A call of yield -/
def setE (env : Env) : List Nat → List AV → Env
  | t :: ts, v :: vs => setE ((t, v) :: env) ts vs
  | _, _ => env
omit [LaidW] in
@[simp] theorem setE_nil (env : Env) (vs : List AV) : setE env [] vs = env := by cases vs <;> rfl
omit [LaidW] in
@[simp] theorem setE_cons (env : Env) (t : Nat) (ts : List Nat) (v : AV) (vs : List AV) : setE env (t :: ts) (v :: vs) = setE ((t, v) :: env) ts vs := rfl

/-- how a round may end: the loop goes on, the places as they are said to be -/
def doneK (k : Nat) (K : Heap → Nat → Prop) : Exit → St → Prop
  | .normal, s => ∃ h' n' nt', Lek ⟨k, none⟩ s ⟨[], h', n', nt'⟩ ∧ K h' n'
  | _, _ => False
def roundK (P : Program) (k : Nat) (body : Code) (K : Heap → Nat → Prop) : Exit → St → Prop
  | .normal, s => AWPk ⟨k, none⟩ P body s (doneK k K)
  | _, _ => False
/-- a round: the assignment, and the body, on the places as they are -/
def Round (P : Program) (ri : RI) (avs : List AV) (h : Heap) (n : Nat) (K : Heap → Nat → Prop) : Prop :=
  avs.length = ri.ps.size ∧ (∀ t ∈ ri.ps, t < ri.nt) ∧ AWPk ⟨n, none⟩ P ri.assign ⟨setE ri.env ri.ps.toList avs, h, n, ri.nt⟩ (roundK P n ri.body K)

section
variable {P : Program} {B : Base} {m : Mm} {w : World} {h : Heap} {n : Nat} {env : Env} {a : Act} {L : Nat → Prop}

omit [LaidW] in
theorem setE_rep : ∀ (ps : List Nat) (avs : List AV) (vals : List Value) (e : Env) (T : Array Value), ps.length = avs.length → avs.length = vals.length → (∀ t ∈ ps, t < T.size) →
    (∀ (j : Nat) (x : AV) (v : Value), avs[j]? = some x → vals[j]? = some v → RepA B L m w x v) → (∀ t, RepA B L m w (get e t) (T.getD t undef)) →
    ((ps.zip vals).foldl (fun tmps (p : Nat × Value) => tmps.setIfInBounds p.1 p.2) T).size = T.size ∧
    ∀ t, RepA B L m w (get (setE e ps avs) t) (((ps.zip vals).foldl (fun tmps (p : Nat × Value) => tmps.setIfInBounds p.1 p.2) T).getD t undef)
  | [], [], [], e, T, _, _, _, _, he => ⟨rfl, by simpa using he⟩
  | p :: ps, x :: avs, v :: vals, e, T, h1, h2, hlt, hr, he => by
    simp only [List.zip_cons_cons, List.foldl_cons, setE_cons]
    have hp := hlt p (by simp)
    have := setE_rep ps avs vals ((p, x) :: e) (T.setIfInBounds p v) (by simpa using h1) (by simpa using h2) (fun t ht => by simpa using hlt t (by simp [ht])) (fun j y u hy hu => hr (j + 1) y u (by simpa using hy) (by simpa using hu)) (fun t => ?_)
    · refine ⟨by rw [this.1]; simp, this.2⟩
    · simp only [get]
      rw [Array.getD_eq_getD_getElem?, Array.getElem?_setIfInBounds]
      by_cases hpt : p = t
      · subst hpt
        simp only [if_true]
        rw [if_pos hp]
        exact hr 0 x v rfl rfl
      · simp only [hpt, if_false]
        rw [← Array.getD_eq_getD_getElem?]
        exact he t
  | [], _ :: _, _, _, _, h1, _, _, _, _ => by cases h1
  | _ :: _, [], _, _, _, h1, _, _, _, _ => by cases h1
  | [], [], _ :: _, _, _, _, h2, _, _, _ => by cases h2
  | _ :: _, _ :: _, [], _, _, _, h2, _, _, _ => by cases h2

omit [LaidW] in
theorem RepA.yl_inv {o f : Bool} {l : Nat} {v : Value} (h : RepA B L m w (.w o f (.yl l)) v) : v = .func (.yield l) #[] #[] := by
  cases h with | w h _ => cases h; rfl

omit [LaidW] in
theorem zip_fold (ps : Array Tmp) (vals : Array Value) (T : Array Value) : (ps.zip vals).foldl (fun tmps (t, a) => tmps.setIfInBounds t a) T = (ps.toList.zip vals.toList).foldl (fun tmps (p : Nat × Value) => tmps.setIfInBounds p.1 p.2) T := by
  rw [← Array.foldl_toList, Array.toList_zip]

end
end Go.Fi

namespace Go.Fi
open Go Go.RowKit
variable [LaidW]
variable {fk : Fk}

def DsOk {fk : Fk} (w0 : Ctx fk) : Prop := w0.ds.Nodup ∧ ∀ D ∈ w0.ds, (D, Obj.deferred (some [])) ∈ w0.obs
/-- as AWPk, of code that may range over functions: it may leave marks behind -/
def AWPr (fk : Fk) (P : Program) (c : Code) (st : St) (K : Exit → St → Prop) : Prop :=
  ∀ (B : Base) (w0 : Ctx fk) (a : Act) (w : World) (m : Mm), w0.r = none → DsOk w0 → Sim B w0 st a w m →
    c.wpIn (Fe none) 0 P (fun e a' w' => ∃ (w1 : Ctx fk) (st' : St) (m' : Mm), w1.w = w0.w ∧ w1.r = none ∧ DsOk w1 ∧ K e st' ∧ Sim B w1 st' a' w' m') a w

section
variable {P : Program} {K : Exit → St → Prop} {st st' : St}
theorem awr_of {c : Code} (h : AWPk fk P c st K) : AWPr fk P c st K := fun B w0 a w m hr hd hs => by
  have := h B w0 a w m hs
  rw [hr] at this
  exact wpIn_mono this (fun e a' w' ⟨st', m', h1, h2⟩ => ⟨w0, st', m', rfl, hr, hd, h1, h2⟩)
def thenR (fk : Fk) (P : Program) (b : Code) (K : Exit → St → Prop) : Exit → St → Prop
  | .normal, s => AWPr fk P b s K
  | e, s => K e s
theorem awr_seq {x y : Code} (h : AWPr fk P x st (thenR fk P y K)) : AWPr fk P (.seq x y) st K :=
  fun B w0 a w m hr hd hs => wpIn_seq (wpIn_mono (h B w0 a w m hr hd hs) (fun e a' w' ⟨w1, st', m', g1, g2, g3, h1, h2⟩ => by
    cases e with
    | normal => exact wpIn_mono (h1 B w1 a' w' m' g2 g3 h2) (fun e a2 w2 ⟨w3, s3, m3, k1, k2, k3, k4, k5⟩ => ⟨w3, s3, m3, k1.trans g1, k2, k3, k4, k5⟩)
    | _ => exact ⟨w1, st', m', g1, g2, g3, h1, h2⟩))
theorem awr_block {id : Nat} {c : Code} (h : AWPr fk P c st (blockK id K)) : AWPr fk P (.block id c) st K :=
  fun B w0 a w m hr hd hs => wpIn_block (wpIn_mono (h B w0 a w m hr hd hs) (fun e a' w' ⟨w1, st', m', g1, g2, g3, h1, h2⟩ => by
    cases e with
    | exit id' =>
      simp only [Exit.inBlock]; simp only [blockK] at h1
      split
      · rename_i hid; simp only [hid, if_true] at h1; exact ⟨w1, st', m', g1, g2, g3, h1, h2⟩
      · rename_i hid; simp only [hid, if_false] at h1; exact ⟨w1, st', m', g1, g2, g3, h1, h2⟩
    | _ => exact ⟨w1, st', m', g1, g2, g3, h1, h2⟩))
theorem awr_le {c : Code} (hle : Lek fk st st') (h : AWPr fk P c st' K) : AWPr fk P c st K :=
  fun B w0 a w m hr hd hs => let ⟨m', hs'⟩ := hle B w0 a w m hs; h B w0 a w m' hr hd hs'

/-- a function that ranges over functions -/
theorem realcall_intro_r {f : FuncId} {fn : Func} {c : Code} {args : List PV} {res : PV} {fr : Bool} (hf : P.funcs[f]? = some fn) (hname : (fn.name == "runtime.NumGoroutine") = false) (hb : fn.body = some c) (hnt : args.length ≤ fn.ntmps)
    (h : AWPr fk0 P c ⟨envOf 0 args, [], 0, fn.ntmps⟩ (retK P fn.results.toList res fr)) : RealCall P f args res fr := by
  refine ⟨⟨fn, hf, hname, by rw [hb]; rfl⟩, fun G w vs hok hlen hrep => ?_⟩
  refine (callsIn_wide (n := 0)).1 (callsIn_of_wp_marks hf hb trivial ?_ rfl)
  have hsim : Sim ⟨w.heap.size, G⟩ (⟨w, [], none, [], [], fun ri h => (by cases h), hok⟩ : Ctx fk0) ⟨envOf 0 args, [], 0, fn.ntmps⟩ { tmps := vs ++ Array.replicate (fn.ntmps - vs.size) undef, defers := [] } w ⟨fun _ _ => none, fun _ => 0, fun _ => False⟩ := by
    refine ⟨rfl, Below.refl _ _, rfl, by simp; omega, fun t => ?_, ⟨fun id cells hin => (by cases hin), List.Pairwise.nil⟩, fun i => ⟨fun h => h.elim, fun h => absurd h (Nat.not_lt_zero i)⟩, fun id c hin => (by cases hin), Nat.zero_le _, (fun p hp => by cases hp), fun q hq => by cases hq⟩
    show RepA _ _ _ _ (get (envOf 0 args) t) _
    rw [get_envOf]
    split
    · rename_i ht
      have hlt : t < args.length := by omega
      refine .w ?_ (fun h => by cases h)
      have : (vs ++ Array.replicate (fn.ntmps - vs.size) undef).getD t undef = vs[t]'(by omega) := by
        rw [Array.getD_eq_getD_getElem?, Array.getElem?_append_left (by omega), Array.getElem?_eq_getElem (by omega)]; rfl
      rw [this]
      refine (hrep t _ _ (by simpa using getD_some hlt) (Array.getElem?_eq_getElem (by omega))).imp fun b hg => ⟨?_, (fun h => by cases h), fun _ => hg⟩
      rintro ⟨id, cells, C, hin, _⟩
      cases hin
    · exact .w (.undef _) (fun h => by cases h)
  refine wpIn_mono (h _ _ _ _ _ rfl ⟨List.nodup_nil, fun D h => by cases h⟩ hsim) (fun e a' w' ⟨w1, st', m', g1, g2, g3, hk, hs⟩ => ?_)
  -- the marks, one behind the other
  have main : RetOk P fn.results.toList st' res fr → ∀ (ds : List Nat) (w1 : Ctx fk0) (a1 : Act) (W : World), w1.w = w → w1.ds = ds → DsOk w1 → Sim ⟨w.heap.size, G⟩ w1 st' a1 W m' →
      LeavesInM Fence.wide 0 P fn a1.tmps (fun e w' => ∃ v, e = .returned v ∧ Below w.heap.size w w' ∧ Rep (fun b => (b < w.heap.size → G b) ∧ (fr = true → w.heap.size ≤ b)) w' res v) (marks ds) .returning W := by
    intro hr ds
    induction ds with
    | nil =>
      intro w1 a1 W hw1 hds hdk hs
      unfold RetOk at hr
      split at hr
      · rename_i vs' d hres
        obtain ⟨hd, hfz, hfr⟩ := hr
        obtain ⟨us, h1, h2, h3⟩ := run_results hs _ _ _ hres hd
        have hrun : (results fn a1.tmps).run P W = .ok (if h : us.toArray.size = 1 then us.toArray[0] else .tuple us.toArray) W := by
          have he : results fn a1.tmps = (do
              let vs ← fn.results.mapM (resRun a1.tmps)
              pure (if h : vs.size = 1 then vs[0] else .tuple vs)) := rfl
          rw [he, Array.mapM_eq_mapM_toList]
          simp only [Sem.run_bind, Sem.run_map, h1, Result.andThen_ok, Sem.run_pure]
        have hone : RepA ⟨w.heap.size, G⟩ (LB m' st'.heap) m' W (oneOf vs') (if h : us.toArray.size = 1 then us.toArray[0] else .tuple us.toArray) := by
          have tupc : vs'.length ≠ 1 → RepA ⟨w.heap.size, G⟩ (LB m' st'.heap) m' W (.tup vs') (if h : us.toArray.size = 1 then us.toArray[0] else .tuple us.toArray) := by
            intro hne
            rw [dif_neg (by simp; omega)]
            exact .tup (by simpa using h2) (fun j p u hp hu => h3 j p u hp (by simpa using hu))
          match vs', h2, h3, tupc with
          | [], h2, h3, tupc => exact tupc (by simp)
          | [v], h2, h3, tupc =>
            obtain ⟨u, rfl⟩ : ∃ u, us = [u] := List.length_eq_one_iff.1 (by simpa using h2.symm)
            exact h3 0 v u rfl rfl
          | v :: v2 :: r, h2, h3, tupc => exact tupc (by simp)
        refine ⟨_, hrun, _, rfl, ?_, ?_⟩
        · have hbl := hs.below
          rw [hw1] at hbl
          exact hbl
        exact frz_rep (B := ⟨w.heap.size, G⟩) hs.heap (fun id cs e => hget_mem e) fr (fun b hb => ⟨fun hl => by simp only at hb; omega, fun _ => hb⟩) (fun hf b hg => ⟨hg.2.2, fun h => by rw [hf] at h; cases h⟩) 6 _ _ _ hfz hfr hone
      · exact hr.elim
    | cons D ds ih =>
      intro w1 a1 W hw1 hds hdk hs
      obtain ⟨hBD, hDl, hLD, hDh⟩ := hs.fr.2.2 _ (hdk.2 D (by rw [hds]; simp))
      refine ⟨by simp, .inl ⟨D, _, rfl, run_takeDeferred hDh, ?_⟩⟩
      have hnd := hdk.1
      rw [hds] at hnd
      obtain ⟨hn1, hn2⟩ := List.nodup_cons.1 hnd
      refine ih (⟨w1.w, [], none, w1.obs.filter (fun q => decide (q.1 ≠ D)), ds, fun ri h => (by cases h), w1.ok⟩ : Ctx fk0) { a1 with defers := marks ds } _ hw1 rfl ⟨hn2, fun D' hD' => List.mem_filter.2 ⟨hdk.2 D' (by rw [hds]; simp [hD']), by simp; rintro rfl; exact hn1 hD'⟩⟩ ?_
      refine Sim.put (w1 := (⟨w1.w, [], none, w1.obs.filter (fun q => decide (q.1 ≠ D)), ds, fun ri h => (by cases h), w1.ok⟩ : Ctx fk0)) (o' := .deferred none) hs hDh rfl (fun _ _ h => by cases h) hBD rfl rfl rfl ⟨Nat.zero_le _, (fun p hp => by cases hp), fun q hq => ?_⟩
      obtain ⟨hq, hne⟩ := List.mem_filter.1 hq
      obtain ⟨o1, o2, o3, o4⟩ := hs.fr.2.2 q hq
      exact ⟨o1, by simpa using o2, o3, (World.putObj_heap_other (by simpa using hne)).trans o4⟩
  cases e with
  | normal =>
    show LeavesInM _ _ _ _ _ _ a'.defers _ _
    rw [hs.defers]
    exact main hk _ _ _ _ g1 rfl g3 hs
  | ret =>
    show LeavesInM _ _ _ _ _ _ a'.defers _ _
    rw [hs.defers]
    exact main hk _ _ _ _ g1 rfl g3 hs
  | _ => exact hk.elim
end
end Go.Fi

