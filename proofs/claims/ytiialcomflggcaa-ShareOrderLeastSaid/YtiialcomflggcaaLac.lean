/- A logic of abstract states for this claim (part Lac): lemmas alone. -/
import Derived.Test.YtiialcomflggcaaLo
set_option linter.unusedSimpArgs false
set_option linter.unusedVariables false

namespace Go.Fi
open Go Go.RowKit
variable [LaidW]
variable {fk : Fk}

section
variable {B : Base} {m : Mm} {w : World} {h : Heap} {n : Nat} {env : Env} {a : Act} {P : Program}
/-- A CALL WALKED IN THE CALLER'S MEMORY, the loop over a function that is under way still known (so the callee may yield) -/
theorem inline_soundY {w0 : Ctx fk} {nt : Nat} (o : Oper) (f : Operand) (args : Array Operand) (tys : Array TypeId) (ho : o.op = .call { callee := .value f, args := args, argTypes := tys })
    {g : FuncId} {caps : List AV} (hf : fnOf (ev env f) = some (g, caps)) {fn : Func} {c : Code} (hfn : P.funcs[g]? = some fn) (hname : (fn.name == "runtime.NumGoroutine") = false) (hb : fn.body = some c)
    (hnt : (args.toList.map (ev env) ++ caps).length ≤ fn.ntmps) {Kv : AV → Heap → Nat → Prop} (hw : AWPk ⟨n, fk.ri⟩ P c ⟨envA 0 (args.toList.map (ev env) ++ caps), h, n, fn.ntmps⟩ (inlK P fn.results.toList Kv))
    (hs : Sim B w0 ⟨env, h, n, nt⟩ a w m) (hdk : dOk nt o.dst) (Q : Exit → Act → World → Prop) (K' : Act → World → Prop)
    (hK : ∀ v h' n' a' w' m', Kv v h' n' → Sim B w0 ⟨put env o.dst v, h', n', nt⟩ a' w' m' → K' a' w') : o.wp P a w K' Q := by
  have hxa : ∀ x : Operand, RepA B (LB m h) m w (ev env x) (a.eval x) := fun x => ev_rep x (fun t _ => hs.env t)
  have hxf := hxa f
  have hfv : ∃ cv : Array Value, a.eval f = .func (.func g) #[] cv ∧ caps.length = cv.size ∧ ∀ (j : Nat) (p : AV) (v : Value), caps[j]? = some p → cv[j]? = some v → RepA B (LB m h) m w p v := by
    unfold fnOf at hf
    split at hf
    · rename_i g' caps' e
      injection hf with hf; injection hf with h1 h2; subst h1; subst h2
      rw [e] at hxf
      generalize hv : a.eval f = vf at hxf
      cases hxf with | fn h1 h2 => exact ⟨_, rfl, h1, h2⟩
    · rename_i own f' g' caps' e
      injection hf with hf; injection hf with h1 h2; subst h1; subst h2
      rw [e] at hxf
      generalize hv : a.eval f = vf at hxf
      cases hxf with
      | w h1 _ =>
        cases h1 with
        | fn h1 h2 =>
          refine ⟨_, rfl, by simpa using h1, fun j p v hp hv => ?_⟩
          obtain ⟨q, hq, rfl⟩ := getElem?_map_some hp
          exact .w (h2 j q v hq hv) (fun h => by cases h)
    · cases hf
  obtain ⟨cv, hfe, hcl, hcr⟩ := hfv
  have hvs : ∀ (j : Nat) (x : AV) (v : Value), (args.toList.map (ev env) ++ caps)[j]? = some x → (args.map a.eval ++ cv)[j]? = some v → RepA B (LB m h) m w x v := by
    intro j x v hj hv
    by_cases hlt : j < args.size
    · rw [List.getElem?_append_left (by simpa using hlt)] at hj
      rw [Array.getElem?_append_left (by simpa using hlt)] at hv
      obtain ⟨y, hy, rfl⟩ := getElem?_map_some hj
      rw [Array.getElem?_map] at hv
      have : args[j]? = some y := by rw [← Array.getElem?_toList]; exact hy
      rw [this] at hv; injection hv with hv; subst hv
      exact hxa y
    · rw [List.getElem?_append_right (by simp; omega)] at hj
      rw [Array.getElem?_append_right (by simp; omega)] at hv
      simp only [List.length_map, Array.length_toList, Array.size_map] at hj hv
      exact hcr _ x v hj hv
  have hlen : (args.toList.map (ev env) ++ caps).length = (args.map a.eval ++ cv).size := by simp [hcl]
  generalize hvsd : args.map a.eval ++ cv = vs at hvs hlen
  generalize hasd : args.toList.map (ev env) ++ caps = avs at hvs hlen hnt hw
  have hrun : (execOp a.eval o).run P w = .ok (.enter g vs) w := by
    have hn' : ¬ fn.name = "runtime.NumGoroutine" := by simpa using hname
    simp [execOp, ho, resolve, hfe, Deferred.ofValue, invoke, callFunc, hfn, hn', hb, ← hvsd]
  unfold Oper.wp
  rw [hrun, Oper.upon_enter]
  have hdom : ∀ i, m.dom i → i < n := fun i hd => (hs.dom i).1 hd
  refine calls_of_wp hfn hb ((wpIn_wide (n := 0)).1 ?_)
  have hsim : Sim B (⟨w0.w, w0.F ++ env.map fun p => (get env p.1, a.tmps.getD p.1 undef), none, w0.obs, [], fun ri h => (let ⟨fn, T, D, h1, h2, h3⟩ := w0.rec_ ri h; ⟨fn, T, D, h1, h2, fun t v ht => List.mem_append.2 (.inl (h3 t v ht))⟩), w0.ok⟩ : Ctx ⟨n, fk.ri⟩) ⟨envA 0 avs, h, n, fn.ntmps⟩ { tmps := vs ++ Array.replicate (fn.ntmps - vs.size) undef, defers := [] } w m := by
    refine ⟨hs.base, hs.below, rfl, by simp; omega, fun t => ?_, hs.heap, hs.dom, hs.ids, Nat.le_refl _, fun p hp => ?_, hs.fr.2.2⟩
    · show RepA _ _ _ _ (get (envA 0 avs) t) _
      rw [get_envA]
      split
      · rename_i ht
        have hlt : t < avs.length := by omega
        have : (vs ++ Array.replicate (fn.ntmps - vs.size) undef).getD t undef = vs[t]'(by omega) := by
          rw [Array.getD_eq_getD_getElem?, Array.getElem?_append_left (by omega), Array.getElem?_eq_getElem (by omega)]; rfl
        rw [this]
        exact hvs t _ _ (by simpa using getD_some hlt) (Array.getElem?_eq_getElem (by omega))
      · exact .w (.undef _) (fun h => by cases h)
    · rcases List.mem_append.1 hp with hp | hp
      · exact ⟨AV.lt_mono hs.fr.1 (hs.fr.2.1 p hp).1, (hs.fr.2.1 p hp).2⟩
      · obtain ⟨q, _, rfl⟩ := List.mem_map.1 hp
        exact ⟨(hs.env q.1).lt_of hdom, hs.env q.1⟩
  refine wpIn_mono (hw _ _ _ _ _ hsim) (fun e a' w' ⟨st', m', hk, hs'⟩ => ?_)
  have main : RetA P fn.results.toList st' Kv → a'.defers = [] ∧ ∃ v, (results fn a'.tmps).run P w' = .ok v w' ∧ K' (a.put o.dst v) w' := by
    intro hr
    refine ⟨hs'.defers, ?_⟩
    unfold RetA at hr
    split at hr
    · rename_i vs' d hres
      obtain ⟨hd, hkv⟩ := hr
      obtain ⟨us, h1, h2, h3⟩ := run_results hs' _ _ _ hres hd
      have hrun : (results fn a'.tmps).run P w' = .ok (if h : us.toArray.size = 1 then us.toArray[0] else .tuple us.toArray) w' := by
        have he : results fn a'.tmps = (do
            let vs ← fn.results.mapM (resRun a'.tmps)
            pure (if h : vs.size = 1 then vs[0] else .tuple vs)) := rfl
        rw [he, Array.mapM_eq_mapM_toList]
        simp only [Sem.run_bind, Sem.run_map, h1, Result.andThen_ok, Sem.run_pure]
      have hone : RepA B (LB m' st'.heap) m' w' (oneOf vs') (if h : us.toArray.size = 1 then us.toArray[0] else .tuple us.toArray) := by
        have tupc : vs'.length ≠ 1 → RepA B (LB m' st'.heap) m' w' (.tup vs') (if h : us.toArray.size = 1 then us.toArray[0] else .tuple us.toArray) := by
          intro hne
          rw [dif_neg (by simp; omega)]
          exact .tup (by simpa using h2) (fun j p u hp hu => h3 j p u hp (by simpa using hu))
        match vs', h2, h3, tupc with
        | [], h2, h3, tupc => exact tupc (by simp)
        | [v], h2, h3, tupc =>
          obtain ⟨u, rfl⟩ : ∃ u, us = [u] := List.length_eq_one_iff.1 (by simpa using h2.symm)
          exact h3 0 v u rfl rfl
        | v :: v2 :: r, h2, h3, tupc => exact tupc (by simp)
      refine ⟨_, hrun, ?_⟩
      have hfr := hs'.fr.2.1
      have hold : ∀ t, RepA B (LB m' st'.heap) m' w' (get env t) (a.tmps.getD t undef) := by
        intro t
        rcases get_key env t with ⟨v, hv⟩ | hu
        · exact (hfr (get env t, a.tmps.getD t undef) (List.mem_append.2 (.inr (List.mem_map.2 ⟨(t, v), hv, rfl⟩)))).2
        · rw [hu]; exact .w (.undef _) (fun h => by cases h)
      refine hK (oneOf vs') st'.heap st'.nxt _ _ m' hkv ⟨hs'.base, hs'.below, by rw [put_defers]; exact hs.defers, by rw [put_size]; exact hs.size, ?_, hs'.heap, hs'.dom, hs'.ids, Nat.le_trans hs.fr.1 hs'.fr.1, fun p hp => ?_, hs'.fr.2.2⟩
      · exact get_put env a o.dst _ _ (by rw [hs.size]; exact hdk) hone hold
      · exact ⟨(hs.fr.2.1 p hp).1, (hfr p (List.mem_append.2 (.inl hp))).2⟩
    · exact hr.elim
  cases e with
  | normal => exact main hk
  | ret => exact main hk
  | _ => exact hk.elim
end

section
variable {P : Program} {K : Exit → St → Prop}
/-- a call walked in the caller's memory, as an operation -/
def IWY (r : Option RI) (P : Program) (nt : Nat) (e : Env) (h : Heap) (n : Nat) (o : Oper) (g : FuncId) (caps : List AV) (fn : Func) (c : Code) (args : List AV) (K : Env → Heap → Nat → Prop) : Prop :=
  dOk nt o.dst ∧ o.guard = none ∧ AWPk ⟨n, r⟩ P c ⟨envA 0 (args ++ caps), h, n, fn.ntmps⟩ (inlK P fn.results.toList fun v h' n' => K (put e o.dst v) h' n')
/-- AN ORDERED REGION WITH A CALL THAT IS WALKED IN PLACE -/
theorem awp_regionIY {id : Nat} {ops : Array Oper} {env : Env} {h : Heap} {n nt : Nat} (pre : List Oper) (o : Oper) (post : List Oper) (hops : ops.toList = pre ++ o :: post) {f : Operand} {args : Array Operand} {tys : Array TypeId}
    (ho : o.op = .call { callee := .value f, args := args, argTypes := tys }) {g : FuncId} {fn : Func} {c : Code} (hfn : P.funcs[g]? = some fn) (hname : (fn.name == "runtime.NumGoroutine") = false) (hb : fn.body = some c)
    (hk : aOps P ops nt pre env h n fun e' h' n' => ∃ caps, fnOf (ev e' f) = some (g, caps) ∧ (args.toList.map (ev e') ++ caps).length ≤ fn.ntmps ∧ IWY fk.ri P nt e' h' n' o g caps fn c (args.toList.map (ev e')) fun e'' h'' n'' => aOps P ops nt post e'' h'' n'' fun e3 h3 n3 => K .normal ⟨e3, h3, n3, nt⟩) :
    AWPk fk P (.region id ops false) ⟨env, h, n, nt⟩ K := by
  intro B w0 a w m hs
  refine wpIn_region_list ?_
  rw [hops]
  refine aOps_app (o :: post) ?_ pre env h n a w m hk hs
  rintro e h n a w m ⟨caps, hf, hnt, hdk, hgu, hw⟩ hs
  have hrest : ∀ e'' h'' n'' a'' w'' m'', (aOps P ops nt post e'' h'' n'' fun e3 h3 n3 => K .normal ⟨e3, h3, n3, nt⟩) → Sim B w0 ⟨e'', h'', n'', nt⟩ a'' w'' m'' → wpListIn (Fe w0.r) 0 P ops (fun e a' w' => ∃ st' m', K e st' ∧ Sim B w0 st' a' w' m') post a'' w'' :=
    fun e'' h'' n'' a'' w'' m'' hk' hs' => aOps_sound (fun _ _ _ _ _ m hk' hs' => ⟨_, m, hk', hs'⟩) post _ _ _ _ _ m'' hk' hs'
  simp only [wpListIn, Region.wanted, hgu, if_true]
  exact wpIn_of_wp (fun c e => by rw [ho] at e; cases e) (inline_soundY o f args tys ho hf hfn hname hb hnt hw hs hdk _ _ (fun v h' n' a' w' m' hkv hs' => hrest _ _ _ _ _ m' hkv hs'))
/-- a call of a function value in the middle of a region in order, walked on the caller's places, the loop under way still known -/
def InlY (r : Option RI) (P : Program) (ops : Array Oper) (nt : Nat) (o : Oper) (post : List Oper) (f : Operand) (g : FuncId) (fn : Func) (c : Code) (args : Array Operand) (e : Env) (h : Heap) (n : Nat) (K : Env → Heap → Nat → Prop) (_ : Mark (o, post, c, K)) : Prop :=
  ∃ caps, fnOf (ev e f) = some (g, caps) ∧ (args.toList.map (ev e) ++ caps).length ≤ fn.ntmps ∧ IWY r P nt e h n o g caps fn c (args.toList.map (ev e)) fun e'' h'' n'' => aOps P ops nt post e'' h'' n'' K
@[congr] theorem InlY_congr {r : Option RI} {ops : Array Oper} {nt : Nat} {o : Oper} {post : List Oper} {f : Operand} {g : FuncId} {fn : Func} {c : Code} {args : Array Operand} {e e' : Env} {h h' : Heap} {n n' : Nat} {K : Env → Heap → Nat → Prop} {mk : Mark (o, post, c, K)} (h1 : e = e') (h2 : h = h') (h3 : n = n') :
    InlY r P ops nt o post f g fn c args e h n K mk = InlY r P ops nt o post f g fn c args e' h' n' K mk := by rw [h1, h2, h3]
theorem inlY_intro {r : Option RI} {ops : Array Oper} {nt : Nat} {o : Oper} {post : List Oper} {f : Operand} {g : FuncId} {fn : Func} {c : Code} {args : Array Operand} {e : Env} {h : Heap} {n : Nat} {K : Env → Heap → Nat → Prop} {mk : Mark (o, post, c, K)} (caps : List AV) (hf : fnOf (ev e f) = some (g, caps)) (hl : args.toList.length + caps.length ≤ fn.ntmps) (hd : dOk nt o.dst) (hg : o.guard = none)
    (hk : AWPk ⟨n, r⟩ P c ⟨envA 0 (args.toList.map (ev e) ++ caps), h, n, fn.ntmps⟩ (inlK P fn.results.toList fun v h' n' => aOps P ops nt post (put e o.dst v) h' n' K)) : InlY r P ops nt o post f g fn c args e h n K mk :=
  ⟨caps, hf, by rw [List.length_append, List.length_map]; exact hl, hd, hg, hk⟩
theorem awp_regionL {id : Nat} {ops : Array Oper} {env : Env} {h : Heap} {n nt : Nat} (i : Nat) (g : FuncId) {fn : Func} {c : Code} (hfn : P.funcs[g]? = some fn) (hname : (fn.name == "runtime.NumGoroutine") = false) (hb : fn.body = some c)
    (hi : i < ops.toList.length) {f : Operand} {args : Array Operand} {tys : Array TypeId} (ho : (ops.toList.getD i default).op = .call { callee := .value f, args := args, argTypes := tys })
    (hk : aOps P ops nt (ops.toList.take i) env h n fun e' h' n' => InlY fk.ri P ops nt (ops.toList.getD i default) (ops.toList.drop (i + 1)) f g fn c args e' h' n' (fun e3 h3 n3 => K .normal ⟨e3, h3, n3, nt⟩) .it) :
    AWPk fk P (.region id ops false) ⟨env, h, n, nt⟩ K := by
  refine awp_regionIY (ops.toList.take i) (ops.toList.getD i default) (ops.toList.drop (i + 1)) ?_ ho hfn hname hb hk
  have e : ops.toList.getD i default = ops.toList[i] := by simp [List.getD_eq_getElem?_getD, List.getElem?_eq_getElem hi]
  rw [e, List.getElem_cons_drop, List.take_append_drop]
end
end Go.Fi

