/- A logic of abstract states for this claim (part Lbl): lemmas alone. -/
import Derived.Test.YtfpamehamllndaaGreatDoorLac
import Derived.Test.YtfpamehamllndaaGreatDoorLu
import Derived.Test.YtfpamehamllndaaGreatDoorLo
set_option linter.unusedSimpArgs false
set_option linter.unusedVariables false

namespace Go.Fi
open Go Go.RowKit
variable [LaidW]

/-! ### ranges over functions whose round may leave the function ('return' in the loop's body) -/
/-- the loop's record behind such a round: done, the return pending -/
def LeftCtx {k : Nat} {ri : RI} (w0 : Ctx ⟨k, some ri⟩) (w1 : Ctx ⟨k, none⟩) : Prop :=
  w1.w = w0.w ∧ w1.F = w0.F ∧ w1.r = w0.r ∧ w1.ds = w0.ds ∧ (∃ fn T D, (ri.l, rec_ ri fn T D .done (some .ret)) ∈ w1.obs) ∧ ∀ q ∈ w0.obs, q.1 ≠ ri.l → q ∈ w1.obs

def doneK2 (k : Nat) (K Kl : Heap → Nat → Prop) : Exit → St → Prop
  | .normal, s => ∃ h' n' nt', Lek ⟨k, none⟩ s ⟨[], h', n', nt'⟩ ∧ K h' n'
  | .ret, s => ∃ h' n' nt', Lek ⟨k, none⟩ s ⟨[], h', n', nt'⟩ ∧ Kl h' n'
  | _, _ => False
def roundK2 (P : Program) (k : Nat) (body : Code) (K Kl : Heap → Nat → Prop) : Exit → St → Prop
  | .normal, s => AWPk ⟨k, none⟩ P body s (doneK2 k K Kl)
  | _, _ => False
/-- a round that goes on (K), or leaves the function (Kl) -/
def Round2 (P : Program) (ri : RI) (avs : List AV) (h : Heap) (n : Nat) (K Kl : Heap → Nat → Prop) : Prop :=
  avs.length = ri.ps.size ∧ (∀ t ∈ ri.ps, t < ri.nt) ∧ AWPk ⟨n, none⟩ P ri.assign ⟨setE ri.env ri.ps.toList avs, h, n, ri.nt⟩ (roundK2 P n ri.body K Kl)
@[simp ↓] theorem roundK2_normal (P : Program) (k : Nat) (body : Code) (K Kl : Heap → Nat → Prop) (s : St) : roundK2 P k body K Kl .normal s = AWPk ⟨k, none⟩ P body s (doneK2 k K Kl) := rfl
@[congr] theorem doneK2_congr {k : Nat} {K Kl : Heap → Nat → Prop} {e e' : Exit} {s s' : St} (h1 : e = e') (h2 : s = s') : doneK2 k K Kl e s = doneK2 k K Kl e' s' := by rw [h1, h2]
@[congr] theorem roundK2_congr {P : Program} {k : Nat} {body : Code} {K Kl : Heap → Nat → Prop} {e e' : Exit} {s s' : St} (h1 : e = e') (h2 : s = s') : roundK2 P k body K Kl e s = roundK2 P k body K Kl e' s' := by rw [h1, h2]
theorem doneK2_go {k : Nat} {K Kl : Heap → Nat → Prop} {s : St} (h' : Heap) (n' : Nat) (nt' : Nat) (hle : Lek ⟨k, none⟩ s ⟨[], h', n', nt'⟩) (hk : K h' n') : doneK2 k K Kl .normal s := ⟨h', n', nt', hle, hk⟩
theorem doneK2_ret {k : Nat} {K Kl : Heap → Nat → Prop} {s : St} (h' : Heap) (n' : Nat) (nt' : Nat) (hle : Lek ⟨k, none⟩ s ⟨[], h', n', nt'⟩) (hk : Kl h' n') : doneK2 k K Kl .ret s := ⟨h', n', nt', hle, hk⟩

section
variable {P : Program} {B : Base} {m : Mm} {w : World} {h : Heap} {n : Nat} {env : Env} {a : Act} {L : Nat → Prop}
theorem yield_sound2 {k : Nat} {ri : RI} {w0 : Ctx ⟨k, some ri⟩} {nt : Nat} (o : Oper) (f : Operand) (args : Array Operand) (tys : Array TypeId) (ho : o.op = .call { callee := .value f, args := args, argTypes := tys })
    {ow fl : Bool} (hf : ev env f = .w ow fl (.yl ri.l)) {Kv Kl : Heap → Nat → Prop} (hw : Round2 P ri (args.toList.map (ev env)) h n Kv Kl)
    (hs : Sim B w0 ⟨env, h, n, nt⟩ a w m) (hdk : dOk nt o.dst) (Q : Exit → Act → World → Prop) (K' : Act → World → Prop)
    (hK : ∀ h' n' a' w' m', Kv h' n' → Sim B w0 ⟨put env o.dst (.w false false (.bool true)), h', n', nt⟩ a' w' m' → K' a' w')
    (hKl : ∀ (w1 : Ctx ⟨k, none⟩) h' n' a' w' m', LeftCtx w0 w1 → Kl h' n' → Sim B w1 ⟨put env o.dst (.w false false (.bool false)), h', n', nt⟩ a' w' m' → K' a' w') : o.wpIn (Fe w0.r) 0 P a w K' Q := by
  obtain ⟨hlen, hlt, hw⟩ := hw
  have hxa : ∀ x : Operand, RepA B (LB m h) m w (ev env x) (a.eval x) := fun x => ev_rep x (fun t _ => hs.env t)
  have hfe : a.eval f = .func (.yield ri.l) #[] #[] := by have := hxa f; rw [hf] at this; exact this.yl_inv
  obtain ⟨fn, T, D, hin, hT, henv⟩ := w0.rec_ ri rfl
  obtain ⟨hBl, hll, hLl, hl⟩ := hs.fr.2.2 _ hin
  have hno : (rec_ ri fn T D .ready none).isCells = false := rfl
  have hdom : ∀ i, m.dom i → i < n := fun i hd => (hs.dom i).1 hd
  generalize hvals : args.map a.eval = vals
  have hvl : vals.size = ri.ps.size := by rw [← hvals, ← hlen]; simp
  have hrun : (execOp a.eval o).run P w = .ok (.round ri.l fn ((ri.ps.zip vals).foldl (fun tmps (t, a) => tmps.setIfInBounds t a) T) ri.assign ri.body) w := by
    have hy := run_yield (P := P) (args := vals) (r := { state := .ready, pending := none, fn := fn, tmps := T, params := ri.ps, assign := ri.assign, body := ri.body, defers := D }) hl hvl
    simp [execOp, ho, resolve, hfe, Deferred.ofValue, invoke, callFunc, hvals, hy]
  refine ⟨fun _ _ => trivial, ?_⟩
  rw [show o.semAt (Fe w0.r).round a.eval = execOp a.eval o from Oper.semAt_eq _ _ _ (fun c e => by rw [ho] at e; cases e), hrun, Oper.uponIn_round]
  refine ⟨fun e => absurd e (by simp [Fe, Fence.wide]), roundIn_of_wpIn trivial ?_⟩
  obtain ⟨F1, hF1⟩ : ∃ F1, w0.F ++ env.map (fun p => (get env p.1, a.tmps.getD p.1 undef)) = F1 := ⟨_, rfl⟩
  have hF : ∀ p ∈ F1, p.1.lt n = true ∧ RepA B (LB m h) m w p.1 p.2 := by
    intro p hp
    rw [← hF1] at hp
    rcases List.mem_append.1 hp with hp | hp
    · exact ⟨AV.lt_mono hs.fr.1 (hs.fr.2.1 p hp).1, (hs.fr.2.1 p hp).2⟩
    · obtain ⟨q, _, rfl⟩ := List.mem_map.1 hp
      exact ⟨(hs.env q.1).lt_of hdom, hs.env q.1⟩
  have hTe : ∀ t, RepA B (LB m h) m w (get ri.env t) (T.getD t undef) := by
    intro t
    rcases get_key ri.env t with ⟨v, hv⟩ | hu
    · exact (hs.fr.2.1 _ (henv t v hv)).2
    · rw [hu]; exact .w (.undef _) (fun h => by cases h)
  have hset := setE_rep (B := B) (L := LB m h) (m := m) (w := w) ri.ps.toList (args.toList.map (ev env)) vals.toList ri.env T (by rw [hlen]; simp) (by rw [← hvals]; simp) (fun t ht => by rw [hT]; exact hlt t (by simpa using ht))
    (fun j x v hx hv => by
      rw [← hvals] at hv
      rw [List.getElem?_map] at hx
      simp only [Array.getElem?_toList, Array.getElem?_map] at hv hx
      cases hj : args[j]? with
      | none => rw [hj] at hx; cases hx
      | some y =>
        rw [hj] at hx hv
        injection hx with hx; injection hv with hv
        subst hx; subst hv
        exact hxa y) hTe
  rw [zip_fold]
  generalize hT' : (ri.ps.toList.zip vals.toList).foldl (fun tmps (p : Nat × Value) => tmps.setIfInBounds p.1 p.2) T = T' at hset ⊢
  have hsim : Sim B (⟨w0.w, F1, some ri.l, w0.obs, [], fun ri h => (by cases h), w0.ok⟩ : Ctx ⟨n, none⟩) ⟨setE ri.env ri.ps.toList (args.toList.map (ev env)), h, n, ri.nt⟩ { tmps := T', defers := [] } w m :=
    ⟨hs.base, hs.below, rfl, hset.1.trans hT, hset.2, hs.heap, hs.dom, hs.ids, Nat.le_refl _, hF, hs.fr.2.2⟩
  refine wpIn_mono (hw _ _ _ _ _ hsim) (fun e a1 w1 ⟨st1, m1, hk1, hs1⟩ => ?_)
  cases e with
  | normal =>
    obtain ⟨_, hll1, hLl1, hl1⟩ := hs1.fr.2.2 _ hin
    replace hl1 : w1.heap[ri.l]? = some (rec_ ri fn T D .ready none) := hl1
    replace hll1 : ri.l < w1.heap.size := hll1
    refine ⟨_, run_beginRound hl1 rfl, ?_⟩
    have hs2 : Sim B (⟨w0.w, F1, some ri.l, (ri.l, rec_ ri fn T D .busy none) :: w0.obs.filter (fun q => decide (q.1 ≠ ri.l)), [], fun ri h => (by cases h), w0.ok⟩ : Ctx ⟨n, none⟩) st1 a1 (w1.putObj ri.l (rec_ ri fn T D .busy none)) m1 := by
      refine Sim.put (w1 := (⟨w0.w, F1, some ri.l, (ri.l, rec_ ri fn T D .busy none) :: w0.obs.filter (fun q => decide (q.1 ≠ ri.l)), [], fun ri h => (by cases h), w0.ok⟩ : Ctx ⟨n, none⟩)) (o' := rec_ ri fn T D .busy none) hs1 hl1 hno (fun _ _ h => by cases h) hBl rfl rfl (by exact hs1.defers) ⟨hs1.fr.1, fun p hp => ⟨(hs1.fr.2.1 p hp).1, (hs1.fr.2.1 p hp).2.cellsM (fun ad v h => cell_put hl1 hno ad v h)⟩, fun q hq => ?_⟩
      rcases List.mem_cons.1 hq with e | hq
      · subst e
        exact ⟨hBl, by simpa using hll1, hLl1, World.putObj_heap_same hll1⟩
      · obtain ⟨hq, hne⟩ := List.mem_filter.1 hq
        obtain ⟨o1, o2, o3, o4⟩ := hs1.fr.2.2 q hq
        exact ⟨o1, by simpa using o2, o3, (World.putObj_heap_other (by simpa using hne)).trans o4⟩
    -- how the round ends: the record turns once more
    have fin : ∀ (s : LoopState) (j : Option Code) (st3 : St) (a3 : Act) (w3 : World) (m3 : Mm), Sim B (⟨w0.w, F1, some ri.l, (ri.l, rec_ ri fn T D .busy none) :: w0.obs.filter (fun q => decide (q.1 ≠ ri.l)), [], fun ri h => (by cases h), w0.ok⟩ : Ctx ⟨n, none⟩) st3 a3 w3 m3 →
        ∀ h' n' nt', Lek ⟨n, none⟩ st3 ⟨[], h', n', nt'⟩ → ∃ m4, (Below B.n w0.w (w3.putObj ri.l (rec_ ri fn T D s j))) ∧ (∀ t, RepA B (LB m4 h') m4 (w3.putObj ri.l (rec_ ri fn T D s j)) (get env t) (a.tmps.getD t undef)) ∧
          Sim B (⟨w0.w, F1, some ri.l, [], [], fun ri h => (by cases h), w0.ok⟩ : Ctx ⟨n, none⟩) ⟨[], h', n', nt'⟩ a3 (w3.putObj ri.l (rec_ ri fn T D s j)) m4 ∧ n ≤ n' ∧
          (∀ p ∈ w0.F, RepA B (LB m4 h') m4 (w3.putObj ri.l (rec_ ri fn T D s j)) p.1 p.2) ∧ w3.heap[ri.l]? = some (rec_ ri fn T D .busy none) ∧ ri.l < w3.heap.size ∧ ¬ LB m4 h' ri.l ∧
          (∀ q ∈ w0.obs, q.1 ≠ ri.l → B.n ≤ q.1 ∧ q.1 < (w3.putObj ri.l (rec_ ri fn T D s j)).heap.size ∧ ¬ LB m4 h' q.1 ∧ (w3.putObj ri.l (rec_ ri fn T D s j)).heap[q.1]? = some q.2) := by
      intro s j st3 a3 w3 m3 hs3 h' n' nt' hle
      obtain ⟨m4, hs4⟩ := hle _ _ _ _ _ hs3
      obtain ⟨_, hll4, hLl4, hl4⟩ := hs4.fr.2.2 (ri.l, rec_ ri fn T D .busy none) (by simp)
      replace hl4 : w3.heap[ri.l]? = some (rec_ ri fn T D .busy none) := hl4
      replace hll4 : ri.l < w3.heap.size := hll4
      have hno4 : (rec_ ri fn T D .busy none).isCells = false := rfl
      have hcm : ∀ ad v, w3.cell? ad = some v → (w3.putObj ri.l (rec_ ri fn T D s j)).cell? ad = some v := fun ad v h => cell_put hl4 hno4 ad v h
      have hfr4 := hs4.fr.2.1
      have hold : ∀ t, RepA B (LB m4 h') m4 (w3.putObj ri.l (rec_ ri fn T D s j)) (get env t) (a.tmps.getD t undef) := by
        intro t
        rcases get_key env t with ⟨v, hv⟩ | hu
        · refine ((hfr4 (get env t, a.tmps.getD t undef) ?_).2).cellsM hcm
          rw [← hF1]
          exact List.mem_append.2 (.inr (List.mem_map.2 ⟨(t, v), hv, rfl⟩))
        · rw [hu]; exact .w (.undef _) (fun h => by cases h)
      have hbase : Sim B (⟨w0.w, F1, some ri.l, [], [], fun ri h => (by cases h), w0.ok⟩ : Ctx ⟨n, none⟩) ⟨[], h', n', nt'⟩ a3 (w3.putObj ri.l (rec_ ri fn T D s j)) m4 :=
        Sim.put (w1 := (⟨w0.w, F1, some ri.l, [], [], fun ri h => (by cases h), w0.ok⟩ : Ctx ⟨n, none⟩)) (o' := rec_ ri fn T D s j) hs4 hl4 hno4 (fun _ _ h => by cases h) hBl rfl rfl (by exact hs4.defers) ⟨hs4.fr.1, fun p hp => ⟨(hfr4 p hp).1, (hfr4 p hp).2.cellsM hcm⟩, fun q hq => by cases hq⟩
      refine ⟨m4, hbase.below, hold, hbase, hs4.fr.1, fun p hp => ?_, hl4, hll4, hLl4, fun q hq hne => ?_⟩
      · refine ((hfr4 p ?_).2).cellsM hcm
        rw [← hF1]
        exact List.mem_append.2 (.inl hp)
      · obtain ⟨o1, o2, o3, o4⟩ := hs4.fr.2.2 q (List.mem_cons_of_mem _ (List.mem_filter.2 ⟨hq, by simpa using hne⟩))
        exact ⟨o1, by simpa using o2, o3, (World.putObj_heap_other hne).trans o4⟩
    refine wpIn_mono (hk1 _ _ _ _ _ hs2) (fun e a3 w3 ⟨st3, m3, hk3, hs3⟩ => ?_)
    cases e with
    | normal =>
      obtain ⟨h', n', nt', hle, hkv⟩ := hk3
      obtain ⟨m4, hbl, hold, hbase, hnn, hF0, hl4, hll4, hLl4, hobs⟩ := fin .ready none st3 a3 w3 m3 hs3 h' n' nt' hle
      refine ⟨_, _, run_endRound none hl4, ?_⟩
      show K' (a.put o.dst (.bool true)) _
      refine hK h' n' _ _ m4 hkv ⟨hbase.base, hbl, by rw [put_defers]; exact hs.defers, by rw [put_size]; exact hs.size, ?_, hbase.heap, hbase.dom, hbase.ids, Nat.le_trans hs.fr.1 hnn, fun p hp => ⟨(hs.fr.2.1 p hp).1, hF0 p hp⟩, fun q hq => ?_⟩
      · exact get_put env a o.dst _ _ (by rw [hs.size]; exact hdk) (rep_bool true) hold
      · by_cases hql : q.1 = ri.l
        · obtain ⟨o1, o2, o3, o4⟩ := hs.fr.2.2 q hq
          rw [hql] at o4 o1 ⊢
          rw [hl] at o4
          refine ⟨o1, by simpa using hll4, hLl4, ?_⟩
          rw [← o4]
          exact World.putObj_heap_same hll4
        · exact hobs q hq hql
    | ret =>
      obtain ⟨h', n', nt', hle, hkv⟩ := hk3
      obtain ⟨m4, hbl, hold, hbase, hnn, hF0, hl4, hll4, hLl4, hobs⟩ := fin .done (some .ret) st3 a3 w3 m3 hs3 h' n' nt' hle
      refine ⟨_, _, run_endRound (some .ret) hl4, ?_⟩
      show K' (a.put o.dst (.bool false)) _
      refine hKl (⟨w0.w, w0.F, w0.r, (ri.l, rec_ ri fn T D .done (some .ret)) :: w0.obs.filter (fun q => decide (q.1 ≠ ri.l)), w0.ds, fun ri h => (by cases h), w0.ok⟩ : Ctx ⟨k, none⟩) h' n' _ _ m4 ⟨rfl, rfl, rfl, rfl, ⟨fn, T, D, by simp⟩, fun q hq hne => List.mem_cons_of_mem _ (List.mem_filter.2 ⟨hq, by simpa using hne⟩)⟩ hkv
        ⟨hbase.base, hbl, by rw [put_defers]; exact hs.defers, by rw [put_size]; exact hs.size, ?_, hbase.heap, hbase.dom, hbase.ids, Nat.le_trans hs.fr.1 hnn, fun p hp => ⟨(hs.fr.2.1 p hp).1, hF0 p hp⟩, fun q hq => ?_⟩
      · exact get_put env a o.dst _ _ (by rw [hs.size]; exact hdk) (rep_bool false) hold
      · rcases List.mem_cons.1 hq with e | hq
        · subst e
          exact ⟨hBl, by simpa using hll4, hLl4, World.putObj_heap_same hll4⟩
        · obtain ⟨hq, hne⟩ := List.mem_filter.1 hq
          exact hobs q hq (by simpa using hne)
    | _ => exact hk3.elim
  | _ => exact hk1.elim
end

/-- the iterator's code: it goes on with the loop's record ready (K), or behind a round that left the function (Kd) -/
def AWPy (k : Nat) (ri : RI) (P : Program) (c : Code) (st : St) (K Kd : Exit → St → Prop) : Prop :=
  ∀ (B : Base) (w0 : Ctx ⟨k, some ri⟩) (a : Act) (w : World) (m : Mm), Sim B w0 st a w m →
    c.wpIn (Fe w0.r) 0 P (fun e a' w' => (∃ st' m', K e st' ∧ Sim B w0 st' a' w' m') ∨ ∃ w1 : Ctx ⟨k, none⟩, LeftCtx w0 w1 ∧ ∃ st' m', Kd e st' ∧ Sim B w1 st' a' w' m') a w
section
variable {k : Nat} {ri : RI} {P : Program} {K Kd K' Kd' : Exit → St → Prop} {st st' : St}
theorem awy_of {c : Code} (h : AWPk ⟨k, some ri⟩ P c st K) : AWPy k ri P c st K Kd :=
  fun B w0 a w m hs => wpIn_mono (h B w0 a w m hs) (fun _ _ _ hx => .inl hx)
def thenY (k : Nat) (ri : RI) (P : Program) (b : Code) (K Kd : Exit → St → Prop) : Exit → St → Prop
  | .normal, s => AWPy k ri P b s K Kd
  | e, s => K e s
def thenL (k : Nat) (P : Program) (b : Code) (Kd : Exit → St → Prop) : Exit → St → Prop
  | .normal, s => AWPk ⟨k, none⟩ P b s Kd
  | e, s => Kd e s
@[simp ↓] theorem thenY_normal (b : Code) (s : St) : thenY k ri P b K Kd .normal s = AWPy k ri P b s K Kd := rfl
@[simp ↓] theorem thenY_ret (b : Code) (s : St) : thenY k ri P b K Kd .ret s = K .ret s := rfl
@[simp ↓] theorem thenY_exit (b : Code) (i : Nat) (s : St) : thenY k ri P b K Kd (.exit i) s = K (.exit i) s := rfl
@[simp ↓] theorem thenL_normal (b : Code) (s : St) : thenL k P b Kd .normal s = AWPk ⟨k, none⟩ P b s Kd := rfl
@[simp ↓] theorem thenL_ret (b : Code) (s : St) : thenL k P b Kd .ret s = Kd .ret s := rfl
@[simp ↓] theorem thenL_exit (b : Code) (i : Nat) (s : St) : thenL k P b Kd (.exit i) s = Kd (.exit i) s := rfl
@[congr] theorem AWPy_congr {c : Code} (h : st = st') : AWPy k ri P c st K Kd = AWPy k ri P c st' K Kd := by rw [h]
@[congr] theorem thenY_congr {b : Code} {e e' : Exit} (h1 : e = e') (h2 : st = st') : thenY k ri P b K Kd e st = thenY k ri P b K Kd e' st' := by rw [h1, h2]
@[congr] theorem thenL_congr {b : Code} {e e' : Exit} (h1 : e = e') (h2 : st = st') : thenL k P b Kd e st = thenL k P b Kd e' st' := by rw [h1, h2]
theorem awy_seq {x y : Code} (h : AWPy k ri P x st (thenY k ri P y K Kd) (thenL k P y Kd)) : AWPy k ri P (.seq x y) st K Kd :=
  fun B w0 a w m hs => wpIn_seq (wpIn_mono (h B w0 a w m hs) (fun e a' w' hx => by
    rcases hx with ⟨st', m', h1, h2⟩ | ⟨w1, hl, st', m', h1, h2⟩
    · cases e with
      | normal => exact h1 B w0 a' w' m' h2
      | _ => exact .inl ⟨st', m', h1, h2⟩
    · cases e with
      | normal =>
        have := h1 B w1 a' w' m' h2
        rw [hl.2.2.1] at this
        exact wpIn_mono this (fun e a2 w2 ⟨s2, m2, g1, g2⟩ => .inr ⟨w1, hl, s2, m2, g1, g2⟩)
      | _ => exact .inr ⟨w1, hl, st', m', h1, h2⟩))
theorem awy_block {id : Nat} {c : Code} (h : AWPy k ri P c st (blockK id K) (blockK id Kd)) : AWPy k ri P (.block id c) st K Kd :=
  fun B w0 a w m hs => wpIn_block (wpIn_mono (h B w0 a w m hs) (fun e a' w' hx => by
    rcases hx with ⟨st', m', h1, h2⟩ | ⟨w1, hl, st', m', h1, h2⟩
    · cases e with
      | exit id' =>
        simp only [Exit.inBlock]; simp only [blockK] at h1
        split
        · rename_i hid; simp only [hid, if_true] at h1; exact .inl ⟨st', m', h1, h2⟩
        · rename_i hid; simp only [hid, if_false] at h1; exact .inl ⟨st', m', h1, h2⟩
      | _ => exact .inl ⟨st', m', h1, h2⟩
    · cases e with
      | exit id' =>
        simp only [Exit.inBlock]; simp only [blockK] at h1
        split
        · rename_i hid; simp only [hid, if_true] at h1; exact .inr ⟨w1, hl, st', m', h1, h2⟩
        · rename_i hid; simp only [hid, if_false] at h1; exact .inr ⟨w1, hl, st', m', h1, h2⟩
      | _ => exact .inr ⟨w1, hl, st', m', h1, h2⟩))
/-- a loop's round behind which the function was left: it leaves the loop, too -/
def offK (Kd : Exit → St → Prop) : Exit → St → Prop
  | .normal, _ => False
  | e, s => Kd e s
omit [LaidW] in
@[simp ↓] theorem offK_ret (s : St) : offK Kd .ret s = Kd .ret s := rfl
omit [LaidW] in
@[simp ↓] theorem offK_exit (i : Nat) (s : St) : offK Kd (.exit i) s = Kd (.exit i) s := rfl
omit [LaidW] in
@[congr] theorem offK_congr {e e' : Exit} (h1 : e = e') (h2 : st = st') : offK Kd e st = offK Kd e' st' := by rw [h1, h2]
theorem awy_loop {c : Code} {α : Type} (J : α → Prop) (I : α → St) (μ : α → Nat) (x0 : α) (hJ : J x0) (h0 : Lek ⟨k, some ri⟩ st (I x0)) (round : ∀ x, J x → AWPy k ri P c (I x) (loopK ⟨k, some ri⟩ J I μ x K) (offK Kd)) : AWPy k ri P (.loop c) st K Kd := by
  intro B w0 a w m hs
  refine wpIn_loop_ghost (fun k a w => ∃ x m, J x ∧ μ x = k ∧ Sim B w0 (I x) a w m) (μ x0) (by obtain ⟨m', h⟩ := h0 B w0 a w m hs; exact ⟨x0, m', hJ, rfl, h⟩) ?_
  rintro j a w ⟨x, m, hx, rfl, hsx⟩
  refine wpIn_mono (round x hx B w0 a w m hsx) (fun e a' w' hq => ?_)
  rcases hq with ⟨st', m', h2, h3⟩ | ⟨w1, hl, st', m', h2, h3⟩
  · cases e with
    | normal =>
      obtain ⟨y, hy, hlt, hle⟩ := h2
      obtain ⟨m'', h4⟩ := hle B w0 a' w' m' h3
      exact ⟨μ y, hlt, y, m'', hy, rfl, h4⟩
    | _ => exact .inl ⟨st', m', h2, h3⟩
  · cases e with
    | normal => exact h2.elim
    | _ => exact .inr ⟨w1, hl, st', m', h2, h3⟩

/-- a call of yield that may leave, as an operation -/
def YW2 (P : Program) (ri : RI) (nt : Nat) (o : Oper) (f : Operand) (args : Array Operand) (e : Env) (h : Heap) (n : Nat) (K Kl : Env → Heap → Nat → Prop) (_ : Mark (K, Kl)) : Prop :=
  (∃ ow fl, ev e f = .w ow fl (.yl ri.l)) ∧ Round2 P ri (args.toList.map (ev e)) h n (fun h' n' => K (put e o.dst (.w false false (.bool true))) h' n') (fun h' n' => Kl (put e o.dst (.w false false (.bool false))) h' n')
@[congr] theorem YW2_congr {nt : Nat} {o : Oper} {f : Operand} {args : Array Operand} {e e' : Env} {h h' : Heap} {n n' : Nat} {K Kl : Env → Heap → Nat → Prop} {mk : Mark (K, Kl)} (h1 : e = e') (h2 : h = h') (h3 : n = n') : YW2 P ri nt o f args e h n K Kl mk = YW2 P ri nt o f args e' h' n' K Kl mk := by rw [h1, h2, h3]
theorem yw2_intro {nt : Nat} {o : Oper} {f : Operand} {args : Array Operand} {e : Env} {h : Heap} {n : Nat} {K Kl : Env → Heap → Nat → Prop} {mk : Mark (K, Kl)} (ow fl : Bool) (h1 : ev e f = .w ow fl (.yl ri.l)) (hl : args.toList.length = ri.ps.size) (hlt : ∀ t ∈ ri.ps, t < ri.nt)
    (hk : AWPk ⟨n, none⟩ P ri.assign ⟨setE ri.env ri.ps.toList (args.toList.map (ev e)), h, n, ri.nt⟩ (roundK2 P n ri.body (fun h' n' => K (put e o.dst (.w false false (.bool true))) h' n') (fun h' n' => Kl (put e o.dst (.w false false (.bool false))) h' n'))) : YW2 P ri nt o f args e h n K Kl mk :=
  ⟨⟨ow, fl, h1⟩, by rw [List.length_map]; exact hl, hlt, hk⟩
theorem awy_regionY {id : Nat} {ops : Array Oper} {env : Env} {h : Heap} {n nt : Nat} (i : Nat) (hi : i < ops.toList.length) {f : Operand} {args : Array Operand} {tys : Array TypeId}
    (ho : (ops.toList.getD i default).op = .call { callee := .value f, args := args, argTypes := tys }) (hg : (ops.toList.getD i default).guard = none) (hd : dOk nt (ops.toList.getD i default).dst)
    (hk : aOps P ops nt (ops.toList.take i) env h n fun e' h' n' => YW2 P ri nt (ops.toList.getD i default) f args e' h' n' (fun e'' h'' n'' => aOps P ops nt (ops.toList.drop (i + 1)) e'' h'' n'' fun e3 h3 n3 => K .normal ⟨e3, h3, n3, nt⟩)
      (fun e'' h'' n'' => aOps P ops nt (ops.toList.drop (i + 1)) e'' h'' n'' fun e3 h3 n3 => Kd .normal ⟨e3, h3, n3, nt⟩) .it) :
    AWPy k ri P (.region id ops false) ⟨env, h, n, nt⟩ K Kd := by
  have e : ops.toList.getD i default = ops.toList[i] := by simp [List.getD_eq_getElem?_getD, List.getElem?_eq_getElem hi]
  have hops : ops.toList = ops.toList.take i ++ ops.toList.getD i default :: ops.toList.drop (i + 1) := by rw [e, List.getElem_cons_drop, List.take_append_drop]
  generalize ops.toList.getD i default = o at *
  generalize ops.toList.take i = pre at *
  generalize ops.toList.drop (i + 1) = post at *
  intro B w0 a w m hs
  refine wpIn_region_list ?_
  rw [hops]
  refine aOps_app (o :: post) ?_ pre env h n a w m hk hs
  rintro e h n a w m ⟨⟨ow, fl, hf⟩, hr⟩ hs
  simp only [wpListIn, Region.wanted, hg, if_true]
  refine yield_sound2 o f args tys ho hf hr hs hd _ _ (fun h' n' a' w' m' hkv hs' => ?_) (fun w1 h' n' a' w' m' hl hkv hs' => ?_)
  · exact aOps_sound (fun _ _ _ _ _ m hk' hs' => .inl ⟨_, m, hk', hs'⟩) post _ _ _ _ _ m' hkv hs'
  · have := aOps_sound (Q := fun e a' w' => (∃ st' m', K e st' ∧ Sim B w0 st' a' w' m') ∨ ∃ w1 : Ctx ⟨k, none⟩, LeftCtx w0 w1 ∧ ∃ st' m', Kd e st' ∧ Sim B w1 st' a' w' m') (w0 := w1) (P := P) (ops := ops) (fun _ _ _ _ _ m hk' hs' => .inr ⟨w1, hl, _, m, hk', hs'⟩) post _ _ _ _ _ m' hkv hs'
    rw [hl.2.2.1] at this
    exact this
end
section
variable {fk : Fk} {P : Program} {K : Exit → St → Prop}
/-- A RANGE OVER A FUNCTION whose round may leave the function -/
theorem awr_range2 {g : Operand} {ps : Array Tmp} {assign body : Code} {env : Env} {h : Heap} {n nt : Nat} {gf : FuncId} {caps : List AV} (hf : fnOf (ev env g) = some (gf, caps))
    {fn : Func} {c : Code} (hfn : P.funcs[gf]? = some fn) (hname : (fn.name == "runtime.NumGoroutine") = false) (hb : fn.body = some c) (hnt : caps.length + 1 ≤ fn.ntmps)
    (hw : ∀ l, AWPy n ⟨l, env, nt, ps, assign, body⟩ P c ⟨envA 0 (.w false false (.yl l) :: caps), h, n, fn.ntmps⟩ (inlK P fn.results.toList fun _ h' n' => K .normal ⟨env, h', n', nt⟩) (inlK P fn.results.toList fun _ h' n' => K .ret ⟨env, h', n', nt⟩)) :
    AWPr fk P (.rangeFunc g ps assign body) ⟨env, h, n, nt⟩ K := by
  intro B w0 a w m hr hd hs
  refine wpIn_rangeFunc ?_
  intro fni _
  have hxf : RepA B (LB m h) m w (ev env g) (a.eval g) := ev_rep g (fun t _ => hs.env t)
  have hfv : ∃ cv : Array Value, a.eval g = .func (.func gf) #[] cv ∧ caps.length = cv.size ∧ ∀ (j : Nat) (p : AV) (v : Value), caps[j]? = some p → cv[j]? = some v → RepA B (LB m h) m w p v := by
    unfold fnOf at hf
    split at hf
    · rename_i g' caps' e
      injection hf with hf; injection hf with h1 h2; subst h1; subst h2
      rw [e] at hxf
      generalize hv : a.eval g = vf at hxf
      cases hxf with | fn h1 h2 => exact ⟨_, rfl, h1, h2⟩
    · rename_i own f' g' caps' e
      injection hf with hf; injection hf with h1 h2; subst h1; subst h2
      rw [e] at hxf
      generalize hv : a.eval g = vf at hxf
      cases hxf with
      | w h1 _ =>
        cases h1 with
        | fn h1 h2 =>
          refine ⟨_, rfl, by simpa using h1, fun j p v hp hv => ?_⟩
          obtain ⟨q, hq, rfl⟩ := getElem?_map_some hp
          exact .w (h2 j q v hq hv) (fun h => by cases h)
    · cases hf
  obtain ⟨cv, hfe, hcl, hcr⟩ := hfv
  have hdom : ∀ i, m.dom i → i < n := fun i hd => (hs.dom i).1 hd
  obtain ⟨ri, hri⟩ : ∃ ri : RI, ri = ⟨w.heap.size + 1, env, nt, ps, assign, body⟩ := ⟨_, rfl⟩
  obtain ⟨D, hD⟩ : ∃ D, D = w.heap.size := ⟨_, rfl⟩
  have hrl : ri.l = w.heap.size + 1 := by rw [hri]
  -- the two blocks
  have hs1 : Sim B (⟨w0.w, [], none, [(D, .deferred (some []))], w0.ds, fun ri h => (by cases h), w0.ok⟩ : Ctx ⟨0, none⟩) ⟨env, h, n, nt⟩ a (w.alloc (.deferred (some []))) m := by
    refine Sim.lay (w1 := (⟨w0.w, [], none, [(D, .deferred (some []))], w0.ds, fun ri h => (by cases h), w0.ok⟩ : Ctx ⟨0, none⟩)) (.deferred (some [])) hs rfl rfl (by exact hs.defers) ⟨Nat.zero_le _, (fun p hp => by cases hp), fun q hq => ?_⟩
    simp only [List.mem_singleton] at hq
    subst hq
    rw [hD]
    exact ⟨hs.room, by simp, fun hl => by have := LB_lt hs.heap hl; omega, World.alloc_heap_new w _⟩
  have hb1 : Below w.heap.size w (w.alloc (.deferred (some []))) := (Below.refl _ w).alloc (Nat.le_refl _) _
  have hb2 : Below (w.alloc (.deferred (some []))).heap.size (w.alloc (.deferred (some []))) ((w.alloc (.deferred (some []))).alloc (rec_ ri fni a.tmps D .ready none)) := (Below.refl _ _).alloc (Nat.le_refl _) _
  have hkeep : ∀ b, b < w.heap.size → ((w.alloc (.deferred (some []))).alloc (rec_ ri fni a.tmps D .ready none)).heap[b]? = w.heap[b]? := fun b hb => (hb2.block b (by simp; omega)).trans (hb1.block b hb)
  have hmono : ∀ x v, RepA B (LB m h) m w x v → RepA B (LB m h) m ((w.alloc (.deferred (some []))).alloc (rec_ ri fni a.tmps D .ready none)) x v := fun x v hr => hr.mono (Mm.le.refl m) (fun _ _ h => h) (fun b hb' _ => hkeep b hb')
  have hrec0 : RecOf ⟨n, some ri⟩ (w0.F ++ env.map (fun p => (get env p.1, a.tmps.getD p.1 undef))) ((ri.l, rec_ ri fni a.tmps D .ready none) :: (D, .deferred (some [])) :: w0.obs) := fun ri' e => by
    injection e with e; subst e
    exact ⟨fni, a.tmps, D, by simp, by rw [hri]; exact hs.size, fun t v hv => List.mem_append.2 (.inr (List.mem_map.2 ⟨(t, v), by rw [hri] at hv; exact hv, by rw [hri]⟩))⟩
  have hs2 : Sim B (⟨w0.w, w0.F ++ env.map (fun p => (get env p.1, a.tmps.getD p.1 undef)), none, (ri.l, rec_ ri fni a.tmps D .ready none) :: (D, .deferred (some [])) :: w0.obs, w0.ds,
      hrec0, w0.ok⟩ : Ctx ⟨n, some ri⟩)
      ⟨env, h, n, nt⟩ a ((w.alloc (.deferred (some []))).alloc (rec_ ri fni a.tmps D .ready none)) m := by
    refine Sim.lay (w1 := (⟨w0.w, w0.F ++ env.map (fun p => (get env p.1, a.tmps.getD p.1 undef)), none, (ri.l, rec_ ri fni a.tmps D .ready none) :: (D, .deferred (some [])) :: w0.obs, w0.ds, hrec0, w0.ok⟩ : Ctx ⟨n, some ri⟩)) _ hs1 rfl rfl (by exact hs.defers) ⟨Nat.le_refl _, fun p hp => ?_, fun q hq => ?_⟩
    · rcases List.mem_append.1 hp with hp | hp
      · exact ⟨AV.lt_mono hs.fr.1 (hs.fr.2.1 p hp).1, hmono _ _ (hs.fr.2.1 p hp).2⟩
      · obtain ⟨q, _, rfl⟩ := List.mem_map.1 hp
        exact ⟨(hs.env q.1).lt_of hdom, hmono _ _ (hs.env q.1)⟩
    · rcases List.mem_cons.1 hq with e | hq
      · subst e
        refine ⟨by simp only [hrl]; have := hs.room; omega, by simp only [hrl]; simp, fun hl => by have := LB_lt hs.heap hl; simp only [hrl] at this; omega, ?_⟩
        simp only [hrl]
        have := World.alloc_heap_new (w.alloc (.deferred (some []))) (rec_ ri fni a.tmps D .ready none)
        rwa [World.size_alloc] at this
      · rcases List.mem_cons.1 hq with e | hq
        · subst e
          have e : ∀ k, k = w.heap.size → ((w.alloc (.deferred (some []))).alloc (rec_ ri fni a.tmps D .ready none)).heap[k]? = some (.deferred (some [])) := fun k hk => by
            rw [hk]
            exact (hb2.block _ (by simp)).trans (World.alloc_heap_new w _)
          exact ⟨by simp only [hD]; exact hs.room, by simp; omega, fun hl => by have := LB_lt hs.heap hl; omega, e D hD⟩
        · obtain ⟨o1, o2, o3, o4⟩ := hs.fr.2.2 q hq
          exact ⟨o1, by simp; omega, o3, (hkeep _ o2).trans o4⟩
  have hrec : ((w.alloc (.deferred (some []))).alloc (.loop { state := .ready, pending := none, fn := fni, tmps := a.tmps, params := ps, assign, body, defers := w.heap.size })) = (w.alloc (.deferred (some []))).alloc (rec_ ri fni a.tmps D .ready none) := by
    rw [hri, hD]; rfl
  have hent := run_enterLoop_outer (P := P) (w := w) fni a.tmps ps assign body
  rw [hrec] at hent
  clear hb2
  generalize (w.alloc (.deferred (some []))).alloc (rec_ ri fni a.tmps D .ready none) = W2 at hs2 hkeep hmono hent
  refine ⟨w.heap.size + 1, [{ target := .collected w.heap.size, args := #[] }], W2, { target := .fn (.func gf) cv, args := #[.func (.yield (w.heap.size + 1)) #[] #[]] }, W2, gf, #[.func (.yield (w.heap.size + 1)) #[] #[]] ++ cv, W2, hent, ?_, fun _ _ => trivial, ?_, fun e => absurd e (by simp [Fe, Fence.wide]), ?_⟩
  · have he : a.eval (.const (.func (.yield (w.heap.size + 1)) #[] #[])) = .func (.yield (w.heap.size + 1)) #[] #[] := rfl
    simp [resolve, rangeCall, hfe, he, Deferred.ofValue]
  · have hn' : ¬ fn.name = "runtime.NumGoroutine" := by simpa using hname
    simp [invoke, callFunc, hfn, hn', hb]
  · refine (callsIn_wide (n := 0 - 1)).2 (calls_of_wp hfn hb ((wpIn_wide (n := 0)).1 ?_))
    have hlen : (AV.w false false (.yl ri.l) :: caps).length = (#[Value.func (.yield (w.heap.size + 1)) #[] #[]] ++ cv).size := by simp [hcl]; omega
    have hvs : ∀ (j : Nat) (x : AV) (v : Value), (AV.w false false (.yl ri.l) :: caps)[j]? = some x → (#[Value.func (.yield (w.heap.size + 1)) #[] #[]] ++ cv)[j]? = some v → RepA B (LB m h) m W2 x v := by
      intro j x v hx hv
      cases j with
      | zero =>
        rw [Array.getElem?_append_left (by simp)] at hv
        simp at hx hv
        subst hx; subst hv
        rw [hrl]
        exact .w (.yl _) (fun h => by cases h)
      | succ j =>
        rw [Array.getElem?_append_right (by simp)] at hv
        simp only [List.getElem?_cons_succ] at hx
        have hsz : (#[Value.func (.yield (w.heap.size + 1)) #[] #[]] : Array Value).size = 1 := rfl
        rw [hsz, Nat.add_sub_cancel] at hv
        exact hmono _ _ (hcr j x v hx hv)
    generalize (#[Value.func (.yield (w.heap.size + 1)) #[] #[]] ++ cv) = vs at hlen hvs
    have hw' := hw ri.l
    rw [show (⟨ri.l, env, nt, ps, assign, body⟩ : RI) = ri from by rw [hri]] at hw'
    have hnt' : (AV.w false false (.yl ri.l) :: caps).length ≤ fn.ntmps := by simpa using hnt
    generalize hav : AV.w false false (.yl ri.l) :: caps = avs at hlen hvs hw' hnt'
    have hsim : Sim B (⟨w0.w, w0.F ++ env.map (fun p => (get env p.1, a.tmps.getD p.1 undef)), none, (ri.l, rec_ ri fni a.tmps D .ready none) :: (D, .deferred (some [])) :: w0.obs, [],
      hrec0, w0.ok⟩ : Ctx ⟨n, some ri⟩)
        ⟨envA 0 avs, h, n, fn.ntmps⟩ { tmps := vs ++ Array.replicate (fn.ntmps - vs.size) undef, defers := [] } W2 m := by
      refine ⟨hs2.base, hs2.below, rfl, by simp; omega, fun t => ?_, hs2.heap, hs2.dom, hs2.ids, hs2.fr⟩
      show RepA _ _ _ _ (get (envA 0 avs) t) _
      rw [get_envA]
      split
      · rename_i ht
        have hlt : t < avs.length := by omega
        have : (vs ++ Array.replicate (fn.ntmps - vs.size) undef).getD t undef = vs[t]'(by omega) := by
          rw [Array.getD_eq_getD_getElem?, Array.getElem?_append_left (by omega), Array.getElem?_eq_getElem (by omega)]; rfl
        rw [this]
        exact hvs t _ _ (by simpa using getD_some hlt) (Array.getElem?_eq_getElem (by omega))
      · exact .w (.undef _) (fun h => by cases h)
    have main : ∀ {fk' : Fk} (w1 : Ctx fk') (fn2 : FuncId) (T2 : Array Value) (D2 : Nat) (s : LoopState) (j : Option Code) (st' : St) (a' : Act) (w' : World) (m' : Mm) (Kv : Heap → Nat → Prop), fk'.k = n → w1.w = w0.w → (∀ p ∈ w0.F ++ env.map (fun p => (get env p.1, a.tmps.getD p.1 undef)), p ∈ w1.F) → w1.ds = [] →
        (ri.l, rec_ ri fn2 T2 D2 s j) ∈ w1.obs → s ≠ .busy → (∀ q ∈ (D, Obj.deferred (some [])) :: w0.obs, q ∈ w1.obs) → Sim B w1 st' a' w' m' → RetA P fn.results.toList st' (fun _ h' n' => Kv h' n') →
        a'.defers = [] ∧ ∃ v w4, (results fn a'.tmps).run P w' = .ok v w' ∧ (Instr.endLoop (w.heap.size + 1)).run P w' = .ok j w4 ∧ ∃ (w2 : Ctx fk) (h' : Heap) (n' : Nat) (m2 : Mm), w2.w = w0.w ∧ w2.r = none ∧ DsOk w2 ∧ Kv h' n' ∧ Sim B w2 ⟨env, h', n', nt⟩ { a with defers := [{ target := .collected w.heap.size, args := #[] }] ++ a.defers } w4 m2 := by
      intro fk' w1 fn2 T2 D2 s j st' a' w' m' Kv hk1 hww hF1 hds1 hrin hsb hobs1 hs' hr'
      refine ⟨by have := hs'.defers; rw [hds1] at this; exact this, ?_⟩
      unfold RetA at hr'
      split at hr'
      · rename_i vs' d hres
        obtain ⟨hdd, hkv⟩ := hr'
        obtain ⟨us, h1, h2, h3⟩ := run_results hs' _ _ _ hres hdd
        have hrun : (results fn a'.tmps).run P w' = .ok (if h : us.toArray.size = 1 then us.toArray[0] else .tuple us.toArray) w' := by
          have he : results fn a'.tmps = (do
              let vs ← fn.results.mapM (resRun a'.tmps)
              pure (if h : vs.size = 1 then vs[0] else .tuple vs)) := rfl
          rw [he, Array.mapM_eq_mapM_toList]
          simp only [Sem.run_bind, Sem.run_map, h1, Result.andThen_ok, Sem.run_pure]
        obtain ⟨hBl, hll, hLl, hl⟩ := hs'.fr.2.2 (ri.l, rec_ ri fn2 T2 D2 s j) hrin
        replace hl : w'.heap[w.heap.size + 1]? = some (rec_ ri fn2 T2 D2 s j) := by rw [← hrl]; exact hl
        replace hll : w.heap.size + 1 < w'.heap.size := by rw [← hrl]; exact hll
        have hno : (rec_ ri fn2 T2 D2 s j).isCells = false := rfl
        refine ⟨_, w'.putObj (w.heap.size + 1) (rec_ ri fn2 T2 D2 .exhausted j), hrun, run_endLoop hl hsb, ?_⟩
        have hcm : ∀ ad v, w'.cell? ad = some v → (w'.putObj (w.heap.size + 1) (rec_ ri fn2 T2 D2 .exhausted j)).cell? ad = some v := fun ad v h => cell_put hl hno ad v h
        have hfr' := hs'.fr.2.1
        have hold : ∀ t, RepA B (LB m' st'.heap) m' (w'.putObj (w.heap.size + 1) (rec_ ri fn2 T2 D2 .exhausted j)) (get env t) (a.tmps.getD t undef) := by
          intro t
          rcases get_key env t with ⟨v, hv⟩ | hu
          · exact ((hfr' (get env t, a.tmps.getD t undef) (hF1 _ (List.mem_append.2 (.inr (List.mem_map.2 ⟨(t, v), hv, rfl⟩))))).2).cellsM hcm
          · rw [hu]; exact .w (.undef _) (fun h => by cases h)
        have hbase : Sim B (⟨w0.w, [], none, [], [], fun ri h => (by cases h), w0.ok⟩ : Ctx ⟨0, none⟩) st' a' (w'.putObj (w.heap.size + 1) (rec_ ri fn2 T2 D2 .exhausted j)) m' :=
          Sim.put (w1 := (⟨w0.w, [], none, [], [], fun ri h => (by cases h), w0.ok⟩ : Ctx ⟨0, none⟩)) (o' := rec_ ri fn2 T2 D2 .exhausted j) hs' hl hno (fun _ _ h => by cases h) (by rw [← hrl]; exact hBl) hww.symm rfl (by have := hs'.defers; rw [hds1] at this; exact this) ⟨Nat.zero_le _, (fun p hp => by cases hp), fun q hq => by cases hq⟩
        have hobs : ∀ q, q ∈ (D, Obj.deferred (some [])) :: w0.obs → B.n ≤ q.1 ∧ q.1 < (w'.putObj (w.heap.size + 1) (rec_ ri fn2 T2 D2 .exhausted j)).heap.size ∧ ¬ LB m' st'.heap q.1 ∧ (w'.putObj (w.heap.size + 1) (rec_ ri fn2 T2 D2 .exhausted j)).heap[q.1]? = some q.2 := by
          intro q hq
          have hne : q.1 ≠ w.heap.size + 1 := by
            rcases List.mem_cons.1 hq with e | hq
            · subst e; simp only [hD]; omega
            · have := (hs.fr.2.2 q hq).2.1; omega
          obtain ⟨o1, o2, o3, o4⟩ := hs'.fr.2.2 q (hobs1 q hq)
          exact ⟨o1, by simpa using o2, o3, (World.putObj_heap_other hne).trans o4⟩
        refine ⟨⟨w0.w, w0.F, none, (D, .deferred (some [])) :: w0.obs, D :: w0.ds, fun ri' e => ?_, w0.ok⟩, st'.heap, st'.nxt, m', rfl, rfl, ⟨?_, ?_⟩, hkv, ⟨hbase.base, hbase.below, ?_, hs.size, hold, hbase.heap, hbase.dom, hbase.ids, Nat.le_trans hs.fr.1 (by have := hs'.fr.1; rw [hk1] at this; exact this), fun p hp => ?_, hobs⟩⟩
        · obtain ⟨f1, T1, D1, g1, g2, g3⟩ := w0.rec_ ri' e
          exact ⟨f1, T1, D1, List.mem_cons_of_mem _ g1, g2, g3⟩
        · refine List.nodup_cons.2 ⟨fun hin => ?_, hd.1⟩
          have := (hs.fr.2.2 _ (hd.2 D hin)).2.1
          simp only [hD] at this
          omega
        · intro D' hD'
          rcases List.mem_cons.1 hD' with e | hD'
          · subst e; simp
          · exact List.mem_cons_of_mem _ (hd.2 D' hD')
        · show [_] ++ a.defers = marks (D :: w0.ds)
          rw [hs.defers, hD]; rfl
        · exact ⟨(hs.fr.2.1 p hp).1, ((hfr' p (hF1 p (List.mem_append.2 (.inl hp)))).2).cellsM hcm⟩
      · exact hr'.elim
    refine wpIn_mono (hw' _ _ _ _ _ hsim) (fun e a' w' hq => ?_)
    have fin1 : ∀ (st' : St) (m' : Mm), RetA P fn.results.toList st' (fun _ h' n' => K .normal ⟨env, h', n', nt⟩) → Sim B (⟨w0.w, w0.F ++ env.map (fun p => (get env p.1, a.tmps.getD p.1 undef)), none, (ri.l, rec_ ri fni a.tmps D .ready none) :: (D, .deferred (some [])) :: w0.obs, [], hrec0, w0.ok⟩ : Ctx ⟨n, some ri⟩) st' a' w' m' →
        a'.defers = [] ∧ ∃ v, (results fn a'.tmps).run P w' = .ok v w' ∧ rangePost (Fe none) 0 P (w.heap.size + 1) (fun e a' w' => ∃ (w1 : Ctx fk) (st' : St) (m' : Mm), w1.w = w0.w ∧ w1.r = none ∧ DsOk w1 ∧ K e st' ∧ Sim B w1 st' a' w' m') { a with defers := [{ target := .collected w.heap.size, args := #[] }] ++ a.defers } (.returned v) w' := by
      intro st' m' hr' hs'
      obtain ⟨h1, v, w4, h2, h3, w2, h', n', m2, g1, g2, g3, g4, g5⟩ := main (⟨w0.w, w0.F ++ env.map (fun p => (get env p.1, a.tmps.getD p.1 undef)), none, (ri.l, rec_ ri fni a.tmps D .ready none) :: (D, .deferred (some [])) :: w0.obs, [], hrec0, w0.ok⟩ : Ctx ⟨n, some ri⟩) fni a.tmps D .ready none st' a' w' m' _ rfl rfl (fun p hp => hp) rfl (by simp) (by simp) (fun q hq => List.mem_cons_of_mem _ hq) hs' hr'
      exact ⟨h1, v, h2, none, w4, h3, w2, _, m2, g1, g2, g3, g4, g5⟩
    have fin2 : ∀ (w1 : Ctx ⟨n, none⟩) (st' : St) (m' : Mm), LeftCtx (⟨w0.w, w0.F ++ env.map (fun p => (get env p.1, a.tmps.getD p.1 undef)), none, (ri.l, rec_ ri fni a.tmps D .ready none) :: (D, .deferred (some [])) :: w0.obs, [], hrec0, w0.ok⟩ : Ctx ⟨n, some ri⟩) w1 →
        RetA P fn.results.toList st' (fun _ h' n' => K .ret ⟨env, h', n', nt⟩) → Sim B w1 st' a' w' m' →
        a'.defers = [] ∧ ∃ v, (results fn a'.tmps).run P w' = .ok v w' ∧ rangePost (Fe none) 0 P (w.heap.size + 1) (fun e a' w' => ∃ (w1 : Ctx fk) (st' : St) (m' : Mm), w1.w = w0.w ∧ w1.r = none ∧ DsOk w1 ∧ K e st' ∧ Sim B w1 st' a' w' m') { a with defers := [{ target := .collected w.heap.size, args := #[] }] ++ a.defers } (.returned v) w' := by
      rintro w1 st' m' ⟨l1, l2, l3, l4, ⟨fn2, T2, D2, l5⟩, l6⟩ hr' hs'
      obtain ⟨h1, v, w4, h2, h3, w2, h', n', m2, g1, g2, g3, g4, g5⟩ := main w1 fn2 T2 D2 .done (some .ret) st' a' w' m' _ rfl l1 (fun p hp => by rw [l2]; exact hp) l4 l5 (by simp) (fun q hq => l6 q (List.mem_cons_of_mem _ hq) (by
        rcases List.mem_cons.1 hq with e | hq
        · subst e; simp only [hrl, hD]; omega
        · have := (hs.fr.2.2 q hq).2.1; omega)) hs' hr'
      exact ⟨h1, v, h2, some .ret, w4, h3, wpIn_ret ⟨w2, _, m2, g1, g2, g3, g4, g5⟩⟩
    rcases hq with ⟨st', m', hk, hs'⟩ | ⟨w1, hl, st', m', hk, hs'⟩
    · cases e with
      | normal => exact fin1 st' m' hk hs'
      | ret => exact fin1 st' m' hk hs'
      | _ => exact hk.elim
    · cases e with
      | normal => exact fin2 w1 st' m' hl hk hs'
      | ret => exact fin2 w1 st' m' hl hk hs'
      | _ => exact hk.elim
end
end Go.Fi

namespace Go.Fi
open Go Go.RowKit
variable [LaidW]
variable {fk : Fk}
section
variable {P : Program} {env : Env} {h : Heap} {n nt : Nat}
/-- A REGION THAT DRAWS ITS ORDER: the first k operations turn nothing that was there; the next one is a call that is walked on the caller's places; the others come in their order -/
theorem awp_regionDJ {K : Exit → St → Prop} {id : Nat} {ops : Array Oper} (k : Nat) (g : FuncId) (hm : P.follows .mixedOrders = true) (hchk : chkP ops k = true) (hkl : k < ops.size) {fn : Func} {c : Code} (hfn : P.funcs[g]? = some fn) (hname : (fn.name == "runtime.NumGoroutine") = false) (hb : fn.body = some c)
    {args : Array Operand} {tys : Array TypeId} (ho : (ops.toList.getD k default).op = .call { callee := .value (.func g), args := args, argTypes := tys })
    (hk : aPre P ops nt (ops.toList.take k) env h n fun e' h' n' => InlM P ops nt (ops.toList.getD k default) (ops.toList.drop (k + 1)) g fn c args e' h' n' (fun e3 h3 n3 => K .normal ⟨e3, h3, n3, nt⟩) .it) :
    AWPk fk P (.region id ops true) ⟨env, h, n, nt⟩ K := by
  obtain ⟨hc, hseq⟩ := chk_of hchk
  refine awp_regionG k hm hc hk (fun B w0 e' h' n' hK f listed a w m hsz hcl hl hop hs => ?_)
  obtain ⟨caps, hf, hnt, hdk, hgu, hw⟩ := hK
  cases f with
  | zero =>
    exfalso
    have := open_zero (Nat.le_zero.1 hop) (i := k) (by omega)
    have := (hl k hkl).1 this
    omega
  | succ f =>
    have hne := some_ready hsz hc.down k hkl (by
      cases hq : listed.getD k false with
      | true => have := (hl k hkl).1 hq; omega
      | false => rfl)
    refine ⟨fun hnil => absurd hnil hne, fun x hx2 => ?_⟩
    obtain ⟨o, ho2, hff, he⟩ := ready_false hsz hx2
    have hxs := (Array.getElem?_eq_some_iff.1 ho2).1
    have hxi : x = k := by
      have h1 : ¬ x < k := fun hxl => by
        have := (hl x hxs).2 hxl
        rw [Array.getD_eq_getD_getElem?, hff] at this
        cases this
      rcases Nat.lt_or_ge k x with h2 | h2
      · have := reach_listed hcl 8 x k o ho2 he (hseq x (by omega) hxs k h2)
        have := (hl k hkl).1 this
        omega
      · omega
    subst hxi
    have hoo : ops.toList.getD x default = o := by
      rw [List.getD_eq_getElem?_getD, Array.getElem?_toList, ho2]; rfl
    rw [hoo] at ho hgu hdk hw
    unfold wpOpIn
    rw [ho2]
    simp only [Region.wanted, hgu, if_true]
    refine wpIn_of_wp (fun c e => by rw [ho] at e; cases e) (inline_sound o (.func g) args tys ho hf hfn hname hb hnt hw hs hdk _ _ (fun v h' n' a' w' m' hk2 hs' => ?_))
    refine tail_sound (Kr := fun e'' h'' n'' => K .normal ⟨e'', h'', n'', nt⟩) (fun e' h' n' a' w' m' hk' hsim => ⟨_, m', hk', hsim⟩) hc.down hseq f (x + 1) (listed.setIfInBounds x true) _ _ _ a' w' m' (by omega) (by omega) (by simpa using hsz) (hcl.set ho2 he) (fun j hj => ?_) (by have := open_set hff; omega) hk2 hs'
    by_cases hxj : x = j
    · subst hxj
      rw [Array.getD_eq_getD_getElem?, Array.getElem?_setIfInBounds]
      simp [hsz, hj]
    · rw [getD_set_ne false hxj, hl j hj]
      omega
end
end Go.Fi

