/- A logic of abstract states for this claim (part Ld): lemmas alone. -/
import Derived.Test.YtfpamehamllndaaGreatDoorLc
set_option linter.unusedSimpArgs false
set_option linter.unusedVariables false

namespace Go.Fi
open Go Go.RowKit
variable [LaidW]

def resA (P : Program) (env : Env) (h : Heap) : ResultVar → Option (AV × Prop)
  | .tmp t => some (get env t, True)
  | .cell ad t => match aOp P h 0 (ev env) (.load t (.tmp ad)) with
    | some (c, v, _) => some (v, c)
    | none => none
def resL (P : Program) (env : Env) (h : Heap) : List ResultVar → Option (List AV × Prop)
  | [] => some ([], True)
  | r :: rs => match resA P env h r with
    | some (v, c) => match resL P env h rs with
      | some (vs, d) => some (v :: vs, c ∧ d)
      | none => none
    | none => none
def oneOf : List AV → AV
  | [v] => v
  | vs => .tup vs
/-- what comes back -/
def RetOk (P : Program) (rs : List ResultVar) (st : St) (res : PV) (fr : Bool) : Prop :=
  match resL P st.env st.heap rs with
  | some (vs, c) => c ∧ frz st.heap 6 (oneOf vs) = some res ∧ (fr = true → freshA st.heap 6 (oneOf vs) = true)
  | none => False

def envOf : Nat → List PV → Env
  | _, [] => []
  | i, p :: r => (i, .w false false p) :: envOf (i + 1) r

def retK (P : Program) (rs : List ResultVar) (res : PV) (fr : Bool) : Exit → St → Prop
  | .normal, s => RetOk P rs s res fr
  | .ret, s => RetOk P rs s res fr
  | _, _ => False

section
variable {fk : Fk} {P : Program} {K : Exit → St → Prop} {st st' : St}

omit [LaidW] in
theorem get_envOf : ∀ (l : List PV) (i t : Nat), get (envOf i l) t = if i ≤ t ∧ t < i + l.length then .w false false (l.getD (t - i) .undef) else .w false false .undef
  | [], i, t => by simp [envOf, get]
  | p :: r, i, t => by
    simp only [envOf, get]
    by_cases h : i = t
    · subst h; simp
    · simp only [h, if_false]
      rw [get_envOf r (i + 1) t]
      simp only [List.length_cons]
      by_cases h2 : i + 1 ≤ t ∧ t < i + 1 + r.length
      · rw [if_pos h2, if_pos (by omega)]
        have : t - i = (t - (i + 1)) + 1 := by omega
        rw [this]; simp
      · rw [if_neg h2, if_neg (by omega)]

def resRun (tmps : Array Value) : ResultVar → Sem Value
  | .tmp t => pure (tmps.getD t undef)
  | .cell a t => do loadVar t (← asAddr (tmps.getD a undef))

theorem run_results {B : Base} {w0 : Ctx fk} {a : Act} {w : World} {m : Mm} (hs : Sim B w0 st a w m) : ∀ (rs : List ResultVar) (vs : List AV) (c : Prop), resL P st.env st.heap rs = some (vs, c) → c →
    ∃ us : List Value, (rs.mapM (resRun a.tmps)).run P w = .ok us w ∧ vs.length = us.length ∧
      ∀ (j : Nat) (p : AV) (u : Value), vs[j]? = some p → us[j]? = some u → RepA B (LB m st.heap) m w p u
  | [], vs, c, h, _ => by
    simp only [resL, Option.some.injEq, Prod.mk.injEq] at h; obtain ⟨rfl, _⟩ := h
    exact ⟨[], rfl, rfl, fun j p u hp => by simp at hp⟩
  | r :: rs, vs, c, h, hc => by
    simp only [resL] at h
    split at h
    · rename_i v d hr
      split at h
      · rename_i vs' d' hrs
        simp only [Option.some.injEq, Prod.mk.injEq] at h; obtain ⟨rfl, rfl⟩ := h
        obtain ⟨us, h1, h2, h3⟩ := run_results hs rs vs' d' hrs hc.2
        have hone : ∃ u, (resRun a.tmps r).run P w = .ok u w ∧ RepA B (LB m st.heap) m w v u := by
          cases r with
          | tmp t =>
            simp only [resA, Option.some.injEq, Prod.mk.injEq] at hr; obtain ⟨rfl, _⟩ := hr
            exact ⟨_, rfl, hs.env t⟩
          | cell ad t =>
            simp only [resA] at hr
            split at hr
            · rename_i c0 v0 E0 h0
              simp only [Option.some.injEq, Prod.mk.injEq] at hr; obtain ⟨rfl, rfl⟩ := hr
              have hx : RepA B (LB m st.heap) m w (ev st.env (.tmp ad)) (a.eval (.tmp ad)) := hs.env ad
              obtain ⟨_, u, hu, hrep⟩ := ok_load (P := P) t (.tmp ad) { (default : Oper) with op := .load t (.tmp ad) } rfl h0 hc.1 hs.heap (fun id cs e => hget_mem e) hx
              refine ⟨u, ?_, hrep⟩
              have hp : ∃ pa, a.tmps.getD ad undef = .pointer (some pa) := by
                have hx' : RepA B (LB m st.heap) m w (get st.env ad) (a.tmps.getD ad undef) := hs.env ad
                simp only [aOp] at h0
                split at h0
                · split at h0
                  · rename_i id ver off e
                    rw [show ev st.env (.tmp ad) = get st.env ad from rfl] at e
                    rw [e] at hx'
                    obtain ⟨b, C, hv, _⟩ := hx'.ptr_inv
                    exact ⟨_, hv⟩
                  · rename_i own f cells off e
                    rw [show ev st.env (.tmp ad) = get st.env ad from rfl] at e
                    rw [e] at hx'
                    obtain ⟨b, o', vals, hv, _⟩ := hx'.ip_inv
                    exact ⟨_, hv⟩
                  · cases h0
                · cases h0
              obtain ⟨pa, hpa⟩ := hp
              have he : a.eval (.tmp ad) = .pointer (some pa) := hpa
              simp only [execOp, he, Instr.loadAt, Instr.sureAddr, Sem.run_bind, Sem.run_pure, Result.andThen_ok] at hu
              simp only [resRun, hpa, asAddr, Sem.run_bind, Sem.run_pure, Result.andThen_ok]
              cases hl : (loadVar t pa).run P w with
              | ok x w1 => rw [hl] at hu; simp only [Result.andThen_ok, Result.ok.injEq, Next.value.injEq] at hu; rw [hu.1, hu.2]
              | halt x w1 => rw [hl] at hu; simp at hu
            · cases hr
        obtain ⟨u, hu, hur⟩ := hone
        refine ⟨u :: us, ?_, by simp [h2], fun j p q hp hq => ?_⟩
        · simp only [List.mapM_cons, Sem.run_bind, hu, h1, Result.andThen_ok, Sem.run_pure]
        · cases j with
          | zero => simp at hp hq; subst hp; subst hq; exact hur
          | succ j => exact h3 j p q (by simpa using hp) (by simpa using hq)
      · cases h
    · cases h

theorem realcall_intro {f : FuncId} {fn : Func} {c : Code} {args : List PV} {res : PV} {fr : Bool} (hf : P.funcs[f]? = some fn) (hname : (fn.name == "runtime.NumGoroutine") = false) (hb : fn.body = some c) (hnt : args.length ≤ fn.ntmps)
    (h : AWPk fk0 P c ⟨envOf 0 args, [], 0, fn.ntmps⟩ (retK P fn.results.toList res fr)) : RealCall P f args res fr := by
  refine ⟨⟨fn, hf, hname, by rw [hb]; rfl⟩, fun G w vs hok hlen hrep => ?_⟩
  refine calls_of_wp hf hb ((wpIn_wide (n := 0)).1 ?_)
  have hsim : Sim ⟨w.heap.size, G⟩ (⟨w, [], none, [], [], fun ri h => (by cases h), hok⟩ : Ctx fk0) ⟨envOf 0 args, [], 0, fn.ntmps⟩ { tmps := vs ++ Array.replicate (fn.ntmps - vs.size) undef, defers := [] } w ⟨fun _ _ => none, fun _ => 0, fun _ => False⟩ := by
    refine ⟨rfl, Below.refl _ _, rfl, by simp; omega, fun t => ?_, ⟨fun id cells hin => (by cases hin), List.Pairwise.nil⟩, fun i => ⟨fun h => h.elim, fun h => absurd h (Nat.not_lt_zero i)⟩, fun id c hin => (by cases hin), Nat.zero_le _, (fun p hp => by cases hp), fun q hq => by cases hq⟩
    show RepA _ _ _ _ (get (envOf 0 args) t) _
    rw [get_envOf]
    split
    · rename_i ht
      have hlt : t < args.length := by omega
      refine .w ?_ (fun h => by cases h)
      have : (vs ++ Array.replicate (fn.ntmps - vs.size) undef).getD t undef = vs[t]'(by omega) := by
        rw [Array.getD_eq_getD_getElem?, Array.getElem?_append_left (by omega), Array.getElem?_eq_getElem (by omega)]; rfl
      rw [this]
      refine (hrep t _ _ (by simpa using getD_some hlt) (Array.getElem?_eq_getElem (by omega))).imp fun b hg => ⟨?_, (fun h => by cases h), fun _ => hg⟩
      rintro ⟨id, cells, C, hin, _⟩
      cases hin
    · exact .w (.undef _) (fun h => by cases h)
  refine wpIn_mono (h _ _ _ _ _ hsim) (fun e a' w' ⟨st', m', hk, hs⟩ => ?_)
  have main : RetOk P fn.results.toList st' res fr → a'.defers = [] ∧ ∃ v, (results fn a'.tmps).run P w' = .ok v w' ∧ ∃ v', Ending.returned v = .returned v' ∧ Below w.heap.size w w' ∧ Rep (fun b => (b < w.heap.size → G b) ∧ (fr = true → w.heap.size ≤ b)) w' res v' := by
    intro hr
    refine ⟨hs.defers, ?_⟩
    unfold RetOk at hr
    split at hr
    · rename_i vs' d hres
      obtain ⟨hd, hfz, hfr⟩ := hr
      obtain ⟨us, h1, h2, h3⟩ := run_results hs _ _ _ hres hd
      have hrun : (results fn a'.tmps).run P w' = .ok (if h : us.toArray.size = 1 then us.toArray[0] else .tuple us.toArray) w' := by
        have he : results fn a'.tmps = (do
            let vs ← fn.results.mapM (resRun a'.tmps)
            pure (if h : vs.size = 1 then vs[0] else .tuple vs)) := rfl
        rw [he, Array.mapM_eq_mapM_toList]
        simp only [Sem.run_bind, Sem.run_map, h1, Result.andThen_ok, Sem.run_pure]
      have hone : RepA ⟨w.heap.size, G⟩ (LB m' st'.heap) m' w' (oneOf vs') (if h : us.toArray.size = 1 then us.toArray[0] else .tuple us.toArray) := by
        have tupc : vs'.length ≠ 1 → RepA ⟨w.heap.size, G⟩ (LB m' st'.heap) m' w' (.tup vs') (if h : us.toArray.size = 1 then us.toArray[0] else .tuple us.toArray) := by
          intro hne
          rw [dif_neg (by simp; omega)]
          exact .tup (by simpa using h2) (fun j p u hp hu => h3 j p u hp (by simpa using hu))
        match vs', h2, h3, tupc with
        | [], h2, h3, tupc => exact tupc (by simp)
        | [v], h2, h3, tupc =>
          obtain ⟨u, rfl⟩ : ∃ u, us = [u] := List.length_eq_one_iff.1 (by simpa using h2.symm)
          exact h3 0 v u rfl rfl
        | v :: v2 :: r, h2, h3, tupc => exact tupc (by simp)
      refine ⟨_, hrun, _, rfl, hs.below, ?_⟩
      exact frz_rep (B := ⟨w.heap.size, G⟩) hs.heap (fun id cs e => hget_mem e) fr (fun b hb => ⟨fun hl => by simp only at hb; omega, fun _ => hb⟩) (fun hf b hg => ⟨hg.2.2, fun h => by rw [hf] at h; cases h⟩) 6 _ _ _ hfz hfr hone
    · exact hr.elim
  cases e <;> first | exact main hk | exact hk.elim

/-- less is known -/
def avle : AV → AV → Prop
  | .w o f p, .w o' f' p' => (o' = true → o = true) ∧ (f' = true → f = true) ∧ (p' = p ∨ p' = .undef ∧ f' = false)
  | a, b => a = b

def envLe (env : Env) (n : Nat) : Env → Prop
  | [] => True
  | (t, v) :: r => avle (get env t) v ∧ v.lt n = true ∧ envLe env n r
def heapLe (h : Heap) (n : Nat) : Heap → Prop
  | [] => True
  | (i, c) :: r => hget h i = some c ∧ i < n ∧ AV.lt.ltL n c = true ∧ hget r i = none ∧ heapLe h n r


omit [LaidW] in
theorem avle_rep {B : Base} {L : Nat → Prop} {m : Mm} {w : World} {x y : AV} {v : Value} (hxy : avle x y) (h : RepA B L m w x v) : RepA B L m w y v := by
  unfold avle at hxy
  split at hxy
  · obtain ⟨h1, h2, h3⟩ := hxy
    cases h with
    | w hr hf =>
      rcases h3 with rfl | ⟨rfl, h4⟩
      · exact .w (hr.imp fun b hg => ⟨hg.1, fun e => hg.2.1 (h1 e), hg.2.2⟩) (fun e => hf (h2 e))
      · exact .w (.undef _) (fun e => by rw [h4] at e; cases e)
  · rw [← hxy]; exact h

omit [LaidW] in
theorem envLe_get {n : Nat} : ∀ {env' env : Env}, envLe env n env' → ∀ t, (avle (get env t) (get env' t) ∧ (get env' t).lt n = true) ∨ get env' t = .w false false .undef
  | [], env, _, t => .inr rfl
  | (k, v) :: r, env, h, t => by
    obtain ⟨h1, h2, h3⟩ := h
    simp only [get]
    split
    · rename_i e; subst e; exact .inl ⟨h1, h2⟩
    · exact envLe_get h3 t

omit [LaidW] in
theorem heapLe_mem {n : Nat} {h : Heap} : ∀ {h' : Heap}, heapLe h n h' → ∀ i c, (i, c) ∈ h' → hget h i = some c ∧ i < n ∧ AV.lt.ltL n c = true
  | [], _, i, c, hin => by cases hin
  | (k, v) :: r, hh, i, c, hin => by
    obtain ⟨h1, h2, h3, h4, h5⟩ := hh
    rcases List.mem_cons.1 hin with e | e
    · injection e with e1 e2; subst e1; subst e2; exact ⟨h1, h2, h3⟩
    · exact heapLe_mem h5 i c e
omit [LaidW] in
theorem hget_none : ∀ {h : Heap} {i : Nat}, hget h i = none → ∀ p ∈ h, p.1 ≠ i
  | [], i, _, p, hp => by cases hp
  | (k, v) :: r, i, hh, p, hp => by
    simp only [hget] at hh
    split at hh
    · cases hh
    · rename_i hk
      rcases List.mem_cons.1 hp with e | e
      · subst e; exact hk
      · exact hget_none hh p e

omit [LaidW] in
theorem heapLe_keys {n : Nat} {h : Heap} : ∀ {h' : Heap}, heapLe h n h' → h'.Pairwise fun p q => p.1 ≠ q.1
  | [], _ => List.Pairwise.nil
  | (k, v) :: r, hh => by
    obtain ⟨h1, h2, h3, h4, h5⟩ := hh
    exact List.pairwise_cons.2 ⟨fun q hq e => hget_none h4 q hq e.symm, heapLe_keys h5⟩

theorem le_of {env env' : Env} {h h' : Heap} {n n' nt : Nat} (h1 : envLe env n' env') (h2 : heapLe h n' h') (hk : fk.k ≤ n' := by first | exact Nat.zero_le _ | omega | (simp; done)) : Lek fk ⟨env, h, n, nt⟩ ⟨env', h', n', nt⟩ := by
  intro B w0 a w m hs
  have hL : ∀ b, LB { m with dom := fun i => i < n' } h' b → LB m h b := by
    rintro b ⟨id, c, C, hin, _, ha⟩
    obtain ⟨g1, _, _⟩ := heapLe_mem h2 id c hin
    have hm := hget_mem g1
    exact ⟨id, c, C, hm, (hs.dom id).2 (hs.ids id c hm), ha⟩
  refine ⟨{ m with dom := fun i => i < n' }, hs.base, hs.below, hs.defers, hs.size, fun t => ?_, ⟨fun id c hin hd => ?_, ?_⟩, fun i => Iff.rfl, fun id c hin => (heapLe_mem h2 id c hin).2.1, hk, fun p hp => ⟨(hs.fr.2.1 p hp).1, (hs.fr.2.1 p hp).2.relt (AV.lt_mono hk (hs.fr.2.1 p hp).1) hL⟩, fun q hq => let ⟨o1, o2, o3, o4⟩ := hs.fr.2.2 q hq; ⟨o1, o2, fun h => o3 (hL _ h), o4⟩⟩
  · show RepA _ _ _ _ (get env' t) _
    rcases envLe_get h1 t with ⟨g1, g2⟩ | g1
    · exact (avle_rep g1 (hs.env t)).relt g2 hL
    · rw [g1]; exact .w (.undef _) (fun e => by cases e)
  · obtain ⟨g1, _, g3⟩ := heapLe_mem h2 id c hin
    have hm := hget_mem g1
    obtain ⟨ht, hen⟩ := hs.heap.entry id c hm ((hs.dom id).2 (hs.ids id c hm))
    refine ⟨ht, ?_⟩
    rcases hen with hen | ⟨b, C, cs, e, e1, e2, e3, e4, e5, e6⟩ | hen
    · exact .inl hen
    · exact .inr (.inl ⟨b, C, cs, e, e1, e2, e3, e4, e5, fun j p v hp hv => (e6 j p v hp hv).relt (ltL_spec g3 j p hp) hL⟩)
    · exact .inr (.inr hen)
  · have hk := heapLe_keys h2
    refine List.Pairwise.imp_of_mem ?_ hk
    intro x y hx hy hne
    refine ⟨hne, fun b C C' _ _ hax hay => ?_⟩
    have mx := hget_mem (heapLe_mem h2 x.1 x.2 hx).1
    have my := hget_mem (heapLe_mem h2 y.1 y.2 hy).1
    have := hs.heap.inj
    rw [List.pairwise_iff_getElem] at this
    obtain ⟨p, hp, ep⟩ := List.getElem_of_mem mx
    obtain ⟨q, hq, eq⟩ := List.getElem_of_mem my
    have dx : m.dom x.1 := (hs.dom _).2 (hs.ids _ _ mx)
    have dy : m.dom y.1 := (hs.dom _).2 (hs.ids _ _ my)
    rcases Nat.lt_trichotomy p q with hpq | hpq | hpq
    · have := (this p q hp hq hpq).2 b C C'
      rw [ep, eq] at this
      exact this dx dy hax hay
    · subst hpq
      rw [ep] at eq
      injection eq with e1 _
      exact hne e1
    · have := (this q p hq hp hpq).2 b C' C
      rw [ep, eq] at this
      exact this dy dx hay hax

theorem Lek.refl (st : St) : Lek fk st st := fun _ _ _ _ m hs => ⟨m, hs⟩
theorem Lek.trans {a b c : St} (h : Lek fk a b) (k : Lek fk b c) : Lek fk a c := fun B w0 x w m hs => let ⟨m', hs'⟩ := h B w0 x w m hs; k B w0 x w m' hs'

end
end Go.Fi

namespace Go.Fi
open Go Go.RowKit
variable [LaidW]
variable {fk : Fk}

/-! HOW THE ABSTRACT WALK IS RUN: 'simp' computes the states; what lies behind a step is not looked into before the step is done. -/
@[congr] theorem AWP_congr {P : Program} {c : Code} {st st' : St} {K : Exit → St → Prop} (h : st = st') : AWPk fk P c st K = AWPk fk P c st' K := by rw [h]
@[congr] theorem aOps_congr {P : Program} {ops : Array Oper} {nt : Nat} {os : List Oper} {e e' : Env} {h h' : Heap} {n n' : Nat} {K : Env → Heap → Nat → Prop} (h1 : e = e') (h2 : h = h') (h3 : n = n') : aOps P ops nt os e h n K = aOps P ops nt os e' h' n' K := by rw [h1, h2, h3]
@[congr] theorem aPre_congr {P : Program} {ops : Array Oper} {nt : Nat} {os : List Oper} {e e' : Env} {h h' : Heap} {n n' : Nat} {K : Env → Heap → Nat → Prop} (h1 : e = e') (h2 : h = h') (h3 : n = n') : aPre P ops nt os e h n K = aPre P ops nt os e' h' n' K := by rw [h1, h2, h3]
@[congr] theorem EStep_congr {P : Program} {env env' : Env} {h h' : Heap} {n n' : Nat} {op : Op} {K : AV → Heap → Nat → Prop} (h1 : env = env') (h2 : h = h') (h3 : n = n') : EStep P env h n op K = EStep P env' h' n' op K := by rw [h1, h2, h3]
@[congr] theorem QStep_congr {P : Program} {env env' : Env} {h h' : Heap} {n n' : Nat} {op : Op} {K : AV → List (List AV) → Prop} (h1 : env = env') (h2 : h = h') (h3 : n = n') : QStep P env h n op K = QStep P env' h' n' op K := by rw [h1, h2, h3]
@[congr] theorem CW_congr {P : Program} {g : FuncId} {args args' : List PV} {K : PV → Bool → Prop} {K2 : List (List AV) → AV → Prop} {mk : Mark (K, K2)} (h : args = args') : CW P g args K K2 mk = CW P g args' K K2 mk := by rw [h]

/-- behind an operation -/
def aW (r : Option (Prop × AV × List (List AV))) (K : AV → List (List AV) → Prop) (_ : Mark K) : Prop :=
  match r with
  | some (c, v, E) => c ∧ K v E
  | none => False
omit [LaidW] in
@[congr] theorem aW_congr {r r' : Option (Prop × AV × List (List AV))} {K : AV → List (List AV) → Prop} {mk : Mark K} (h : r = r') : aW r K mk = aW r' K mk := by rw [h]
omit [LaidW] in
@[simp] theorem aW_some (c : Prop) (v : AV) (E : List (List AV)) (K : AV → List (List AV) → Prop) (mk : Mark K) : aW (some (c, v, E)) K mk = (c ∧ K v E) := rfl
omit [LaidW] in
@[simp] theorem aW_none (K : AV → List (List AV) → Prop) (mk : Mark K) : aW none K mk = False := rfl

section
variable {P : Program} {ops : Array Oper} {nt : Nat} {env : Env} {h : Heap} {n : Nat}

@[simp ↓] theorem aOps_nil (K : Env → Heap → Nat → Prop) : aOps P ops nt [] env h n K = K env h n := rfl
@[simp ↓] theorem aPre_nil (K : Env → Heap → Nat → Prop) : aPre P ops nt [] env h n K = K env h n := rfl
omit [LaidW] in
@[simp] theorem dOk_some (d : Nat) : dOk nt (some d) = (d < nt) := rfl
omit [LaidW] in
@[simp] theorem dOk_none : dOk nt none = True := rfl
omit [LaidW] in
@[simp] theorem put_some (d : Nat) (v : AV) : put env (some d) v = (d, v) :: env := rfl
omit [LaidW] in
@[simp] theorem put_none (v : AV) : put env none v = env := rfl
omit [LaidW] in
@[simp] theorem addE_nil : addE h n [] = h := rfl
omit [LaidW] in
@[simp] theorem addE_one (c : List AV) : addE h n [c] = (n, c) :: h := rfl
omit [LaidW] in
@[simp] theorem get_nil (t : Nat) : get [] t = .w false false .undef := rfl
omit [LaidW] in
@[simp] theorem get_cons (k t : Nat) (v : AV) : get ((k, v) :: env) t = if k = t then v else get env t := rfl
omit [LaidW] in
@[simp] theorem hget_cons (k t : Nat) (v : List AV) : hget ((k, v) :: h) t = if k = t then some v else hget h t := rfl
omit [LaidW] in
@[simp] theorem hget_nil (t : Nat) : hget [] t = none := rfl
omit [LaidW] in
@[simp] theorem hset_cons (k t : Nat) (v x : List AV) : hset ((k, v) :: h) t x = if k = t then (k, x) :: h else (k, v) :: hset h t x := rfl
omit [LaidW] in
@[simp] theorem ev_tmp (t : Nat) : ev env (.tmp t) = get env t := rfl
omit [LaidW] in
@[simp] theorem ev_const (v : Value) : ev env (.const v) = cst v := rfl
omit [LaidW] in
@[simp] theorem ev_func (f : FuncId) : ev env (.func f) = .fn f [] := rfl
attribute [simp] cst cst1

@[simp ↓] theorem aOps_plain (dst : Option Tmp) (op : Op) (ty : TypeId) (pos : String) (after : Array Edge) (os : List Oper) (K : Env → Heap → Nat → Prop) :
    aOps P ops nt (⟨dst, op, ty, pos, after, none⟩ :: os) env h n K = (dOk nt dst ∧ EStep P env h n op fun v h' n' => aOps P ops nt os (put env dst v) h' n' K) := by
  simp [aOps, wantedA]
@[simp ↓] theorem aPre_plain (dst : Option Tmp) (op : Op) (ty : TypeId) (pos : String) (after : Array Edge) (os : List Oper) (K : Env → Heap → Nat → Prop) :
    aPre P ops nt (⟨dst, op, ty, pos, after, none⟩ :: os) env h n K = (dOk nt dst ∧ QStep P env h n op fun v E => aPre P ops nt os (put env dst v) (addE h n E) (n + E.length) K) := by
  simp [aPre, wantedA]

/-- a guard -/
def gW (g : Option Bool) (X Y : Prop) : Prop :=
  match g with
  | some b => (b = true → X) ∧ (b = false → Y)
  | none => False
omit [LaidW] in
@[congr] theorem gW_congr {g g' : Option Bool} {X Y : Prop} (h : g = g') : gW g X Y = gW g' X Y := by rw [h]
omit [LaidW] in
@[simp] theorem gW_true (X Y : Prop) : gW (some true) X Y = X := by simp [gW]
omit [LaidW] in
@[simp] theorem gW_false (X Y : Prop) : gW (some false) X Y = Y := by simp [gW]
def gVal (v : AV) (want : Bool) : Option Bool :=
  match v with
  | .w _ _ (.bool b) => some (b == want)
  | .tup [] => some false
  | _ => none
omit [LaidW] in
@[simp] theorem gVal_bool (o f b want : Bool) : gVal (.w o f (.bool b)) want = some (b == want) := rfl
omit [LaidW] in
@[simp] theorem gVal_skip (want : Bool) : gVal (.tup []) want = some false := rfl
def gOf (ops : Array Oper) (env : Env) (j : Nat) (want : Bool) : Option Bool :=
  match dstOf ops j with
  | none => some false
  | some t => gVal (get env t) want
omit [LaidW] in
theorem wantedA_guard (dst : Option Tmp) (op : Op) (ty : TypeId) (pos : String) (after : Array Edge) (j : Nat) (want : Bool) : wantedA ops env ⟨dst, op, ty, pos, after, some (j, want)⟩ = gOf ops env j want := by
  unfold wantedA gOf dstOf
  dsimp only
  cases (ops[j]?).bind (·.dst) <;> rfl
theorem aOps_guard (dst : Option Tmp) (op : Op) (ty : TypeId) (pos : String) (after : Array Edge) (j : Nat) (want : Bool) (os : List Oper) (K : Env → Heap → Nat → Prop) :
    aOps P ops nt (⟨dst, op, ty, pos, after, some (j, want)⟩ :: os) env h n K = (dOk nt dst ∧ gW (gOf ops env j want) (EStep P env h n op fun v h' n' => aOps P ops nt os (put env dst v) h' n' K) (aOps P ops nt os (put env dst (.tup [])) h n K)) := by
  conv => lhs; unfold aOps
  rw [wantedA_guard]
  cases gOf ops env j want <;> simp [gW]
theorem aPre_guard (dst : Option Tmp) (op : Op) (ty : TypeId) (pos : String) (after : Array Edge) (j : Nat) (want : Bool) (os : List Oper) (K : Env → Heap → Nat → Prop) :
    aPre P ops nt (⟨dst, op, ty, pos, after, some (j, want)⟩ :: os) env h n K = (dOk nt dst ∧ gW (gOf ops env j want) (QStep P env h n op fun v E => aPre P ops nt os (put env dst v) (addE h n E) (n + E.length) K) (aPre P ops nt os (put env dst (.tup [])) h n K)) := by
  conv => lhs; unfold aPre
  rw [wantedA_guard]
  cases gOf ops env j want <;> simp [gW]
/-- a guard, and what is not looked into -/
def gM (g : Option Bool) (X Y : Prop) (_ : Mark (X, Y)) : Prop := gW g X Y
omit [LaidW] in
@[congr] theorem gM_congr {g g' : Option Bool} {X Y : Prop} {mk : Mark (X, Y)} (h : g = g') : gM g X Y mk = gM g' X Y mk := by rw [h]
omit [LaidW] in
@[simp] theorem gM_true (X Y : Prop) (mk : Mark (X, Y)) : gM (some true) X Y mk = X := gW_true X Y
omit [LaidW] in
@[simp] theorem gM_false (X Y : Prop) (mk : Mark (X, Y)) : gM (some false) X Y mk = Y := gW_false X Y
omit [LaidW] in
theorem gM_split {b : Bool} {X Y : Prop} {mk : Mark (X, Y)} (hx : b = true → X) (hy : b = false → Y) : gM (some b) X Y mk := ⟨hx, hy⟩
omit [LaidW] in
theorem gM_splitN {b : Bool} {X Y : Prop} {mk : Mark (X, Y)} (hx : b = false → X) (hy : b = true → Y) : gM (some (!b)) X Y mk := ⟨fun h => hx (by simpa using h), fun h => hy (by simpa using h)⟩
/-- a guarded operation: what is run, if it is; what is not looked into -/
def gE (g : Option Bool) (P : Program) (env : Env) (h : Heap) (n : Nat) (op : Op) (K : AV → Heap → Nat → Prop) (_ : Mark K) : Prop := gW g (EStep P env h n op K) (K (.tup []) h n)
def gQ (g : Option Bool) (P : Program) (env : Env) (h : Heap) (n : Nat) (op : Op) (K : AV → List (List AV) → Prop) (_ : Mark K) : Prop := gW g (QStep P env h n op K) (K (.tup []) [])
@[congr] theorem gE_congr {g g' : Option Bool} {P : Program} {env env' : Env} {h h' : Heap} {n n' : Nat} {op : Op} {K : AV → Heap → Nat → Prop} {mk : Mark K} (e1 : g = g') (e2 : env = env') (e3 : h = h') (e4 : n = n') : gE g P env h n op K mk = gE g' P env' h' n' op K mk := by rw [e1, e2, e3, e4]
@[congr] theorem gQ_congr {g g' : Option Bool} {P : Program} {env env' : Env} {h h' : Heap} {n n' : Nat} {op : Op} {K : AV → List (List AV) → Prop} {mk : Mark K} (e1 : g = g') (e2 : env = env') (e3 : h = h') (e4 : n = n') : gQ g P env h n op K mk = gQ g' P env' h' n' op K mk := by rw [e1, e2, e3, e4]
section
variable {op : Op} {K : AV → Heap → Nat → Prop} {mk : Mark K} {Kq : AV → List (List AV) → Prop} {mkq : Mark Kq} {b : Bool} {p : Prop} [Decidable p]
@[simp] theorem gE_true : gE (some true) P env h n op K mk = EStep P env h n op K := by unfold gE; exact gW_true _ _
@[simp] theorem gE_false : gE (some false) P env h n op K mk = K (.tup []) h n := by unfold gE; exact gW_false _ _
@[simp] theorem gQ_true : gQ (some true) P env h n op Kq mkq = QStep P env h n op Kq := by unfold gQ; exact gW_true _ _
@[simp] theorem gQ_false : gQ (some false) P env h n op Kq mkq = Kq (.tup []) [] := by unfold gQ; exact gW_false _ _
theorem gE_split (hx : b = true → EStep P env h n op K) (hy : b = false → K (.tup []) h n) : gE (some b) P env h n op K mk := ⟨hx, hy⟩
theorem gE_splitN (hx : b = false → EStep P env h n op K) (hy : b = true → K (.tup []) h n) : gE (some (!b)) P env h n op K mk := ⟨fun h => hx (by simpa using h), fun h => hy (by simpa using h)⟩
theorem gE_splitDN (hx : ¬ p → EStep P env h n op K) (hy : p → K (.tup []) h n) : gE (some (!decide p)) P env h n op K mk := ⟨fun h => hx (by simpa using h), fun h => hy (by simpa using h)⟩
theorem gQ_split (hx : b = true → QStep P env h n op Kq) (hy : b = false → Kq (.tup []) []) : gQ (some b) P env h n op Kq mkq := ⟨hx, hy⟩
theorem gQ_splitN (hx : b = false → QStep P env h n op Kq) (hy : b = true → Kq (.tup []) []) : gQ (some (!b)) P env h n op Kq mkq := ⟨fun h => hx (by simpa using h), fun h => hy (by simpa using h)⟩
theorem gQ_splitD (hx : p → QStep P env h n op Kq) (hy : ¬ p → Kq (.tup []) []) : gQ (some (decide p)) P env h n op Kq mkq := ⟨fun h => hx (by simpa using h), fun h => hy (by simpa using h)⟩
theorem gQ_splitDN (hx : ¬ p → QStep P env h n op Kq) (hy : p → Kq (.tup []) []) : gQ (some (!decide p)) P env h n op Kq mkq := ⟨fun h => hx (by simpa using h), fun h => hy (by simpa using h)⟩
end
section
variable {dst : Option Tmp} {op : Op} {ty : TypeId} {pos : String} {after : Array Edge} {j : Nat} {want : Bool} {os : List Oper}
@[simp ↓] theorem aOps_gE {K : Env → Heap → Nat → Prop} :
    aOps P ops nt (⟨dst, op, ty, pos, after, some (j, want)⟩ :: os) env h n K = (dOk nt dst ∧ gE (gOf ops env j want) P env h n op (fun v h' n' => aOps P ops nt os (put env dst v) h' n' K) .it) := aOps_guard ..
@[simp ↓] theorem aPre_gQ {K : Env → Heap → Nat → Prop} :
    aPre P ops nt (⟨dst, op, ty, pos, after, some (j, want)⟩ :: os) env h n K = (dOk nt dst ∧ gQ (gOf ops env j want) P env h n op (fun v E => aPre P ops nt os (put env dst v) (addE h n E) (n + E.length) K) .it) := aPre_guard ..
end
def dstL : List Oper → Nat → Option Tmp
  | [], _ => none
  | o :: _, 0 => o.dst
  | _ :: r, k + 1 => dstL r k
omit [LaidW] in
@[simp] theorem dstL_zero (o : Oper) (r : List Oper) : dstL (o :: r) 0 = o.dst := by rw [dstL]
omit [LaidW] in
@[simp] theorem dstL_succ (o : Oper) (r : List Oper) (k : Nat) : dstL (o :: r) (k + 1) = dstL r k := by rw [dstL]
def gV (env : Env) (d : Option Tmp) (want : Bool) : Option Bool :=
  match d with
  | none => some false
  | some t => gVal (get env t) want
omit [LaidW] in
@[simp] theorem gV_some (t : Tmp) (want : Bool) : gV env (some t) want = gVal (get env t) want := rfl
omit [LaidW] in
theorem dstL_eq : ∀ (l : List Oper) (j : Nat), dstL l j = (l[j]?).bind (·.dst)
  | [], j => by simp [dstL]
  | o :: r, 0 => rfl
  | o :: r, j + 1 => by simp only [dstL, List.getElem?_cons_succ]; exact dstL_eq r j
omit [LaidW] in
@[simp] theorem gOf_arr (l : List Oper) (j : Nat) (want : Bool) : gOf l.toArray env j want = gV env (dstL l j) want := by
  unfold gOf dstOf gV
  rw [List.getElem?_toArray, dstL_eq]
  cases (l[j]?).bind (·.dst) <;> rfl
@[simp ↓] theorem E_move (x : Operand) (K : AV → Heap → Nat → Prop) : EStep P env h n (.move x) K = K (ev env x) h n := by simp [EStep, QStep, aOp]
@[simp ↓] theorem E_assign (x : Operand) (K : AV → Heap → Nat → Prop) : EStep P env h n (.assign x) K = K (ev env x) h n := by simp [EStep, QStep, aOp]
@[simp ↓] theorem Q_move (x : Operand) (K : AV → List (List AV) → Prop) : QStep P env h n (.move x) K = K (ev env x) [] := by simp [QStep, aOp]
@[simp ↓] theorem Q_assign (x : Operand) (K : AV → List (List AV) → Prop) : QStep P env h n (.assign x) K = K (ev env x) [] := by simp [QStep, aOp]
end

/-- a store, an append: what they come to -/
def storeR (h : Heap) (ty : Option (Nat × Bool)) (ad x : AV) : Option (Prop × Heap) :=
  match ty, ad with
  | some (sz, _), .ptr id ver off =>
    match hget h id with
    | some cells => some ((cells.length = ver ∧ x.ok = true ∧ x.cells.length = sz ∧ off + sz ≤ cells.length ∧ ones x.cells = true), hset h id (setAt cells off x.cells))
    | none => none
  | _, _ => none
def appR (P : Program) (h : Heap) (n : Nat) (t tx : TypeId) (s x : AV) : Option (Prop × AV × Heap × Nat) :=
  match slE P t, slE P tx with
  | some (e, sz), some _ =>
    match byE P e, zcells P e, srcOf h sz x with
    | some by_, some z, some (k2, news, c) =>
      match s with
      | .msl id ver z' off k =>
        match hget h id with
        | some cells => some ((c ∧ off = 0 ∧ cells.length = ver ∧ z' = sz ∧ z.length = sz ∧ 0 < sz ∧ k * sz ≤ ver ∧ k + k2 ≤ 1000000000 ∧ by_ ≤ 100000 ∧ ones news = true),
            .msl id (insW cells (k * sz) news).length sz 0 (k + k2), hset h id (insW cells (k * sz) news), n)
        | none => none
      | .w own true (.sl k cells) =>
        bif own && decide (k = 0) && cells.isEmpty then some ((c ∧ 0 < k2 ∧ z.length = sz ∧ 0 < sz ∧ k2 ≤ 1000000000 ∧ by_ ≤ 100000), .msl n news.length sz 0 k2, (n, news) :: h, n + 1)
        else match pvs news with
          | some q => some ((c ∧ cells.length = k * sz ∧ z.length = sz ∧ 0 < sz ∧ k + k2 ≤ 1000000000 ∧ by_ ≤ 100000), .w (flatL q && (own || cells.isEmpty)) false (.sl (k + k2) (cells ++ q)), h, n)
          | none => none
      | _ => none
    | _, _, _ => none
  | _, _ => none
def appL (P : Program) (h : Heap) (n : Nat) (args : List AV) (tys : List TypeId) : Option (Prop × AV × Heap × Nat) :=
  match args, tys with
  | [s, x], [t, tx] => appR P h n t tx s x
  | _, _ => none
def sM (r : Option (Prop × Heap)) (n : Nat) (K : AV → Heap → Nat → Prop) (_ : Mark K) : Prop :=
  match r with
  | some (c, h') => c ∧ K (.tup []) h' n
  | none => False
def pM (r : Option (Prop × AV × Heap × Nat)) (K : AV → Heap → Nat → Prop) (_ : Mark K) : Prop :=
  match r with
  | some (c, v, h', n') => c ∧ K v h' n'
  | none => False
omit [LaidW] in
@[congr] theorem sM_congr {r r' : Option (Prop × Heap)} {n n' : Nat} {K : AV → Heap → Nat → Prop} {mk : Mark K} (h : r = r') (h2 : n = n') : sM r n K mk = sM r' n' K mk := by rw [h, h2]
omit [LaidW] in
@[congr] theorem pM_congr {r r' : Option (Prop × AV × Heap × Nat)} {K : AV → Heap → Nat → Prop} {mk : Mark K} (h : r = r') : pM r K mk = pM r' K mk := by rw [h]
omit [LaidW] in
@[simp] theorem sM_some (c : Prop) (h' : Heap) (n : Nat) (K : AV → Heap → Nat → Prop) (mk : Mark K) : sM (some (c, h')) n K mk = (c ∧ K (.tup []) h' n) := rfl
omit [LaidW] in
@[simp] theorem pM_some (c : Prop) (v : AV) (h' : Heap) (n' : Nat) (K : AV → Heap → Nat → Prop) (mk : Mark K) : pM (some (c, v, h', n')) K mk = (c ∧ K v h' n') := rfl
@[simp ↓] theorem E_store {P : Program} {env : Env} {h : Heap} {n : Nat} (t : TypeId) (ad x : Operand) (K : AV → Heap → Nat → Prop) : EStep P env h n (.store t ad x) K = sM (storeR h (tyL P t) (ev env ad) (ev env x)) n K .it := by
  show storeW P env h n t ad x K = _
  unfold storeW storeR
  cases tyL P t with
  | none => cases ev env ad <;> rfl
  | some y =>
    obtain ⟨sz, g⟩ := y
    cases ev env ad with
    | ptr id ver off => dsimp only; cases hget h id <;> rfl
    | _ => rfl
@[simp ↓] theorem E_append {P : Program} {env : Env} {h : Heap} {n : Nat} (args : Array Operand) (tys : Array TypeId) (K : AV → Heap → Nat → Prop) : EStep P env h n (.call ⟨.builtin .append, args, tys⟩) K = pM (appL P h n (args.toList.map (ev env)) tys.toList) K .it := by
  show appendW P env h n args.toList tys.toList K = _
  generalize args.toList = la
  generalize tys.toList = lt
  unfold appendW appL
  match la, lt with
  | [s, x], [t, tx] =>
    simp only [List.map]
    unfold appR
    cases slE P t with
    | none => rfl
    | some y =>
      obtain ⟨e, sz⟩ := y
      cases slE P tx with
      | none => rfl
      | some y2 =>
        dsimp only
        cases byE P e with
        | none => rfl
        | some by_ =>
          cases zcells P e with
          | none => rfl
          | some z =>
            cases srcOf h sz (ev env x) with
            | none => rfl
            | some y3 =>
              obtain ⟨k2, news, c⟩ := y3
              dsimp only
              cases ev env s with
              | msl id ver z' off k => dsimp only; cases hget h id <;> rfl
              | w own f p =>
                cases f with
                | false => rfl
                | true =>
                  cases p with
                  | sl k cells =>
                    dsimp only
                    cases (own && decide (k = 0) && cells.isEmpty) with
                    | true => rfl
                    | false => simp only [cond_false]; cases pvs news <;> rfl
                  | _ => rfl
              | _ => rfl
  | [], _ => simp [pM]
  | [_], _ => simp [pM]
  | _ :: _ :: _ :: _, _ => simp [pM]
  | [_, _], [] => simp [pM]
  | [_, _], [_] => simp [pM]
  | [_, _], _ :: _ :: _ :: _ => simp [pM]
/-- every other operation: by what it computes -/
def eK (h : Heap) (n : Nat) (K : AV → Heap → Nat → Prop) : AV → List (List AV) → Prop := fun v E => K v (addE h n E) (n + E.length)
omit [LaidW] in
@[simp ↓] theorem eK_nil (h : Heap) (n : Nat) (K : AV → Heap → Nat → Prop) (v : AV) : eK h n K v [] = K v h n := by unfold eK; rfl
omit [LaidW] in
@[simp ↓] theorem eK_one (h : Heap) (n : Nat) (K : AV → Heap → Nat → Prop) (v : AV) (c : List AV) : eK h n K v [c] = K v ((n, c) :: h) (n + 1) := by unfold eK; rfl
section
variable {P : Program} {env : Env} {h : Heap} {n : Nat} (K : AV → Heap → Nat → Prop) (Kq : AV → List (List AV) → Prop)
/-- a value that is there under a condition alone -/
def gdV (b : Bool) (v : AV) : AV := bif b then v else .tup []
omit [LaidW] in
@[simp] theorem gdV_true (v : AV) : gdV true v = v := rfl
omit [LaidW] in
@[simp] theorem gdV_false (v : AV) : gdV false v = .tup [] := rfl
/-- one of two values -/
def pkW (c x y : AV) (K : AV → List (List AV) → Prop) (_ : Mark K) : Prop :=
  match c with
  | .w _ _ (.bool t) =>
    match x, y with
    | .w _ _ (.bool a), .w _ _ (.bool b) => K (.w false false (.bool (bif t then a else b))) []
    | x, y => K (bif t then x else y) []
  | _ => False
omit [LaidW] in
@[congr] theorem pkW_congr {c c' x x' y y' : AV} {K : AV → List (List AV) → Prop} {mk : Mark K} (h1 : c = c') (h2 : x = x') (h3 : y = y') : pkW c x y K mk = pkW c' x' y' K mk := by rw [h1, h2, h3]
section
variable {K : AV → List (List AV) → Prop} {mk : Mark K}
omit [LaidW] in
@[simp] theorem pkW_bool (o f t o1 f1 a o2 f2 b : Bool) : pkW (.w o f (.bool t)) (.w o1 f1 (.bool a)) (.w o2 f2 (.bool b)) K mk = K (.w false false (.bool (bif t then a else b))) [] := rfl
omit [LaidW] in
@[simp] theorem pkW_gd1 (o f c g o1 f1 a b : Bool) (hg : c = g) : pkW (.w o f (.bool c)) (gdV g (.w o1 f1 (.bool a))) (.w false false (.bool b)) K mk = K (.w false false (.bool (bif c then a else b))) [] := by
  subst hg; cases c <;> rfl
omit [LaidW] in
@[simp] theorem pkW_gd2 (o f c g a o2 f2 b : Bool) (hg : (!c) = g) : pkW (.w o f (.bool c)) (.w false false (.bool a)) (gdV g (.w o2 f2 (.bool b))) K mk = K (.w false false (.bool (bif c then a else b))) [] := by
  subst hg; cases c <;> rfl
omit [LaidW] in
@[simp] theorem pkW_skA (o f t : Bool) (l : List AV) (y : AV) : pkW (.w o f (.bool t)) (.tup l) y K mk = K (bif t then .tup l else y) [] := rfl
omit [LaidW] in
@[simp] theorem pkW_skB (o f t : Bool) (l : List AV) (x : AV) : pkW (.w o f (.bool t)) x (.tup l) K mk = K (bif t then x else .tup l) [] := by
  unfold pkW
  simp only
@[simp ↓] theorem Q_pick (c x y : Operand) : QStep P env h n (.pick c x y) K = pkW (ev env c) (ev env x) (ev env y) K .it := by
  simp only [QStep, aOp, pkW]
  generalize ev env c = cv
  generalize ev env x = xv
  generalize ev env y = yv
  cases cv with
  | w o f v =>
    cases v with
    | bool t =>
      simp only
      split
      · rename_i e1; split at e1 <;> (injection e1 with e1; injection e1 with e1 e; injection e with e2 e3; subst e1; subst e2; subst e3; simp)
      · rename_i e1; split at e1 <;> cases e1
    | _ => rfl
  | _ => rfl
@[simp ↓] theorem E_pick (c x y : Operand) (K : AV → Heap → Nat → Prop) : EStep P env h n (.pick c x y) K = pkW (ev env c) (ev env x) (ev env y) (eK h n K) .it := by
  rw [← Q_pick]; rfl
end
@[simp ↓] theorem E_alloc (t : TypeId) : EStep P env h n (.alloc t) K = aW (aOp P h n (ev env) (.alloc t)) (eK h n K) .it := rfl
@[simp ↓] theorem Q_alloc (t : TypeId) : QStep P env h n (.alloc t) Kq = aW (aOp P h n (ev env) (.alloc t)) Kq .it := rfl
@[simp ↓] theorem E_box (t : TypeId) (x : Operand) : EStep P env h n (.box t x) K = aW (aOp P h n (ev env) (.box t x)) (eK h n K) .it := rfl
@[simp ↓] theorem Q_box (t : TypeId) (x : Operand) : QStep P env h n (.box t x) Kq = aW (aOp P h n (ev env) (.box t x)) Kq .it := rfl
@[simp ↓] theorem E_build (t : TypeId) (ps : Array (Nat × Operand)) : EStep P env h n (.build t ps) K = aW (aOp P h n (ev env) (.build t ps)) (eK h n K) .it := rfl
@[simp ↓] theorem Q_build (t : TypeId) (ps : Array (Nat × Operand)) : QStep P env h n (.build t ps) Kq = aW (aOp P h n (ev env) (.build t ps)) Kq .it := rfl
@[simp ↓] theorem E_buildSlice (t : TypeId) (l : Nat) (ps : Array (Nat × Operand)) : EStep P env h n (.buildSlice t l ps) K = aW (aOp P h n (ev env) (.buildSlice t l ps)) (eK h n K) .it := rfl
@[simp ↓] theorem Q_buildSlice (t : TypeId) (l : Nat) (ps : Array (Nat × Operand)) : QStep P env h n (.buildSlice t l ps) Kq = aW (aOp P h n (ev env) (.buildSlice t l ps)) Kq .it := rfl
@[simp ↓] theorem E_load (t : TypeId) (x : Operand) : EStep P env h n (.load t x) K = aW (aOp P h n (ev env) (.load t x)) (eK h n K) .it := rfl
@[simp ↓] theorem Q_load (t : TypeId) (x : Operand) : QStep P env h n (.load t x) Kq = aW (aOp P h n (ev env) (.load t x)) Kq .it := rfl
@[simp ↓] theorem E_nilCheck (x : Operand) : EStep P env h n (.nilCheck x) K = aW (aOp P h n (ev env) (.nilCheck x)) (eK h n K) .it := rfl
@[simp ↓] theorem Q_nilCheck (x : Operand) : QStep P env h n (.nilCheck x) Kq = aW (aOp P h n (ev env) (.nilCheck x)) Kq .it := rfl
@[simp ↓] theorem E_binOp (op : BinOp) (t : TypeId) (x y : Operand) (yt : TypeId) : EStep P env h n (.binOp op t x y yt) K = aW (aOp P h n (ev env) (.binOp op t x y yt)) (eK h n K) .it := rfl
@[simp ↓] theorem Q_binOp (op : BinOp) (t : TypeId) (x y : Operand) (yt : TypeId) : QStep P env h n (.binOp op t x y yt) Kq = aW (aOp P h n (ev env) (.binOp op t x y yt)) Kq .it := rfl
@[simp ↓] theorem E_unOp (op : UnOp) (t : TypeId) (x : Operand) : EStep P env h n (.unOp op t x) K = aW (aOp P h n (ev env) (.unOp op t x)) (eK h n K) .it := rfl
@[simp ↓] theorem Q_unOp (op : UnOp) (t : TypeId) (x : Operand) : QStep P env h n (.unOp op t x) Kq = aW (aOp P h n (ev env) (.unOp op t x)) Kq .it := rfl
/-- a conversion -/
def cvW (P : Program) (env : Env) (h : Heap) (n : Nat) (src dst : TypeId) (x : Operand) (v : AV) (K : AV → Heap → Nat → Prop) (_ : Mark K) : Prop :=
  match v with
  | .w _ _ (.str s) => byteSl P src dst = true ∧ K (.w true false (.sl s.size (bytesP s))) h n
  | _ => QStep P env h n (.convert src dst x) fun v E => K v (addE h n E) (n + E.length)
@[congr] theorem cvW_congr {P : Program} {env : Env} {h : Heap} {n : Nat} {src dst : TypeId} {x : Operand} {v v' : AV} {K : AV → Heap → Nat → Prop} {mk : Mark K} (e : v = v') : cvW P env h n src dst x v K mk = cvW P env h n src dst x v' K mk := by rw [e]
@[simp] theorem cvW_str (src dst : TypeId) (x : Operand) (o f : Bool) (s : ByteArray) (K : AV → Heap → Nat → Prop) (mk : Mark K) : cvW P env h n src dst x (.w o f (.str s)) K mk = (byteSl P src dst = true ∧ K (.w true false (.sl s.size (bytesP s))) h n) := rfl
@[simp] theorem cvW_int (src dst : TypeId) (x : Operand) (o f : Bool) (k : IntKind) (a : Int) (K : AV → Heap → Nat → Prop) (mk : Mark K) : cvW P env h n src dst x (.w o f (.int k a)) K mk = aW (aOp P h n (ev env) (.convert src dst x)) (eK h n K) .it := rfl
omit [LaidW] in
@[simp] theorem bytesP_len (s : ByteArray) : (bytesP s).length = s.size := by simp [bytesP]
@[simp ↓] theorem E_convert (s d : TypeId) (x : Operand) : EStep P env h n (.convert s d x) K = cvW P env h n s d x (ev env x) K .it := rfl
@[simp ↓] theorem Q_convert (s d : TypeId) (x : Operand) : QStep P env h n (.convert s d x) Kq = aW (aOp P h n (ev env) (.convert s d x)) Kq .it := rfl
@[simp ↓] theorem E_makeInterface (t : TypeId) (x : Operand) : EStep P env h n (.makeInterface t x) K = aW (aOp P h n (ev env) (.makeInterface t x)) (eK h n K) .it := rfl
@[simp ↓] theorem Q_makeInterface (t : TypeId) (x : Operand) : QStep P env h n (.makeInterface t x) Kq = aW (aOp P h n (ev env) (.makeInterface t x)) Kq .it := rfl
@[simp ↓] theorem E_makeFunc (f : Fn) (a b : Array Operand) : EStep P env h n (.makeFunc f a b) K = aW (aOp P h n (ev env) (.makeFunc f a b)) (eK h n K) .it := rfl
@[simp ↓] theorem Q_makeFunc (f : Fn) (a b : Array Operand) : QStep P env h n (.makeFunc f a b) Kq = aW (aOp P h n (ev env) (.makeFunc f a b)) Kq .it := rfl
@[simp ↓] theorem E_makeSlice (t : TypeId) (x y : Operand) : EStep P env h n (.makeSlice t x y) K = aW (aOp P h n (ev env) (.makeSlice t x y)) (eK h n K) .it := rfl
@[simp ↓] theorem Q_makeSlice (t : TypeId) (x y : Operand) : QStep P env h n (.makeSlice t x y) Kq = aW (aOp P h n (ev env) (.makeSlice t x y)) Kq .it := rfl
@[simp ↓] theorem E_slice (t : TypeId) (x : Operand) (l u m : Option Operand) : EStep P env h n (.slice t x l u m) K = aW (aOp P h n (ev env) (.slice t x l u m)) (eK h n K) .it := rfl
@[simp ↓] theorem Q_slice (t : TypeId) (x : Operand) (l u m : Option Operand) : QStep P env h n (.slice t x l u m) Kq = aW (aOp P h n (ev env) (.slice t x l u m)) Kq .it := rfl
@[simp ↓] theorem E_fieldAddr (t : TypeId) (x : Operand) (f : Nat) : EStep P env h n (.fieldAddr t x f) K = aW (aOp P h n (ev env) (.fieldAddr t x f)) (eK h n K) .it := rfl
@[simp ↓] theorem Q_fieldAddr (t : TypeId) (x : Operand) (f : Nat) : QStep P env h n (.fieldAddr t x f) Kq = aW (aOp P h n (ev env) (.fieldAddr t x f)) Kq .it := rfl
@[simp ↓] theorem E_field (t : TypeId) (x : Operand) (f : Nat) : EStep P env h n (.field t x f) K = aW (aOp P h n (ev env) (.field t x f)) (eK h n K) .it := rfl
@[simp ↓] theorem Q_field (t : TypeId) (x : Operand) (f : Nat) : QStep P env h n (.field t x f) Kq = aW (aOp P h n (ev env) (.field t x f)) Kq .it := rfl
@[simp ↓] theorem E_indexAddr (t : TypeId) (x i : Operand) : EStep P env h n (.indexAddr t x i) K = aW (aOp P h n (ev env) (.indexAddr t x i)) (eK h n K) .it := rfl
@[simp ↓] theorem Q_indexAddr (t : TypeId) (x i : Operand) : QStep P env h n (.indexAddr t x i) Kq = aW (aOp P h n (ev env) (.indexAddr t x i)) Kq .it := rfl
@[simp ↓] theorem E_index (t : TypeId) (x i : Operand) : EStep P env h n (.index t x i) K = aW (aOp P h n (ev env) (.index t x i)) (eK h n K) .it := rfl
@[simp ↓] theorem Q_index (t : TypeId) (x i : Operand) : QStep P env h n (.index t x i) Kq = aW (aOp P h n (ev env) (.index t x i)) Kq .it := rfl
@[simp ↓] theorem E_extract (x : Operand) (i : Nat) : EStep P env h n (.extract x i) K = aW (aOp P h n (ev env) (.extract x i)) (eK h n K) .it := rfl
@[simp ↓] theorem Q_extract (x : Operand) (i : Nat) : QStep P env h n (.extract x i) Kq = aW (aOp P h n (ev env) (.extract x i)) Kq .it := rfl
@[simp ↓] theorem E_len (a : Array Operand) (t : Array TypeId) : EStep P env h n (.call ⟨.builtin .len, a, t⟩) K = aW (aOp P h n (ev env) (.call ⟨.builtin .len, a, t⟩)) (eK h n K) .it := rfl
@[simp ↓] theorem Q_len (a : Array Operand) (t : Array TypeId) : QStep P env h n (.call ⟨.builtin .len, a, t⟩) Kq = aW (aOp P h n (ev env) (.call ⟨.builtin .len, a, t⟩)) Kq .it := rfl
@[simp ↓] theorem E_max (a : Array Operand) (t : Array TypeId) : EStep P env h n (.call ⟨.builtin .max, a, t⟩) K = aW (aOp P h n (ev env) (.call ⟨.builtin .max, a, t⟩)) (eK h n K) .it := rfl
@[simp ↓] theorem Q_max (a : Array Operand) (t : Array TypeId) : QStep P env h n (.call ⟨.builtin .max, a, t⟩) Kq = aW (aOp P h n (ev env) (.call ⟨.builtin .max, a, t⟩)) Kq .it := rfl
@[simp ↓] theorem E_min (a : Array Operand) (t : Array TypeId) : EStep P env h n (.call ⟨.builtin .min, a, t⟩) K = aW (aOp P h n (ev env) (.call ⟨.builtin .min, a, t⟩)) (eK h n K) .it := rfl
@[simp ↓] theorem Q_min (a : Array Operand) (t : Array TypeId) : QStep P env h n (.call ⟨.builtin .min, a, t⟩) Kq = aW (aOp P h n (ev env) (.call ⟨.builtin .min, a, t⟩)) Kq .it := rfl
/-- a call of a Go function -/
def cW (P : Program) (h : Heap) (n : Nat) (f : Option (FuncId × List AV)) (args : List AV) (K : AV → List (List AV) → Prop) (_ : Mark K) : Prop :=
  match f with
  | some (g, caps) => callW P h n g (args ++ caps) K
  | none => False
@[congr] theorem cW_congr {P : Program} {h h' : Heap} {n : Nat} {f f' : Option (FuncId × List AV)} {args args' : List AV} {K : AV → List (List AV) → Prop} {mk : Mark K} (h0 : h = h') (h1 : f = f') (h2 : args = args') : cW P h n f args K mk = cW P h' n f' args' K mk := by rw [h0, h1, h2]
@[simp ↓] theorem E_call (f : Operand) (a : Array Operand) (t : Array TypeId) : EStep P env h n (.call ⟨.value f, a, t⟩) K = cW P h n (fnOf (ev env f)) (a.toList.map (ev env)) (eK h n K) .it := by
  simp only [EStep, QStep, cW]; rfl
@[simp ↓] theorem Q_call (f : Operand) (a : Array Operand) (t : Array TypeId) : QStep P env h n (.call ⟨.value f, a, t⟩) Kq = cW P h n (fnOf (ev env f)) (a.toList.map (ev env)) Kq .it := by
  simp only [QStep, cW]; rfl
/-- data handed over -/
def fW (P : Program) (n : Nat) (g : FuncId) (a : Option (List PV)) (pure : Bool) (K : AV → List (List AV) → Prop) (_ : Mark K) : Prop :=
  match a with
  | some pvs => CW P g pvs (fun res fr => (fr = true ∨ pure = true) ∧ K (.w (ownOf fr res) false res) []) (fun E v => K (v.sh n) (E.map (AV.sh.shL n))) .it
  | none => False
@[congr] theorem fW_congr {P : Program} {n : Nat} {g : FuncId} {a a' : Option (List PV)} {p p' : Bool} {K : AV → List (List AV) → Prop} {mk : Mark K} (h0 : a = a') (h1 : p = p') : fW P n g a p K mk = fW P n g a' p' K mk := by rw [h0, h1]
@[simp] theorem cW_some (g : FuncId) (caps args : List AV) (mk : Mark Kq) : cW P h n (some (g, caps)) args Kq mk = fW P n g (frzL h (args ++ caps)) (pureL (args ++ caps)) Kq .it := rfl
@[simp] theorem fW_some (g : FuncId) (pvs : List PV) (p : Bool) (mk : Mark Kq) : fW P n g (some pvs) p Kq mk = CW P g pvs (fun res fr => (fr = true ∨ p = true) ∧ Kq (.w (ownOf fr res) false res) []) (fun E v => Kq (v.sh n) (E.map (AV.sh.shL n))) .it := rfl
end

theorem cw {P : Program} {g : FuncId} {args : List PV} {K : PV → Bool → Prop} {K2 : List (List AV) → AV → Prop} {res : PV} {fr : Bool} {mk : Mark (K, K2)} (h : RealCall P g args res fr) (hk : K res fr) : CW P g args K K2 mk := .inl ⟨res, fr, h, hk⟩
omit [LaidW] in
@[simp] theorem sh_w (n : Nat) (o f : Bool) (p : PV) : AV.sh n (.w o f p) = .w o f p := rfl
omit [LaidW] in
@[simp] theorem sh_ptr (n id v off : Nat) : AV.sh n (.ptr id v off) = .ptr (id + n) v off := rfl
omit [LaidW] in
@[simp] theorem sh_msl (n id v sz off k : Nat) : AV.sh n (.msl id v sz off k) = .msl (id + n) v sz off k := rfl
omit [LaidW] in
@[simp] theorem sh_agg (n : Nat) (cs : List AV) : AV.sh n (.agg cs) = .agg (AV.sh.shL n cs) := rfl
omit [LaidW] in
@[simp] theorem sh_tup (n : Nat) (cs : List AV) : AV.sh n (.tup cs) = .tup (AV.sh.shL n cs) := rfl
omit [LaidW] in
@[simp] theorem shL_nil (n : Nat) : AV.sh.shL n [] = [] := rfl
omit [LaidW] in
@[simp] theorem shL_cons (n : Nat) (x : AV) (r : List AV) : AV.sh.shL n (x :: r) = x.sh n :: AV.sh.shL n r := rfl
omit [LaidW] in
@[simp] theorem shL_map (n : Nat) (o f : Bool) (l : List PV) : AV.sh.shL n (l.map (AV.w o f)) = l.map (AV.w o f) := by
  rw [shL_eq, List.map_map]; rfl

@[simp ↓] theorem thenK_normal (P : Program) (b : Code) (K : Exit → St → Prop) (s : St) : thenK fk P b K .normal s = AWPk fk P b s K := rfl
@[simp ↓] theorem thenK_ret (P : Program) (b : Code) (K : Exit → St → Prop) (s : St) : thenK fk P b K .ret s = K .ret s := rfl
@[simp ↓] theorem thenK_exit (P : Program) (b : Code) (K : Exit → St → Prop) (id : Nat) (s : St) : thenK fk P b K (.exit id) s = K (.exit id) s := rfl
omit [LaidW] in
@[simp ↓] theorem blockK_normal (i : Nat) (K : Exit → St → Prop) (s : St) : blockK i K .normal s = K .normal s := rfl
omit [LaidW] in
@[simp ↓] theorem blockK_ret (i : Nat) (K : Exit → St → Prop) (s : St) : blockK i K .ret s = K .ret s := rfl
omit [LaidW] in
@[simp ↓] theorem blockK_exit (i id : Nat) (K : Exit → St → Prop) (s : St) : blockK i K (.exit id) s = if id = i then K .normal s else K (.exit id) s := rfl
omit [LaidW] in
@[simp ↓] theorem retK_normal (P : Program) (rs : List ResultVar) (res : PV) (fr : Bool) (s : St) : retK P rs res fr .normal s = RetOk P rs s res fr := rfl
omit [LaidW] in
@[simp ↓] theorem retK_ret (P : Program) (rs : List ResultVar) (res : PV) (fr : Bool) (s : St) : retK P rs res fr .ret s = RetOk P rs s res fr := rfl
section
variable {α : Type} (J : α → Prop) (I : α → St) (μ : α → Nat) (x : α) (K : Exit → St → Prop)
theorem loopK_normal (y : α) (s : St) (h : J y) (hm : μ y < μ x) (hle : Lek fk s (I y)) : loopK fk J I μ x K .normal s := ⟨y, h, hm, hle⟩
@[simp ↓] theorem loopK_ret (s : St) : loopK fk J I μ x K .ret s = K .ret s := rfl
@[simp ↓] theorem loopK_exit (id : Nat) (s : St) : loopK fk J I μ x K (.exit id) s = K (.exit id) s := rfl
end
section
variable {β : Type} (id : Nat) (F : β → Prop) (fin : β → St) (R : St → Prop)
@[simp ↓] theorem forK_ret (s : St) : forK fk id F fin R .ret s = R s := rfl
@[congr] theorem forK_congr {id : Nat} {F : β → Prop} {fin : β → St} {R : St → Prop} {e e' : Exit} {s s' : St} (h : e = e') (h2 : s = s') : forK fk id F fin R e s = forK fk id F fin R e' s' := by rw [h, h2]
end
@[congr] theorem thenK_congr {P : Program} {b : Code} {K : Exit → St → Prop} {e e' : Exit} {s s' : St} (h : e = e') (h2 : s = s') : thenK fk P b K e s = thenK fk P b K e' s' := by rw [h, h2]
omit [LaidW] in
@[congr] theorem blockK_congr {i : Nat} {K : Exit → St → Prop} {e e' : Exit} {s s' : St} (h : e = e') (h2 : s = s') : blockK i K e s = blockK i K e' s' := by rw [h, h2]
@[congr] theorem loopK_congr {α : Type} {J : α → Prop} {I : α → St} {μ : α → Nat} {x : α} {K : Exit → St → Prop} {e e' : Exit} {s s' : St} (h : e = e') (h2 : s = s') : loopK fk J I μ x K e s = loopK fk J I μ x K e' s' := by rw [h, h2]

omit [LaidW] in
@[simp] theorem condW_bool (o f b : Bool) (X Y : Prop) : condW (.w o f (.bool b)) X Y = ((b = true → X) ∧ (b = false → Y)) := rfl
omit [LaidW] in
@[simp] theorem condW_any (o f : Bool) (X Y : Prop) : condW (.w o f .anyb) X Y = (X ∧ Y) := rfl
/-- a test, and what is not looked into -/
def condM (v : AV) (X Y : Prop) (_ : Mark (X, Y)) : Prop := condW v X Y
omit [LaidW] in
@[congr] theorem condM_congr {v v' : AV} {X Y : Prop} {mk : Mark (X, Y)} (h : v = v') : condM v X Y mk = condM v' X Y mk := by rw [h]
omit [LaidW] in
@[simp] theorem condM_true (o f : Bool) (X Y : Prop) (mk : Mark (X, Y)) : condM (.w o f (.bool true)) X Y mk = X := by simp [condM, condW]
omit [LaidW] in
@[simp] theorem condM_false (o f : Bool) (X Y : Prop) (mk : Mark (X, Y)) : condM (.w o f (.bool false)) X Y mk = Y := by simp [condM, condW]
omit [LaidW] in
theorem condM_split {o f b : Bool} {X Y : Prop} {mk : Mark (X, Y)} (hx : b = true → X) (hy : b = false → Y) : condM (.w o f (.bool b)) X Y mk := ⟨hx, hy⟩
omit [LaidW] in
theorem condM_splitN {o f b : Bool} {X Y : Prop} {mk : Mark (X, Y)} (hx : b = false → X) (hy : b = true → Y) : condM (.w o f (.bool (!b))) X Y mk := ⟨fun h => hx (by simpa using h), fun h => hy (by simpa using h)⟩
omit [LaidW] in
theorem condM_splitD {o f : Bool} {p : Prop} [Decidable p] {X Y : Prop} {mk : Mark (X, Y)} (hx : p → X) (hy : ¬ p → Y) : condM (.w o f (.bool (decide p))) X Y mk := ⟨fun h => hx (by simpa using h), fun h => hy (by simpa using h)⟩
omit [LaidW] in
theorem condM_splitDN {o f : Bool} {p : Prop} [Decidable p] {X Y : Prop} {mk : Mark (X, Y)} (hx : ¬ p → X) (hy : p → Y) : condM (.w o f (.bool (!decide p))) X Y mk := ⟨fun h => hx (by simpa using h), fun h => hy (by simpa using h)⟩
omit [LaidW] in
theorem condM_any {o f : Bool} {X Y : Prop} {mk : Mark (X, Y)} (hx : X) (hy : Y) : condM (.w o f .anyb) X Y mk := ⟨hx, hy⟩
theorem awp_condM {P : Program} {K : Exit → St → Prop} {st : St} {c : Operand} {x y : Code} (h : condM (ev st.env c) (AWPk fk P x st K) (AWPk fk P y st K) .it) : AWPk fk P (.cond c x y) st K := awp_cond h
omit [LaidW] in
@[congr] theorem condW_congr {v v' : AV} {X Y : Prop} (h : v = v') : condW v X Y = condW v' X Y := by rw [h]

attribute [simp] ifcA slcX aOp bin binI AV.ok AV.one AV.isAgg AV.cells setAt fillA eqS eqL avInt lov hiv frz frzL pureA pureL isW allW fnOf srcOf insW ones flatL ownOf pvs storeR appR appL envOf resA resL oneOf RetOk freshA avle envLe heapLe AV.lt AV.lt.ltL cutW
omit [LaidW] in
@[simp] theorem flat_undef : flat .undef = true := rfl
omit [LaidW] in
@[simp] theorem flat_anyb : flat .anyb = true := rfl
omit [LaidW] in
@[simp] theorem flat_bool (b : Bool) : flat (.bool b) = true := rfl
omit [LaidW] in
@[simp] theorem flat_int (k : IntKind) (n : Int) : flat (.int k n) = true := rfl
omit [LaidW] in
@[simp] theorem flat_str (s : ByteArray) : flat (.str s) = true := rfl
omit [LaidW] in
@[simp] theorem flat_nilp : flat .nilp = true := rfl
omit [LaidW] in
@[simp] theorem flat_sl (n : Nat) (c : List PV) : flat (.sl n c) = false := rfl
omit [LaidW] in
@[simp] theorem flat_ip (n : Nat) (c : List PV) : flat (.ip c n) = false := rfl
omit [LaidW] in
@[simp] theorem flat_agg (c : List PV) : flat (.agg c) = false := rfl
omit [LaidW] in
@[simp] theorem flat_fn (f : FuncId) (c : List PV) : flat (.fn f c) = false := rfl
omit [LaidW] in
@[simp] theorem repl_zero (z : List AV) : repl 0 z = [] := rfl
omit [LaidW] in
@[simp] theorem repl_one (n : Nat) (z : AV) : repl n [z] = List.replicate n z := by
  unfold repl
  induction n with
  | zero => rfl
  | succ n ih => rw [List.replicate_succ, List.flatten_cons, ih]; rfl

omit [LaidW] in
@[simp] theorem nthA_zero (x : AV) (l : List AV) : nthA (x :: l) 0 = x := rfl
omit [LaidW] in
@[simp] theorem nthA_succ (x : AV) (l : List AV) (k : Nat) : nthA (x :: l) (k + 1) = nthA l k := rfl
omit [LaidW] in
@[simp] theorem nthP_zero (x : PV) (l : List PV) : nthP (x :: l) 0 = x := rfl
omit [LaidW] in
@[simp] theorem nthP_succ (x : PV) (l : List PV) (k : Nat) : nthP (x :: l) (k + 1) = nthP l k := rfl
omit [LaidW] in
@[simp] theorem nth_zero {α : Type} [Inhabited α] (x : α) (l : List α) : nth (x :: l) 0 = x := rfl
omit [LaidW] in
@[simp] theorem nth_succ {α : Type} [Inhabited α] (x : α) (l : List α) (k : Nat) : nth (x :: l) (k + 1) = nth l k := rfl
omit [LaidW] in
theorem nthA_map (f : PV → AV) (l : List PV) (k : Nat) (h : k < l.length) : nthA (l.map f) k = f (nthP l k) := by
  simp [nthA, nthP, List.getD_eq_getElem?_getD, List.getElem?_map, List.getElem?_eq_getElem h]

omit [LaidW] in
theorem str_empty (s : ByteArray) : s = ByteArray.empty ↔ s.size = 0 := by
  constructor
  · rintro rfl; rfl
  · intro h
    obtain ⟨⟨l⟩⟩ := s
    have : l = [] := List.eq_nil_of_length_eq_zero h
    subst this; rfl
omit [LaidW] in
@[simp] theorem bytesP_get (s : ByteArray) (k : Nat) (h : k < s.size) : nthP (bytesP s) k = .int .u8 (byteAt s k) := by
  have : k < s.data.toList.length := by simpa using h
  simp [nthP, bytesP, byteAt, List.getD_eq_getElem?_getD, List.getElem?_map, List.getElem?_eq_getElem this]
omit [LaidW] in
theorem inI64 {n : Int} (h1 : -9000000000000000000 ≤ n) (h2 : n ≤ 9000000000000000000) : inI .i64 n := by
  simp only [inI, IntKind.min, IntKind.max, IntKind.signed, IntKind.bits]
  constructor <;> simp <;> omega
omit [LaidW] in
theorem inU64 {n : Int} (h1 : 0 ≤ n) (h2 : n ≤ 9000000000000000000) : inI .u64 n := by
  simp only [inI, IntKind.min, IntKind.max, IntKind.signed, IntKind.bits]
  constructor <;> simp <;> omega
omit [LaidW] in
@[simp] theorem allW_map (o f : Bool) : ∀ l : List PV, allW (l.map (.w o f)) = true
  | [] => rfl
  | p :: r => by simp [allW, isW, allW_map o f r]
end Go.Fi

namespace Go.Fi
open Go

theorem flatMap_len {α : Type} (f : α → List PV) (s : Nat) (hf : ∀ x, (f x).length = s) : ∀ l : List α, (l.flatMap f).length = l.length * s
  | [] => by simp
  | x :: l => by rw [List.flatMap_cons, List.length_append, hf, flatMap_len f s hf l, List.length_cons, Nat.add_mul]; omega
theorem flatMap_drop {α : Type} [Inhabited α] (f : α → List PV) (s : Nat) (hf : ∀ x, (f x).length = s) : ∀ (l : List α) (k : Nat), k < l.length → ((l.flatMap f).drop (k * s)).take s = f (nth l k)
  | [], k, h => by simp at h
  | x :: l, 0, h => by
    simp only [List.flatMap_cons, Nat.zero_mul, List.drop_zero, nth_zero]
    rw [List.take_append_of_le_length (by rw [hf]; exact Nat.le_refl _), List.take_of_length_le (by rw [hf]; exact Nat.le_refl _)]
  | x :: l, k + 1, h => by
    simp only [List.flatMap_cons, nth_succ]
    have e : (k + 1) * s = s + k * s := by rw [Nat.add_mul]; omega
    have e2 : (f x ++ l.flatMap f).drop s = l.flatMap f := by
      rw [List.drop_append_of_le_length (by rw [hf]; exact Nat.le_refl _), List.drop_of_length_le (by rw [hf]; exact Nat.le_refl _), List.nil_append]
    rw [e, ← List.drop_drop, e2]
    exact flatMap_drop f s hf l k (by simpa using h)
theorem nthP_append_left (a b : List PV) (j : Nat) (h : j < a.length) : nthP (a ++ b) j = nthP a j := by
  simp [nthP, List.getD_eq_getElem?_getD, List.getElem?_append_left h]
theorem nthP_append_right (a b : List PV) (j : Nat) : nthP (a ++ b) (a.length + j) = nthP b j := by
  unfold nthP
  rw [List.getD_eq_getElem?_getD, List.getElem?_append_right (by omega), List.getD_eq_getElem?_getD]
  congr 2; omega
theorem flatMap_get {α : Type} [Inhabited α] (f : α → List PV) (s : Nat) (hf : ∀ x, (f x).length = s) : ∀ (l : List α) (k j : Nat), k < l.length → j < s → nthP (l.flatMap f) (k * s + j) = nthP (f (nth l k)) j
  | [], k, j, h, _ => by simp at h
  | x :: l, 0, j, h, hj => by
    simp only [List.flatMap_cons, Nat.zero_mul, Nat.zero_add, nth_zero]
    exact nthP_append_left _ _ _ (by rw [hf]; exact hj)
  | x :: l, k + 1, j, h, hj => by
    simp only [List.flatMap_cons, nth_succ]
    have e : (k + 1) * s + j = (f x).length + (k * s + j) := by rw [hf, Nat.add_mul]; omega
    rw [e, nthP_append_right]
    exact flatMap_get f s hf l k j (by simpa using h) hj
theorem nthP_map {α : Type} [Inhabited α] (f : α → PV) (l : List α) (k : Nat) (h : k < l.length) : nthP (l.map f) k = f (nth l k) := by
  simp [nthP, nth, List.getD_eq_getElem?_getD, List.getElem?_map, List.getElem?_eq_getElem h]
end Go.Fi

namespace Go.Fi
open Go Go.RowKit
variable [LaidW]
variable {fk : Fk}

section
variable {P : Program} {K K' : Exit → St → Prop} {st st' : St}
theorem awp_blockS {id : Nat} {x y : Code} (h : AWPk fk P (.seq x y) st (blockK id K)) : AWPk fk P (.block id (.seq x y)) st K := awp_block h
theorem awp_blockC {id : Nat} {v : Operand} {x y : Code} (h : AWPk fk P (.cond v x y) st (blockK id K)) : AWPk fk P (.block id (.cond v x y)) st K := awp_block h
theorem awp_blockR {id i : Nat} {ops : Array Oper} {b : Bool} (h : AWPk fk P (.region i ops b) st (blockK id K)) : AWPk fk P (.block id (.region i ops b)) st K := awp_block h

theorem awp_monoL {c : Code} (h : AWPk fk P c st K) (hk : ∀ e s, K e s → ∃ s', Lek fk s s' ∧ K' e s') : AWPk fk P c st K' :=
  fun B w0 a w m hs => wpIn_mono (h B w0 a w m hs) (fun e a' w' ⟨st', m', h1, h2⟩ => by
    obtain ⟨s', hle, hk'⟩ := hk e st' h1
    obtain ⟨m'', hs''⟩ := hle B w0 a' w' m' h2
    exact ⟨s', m'', hk', hs''⟩)

def finW (fk : Fk) {β : Type} (F : β → Prop) (fin : β → St) (s : St) : Prop := ∃ y, F y ∧ Lek fk s (fin y)
theorem finW_intro {β : Type} {F : β → Prop} {fin : β → St} {s : St} (y : β) (h : F y) (hle : Lek fk s (fin y)) : finW fk F fin s := ⟨y, h, hle⟩
@[congr] theorem finW_congr {β : Type} {F : β → Prop} {fin : β → St} {s s' : St} (h : s = s') : finW fk F fin s = finW fk F fin s' := by rw [h]
/-- a loop in its block is left, or the function is, or an outer block is -/
def forB (fk : Fk) {β : Type} (id : Nat) (F : β → Prop) (fin : β → St) (K : Exit → St → Prop) : Exit → St → Prop
  | .exit i, s => if i = id then finW fk F fin s else K (.exit i) s
  | .normal, _ => False
  | e, s => K e s
@[simp] theorem forB_exit {β : Type} (id i : Nat) (F : β → Prop) (fin : β → St) (s : St) : forB fk id F fin K (.exit i) s = if i = id then finW fk F fin s else K (.exit i) s := rfl
@[simp] theorem forB_ret {β : Type} (id : Nat) (F : β → Prop) (fin : β → St) (s : St) : forB fk id F fin K .ret s = K .ret s := rfl
@[congr] theorem forB_congr {β : Type} {id : Nat} {F : β → Prop} {fin : β → St} {e e' : Exit} {s s' : St} (h : e = e') (h2 : s = s') : forB fk id F fin K e s = forB fk id F fin K e' s' := by rw [h, h2]

/-- what stays of an environment -/
def pickE (env : Env) : List Nat → Env
  | [] => []
  | k :: ks => (k, get env k) :: pickE env ks
omit [LaidW] in
@[simp] theorem pickE_nil (env : Env) : pickE env [] = [] := rfl
omit [LaidW] in
@[simp] theorem pickE_cons (env : Env) (k : Nat) (ks : List Nat) : pickE env (k :: ks) = (k, get env k) :: pickE env ks := rfl

/-- A LOOP. 'ks' are the slots that stay, 'mods' those that change; 'hf' is what becomes of the memory. -/
theorem awp_for2 {c : Code} {id : Nat} {env : Env} {h : Heap} {n nt : Nat} {α β : Type} (J : α → Prop) (ks : List Nat) (mods : α → Env) (hf : α → Heap) (μ : α → Nat)
    (F : β → Prop) (fks : List Nat) (fmods : β → Env) (ff : β → Heap) (x0 : α) (hJ : J x0)
    (h0 : envLe env n (mods x0 ++ pickE env ks)) (h1 : heapLe h n (hf x0))
    (round : ∀ x, J x → AWPk fk P c ⟨mods x ++ pickE env ks, hf x, n, nt⟩ (loopK fk J (fun x => ⟨mods x ++ pickE env ks, hf x, n, nt⟩) μ x (forB fk id F (fun y => ⟨fmods y ++ pickE env fks, ff y, n, nt⟩) K)))
    (after : ∀ y, F y → K .normal ⟨fmods y ++ pickE env fks, ff y, n, nt⟩) : AWPk fk P (.block id (.loop c)) ⟨env, h, n, nt⟩ K := by
  refine awp_fr (fun hk => awp_block (awp_monoL (awp_loop J (fun x => ⟨mods x ++ pickE env ks, hf x, n, nt⟩) μ x0 hJ (le_of h0 h1 hk) round) (fun e s hk => ?_)))
  cases e <;> first
    | exact hk.elim
    | exact ⟨s, Lek.refl s, hk⟩
    | (simp only [forB] at hk
       simp only [blockK]
       split at hk
       · rename_i hid
         obtain ⟨y, hy, hle⟩ := hk
         exact ⟨_, hle, by rw [if_pos hid]; exact after y hy⟩
       · rename_i hid
         exact ⟨s, Lek.refl s, by rw [if_neg hid]; exact hk⟩)

def joinK (fk : Fk) {β : Type} (F : β → Prop) (fin : β → St) (K : Exit → St → Prop) : Exit → St → Prop
  | .normal, s => finW fk F fin s
  | e, s => K e s
@[simp] theorem joinK_normal {β : Type} (F : β → Prop) (fin : β → St) (s : St) : joinK fk F fin K .normal s = finW fk F fin s := rfl
@[simp] theorem joinK_exit {β : Type} (i : Nat) (F : β → Prop) (fin : β → St) (s : St) : joinK fk F fin K (.exit i) s = K (.exit i) s := rfl
@[simp] theorem joinK_ret {β : Type} (F : β → Prop) (fin : β → St) (s : St) : joinK fk F fin K .ret s = K .ret s := rfl
@[congr] theorem joinK_congr {β : Type} {F : β → Prop} {fin : β → St} {e e' : Exit} {s s' : St} (h : e = e') (h2 : s = s') : joinK fk F fin K e s = joinK fk F fin K e' s' := by rw [h, h2]
/-- several paths come together -/
theorem awp_join {x b : Code} {env : Env} {h : Heap} {n nt : Nat} {β : Type} (F : β → Prop) (n' : Nat) (fks : List Nat) (fmods : β → Env) (ff : β → Heap)
    (hx : AWPk fk P x ⟨env, h, n, nt⟩ (joinK fk F (fun y => ⟨fmods y ++ pickE env fks, ff y, n', nt⟩) K))
    (after : ∀ y, F y → AWPk fk P b ⟨fmods y ++ pickE env fks, ff y, n', nt⟩ K) : AWPk fk P (.seq x b) ⟨env, h, n, nt⟩ K := by
  refine awp_seq (awp_monoL hx (fun e s hk => ?_))
  cases e <;> first
    | exact ⟨s, Lek.refl s, hk⟩
    | (obtain ⟨y, hy, hle⟩ := hk; exact ⟨_, hle, after y hy⟩)
end
omit [LaidW] in
@[simp] theorem frzL_map (h : Heap) (o f : Bool) : ∀ l : List PV, frzL h (l.map (.w o f)) = some l
  | [] => rfl
  | p :: r => by simp [frzL, frz, frzL_map h o f r]
omit [LaidW] in
@[simp] theorem pureL_map (o f : Bool) : ∀ l : List PV, pureL (l.map (.w o f)) = true
  | [] => rfl
  | p :: r => by simp [pureL, pureA, pureL_map o f r]
omit [LaidW] in
theorem flatMap_sub {α : Type} [Inhabited α] (f : α → List PV) (s : Nat) (hf : ∀ x, (f x).length = s) (l : List α) (k j c : Nat) (h : k < l.length) (hj : j + c ≤ s) : ((l.flatMap f).drop (k * s + j)).take c = ((f (nth l k)).drop j).take c := by
  have := flatMap_drop f s hf l k h
  rw [← this, List.drop_take, List.take_take, List.drop_drop]
  congr 1; omega
omit [LaidW] in
theorem mul_bd {a b : Int} (A B : Int) (h1 : -A ≤ a) (h2 : a ≤ A) (h3 : 0 ≤ b) (h4 : b ≤ B) : -(A * B) ≤ a * b ∧ a * b ≤ A * B := by
  have hA : 0 ≤ A := by omega
  have e1 : a * b ≤ A * b := Int.mul_le_mul_of_nonneg_right h2 h3
  have e2 : -A * b ≤ a * b := Int.mul_le_mul_of_nonneg_right h1 h3
  have e3 : A * b ≤ A * B := Int.mul_le_mul_of_nonneg_left h4 hA
  rw [Int.neg_mul] at e2
  omega
end Go.Fi

