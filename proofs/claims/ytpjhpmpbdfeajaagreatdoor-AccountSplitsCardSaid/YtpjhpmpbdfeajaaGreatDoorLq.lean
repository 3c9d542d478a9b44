/- A logic of abstract states for this claim (part Lq): lemmas alone. -/
import Derived.Test.YtpjhpmpbdfeajaaGreatDoorLo
import Derived.Test.YtpjhpmpbdfeajaaGreatDoorLm
set_option linter.unusedSimpArgs false
set_option linter.unusedVariables false

namespace Go.Fi
open Go Go.RowKit
variable [LaidW]
variable {fk : Fk}

/-! ### calls whose result is places of its own -/
/-- what comes back, as places from c0 on -/
def MkOk (P : Program) (rs : List ResultVar) (c0 : Nat) (E : List (List AV)) (v : AV) (D : List Nat) (st : St) : Prop :=
  match resL P st.env st.heap rs with
  | some (vs, c) => c ∧ cellLe D st.heap st.nxt (c0 + E.length) (oneOf vs) (v.sh c0) ∧ heapLeG D st.heap st.nxt (c0 + E.length) (addE [] c0 (E.map (AV.sh.shL c0)))
  | none => False
def mkK (P : Program) (rs : List ResultVar) (c0 : Nat) (E : List (List AV)) (v : AV) (D : List Nat) : Exit → St → Prop
  | .normal, s => MkOk P rs c0 E v D s
  | .ret, s => MkOk P rs c0 E v D s
  | _, _ => False
omit [LaidW] in
@[simp ↓] theorem mkK_normal (P : Program) (rs : List ResultVar) (c0 : Nat) (E : List (List AV)) (v : AV) (D : List Nat) (s : St) : mkK P rs c0 E v D .normal s = MkOk P rs c0 E v D s := rfl
omit [LaidW] in
@[simp ↓] theorem mkK_ret (P : Program) (rs : List ResultVar) (c0 : Nat) (E : List (List AV)) (v : AV) (D : List Nat) (s : St) : mkK P rs c0 E v D .ret s = MkOk P rs c0 E v D s := rfl

section
variable {B : Base} {L : Nat → Prop} {m mm : Mm} {w : World}
omit [LaidW] in
theorem RepA.down {c : Nat} (hd : ∀ i, m.dom (i + c) → mm.dom i) (ht : ∀ i, mm.top i = m.top (i + c)) (ha : ∀ i ver, mm.addr i ver = m.addr (i + c) ver) {y : AV} {u : Value} (h : RepA B L m w y u) : ∀ x : AV, x.sh c = y → RepA B L mm w x u := by
  induction h with
  | @w own full p v hr hf =>
    intro x e
    cases x with
    | w o f q => simp only [sh_w, AV.w.injEq] at e; obtain ⟨rfl, rfl, rfl⟩ := e; exact .w hr hf
    | _ => simp [AV.sh] at e
  | @ptr id ver off b C hd' ht' ha' hC' =>
    intro x e
    cases x with
    | ptr i v o => simp only [sh_ptr, AV.ptr.injEq] at e; obtain ⟨rfl, rfl, rfl⟩ := e; exact .ptr (hd _ hd') (by rw [ht]; exact ht') (by rw [ha]; exact ha') hC'
    | _ => simp [AV.sh] at e
  | @mp id b hd' ht' ha' =>
    intro x e
    cases x with
    | mp i => simp only [AV.sh, AV.mp.injEq] at e; subst e; exact .mp (hd _ hd') (by rw [ht]; exact ht') (by rw [ha]; exact ha')
    | _ => simp [AV.sh] at e
  | @msl id ver sz off n cap a hd' ht' hn h0 h1 =>
    intro x e
    cases x with
    | msl i v s o k => simp only [sh_msl, AV.msl.injEq] at e; obtain ⟨rfl, rfl, rfl, rfl, rfl⟩ := e; exact .msl (hd _ hd') (by rw [ht]; exact ht') hn (fun e => h0 (by rw [← ha]; exact e)) (fun b C e => h1 b C (by rw [← ha]; exact e))
    | _ => simp [AV.sh] at e
  | @agg cs vs hl _ ih =>
    intro x e
    cases x with
    | agg ds =>
      simp only [sh_agg, AV.agg.injEq, shL_eq] at e
      subst e
      exact .agg (by simpa using hl) (fun j p v hp hv => ih j (p.sh c) v (by rw [List.getElem?_map, hp]; rfl) hv p rfl)
    | _ => simp [AV.sh] at e
  | @tup cs vs hl _ ih =>
    intro x e
    cases x with
    | tup ds =>
      simp only [sh_tup, AV.tup.injEq, shL_eq] at e
      subst e
      exact .tup (by simpa using hl) (fun j p v hp hv => ih j (p.sh c) v (by rw [List.getElem?_map, hp]; rfl) hv p rfl)
    | _ => simp [AV.sh] at e
  | @fn f cs vs hl _ ih =>
    intro x e
    cases x with
    | fn g ds =>
      simp only [AV.sh, AV.fn.injEq, shL_eq] at e
      obtain ⟨rfl, rfl⟩ := e
      exact .fn (by simpa using hl) (fun j p v hp hv => ih j (p.sh c) v (by rw [List.getElem?_map, hp]; rfl) hv p rfl)
    | _ => simp [AV.sh] at e

omit [LaidW] in
theorem addE_sh (c : Nat) : ∀ (E : List (List AV)) (n : Nat), addE [] (n + c) (E.map (AV.sh.shL c)) = (addE [] n E).map fun p => (p.1 + c, AV.sh.shL c p.2)
  | [], n => rfl
  | x :: E, n => by
    simp only [List.map_cons, addE]
    rw [show n + c + 1 = (n + 1) + c by omega, addE_sh c E (n + 1)]
end

theorem mkcall_intro {P : Program} {f : FuncId} {fn : Func} {c : Code} {args : List PV} {E : List (List AV)} {v : AV} (c0 : Nat) (D : List Nat) (hf : P.funcs[f]? = some fn) (hname : (fn.name == "runtime.NumGoroutine") = false) (hb : fn.body = some c) (hnt : args.length ≤ fn.ntmps)
    (hv : v.frs = true) (hE : ∀ c ∈ E, AV.frs.frsL c = true) (h : AWPk fk0 P c ⟨envOf 0 args, [], 0, fn.ntmps⟩ (mkK P fn.results.toList c0 E v D)) : MkCall P f args E v := by
  refine ⟨⟨fn, hf, hname, by rw [hb]; rfl⟩, hv, hE, fun G w vs hok hlen hrep => ?_⟩
  refine calls_of_wp hf hb ((wpIn_wide (n := 0)).1 ?_)
  have hsim : Sim ⟨w.heap.size, G⟩ (⟨w, [], none, [], [], fun ri h => (by cases h), hok⟩ : Ctx fk0) ⟨envOf 0 args, [], 0, fn.ntmps⟩ { tmps := vs ++ Array.replicate (fn.ntmps - vs.size) undef, defers := [] } w ⟨fun _ _ => none, fun _ => 0, fun _ => False⟩ := by
    refine ⟨rfl, Below.refl _ _, rfl, by simp; omega, fun t => ?_, ⟨fun id cells hin => (by cases hin), List.Pairwise.nil⟩, fun i => ⟨fun h => h.elim, fun h => absurd h (Nat.not_lt_zero i)⟩, fun id c hin => (by cases hin), Nat.zero_le _, (fun p hp => by cases hp), fun q hq => by cases hq⟩
    show RepA _ _ _ _ (get (envOf 0 args) t) _
    rw [get_envOf]
    split
    · rename_i ht
      have hlt : t < args.length := by omega
      refine .w ?_ (fun h => by cases h)
      have : (vs ++ Array.replicate (fn.ntmps - vs.size) undef).getD t undef = vs[t]'(by omega) := by
        rw [Array.getD_eq_getD_getElem?, Array.getElem?_append_left (by omega), Array.getElem?_eq_getElem (by omega)]; rfl
      rw [this]
      refine (hrep t _ _ (by simpa using getD_some hlt) (Array.getElem?_eq_getElem (by omega))).imp fun b hg => ⟨?_, (fun h => by cases h), fun _ => hg⟩
      rintro ⟨id, cells, C, hin, _⟩
      cases hin
    · exact .w (.undef _) (fun h => by cases h)
  refine wpIn_mono (h _ _ _ _ _ hsim) (fun e a' w' ⟨st', m', hk, hs⟩ => ?_)
  have main : MkOk P fn.results.toList c0 E v D st' → a'.defers = [] ∧ ∃ r, (results fn a'.tmps).run P w' = .ok r w' ∧ ∃ u mm, Ending.returned r = .returned u ∧ Below w.heap.size w w' ∧ (∀ i, mm.dom i ↔ i < E.length) ∧ Sim0 ⟨w.heap.size, G⟩ (addE [] 0 E) mm w' ∧ RepA ⟨w.heap.size, G⟩ (LB mm (addE [] 0 E)) mm w' v u := by
    intro hr
    refine ⟨hs.defers, ?_⟩
    unfold MkOk at hr
    split at hr
    · rename_i vs' d hres
      obtain ⟨hd, hcl, hhl⟩ := hr
      obtain ⟨us, h1, h2, h3⟩ := run_results hs _ _ _ hres hd
      have hrun : (results fn a'.tmps).run P w' = .ok (if h : us.toArray.size = 1 then us.toArray[0] else .tuple us.toArray) w' := by
        have he : results fn a'.tmps = (do
            let vs ← fn.results.mapM (resRun a'.tmps)
            pure (if h : vs.size = 1 then vs[0] else .tuple vs)) := rfl
        rw [he, Array.mapM_eq_mapM_toList]
        simp only [Sem.run_bind, Sem.run_map, h1, Result.andThen_ok, Sem.run_pure]
      have hone : RepA ⟨w.heap.size, G⟩ (LB m' st'.heap) m' w' (oneOf vs') (if h : us.toArray.size = 1 then us.toArray[0] else .tuple us.toArray) := by
        have tupc : vs'.length ≠ 1 → RepA ⟨w.heap.size, G⟩ (LB m' st'.heap) m' w' (.tup vs') (if h : us.toArray.size = 1 then us.toArray[0] else .tuple us.toArray) := by
          intro hne
          rw [dif_neg (by simp; omega)]
          exact .tup (by simpa using h2) (fun j p u hp hu => h3 j p u hp (by simpa using hu))
        match vs', h2, h3, tupc with
        | [], h2, h3, tupc => exact tupc (by simp)
        | [v], h2, h3, tupc =>
          obtain ⟨u, rfl⟩ : ∃ u, us = [u] := List.length_eq_one_iff.1 (by simpa using h2.symm)
          exact h3 0 v u rfl rfl
        | v :: v2 :: r, h2, h3, tupc => exact tupc (by simp)
      obtain ⟨m2, hs2, hconv⟩ := le_genV (env' := []) (h' := addE [] c0 (E.map (AV.sh.shL c0))) (n' := c0 + E.length) D trivial hhl (Nat.zero_le _) hs
      have hu := hconv _ _ _ hcl hone
      have hdom2 : ∀ i, m2.dom i ↔ i < c0 + E.length := hs2.dom
      have hEq : addE [] c0 (E.map (AV.sh.shL c0)) = (addE [] 0 E).map fun p => (p.1 + c0, AV.sh.shL c0 p.2) := by
        have := addE_sh c0 E 0
        rwa [Nat.zero_add] at this
      refine ⟨_, hrun, _, ⟨fun id ver => m2.addr (id + c0) ver, fun id => m2.top (id + c0), fun id => id < E.length⟩, rfl, hs.below, fun i => Iff.rfl, ?_⟩
      have hmem : ∀ k cl, (k, cl) ∈ addE [] 0 E → (k + c0, AV.sh.shL c0 cl) ∈ addE [] c0 (E.map (AV.sh.shL c0)) := fun k cl hin => by
        rw [hEq]; exact List.mem_map.2 ⟨(k, cl), hin, rfl⟩
      have hlt : ∀ k cl, (k, cl) ∈ addE [] 0 E → k < E.length := fun k cl hin => by
        rcases (addE_mem0 E [] 0 k cl).1 hin with h | ⟨j, h, rfl⟩
        · cases h
        · have := (List.getElem?_eq_some_iff.1 h).1; omega
      have hLB : LB (⟨fun id ver => m2.addr (id + c0) ver, fun id => m2.top (id + c0), fun id => id < E.length⟩ : Mm) (addE [] 0 E) = LB m2 (addE [] c0 (E.map (AV.sh.shL c0))) := by
        funext b
        refine propext ⟨?_, ?_⟩
        · rintro ⟨id, cl, C, hin, hd, ha⟩
          have hl := hlt _ _ hin
          exact ⟨id + c0, AV.sh.shL c0 cl, C, hmem _ _ hin, (hdom2 _).2 (by omega), by rw [shL_eq, List.length_map]; exact ha⟩
        · rintro ⟨id, cl, C, hin, hd, ha⟩
          rw [hEq] at hin
          obtain ⟨⟨k, c1⟩, h4, h5⟩ := List.mem_map.1 hin
          injection h5 with h5 h6
          subst h5; subst h6
          rw [shL_eq, List.length_map] at ha
          exact ⟨k, c1, C, h4, hlt _ _ h4, ha⟩
      rw [hLB]
      have hdn : ∀ {x : AV} {u : Value}, RepA ⟨w.heap.size, G⟩ (LB m2 (addE [] c0 (E.map (AV.sh.shL c0)))) m2 w' (x.sh c0) u → RepA ⟨w.heap.size, G⟩ (LB m2 (addE [] c0 (E.map (AV.sh.shL c0)))) ⟨fun id ver => m2.addr (id + c0) ver, fun id => m2.top (id + c0), fun id => id < E.length⟩ w' x u :=
        fun {x u} hr => RepA.down (c := c0) (fun i hd => by have := (hdom2 _).1 hd; show i < E.length; omega) (fun i => rfl) (fun i ver => rfl) hr x rfl
      refine ⟨⟨fun id cl hin hd => ?_, ?_⟩, hdn hu⟩
      · rw [hLB]
        have hl := hlt _ _ hin
        obtain ⟨e1, e2⟩ := hs2.heap.entry (id + c0) (AV.sh.shL c0 cl) (hmem _ _ hin) ((hdom2 _).2 (by omega))
        have hlen : (AV.sh.shL c0 cl).length = cl.length := by rw [shL_eq, List.length_map]
        rw [hlen] at e1 e2
        refine ⟨e1, ?_⟩
        rcases e2 with ⟨e3, e4⟩ | ⟨b, C, cs, e, f1, f2, f3, f4, f5, f6⟩ | ⟨b, es, clk, f1, f2, f3, f4, f5⟩
        · exact .inl ⟨e3, by rw [shL_eq] at e4; simpa using e4⟩
        · exact .inr (.inl ⟨b, C, cs, e, f1, f2, f3, f4, f5, fun j p u hp hu => hdn (f6 j (p.sh c0) u (by rw [shL_eq, List.getElem?_map, hp]; rfl) hu)⟩)
        · exact .inr (.inr ⟨b, es, clk, f1, by rw [← isMc_sh]; exact f2, f3, f4, fun l hl => f5 l (sh_mdec hl)⟩)
      · have hi := hs2.heap.inj
        rw [show (St.heap ⟨[], addE [] c0 (E.map (AV.sh.shL c0)), c0 + E.length, fn.ntmps⟩) = _ from hEq, List.pairwise_map] at hi
        refine List.Pairwise.imp_of_mem ?_ hi
        intro x y hx hy ⟨hne, hxy⟩
        refine ⟨fun e => hne (by rw [e]), fun b C C' hdx hdy hax hay => ?_⟩
        have h1 := hlt x.1 x.2 hx
        have h2 := hlt y.1 y.2 hy
        have l1 : (AV.sh.shL c0 x.2).length = x.2.length := by rw [shL_eq, List.length_map]
        have l2 : (AV.sh.shL c0 y.2).length = y.2.length := by rw [shL_eq, List.length_map]
        exact hxy b C C' ((hdom2 _).2 (by omega)) ((hdom2 _).2 (by omega)) (by rw [l1]; exact hax) (by rw [l2]; exact hay)
    · exact hr.elim
  cases e <;> first | exact main hk | exact hk.elim
omit [LaidW] in
@[simp ↓] theorem eK_many (h : Heap) (n : Nat) (K : AV → Heap → Nat → Prop) (v : AV) (c : List AV) (E : List (List AV)) : eK h n K v (c :: E) = K v ((n, c) :: addE h (n + 1) E) (n + (E.length + 1)) := by unfold eK; rfl
attribute [simp] MkOk AV.frs AV.frs.frsL
end Go.Fi

