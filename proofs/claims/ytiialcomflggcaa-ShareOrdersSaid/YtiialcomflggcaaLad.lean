/- A logic of abstract states for this claim (part Lad): lemmas alone. -/
import Derived.Test.YtiialcomflggcaaLm
set_option linter.unusedSimpArgs false
set_option linter.unusedVariables false

namespace Go.Fi
open Go Go.RowKit
variable [LaidW]
variable {fk : Fk}

section
variable {P : Program} {ops : Array Oper} {nt : Nat} {qs ss : List Nat} {hid sp : List (List HS)} {e : Env} {h : Heap} {n : Nat}
/-- the same as awp_regionS, ahead of the draw -/
theorem any_regionS {K : Exit → St → Prop} (qs ss : List Nat) (hid sp : List (List HS)) (hchk : chkS ops qs ss hid sp = true)
    (hk : aPreS P ops nt e h n (opL ops qs hid) e h n fun e' h' n' => aEffS P ops nt e h n (opL ops ss sp) e' h' n' fun e'' h'' n'' => K .normal ⟨e'', h'', n'', nt⟩) : ∀ (B : Base) (w0 : Ctx fk) (a : Act) (w : World) (m : Mm), Sim B w0 ⟨e, h, n, nt⟩ a w m →
      wpAnyIn (Fe w0.r) 0 P .any ops (fun e a' w' => ∃ st' m', K e st' ∧ Sim B w0 st' a' w' m') ops.size (Array.replicate ops.size false) a { w with drawn := w.drawn + 1 } := by
  intro B w0 a w m hs
  have hc := chkS_of hchk
  obtain ⟨T, hK⟩ := aPreS_tr _ _ _ _ hk
  rw [opL_len hc.hl] at hK
  obtain ⟨E, hK⟩ := aEffS_tr _ _ _ _ hK
  rw [opL_len hc.sl] at hK
  have hs' : Sim B w0 ⟨e, h, n, nt⟩ a { w with drawn := w.drawn + 1 } m := by
    have hb : Below w.heap.size w { w with drawn := w.drawn + 1 } := (Below.refl _ _).drew
    have hB := hs.room
    exact ⟨hs.base, hs.below.trans (hb.mono hB), hs.defers, hs.size, fun t => (hs.env t).mono (Mm.le.refl m) (fun _ _ h => h) (fun b hb' _ => hb.block b hb'), hs.heap.below hb, hs.dom, hs.ids, hs.fr.mono (Mm.le.refl m) (fun _ _ h => h) (fun b hb' _ => hb.block b hb') (Nat.le_refl _)⟩
  have hquiet : ∀ i, i ≤ qs.length → Sim0 B (T.hs i) m { w with drawn := w.drawn + 1 } ∧ LB m (T.hs i) = LB m h ∧ (∀ id c, (id, c) ∈ T.hs i → id < T.ns i) := by
    intro i
    induction i with
    | zero => intro _; rw [T.hz, T.n0']; exact ⟨hs'.heap, rfl, hs'.ids⟩
    | succ i ih =>
      intro hi
      obtain ⟨h1, h2, h3⟩ := ih (by omega)
      have hst := T.step i _ _ (opL_get hc.hl (by omega) (Array.getElem?_eq_getElem (hc.qlt i (by omega))))
      have hn : n ≤ T.ns i := by have := T.ns_mono (i := 0) (j := i) (by omega) (by rw [opL_len hc.hl]; omega); rw [T.n0'] at this; exact this
      obtain ⟨h4, h5⟩ := sim0_addE (T.Es i) (T.hs i) (T.ns i) h1 (fun j hj hdj => by have := (hs'.dom j).1 hdj; simp only at this; omega) h3
      rw [hst.2.2.2.1]
      refine ⟨h4, h5.trans h2, fun id c hin => ?_⟩
      rw [hst.2.2.2.2.1]
      rcases (addE_mem _ _ _ _ _).1 hin with h6 | ⟨q, h6, rfl⟩
      · have := h3 id c h6; omega
      · have := (List.getElem?_eq_some_iff.1 h6).1; omega
  obtain ⟨h1, h2, h3⟩ := hquiet qs.length (Nat.le_refl _)
  have hf : ∀ i, (Array.replicate ops.size false).getD i false = false := by
    intro i
    rw [Array.getD_eq_getD_getElem?, Array.getElem?_replicate]
    split <;> rfl
  refine sS_sound hc hK ops.size _ 0 a _ m (by simp) (fun i o ho hl => by rw [hf] at hl; cases hl) ?_ ⟨hs'.base, hs'.below, hs'.defers, hs'.size, by rw [E.hz]; exact h1, by rw [E.hz, E.n0']; exact h3, by rw [E.n0']; exact Nat.le_refl _, fun id => ?_,
    (fun p t hp hl => by rw [hf] at hl; cases hl), (fun i t hi => by omega), fun t _ _ => ?_, fun i _ => ?_, Nat.zero_le _, by rw [E.hz, h2]; exact hs'.fr⟩
  · unfold open_
    refine Nat.le_trans List.countP_le_length ?_
    simp
  · rw [hs'.dom, E.n0']
    constructor
    · exact .inl
    · rintro (h | ⟨i, _, hl, _⟩ | h)
      · exact h
      · rw [hf] at hl; cases hl
      · omega
  · rw [E.hz, h2]
    exact hs'.env t
  · rw [hf]; constructor
    · intro h; cases h
    · intro h; omega
end

/-! ### a region to which edges are added: operations on slots alone come in an order of our choosing -/
def lateOp (o : Oper) : Bool :=
  match o.op, o.guard with
  | .extract _ _, none => true
  | .move _, none => true
  | .assign _, none => true
  | _, _ => false
def isDefer (o : Oper) : Bool :=
  match o.op with
  | .defer _ => true
  | _ => false
def addA (o : Oper) (i : Nat) : Oper := { o with after := o.after.push ⟨i, .phase⟩ }
def prE : List (Nat × Nat) → Nat → Option Nat
  | [], _ => none
  | (j, i) :: r, k => if j = k then some i else prE r k
def addE' (o : Oper) : Option Nat → Oper
  | some i => addA o i
  | none => o
def addEd (ops : Array Oper) (L : List (Nat × Nat)) : Array Oper := ops.mapIdx fun j o => addE' o (prE L j)
def onB (o : Oper) (i : Nat) : Bool := o.after.any fun e => Region.binds .any e && e.on == i
def chkE (ops : Array Oper) (L : List (Nat × Nat)) : Bool :=
  Region.noSelect ops && (ops.all fun o => !isDefer o) && (L.all fun p => decide (p.2 < p.1) && match ops[p.1]?, ops[p.2]? with
    | some oj, some oi => lateOp oi && (oi.after.all fun e => !Region.binds .any e || onB oj e.on) &&
        ((List.range ops.size).all fun k => k == p.2 || match ops[k]? with
          | some ok => onB ok p.2 || onB oi k || oi.apart ops ok
          | none => true)
    | _, _ => false)

section
variable {F : Fence} {N : Nat} {P : Program} {ops : Array Oper} {L : List (Nat × Nat)} {Q : Exit → Act → World → Prop}

omit [LaidW] in
theorem addEd_get (j : Nat) : (addEd ops L)[j]? = (ops[j]?).map fun o => addE' o (prE L j) := by
  unfold addEd; rw [Array.getElem?_mapIdx]
omit [LaidW] in
theorem addEd_size : (addEd ops L).size = ops.size := by unfold addEd; simp
omit [LaidW] in
theorem prE_mem : ∀ {L : List (Nat × Nat)} {j i : Nat}, prE L j = some i → (j, i) ∈ L
  | (x, y) :: r, j, i, h => by
    unfold prE at h
    split at h
    · rename_i e; injection h with h; subst h; subst e; simp
    · exact List.mem_cons_of_mem _ (prE_mem h)
omit [LaidW] in
theorem addE'_op (o : Oper) (x : Option Nat) : (addE' o x).op = o.op ∧ (addE' o x).guard = o.guard ∧ (addE' o x).dst = o.dst := by
  cases x <;> exact ⟨rfl, rfl, rfl⟩
omit [LaidW] in
theorem addEd_dst (j : Nat) : ((addEd ops L)[j]?).bind (·.dst) = (ops[j]?).bind (·.dst) := by
  rw [addEd_get]
  cases ops[j]? with
  | none => rfl
  | some o => exact (addE'_op o _).2.2
omit [LaidW] in
theorem addEd_yielded (T : Array Value) (j : Nat) : yielded (addEd ops L) T j = yielded ops T j := by
  unfold yielded; rw [addEd_dst]
omit [LaidW] in
theorem addEd_wanted (o : Oper) (x : Option Nat) (T : Array Value) : Region.wanted (addE' o x) (yielded (addEd ops L) T) = Region.wanted o (yielded ops T) := by
  unfold Region.wanted
  rw [(addE'_op o x).2.1]
  cases o.guard with
  | none => rfl
  | some p => obtain ⟨j, b⟩ := p; simp only [addEd_yielded]
omit [LaidW] in
theorem addEd_op (i : Nat) (K : Act → World → Prop) (a : Act) (w : World) : wpOpIn F N P (addEd ops L) Q i K a w ↔ wpOpIn F N P ops Q i K a w := by
  unfold wpOpIn
  rw [addEd_get]
  cases ops[i]? with
  | none => exact Iff.rfl
  | some o =>
    simp only [Option.map_some, addEd_wanted]
    cases prE L i <;> exact Iff.rfl
omit [LaidW] in
theorem addEd_ready {j : Nat} {listed : Array Bool} : j ∈ Region.ready .any (addEd ops L) listed ↔ j ∈ Region.ready .any ops listed ∧ ∀ i, prE L j = some i → listed.getD i false = true := by
  rw [mem_ready, mem_ready, addEd_get]
  constructor
  · rintro ⟨h1, o', ho, hall⟩
    cases hj : ops[j]? with
    | none => rw [hj] at ho; cases ho
    | some o =>
      rw [hj] at ho
      injection ho with ho
      subst ho
      refine ⟨⟨h1, o, rfl, fun e he hb => hall e ?_ hb⟩, fun i hi => ?_⟩
      · cases prE L j with
        | none => exact he
        | some i => simp [addE', addA, he]
      · rw [hi] at hall
        exact hall ⟨i, .phase⟩ (by simp [addE', addA]) rfl
  · rintro ⟨⟨h1, o, ho, hall⟩, h2⟩
    refine ⟨h1, addE' o (prE L j), by rw [ho]; rfl, fun e he hb => ?_⟩
    cases hp : prE L j with
    | none => rw [hp] at he; exact hall e he hb
    | some i =>
      rw [hp] at he
      simp only [addE', addA, Array.mem_push] at he
      rcases he with he | he
      · exact hall e he hb
      · subst he; exact h2 i hp
omit [LaidW] in
theorem late_run {o : Oper} (hl : lateOp o = true) {a : Act} {K : Act → World → Prop} {r : Option Nat} {w : World} (h : o.uponIn F N P a K Q ((o.semAt r a.eval).run P w)) :
    ∃ v, (∀ w', (o.semAt r a.eval).run P w' = .ok (.value v) w') ∧ K (a.put o.dst v) w := by
  have hd : ∀ c, o.op ≠ .defer c := fun c e => by unfold lateOp at hl; rw [e] at hl; cases hg : o.guard <;> rw [hg] at hl <;> cases hl
  rw [Oper.semAt_eq r a.eval o hd] at h ⊢
  unfold lateOp at hl
  cases ho : o.op with
  | extract x i =>
    have e : execOp a.eval o = (do pure (.value (← Instr.extract (a.eval x) i))) := by simp only [execOp, ho]
    rw [e] at h ⊢
    unfold Instr.extract at h ⊢
    split at h
    · split at h
      · rename_i u hu
        exact ⟨u, fun w' => rfl, h⟩
      · exact h.elim
    · exact h.elim
  | move x =>
    have e : execOp a.eval o = pure (.value (a.eval x)) := by simp only [execOp, ho]
    rw [e] at h ⊢
    exact ⟨_, fun w' => rfl, h⟩
  | assign x =>
    have e : execOp a.eval o = pure (.value (a.eval x)) := by simp only [execOp, ho]
    rw [e] at h ⊢
    exact ⟨_, fun w' => rfl, h⟩
  | _ => rw [ho] at hl; cases hl

def Yv (P : Program) (o : Oper) (v : Value) (r : Option Nat) (a : Act) : Prop := ∀ w, (o.semAt r a.eval).run P w = .ok (.value v) w
omit [LaidW] in
theorem late_facts {o : Oper} (hl : lateOp o = true) : (∀ c, o.op ≠ .defer c) ∧ (∀ cs b, o.op ≠ .select cs b) ∧ o.guard = none ∧ ∀ (w : World) (ρ : Operand → Value), o.about P w ρ = none := by
  unfold lateOp at hl
  cases ho : o.op with
  | extract x i => cases hg : o.guard with
    | none => exact ⟨fun c e => (by cases e), fun c b e => (by cases e), rfl, fun w ρ => by unfold Oper.about; rw [ho]⟩
    | some p => rw [ho, hg] at hl; cases hl
  | move x => cases hg : o.guard with
    | none => exact ⟨fun c e => (by cases e), fun c b e => (by cases e), rfl, fun w ρ => by unfold Oper.about; rw [ho]⟩
    | some p => rw [ho, hg] at hl; cases hl
  | assign x => cases hg : o.guard with
    | none => exact ⟨fun c e => (by cases e), fun c b e => (by cases e), rfl, fun w ρ => by unfold Oper.about; rw [ho]⟩
    | some p => rw [ho, hg] at hl; cases hl
  | _ => rw [ho] at hl; cases hl
omit [LaidW] in
theorem late_do {i : Nat} {o : Oper} (ho : ops[i]? = some o) (hl : lateOp o = true) {v : Value} {a : Act} {w : World} {K : Act → World → Prop} (hy : Yv P o v F.round a) (h : K (a.put o.dst v) w) : wpOpIn F N P ops Q i K a w := by
  obtain ⟨_, _, hg, hab⟩ := late_facts (P := P) hl
  unfold wpOpIn
  simp only [ho]
  rw [show Region.wanted o (yielded ops a.tmps) = true by unfold Region.wanted; rw [hg]]
  simp only [if_true]
  exact ⟨fun f hf => (by rw [hab] at hf; cases hf), (by rw [hy w]; exact h)⟩
omit [LaidW] in
theorem late_from {i : Nat} {o : Oper} (ho : ops[i]? = some o) (hl : lateOp o = true) {a : Act} {w : World} {K : Act → World → Prop} (h : wpOpIn F N P ops Q i K a w) : ∃ v, Yv P o v F.round a ∧ K (a.put o.dst v) w := by
  obtain ⟨_, _, hg, hab⟩ := late_facts (P := P) hl
  unfold wpOpIn at h
  simp only [ho] at h
  rw [show Region.wanted o (yielded ops a.tmps) = true by unfold Region.wanted; rw [hg]] at h
  simp only [if_true] at h
  exact late_run hl h.2
omit [LaidW] in
theorem yv_put {o : Oper} (hl : lateOp o = true) {v : Value} {r : Option Nat} {a : Act} (hy : Yv P o v r a) (dst : Option Tmp) (u : Value) (h : ∀ d, dst = some d → d ∉ o.looksAt ops) : Yv P o v r (a.put dst u) := by
  obtain ⟨hd, hs, _, _⟩ := late_facts (P := P) hl
  intro w
  rw [Oper.semAt_eq _ _ _ hd, execOp_put o hs a dst u h, ← Oper.semAt_eq r _ _ hd]
  exact hy w
omit [LaidW] in
/-- an operation on slots alone changes places with another one -/
theorem late_swap {j : Nat} {oi oj : Oper} {v : Value} (hj : ops[j]? = some oj) (hl : lateOp oi = true) (hnd : isDefer oj = false) (hap : oi.apart ops oj = true) (hsj : ∀ cs b, oj.op ≠ .select cs b)
    (hQ : ∀ c a w, ¬ Q (.panic c) a w) {K : Act → World → Prop} {a : Act} {w : World} (hy : Yv P oi v F.round a) (h : wpOpIn F N P ops Q j K (a.put oi.dst v) w) :
    wpOpIn F N P ops Q j (fun a' w' => Yv P oi v F.round a' ∧ K (a'.put oi.dst v) w') a w := by
  obtain ⟨h1, h2, h3⟩ := Oper.apart_spec hap
  have hdj : ∀ c, oj.op ≠ .defer c := fun c e => by unfold isDefer at hnd; rw [e] at hnd; cases hnd
  have kp : ∀ (b : Act), Yv P oi v F.round b → ∀ u, Yv P oi v F.round (b.put oj.dst u) := fun b hb u => yv_put hl hb _ u h3
  unfold wpOpIn at h ⊢
  simp only [hj] at h ⊢
  rw [wanted_put oj a oi.dst v h1, about_put oj w a oi.dst v h1] at h
  by_cases hw : Region.wanted oj (yielded ops a.tmps) = true
  · rw [if_pos hw] at h ⊢
    obtain ⟨ha, hu⟩ := h
    rw [about_put oj w a oi.dst v h1] at ha
    refine ⟨ha, ?_⟩
    rw [Oper.semAt_eq _ _ _ hdj, execOp_put oj hsj a oi.dst v h1] at hu
    rw [Oper.semAt_eq _ _ _ hdj]
    cases hr : (execOp a.eval oj).run P w with
    | halt x w' =>
      rw [hr] at hu
      cases x with
      | panic u => exact absurd hu (hQ _ _ _)
      | _ => exact hu.elim
    | ok x w' =>
      rw [hr] at hu
      cases x with
      | value u => exact ⟨kp a hy u, by rw [← Act.put_comm a v u h2]; exact hu⟩
      | skip => exact ⟨kp a hy undef, by rw [← Act.put_comm a v undef h2]; exact hu⟩
      | defer d =>
        have hyd : Yv P oi v F.round { a with defers := d :: a.defers } := hy
        refine ⟨kp _ hyd undef, ?_⟩
        rw [← Act.put_comm _ v undef h2, ← Act.put_defers]
        exact hu
      | enter f args =>
        refine ⟨hu.1, CallsIn.mono hu.2 fun e w'' he => ?_⟩
        cases e with
        | returned u => exact ⟨kp a hy u, by rw [← Act.put_comm a v u h2]; exact he⟩
        | panicked c => exact absurd he (hQ _ _ _)
        | outgrown => exact he
      | row row args => exact ⟨hu.1, RowsIn.mono hu.2 fun u w'' he => ⟨kp a hy u, by rw [← Act.put_comm a v u h2]; exact he⟩⟩
      | round l f tmps assign body =>
        refine ⟨hu.1, RoundIn.mono hu.2 fun e w'' he => ?_⟩
        cases e with
        | returned u => exact ⟨kp a hy u, by rw [← Act.put_comm a v u h2]; exact he⟩
        | panicked c => exact absurd he (hQ _ _ _)
        | outgrown => exact he
      | _ => exact hu.elim
  · rw [if_neg hw] at h ⊢
    exact ⟨h.1, kp a hy undef, by rw [← Act.put_comm a v undef h2]; exact h.2⟩
omit [LaidW] in
/-- .. and may so come first -/
theorem late_first {i : Nat} {oi : Oper} {v : Value} (hi : ops[i]? = some oi) (hl : lateOp oi = true) (hnd : ∀ (j : Nat) (o : Oper), ops[j]? = some o → isDefer o = false) (hsel : ∀ (j : Nat) (o : Oper) cs b, ops[j]? = some o → o.op ≠ .select cs b)
    (hQ : ∀ c a w, ¬ Q (.panic c) a w) (hfree : ∀ k ok, ops[k]? = some ok → k ≠ i → onB ok i = false → onB oi k = false → oi.apart ops ok = true) :
    ∀ (fuel : Nat) (listed : Array Bool) (a : Act) (w : World), i ∈ Region.ready .any ops listed → Yv P oi v F.round a →
      wpAnyIn F N P .any ops Q fuel (listed.setIfInBounds i true) (a.put oi.dst v) w → wpAnyIn F N P .any ops Q (fuel + 1) listed a w := by
  have onB_of : ∀ {o : Oper} {k : Nat}, onB o k = true → ∃ e ∈ o.after, Region.binds .any e = true ∧ e.on = k := fun {o k} h => by
    unfold onB at h
    obtain ⟨e, he, hb⟩ := Array.any_eq_true'.1 h
    simp only [Bool.and_eq_true, beq_iff_eq] at hb
    exact ⟨e, he, hb.1, hb.2⟩
  intro fuel
  induction fuel with
  | zero =>
    intro listed a w hr hy H
    refine ⟨fun h => (by rw [h] at hr; cases hr), fun j hj => ?_⟩
    by_cases hji : j = i
    · subst hji; exact late_do hi hl hy H
    · have := ready_mono hj hji
      rw [H.1] at this; cases this
  | succ fuel ih =>
    intro listed a w hr hy H
    refine ⟨fun h => (by rw [h] at hr; cases hr), fun j hj => ?_⟩
    by_cases hji : j = i
    · subst hji; exact late_do hi hl hy H
    · have h1 := H.2 j (ready_mono hj hji)
      obtain ⟨hjun, oj, hoj, hall⟩ := mem_ready.1 hj
      obtain ⟨hiun, oi', hoi, halli⟩ := mem_ready.1 hr
      rw [hi] at hoi; injection hoi with hoi; subst hoi
      have tf : ∀ {k : Nat}, listed.getD k true = false → listed.getD k false = true → False := fun {k} h0 h1 => by
        rcases Nat.lt_or_ge k listed.size with h' | h'
        · simp [h'] at h0 h1; rw [h0] at h1; cases h1
        · simp [Array.getElem?_eq_none h'] at h1
      have n1 : onB oj i = false := by
        cases hx : onB oj i with
        | false => rfl
        | true =>
          obtain ⟨e, he, hb, rfl⟩ := onB_of hx
          exact (tf hiun (hall e he hb)).elim
      have n2 : onB oi j = false := by
        cases hx : onB oi j with
        | false => rfl
        | true =>
          obtain ⟨e, he, hb, rfl⟩ := onB_of hx
          exact (tf hjun (halli e he hb)).elim
      refine wpOpIn_mono (fun a' w' h3 => ih (listed.setIfInBounds j true) a' w' (ready_mono hr (Ne.symm hji)) h3.1 ?_) (late_swap hoj hl (hnd j oj hoj) (hfree j oj hoj hji n1 n2) (hsel j oj · · hoj) hQ hy h1)
      rw [Array.setIfInBounds_comm _ _ hji]
      exact h3.2

structure ChkE (ops : Array Oper) (L : List (Nat × Nat)) : Prop where
  sel : ∀ (j : Nat) (o : Oper) cs b, ops[j]? = some o → o.op ≠ .select cs b
  nd : ∀ (j : Nat) (o : Oper), ops[j]? = some o → isDefer o = false
  lt : ∀ j i, (j, i) ∈ L → i < j
  ed : ∀ j i, (j, i) ∈ L → ∃ oj oi, ops[j]? = some oj ∧ ops[i]? = some oi ∧ lateOp oi = true ∧ (∀ e ∈ oi.after, Region.binds .any e = true → onB oj e.on = true) ∧
    ∀ k ok, ops[k]? = some ok → k ≠ i → onB ok i = false → onB oi k = false → oi.apart ops ok = true
omit [LaidW] in
theorem chkE_of (h : chkE ops L = true) : ChkE ops L := by
  unfold chkE at h
  simp only [Bool.and_eq_true] at h
  obtain ⟨⟨h1, h2⟩, h3⟩ := h
  have hL := List.all_eq_true.1 h3
  refine ⟨Region.noSelect_spec h1, fun j o ho => ?_, fun j i hji => ?_, fun j i hji => ?_⟩
  · have := Array.all_eq_true_iff_forall_mem.1 h2 o (Array.mem_of_getElem? ho)
    simpa using this
  · have := hL _ hji
    simp only [Bool.and_eq_true, decide_eq_true_eq] at this
    exact this.1
  · have := hL _ hji
    simp only [Bool.and_eq_true] at this
    have := this.2
    split at this
    · rename_i oj oi e1 e2
      simp only [Bool.and_eq_true] at this
      obtain ⟨⟨g1, g2⟩, g3⟩ := this
      refine ⟨oj, oi, e1, e2, g1, fun e he hb => ?_, fun k ok hk hne n1 n2 => ?_⟩
      · have := Array.all_eq_true_iff_forall_mem.1 g2 e he
        simpa [hb] using this
      · have := List.all_eq_true.1 g3 k (by simpa using (Array.getElem?_eq_some_iff.1 hk).1)
        simp only [hk, Bool.or_eq_true, beq_iff_eq, hne, false_or, n1, n2, Bool.false_eq_true] at this
        exact this
    · cases this
omit [LaidW] in
theorem edge_ready (hc : ChkE ops L) {listed : Array Bool} (hs : listed.size = ops.size) : ∀ (n j : Nat), j < n → j ∈ Region.ready .any ops listed → j ∈ Region.ready .any (addEd ops L) listed ∨ ∃ k i, (k, i) ∈ L ∧ i ∈ Region.ready .any (addEd ops L) listed
  | 0, _, h, _ => by omega
  | n + 1, j, hlt, hj => by
    by_cases h : j ∈ Region.ready .any (addEd ops L) listed
    · exact .inl h
    · cases hp : prE L j with
      | none => exact absurd (addEd_ready.2 ⟨hj, fun i hi => by rw [hp] at hi; cases hi⟩) h
      | some i =>
        have hm := prE_mem hp
        obtain ⟨oj, oi, e1, e2, hl, hsub, _⟩ := hc.ed j i hm
        have hun : listed.getD i true = false := by
          have hne : listed.getD i false ≠ true := fun e => h (addEd_ready.2 ⟨hj, fun i' hi' => by rw [hp] at hi'; injection hi' with hi'; subst hi'; exact e⟩)
          have hi : i < listed.size := by rw [hs]; exact (Array.getElem?_eq_some_iff.1 e2).1
          simp [hi] at hne ⊢
          exact hne
        obtain ⟨_, oj', ej, hall⟩ := mem_ready.1 hj
        rw [e1] at ej; injection ej with ej; subst ej
        have hi : i ∈ Region.ready .any ops listed := mem_ready.2 ⟨hun, oi, e2, fun e he hb => by
          have h1 := hsub e he hb
          unfold onB at h1
          obtain ⟨f, hf, hfb⟩ := Array.any_eq_true'.1 h1
          simp only [Bool.and_eq_true, beq_iff_eq] at hfb
          rw [← hfb.2]
          exact hall f hf hfb.1⟩
        have := hc.lt j i hm
        rcases edge_ready hc hs n i (by omega) hi with h' | h'
        · exact .inr ⟨j, i, hm, h'⟩
        · exact .inr h'
omit [LaidW] in
/-- what holds of the orders with more edges holds of all orders -/
theorem any_edges (hc : ChkE ops L) (hQ : ∀ c a w, ¬ Q (.panic c) a w) : ∀ (fuel : Nat) (listed : Array Bool) (a : Act) (w : World), listed.size = ops.size → wpAnyIn F N P .any (addEd ops L) Q fuel listed a w → wpAnyIn F N P .any ops Q fuel listed a w
  | 0, listed, a, w, hs, h => by
    refine ⟨?_, h.2⟩
    cases hr : Region.ready .any ops listed with
    | nil => rfl
    | cons j r =>
      have hj : j ∈ Region.ready .any ops listed := by rw [hr]; simp
      rcases edge_ready hc hs (j + 1) j (by omega) hj with h' | ⟨k, i, _, h'⟩
      · rw [h.1] at h'; cases h'
      · rw [h.1] at h'; cases h'
  | fuel + 1, listed, a, w, hs, h => by
    by_cases hex : ∃ k i, (k, i) ∈ L ∧ i ∈ Region.ready .any (addEd ops L) listed
    · obtain ⟨k, i, hm, hi⟩ := hex
      obtain ⟨ok, oi, _, e2, hl, _, hfree⟩ := hc.ed k i hm
      obtain ⟨v, hy, hk⟩ := late_from e2 hl ((addEd_op i _ a w).1 (h.2 i hi))
      exact late_first e2 hl hc.nd hc.sel hQ hfree fuel listed a w (addEd_ready.1 hi).1 hy (any_edges hc hQ fuel _ _ _ (by simpa using hs) hk)
    · have hall : ∀ j ∈ Region.ready .any ops listed, j ∈ Region.ready .any (addEd ops L) listed := fun j hj => by
        rcases edge_ready hc hs (j + 1) j (by omega) hj with h' | h'
        · exact h'
        · exact absurd h' hex
      refine ⟨fun hn => h.1 ?_, fun j hj => ?_⟩
      · cases hr : Region.ready .any (addEd ops L) listed with
        | nil => rfl
        | cons j r =>
          have : j ∈ Region.ready .any ops listed := (addEd_ready.1 (by rw [hr]; simp : j ∈ Region.ready .any (addEd ops L) listed)).1
          rw [hn] at this; cases this
      · exact wpOpIn_mono (fun a' w' h' => any_edges hc hQ fuel _ _ _ (by simpa using hs) h') ((addEd_op j _ a w).1 (h.2 j (hall j hj)))
end

section
variable {P : Program} {ops : Array Oper} {L : List (Nat × Nat)} {nt : Nat} {e : Env} {h : Heap} {n : Nat}
omit [LaidW] in
theorem addEd_wantedA (env : Env) (o : Oper) (x : Option Nat) : wantedA (addEd ops L) env (addE' o x) = wantedA ops env o := by
  unfold wantedA
  rw [(addE'_op o x).2.1]
  cases o.guard with
  | none => rfl
  | some p => obtain ⟨j, b⟩ := p; simp only [addEd_dst]
def eqO (o o' : Oper) : Prop := ∃ x, o' = addE' o x
theorem aPreS_nilE {e0 : Env} {h0 : Heap} {n0 : Nat} {e : Env} {h : Heap} {n : Nat} {K : Env → Heap → Nat → Prop} : aPreS P ops nt e0 h0 n0 [] e h n K = K e h n := rfl
theorem aPreS_consE {e0 : Env} {h0 : Heap} {n0 : Nat} {o : Oper} {d : List HS} {os : List (Oper × List HS)} {e : Env} {h : Heap} {n : Nat} {K : Env → Heap → Nat → Prop} : aPreS P ops nt e0 h0 n0 ((o, d) :: os) e h n K = (match wantedA ops e o with
    | some g => dOk nt o.dst ∧ (g = true → QStep P e (hide (hsIds P e0 h0 n0 d) h) n o.op fun v E => newOk (hsIds P e0 h0 n0 d) n E ∧ aPreS P ops nt e0 h0 n0 os (put e o.dst v) (addE h n E) (n + E.length) K) ∧
        (g = false → aPreS P ops nt e0 h0 n0 os (put e o.dst (.tup [])) h n K)
    | none => False) := rfl
theorem aEffS_nilE {e0 : Env} {h0 : Heap} {n0 : Nat} {e : Env} {h : Heap} {n : Nat} {K : Env → Heap → Nat → Prop} : aEffS P ops nt e0 h0 n0 [] e h n K = K e h n := rfl
theorem aEffS_consE {e0 : Env} {h0 : Heap} {n0 : Nat} {o : Oper} {d : List HS} {os : List (Oper × List HS)} {e : Env} {h : Heap} {n : Nat} {K : Env → Heap → Nat → Prop} : aEffS P ops nt e0 h0 n0 ((o, d) :: os) e h n K = (match wantedA ops e o with
    | some g => dOk nt o.dst ∧ (g = true → touch e o.op (hsIds P e0 h0 n0 d) ∧ EStep P e h n o.op fun v h' n' => aEffS P ops nt e0 h0 n0 os (put e o.dst v) h' n' K) ∧
        (g = false → aEffS P ops nt e0 h0 n0 os (put e o.dst (.tup [])) h n K)
    | none => False) := rfl
theorem aPreS_ed {e0 : Env} {h0 : Heap} {n0 : Nat} {K K' : Env → Heap → Nat → Prop} (hk : ∀ e h n, K e h n → K' e h n) : ∀ (l l' : List (Oper × List HS)), l.length = l'.length → (∀ k : Nat, ∀ p q, l[k]? = some p → l'[k]? = some q → eqO p.1 q.1 ∧ q.2 = p.2) → ∀ (e : Env) (h : Heap) (n : Nat),
    aPreS P ops nt e0 h0 n0 l e h n K → aPreS P (addEd ops L) nt e0 h0 n0 l' e h n K' := by
  intro l
  induction l with
  | nil =>
    intro l' hl hq e h n hp
    have : l' = [] := List.eq_nil_of_length_eq_zero (by simpa using hl.symm)
    subst this
    rw [aPreS_nilE] at hp ⊢
    exact hk _ _ _ hp
  | cons x l ih =>
    intro l' hl hq e h n hp
    cases l' with
    | nil => cases hl
    | cons y l' =>
      obtain ⟨o, d⟩ := x
      obtain ⟨o', d'⟩ := y
      obtain ⟨⟨z, hz⟩, hd⟩ := hq 0 _ _ rfl rfl
      simp only at hz hd
      subst hz; subst hd
      have ih' := ih l' (by simpa using hl) (fun k p q h1 h2 => hq (k + 1) p q (by simpa using h1) (by simpa using h2))
      rw [aPreS_consE] at hp ⊢
      rw [addEd_wantedA, (addE'_op o z).1, (addE'_op o z).2.2]
      cases hg : wantedA ops e o with
      | none => rw [hg] at hp; exact hp.elim
      | some g =>
        rw [hg] at hp
        exact ⟨hp.1, fun hgt => qstep_mono (hp.2.1 hgt) fun v E hh => ⟨hh.1, ih' _ _ _ hh.2⟩, fun hgf => ih' _ _ _ (hp.2.2 hgf)⟩
theorem aEffS_ed {e0 : Env} {h0 : Heap} {n0 : Nat} {K : Env → Heap → Nat → Prop} : ∀ (l l' : List (Oper × List HS)), l.length = l'.length → (∀ k : Nat, ∀ p q, l[k]? = some p → l'[k]? = some q → eqO p.1 q.1 ∧ q.2 = p.2) → ∀ (e : Env) (h : Heap) (n : Nat),
    aEffS P ops nt e0 h0 n0 l e h n K → aEffS P (addEd ops L) nt e0 h0 n0 l' e h n K := by
  intro l
  induction l with
  | nil =>
    intro l' hl hq e h n hp
    have : l' = [] := List.eq_nil_of_length_eq_zero (by simpa using hl.symm)
    subst this
    rw [aEffS_nilE] at hp ⊢
    exact hp
  | cons x l ih =>
    intro l' hl hq e h n hp
    cases l' with
    | nil => cases hl
    | cons y l' =>
      obtain ⟨o, d⟩ := x
      obtain ⟨o', d'⟩ := y
      obtain ⟨⟨z, hz⟩, hd⟩ := hq 0 _ _ rfl rfl
      simp only at hz hd
      subst hz; subst hd
      have ih' := ih l' (by simpa using hl) (fun k p q h1 h2 => hq (k + 1) p q (by simpa using h1) (by simpa using h2))
      rw [aEffS_consE] at hp ⊢
      rw [addEd_wantedA, (addE'_op o z).1, (addE'_op o z).2.2]
      cases hg : wantedA ops e o with
      | none => rw [hg] at hp; exact hp.elim
      | some g =>
        rw [hg] at hp
        exact ⟨hp.1, fun hgt => ⟨(hp.2.1 hgt).1, estep_mono (hp.2.1 hgt).2 fun v h' n' hh => ih' _ _ _ hh⟩, fun hgf => ih' _ _ _ (hp.2.2 hgf)⟩
omit [LaidW] in
theorem opAt_ed (i : Nat) : eqO (opAt ops i) (opAt (addEd ops L) i) ∨ (ops[i]? = none ∧ opAt ops i = opAt (addEd ops L) i) := by
  cases hi : ops[i]? with
  | none =>
    have h1 : ∀ (l : List Oper) (k : Nat), l.length ≤ k → opLn l k = ⟨none, .move (.func 0), 0, "", #[], none⟩ := by
      intro l
      induction l with
      | nil => intro k _; rfl
      | cons x r ih => intro k hk; cases k with
        | zero => simp at hk
        | succ k => exact ih k (by simpa using hk)
    have hs : ops.size ≤ i := Array.getElem?_eq_none_iff.1 hi
    refine .inr ⟨rfl, ?_⟩
    unfold opAt
    rw [h1 _ _ (by simpa using hs), h1 _ _ (by rw [Array.length_toList, addEd_size]; exact hs)]
  | some o =>
    have e1 : opAt ops i = o := opLn_get _ _ _ (by rw [Array.getElem?_toList]; exact hi)
    have e2 : opAt (addEd ops L) i = addE' o (prE L i) := opLn_get _ _ _ (by rw [Array.getElem?_toList, addEd_get, hi]; rfl)
    exact .inl ⟨prE L i, by rw [e1, e2]⟩
omit [LaidW] in
theorem opL_ed : ∀ (l : List Nat) (d : List (List HS)), (∀ i ∈ l, i < ops.size) → (opL ops l d).length = (opL (addEd ops L) l d).length ∧ ∀ k : Nat, ∀ p q, (opL ops l d)[k]? = some p → (opL (addEd ops L) l d)[k]? = some q → eqO p.1 q.1 ∧ q.2 = p.2
  | [], d, _ => ⟨by simp [opL], fun k p q h => by simp [opL] at h⟩
  | i :: l, [], _ => ⟨by simp [opL], fun k p q h => by simp [opL] at h⟩
  | i :: l, d :: ds, hb => by
    obtain ⟨h1, h2⟩ := opL_ed l ds (fun j hj => hb j (by simp [hj]))
    refine ⟨by simp [opL, h1], fun k p q hp hq => ?_⟩
    cases k with
    | zero =>
      simp [opL] at hp hq
      subst hp; subst hq
      rcases opAt_ed (ops := ops) (L := L) i with h | ⟨h, _⟩
      · exact ⟨h, rfl⟩
      · have := hb i (by simp)
        rw [Array.getElem?_eq_getElem this] at h; cases h
    | succ k => exact h2 k p q (by simpa [opL] using hp) (by simpa [opL] using hq)
/-- A REGION THAT DRAWS ITS ORDER, TO WHICH EDGES ARE ADDED: as awp_regionS; L: (j, i): operation i, on slots alone, comes ahead of operation j -/
theorem awp_regionSE {K : Exit → St → Prop} (L : List (Nat × Nat)) (qs ss : List Nat) (hid sp : List (List HS)) {id : Nat} (hm : P.follows .mixedOrders = true) (hE : chkE ops L = true) (hchk : chkS (addEd ops L) qs ss hid sp = true)
    (hk : aPreS P ops nt e h n (opL ops qs hid) e h n fun e' h' n' => aEffS P ops nt e h n (opL ops ss sp) e' h' n' fun e'' h'' n'' => K .normal ⟨e'', h'', n'', nt⟩) : AWPk fk P (.region id ops true) ⟨e, h, n, nt⟩ K := by
  have hc := chkS_of hchk
  have hq := opL_ed (ops := ops) (L := L) qs hid (fun i hi => by
    obtain ⟨p, hp, rfl⟩ := List.mem_iff_getElem.1 hi
    have := hc.qlt p hp
    rw [addEd_size] at this
    simpa [nth, List.getD_eq_getElem?_getD, List.getElem?_eq_getElem hp] using this)
  have hs := opL_ed (ops := ops) (L := L) ss sp (fun i hi => by
    obtain ⟨p, hp, rfl⟩ := List.mem_iff_getElem.1 hi
    have := hc.slt p hp
    rw [addEd_size] at this
    simpa [nth, List.getD_eq_getElem?_getD, List.getElem?_eq_getElem hp] using this)
  refine awp_mono (K' := K) (K := fun x s => match x with | .normal => K .normal s | _ => False) ?_ (fun x s hx => by cases x <;> first | exact hx | exact hx.elim)
  intro B w0 a w m hsim
  refine wpIn_region_any hm ?_
  have key := any_regionS (fk := fk) (P := P) (ops := addEd ops L) (K := fun x s => match x with | .normal => K .normal s | _ => False) (nt := nt) (e := e) (h := h) (n := n) qs ss hid sp hchk
    (aPreS_ed (fun e' h' n' hh => aEffS_ed _ _ hs.1 hs.2 _ _ _ hh) _ _ hq.1 hq.2 _ _ _ hk) B w0 a w m hsim
  rw [addEd_size] at key
  exact any_edges (chkE_of hE) (fun c a w hh => by obtain ⟨_, _, hf, _⟩ := hh; exact hf) _ _ _ _ (by simp) key
end
end Go.Fi

namespace Go.Fi
open Go Go.RowKit
variable [LaidW]
variable {fk : Fk}

/-! ### regions that draw their order, in which an effect's place may be given up for data -/
def dropH (i : Nat) : Heap → Heap
  | [] => []
  | (k, v) :: r => if k = i then dropH i r else (k, v) :: dropH i r
omit [LaidW] in
theorem dropH_mem {i : Nat} : ∀ {h : Heap} {p : Nat × List AV}, p ∈ dropH i h ↔ p ∈ h ∧ p.1 ≠ i
  | [], p => by simp [dropH]
  | (k, v) :: r, p => by
    unfold dropH
    by_cases e : k = i
    · rw [if_pos e, dropH_mem]
      constructor
      · rintro ⟨h1, h2⟩; exact ⟨List.mem_cons_of_mem _ h1, h2⟩
      · rintro ⟨h1, h2⟩
        rcases List.mem_cons.1 h1 with rfl | h1
        · exact absurd e h2
        · exact ⟨h1, h2⟩
    · rw [if_neg e]
      constructor
      · intro hp
        rcases List.mem_cons.1 hp with rfl | hp
        · exact ⟨List.mem_cons_self, e⟩
        · obtain ⟨h1, h2⟩ := dropH_mem.1 hp
          exact ⟨List.mem_cons_of_mem _ h1, h2⟩
      · rintro ⟨h1, h2⟩
        rcases List.mem_cons.1 h1 with rfl | h1
        · exact List.mem_cons_self
        · exact List.mem_cons_of_mem _ (dropH_mem.2 ⟨h1, h2⟩)
omit [LaidW] in
theorem dropH_sub {i : Nat} : ∀ (h : Heap), (dropH i h).Sublist h
  | [] => List.Sublist.slnil
  | (k, v) :: r => by
    unfold dropH
    split
    · exact List.Sublist.cons _ (dropH_sub r)
    · exact List.Sublist.cons_cons _ (dropH_sub r)
def isMslB : AV → Bool
  | .msl _ _ _ _ _ => true
  | _ => false
/-- what an effect gave, as it is, or as data, its place given up -/
def giveK (b : Bool) (D : List Nat) (v : AV) (h : Heap) (K : AV → Heap → Prop) : Prop :=
  match b with
  | false => K v h
  | true => (isMslB v = true ∧ idOf v ∈ D) ∧ match frz (keepH [idOf v] h) 6 v with
    | some p => K (.w false false p) (dropH (idOf v) h)
    | none => False
def isGv (gv : List Nat) (d : Option Tmp) : Bool :=
  match d with
  | some t => gv.contains t
  | none => false

omit [LaidW] in
theorem pair_of {α : Type} {R : α → α → Prop} : ∀ {l : List α}, l.Pairwise R → ∀ {x y : α}, x ∈ l → y ∈ l → x ≠ y → R x y ∨ R y x
  | [], _, x, y, hx, _, _ => by cases hx
  | z :: l, hp, x, y, hx, hy, hne => by
    obtain ⟨h1, h2⟩ := List.pairwise_cons.1 hp
    rcases List.mem_cons.1 hx with ex | hx2
    · rcases List.mem_cons.1 hy with ey | hy2
      · exact absurd (ex.trans ey.symm) hne
      · exact .inl (ex ▸ h1 y hy2)
    · rcases List.mem_cons.1 hy with ey | hy2
      · exact .inr (ey ▸ h1 x hx2)
      · exact pair_of h2 hx2 hy2 hne
section
variable {B : Base} {m m' : Mm} {w w' : World} {h h1 h' : Heap} {n n' : Nat}
omit [LaidW] in
theorem LB_drop {i b : Nat} (hl : LB m (dropH i h) b) : LB m h b := by
  obtain ⟨id, cs, C, h1, h2, h3⟩ := hl
  exact ⟨id, cs, C, (dropH_mem.1 h1).1, h2, h3⟩
omit [LaidW] in
theorem sim0_drop (hs : Sim0 B h m w) (i : Nat) : Sim0 B (dropH i h) m w := by
  refine ⟨fun id cells hin hd => ?_, hs.inj.sublist (dropH_sub h)⟩
  obtain ⟨h1, h2⟩ := hs.entry id cells (dropH_mem.1 hin).1 hd
  refine ⟨h1, ?_⟩
  rcases h2 with h2 | ⟨b, C, cs, e, g1, g2, g3, g4, g5, g6⟩ | h2
  · exact .inl h2
  · exact .inr (.inl ⟨b, C, cs, e, g1, g2, g3, g4, g5, fun j p v hp hv => (g6 j p v hp hv).mono (Mm.le.refl m) (fun b _ hn hl => hn (LB_drop hl)) (fun _ _ _ => rfl)⟩)
  · exact .inr (.inr h2)
omit [LaidW] in
theorem post_give {b : Bool} {D : List Nat} {v1 v : AV} {v' : Value} (hg : giveK b D v1 h1 fun v2 h2 => v2 = v ∧ h2 = h') (hp : EPost B h m w n h1 n' v1 v' w' m') (hid : ∀ id c, (id, c) ∈ h1 → id < n') :
    EPost B h m w n h' n' v v' w' m' ∧ ∀ id c, (id, c) ∈ h' → id < n' := by
  cases b with
  | false =>
    obtain ⟨rfl, rfl⟩ := hg
    exact ⟨hp, hid⟩
  | true =>
    obtain ⟨⟨hm, hD⟩, hg⟩ := hg
    split at hg
    · rename_i p hf
      obtain ⟨rfl, rfl⟩ := hg
      obtain ⟨p1, p2, p3, p4, p5, p6, p7⟩ := hp
      refine ⟨⟨p1, p2, p3, sim0_drop p4 _, fun b hb hn hl => p5 b hb hn (LB_drop hl), p6, .w ?_ (fun h => by cases h)⟩, fun id c hin => hid id c (dropH_mem.1 hin).1⟩
      have hdom : m'.dom (idOf v1) := by
        cases v1 with
        | msl id ver sz off k => cases p7 with | msl hd _ _ _ _ => exact hd
        | _ => cases hm
      refine frz_rep2 p4 rfl (fun id cs e => (keepH_get e).1) false (fun id cs b C e ha hb => ⟨fun hl => ?_, (fun h => by cases h), fun hlt => by omega⟩) (fun b hb => ⟨fun hl => hb.1 (LB_drop hl), hb.2⟩) (fun h => by cases h) 6 v1 p v' hf (fun h => by cases h) p7
      obtain ⟨hin, hk⟩ := keepH_get e
      have hk2 : id = idOf v1 := by simpa using hk
      obtain ⟨id2, cs2, C2, g1, g2, g3⟩ := hl
      obtain ⟨g1, g4⟩ := dropH_mem.1 g1
      rw [hk2] at ha hin
      have hne' : (idOf v1, cs) ≠ (id2, cs2) := fun e => g4 (by injection e with e _; exact e.symm)
      rcases pair_of p4.inj hin g1 hne' with hr | hr
      · exact hr.2 b C C2 hdom g2 ha g3
      · exact hr.2 b C2 C g2 hdom g3 ha
    · exact hg.elim
end

def EFG (P : Program) (env : Env) (h : Heap) (n : Nat) (op : Op) (b : Bool) (D : List Nat) (v : AV) (h' : Heap) (n' : Nat) : Prop :=
  EStep P env h n op fun v1 h1 n1 => n1 = n' ∧ giveK b D v1 h1 fun v2 h2 => v2 = v ∧ h2 = h'
section
variable {P : Program} {env : Env} {h : Heap} {n : Nat}
theorem EFG.keep {op : Op} {b : Bool} {v : AV} {h' : Heap} {n' : Nat} {D : List Nat} (he : EFG P env h n op b D v h' n') (ht : touch env op D) {i : Nat} {c : List AV} (hin : (i, c) ∈ h) (hD : ¬ i ∈ D) : (i, c) ∈ h' := by
  obtain ⟨v1, h1, n1, hef, hn, hg⟩ := EStep.ef he
  have h2 := hef.keep ht hin hD
  cases b with
  | false => obtain ⟨_, rfl⟩ := hg; exact h2
  | true =>
    obtain ⟨⟨_, hd⟩, hg⟩ := hg
    split at hg
    · obtain ⟨_, rfl⟩ := hg
      exact dropH_mem.2 ⟨h2, fun e => hD (by rw [show i = idOf v1 from e]; exact hd)⟩
    · exact hg.elim
end

section
variable {P : Program} {ops : Array Oper} {nt : Nat} {gv : List Nat} {e0 : Env} {h0 : Heap} {n0 : Nat}
/-- effects, one after the other; what each may touch; what lies in the slots gv is given up for data -/
def aEffG (P : Program) (ops : Array Oper) (nt : Nat) (gv : List Nat) (e0 : Env) (h0 : Heap) (n0 : Nat) : List (Oper × List HS) → Env → Heap → Nat → (Env → Heap → Nat → Prop) → Prop
  | [], e, h, n, K => K e h n
  | (o, d) :: os, e, h, n, K =>
    match wantedA ops e o with
    | some g => dOk nt o.dst ∧ (g = true → touch e o.op (hsIds P e0 h0 n0 d) ∧ EStep P e h n o.op fun v h' n' => giveK (isGv gv o.dst) (hsIds P e0 h0 n0 d) v h' fun v2 h2 => aEffG P ops nt gv e0 h0 n0 os (put e o.dst v2) h2 n' K) ∧
        (g = false → aEffG P ops nt gv e0 h0 n0 os (put e o.dst (.tup [])) h n K)
    | none => False
structure TrG (P : Program) (ops : Array Oper) (nt : Nat) (gv : List Nat) (e0 : Env) (h0 : Heap) (n0 : Nat) (os : List (Oper × List HS)) (e : Env) (h : Heap) (n : Nat) where
  es : Nat → Env
  hs : Nat → Heap
  ns : Nat → Nat
  vs : Nat → AV
  gs : Nat → Bool
  e0' : es 0 = e
  hz : hs 0 = h
  n0' : ns 0 = n
  step : ∀ i o d, os[i]? = some (o, d) → dOk nt o.dst ∧ wantedA ops (es i) o = some (gs i) ∧ es (i + 1) = put (es i) o.dst (vs i) ∧
    (gs i = true → touch (es i) o.op (hsIds P e0 h0 n0 d) ∧ EFG P (es i) (hs i) (ns i) o.op (isGv gv o.dst) (hsIds P e0 h0 n0 d) (vs i) (hs (i + 1)) (ns (i + 1))) ∧ (gs i = false → vs i = .tup [] ∧ hs (i + 1) = hs i ∧ ns (i + 1) = ns i)
omit [LaidW] in
theorem giveK_ef {b : Bool} {D : List Nat} {v : AV} {h : Heap} {K : AV → Heap → Prop} (hg : giveK b D v h K) : ∃ v2 h2, (giveK b D v h fun x y => x = v2 ∧ y = h2) ∧ K v2 h2 := by
  cases b with
  | false => exact ⟨v, h, ⟨rfl, rfl⟩, hg⟩
  | true =>
    obtain ⟨hd, hg⟩ := hg
    split at hg
    · rename_i p hf
      refine ⟨_, _, ⟨hd, ?_⟩, hg⟩
      rw [hf]; exact ⟨rfl, rfl⟩
    · exact hg.elim
theorem aEffG_tr {K : Env → Heap → Nat → Prop} : ∀ (os : List (Oper × List HS)) (e : Env) (h : Heap) (n : Nat), aEffG P ops nt gv e0 h0 n0 os e h n K → ∃ T : TrG P ops nt gv e0 h0 n0 os e h n, K (T.es os.length) (T.hs os.length) (T.ns os.length)
  | [], e, h, n, hk => ⟨⟨fun _ => e, fun _ => h, fun _ => n, fun _ => .tup [], fun _ => true, rfl, rfl, rfl, fun i o d hi => by simp at hi⟩, hk⟩
  | (o, d) :: os, e, h, n, hk => by
    simp only [aEffG] at hk
    split at hk
    · rename_i g hg
      obtain ⟨hd, h1, h2⟩ := hk
      have main : ∀ (v : AV) (h' : Heap) (n' : Nat), (g = true → touch e o.op (hsIds P e0 h0 n0 d) ∧ EFG P e h n o.op (isGv gv o.dst) (hsIds P e0 h0 n0 d) v h' n') → (g = false → v = .tup [] ∧ h' = h ∧ n' = n) → aEffG P ops nt gv e0 h0 n0 os (put e o.dst v) h' n' K →
          ∃ T : TrG P ops nt gv e0 h0 n0 ((o, d) :: os) e h n, K (T.es ((o, d) :: os).length) (T.hs ((o, d) :: os).length) (T.ns ((o, d) :: os).length) := by
        intro v h' n' q1 q2 hr
        obtain ⟨T, hK⟩ := aEffG_tr os _ _ _ hr
        refine ⟨⟨fun i => match i with | 0 => e | i + 1 => T.es i, fun i => match i with | 0 => h | i + 1 => T.hs i, fun i => match i with | 0 => n | i + 1 => T.ns i,
          fun i => match i with | 0 => v | i + 1 => T.vs i, fun i => match i with | 0 => g | i + 1 => T.gs i, rfl, rfl, rfl, fun i o' d' hi => ?_⟩, hK⟩
        cases i with
        | zero =>
          simp at hi; obtain ⟨rfl, rfl⟩ := hi
          refine ⟨hd, hg, T.e0', fun hg => ?_, fun hg => ?_⟩
          · obtain ⟨h3, h4⟩ := q1 hg
            refine ⟨h3, ?_⟩
            show EFG P e h n o.op _ _ v (T.hs 0) (T.ns 0)
            rw [T.hz, T.n0']; exact h4
          · obtain ⟨h3, h4, h5⟩ := q2 hg
            exact ⟨h3, T.hz.trans h4, T.n0'.trans h5⟩
        | succ i => exact T.step i o' d' (by simpa using hi)
      cases g with
      | true =>
        obtain ⟨ht, he⟩ := h1 rfl
        obtain ⟨v1, h1', n', q, hr⟩ := he.ef
        obtain ⟨v2, h2', hg2, hr2⟩ := giveK_ef hr
        refine main v2 h2' n' (fun _ => ⟨ht, ?_⟩) (fun h => by cases h) hr2
        exact estep_mono q (fun v h n ⟨e1, e2, e3⟩ => by subst e1; subst e2; subst e3; exact ⟨rfl, hg2⟩)
      | false => exact main (.tup []) h n (fun h => by cases h) (fun _ => ⟨rfl, rfl, rfl⟩) (h2 rfl)
    · exact hk.elim
end

section
variable {P : Program} {ops : Array Oper} {nt : Nat} {gv : List Nat} {qs ss : List Nat} {hid sp : List (List HS)} {e : Env} {h : Heap} {n : Nat}
/-- some of the operations have been run: quiet ones, and the first j effects -/
structure GInv (P : Program) (ops : Array Oper) (nt : Nat) (qs ss : List Nat) (hid sp : List (List HS)) (e : Env) (h : Heap) (n : Nat) {gv : List Nat} (T : TrQ P ops nt e h n (opL ops qs hid) e h n)
    (E : TrG P ops nt gv e h n (opL ops ss sp) (T.es qs.length) (T.hs qs.length) (T.ns qs.length)) (B : Base) (w0 : Ctx fk) (listed : Array Bool) (j : Nat) (a : Act) (w : World) (m : Mm) : Prop where
  base : B.n = w0.w.heap.size
  below : Below B.n w0.w w
  defers : a.defers = marks w0.ds
  size : a.tmps.size = nt
  heap : Sim0 B (E.hs j) m w
  ids : ∀ id c, (id, c) ∈ E.hs j → id < E.ns j
  mono : T.ns qs.length ≤ E.ns j
  dom : ∀ id, m.dom id ↔ id < n ∨ (∃ p, p < qs.length ∧ listed.getD (nth qs p) false = true ∧ T.ns p ≤ id ∧ id < T.ns p + (T.Es p).length) ∨ (T.ns qs.length ≤ id ∧ id < E.ns j)
  done : ∀ p t, p < qs.length → listed.getD (nth qs p) false = true → dstOf ops (nth qs p) = some t → RepA B (LB m (E.hs j)) m w (T.vs p) (a.tmps.getD t undef)
  doneE : ∀ i t, i < j → dstOf ops (nth ss i) = some t → RepA B (LB m (E.hs j)) m w (E.vs i) (a.tmps.getD t undef)
  old : ∀ t, (∀ p, p < qs.length → listed.getD (nth qs p) false = true → dstOf ops (nth qs p) ≠ some t) → (∀ i, i < j → dstOf ops (nth ss i) ≠ some t) → RepA B (LB m (E.hs j)) m w (get e t) (a.tmps.getD t undef)
  lst : ∀ i, i < ss.length → (listed.getD (nth ss i) false = true ↔ i < j)
  jl : j ≤ ss.length
  fr : FrOk B w0 (LB m (E.hs j)) m w n

variable {T : TrQ P ops nt e h n (opL ops qs hid) e h n} {E : TrG P ops nt gv e h n (opL ops ss sp) (T.es qs.length) (T.hs qs.length) (T.ns qs.length)} {B : Base} {w0 : Ctx fk} {listed : Array Bool} {j : Nat} {a : Act} {w : World} {m : Mm}

/-- a slot that quiet operation p reads -/
theorem GInv.qslot (hp : GInv P ops nt qs ss hid sp e h n T E B w0 listed j a w m) (hc : ChkS ops qs ss hid sp) (hcl : Closed ops listed) {p : Nat} {o : Oper} (hpl : p < qs.length) (ho : ops[nth qs p]? = some o) (hun : listed.getD (nth qs p) false = false)
    (he : ∀ e ∈ o.after, Region.binds .any e = true → listed.getD e.on false = true) {t : Nat} (ht : t ∈ opTmps ops o) : RepA B (LB m (E.hs j)) m w (get (T.es p) t) (a.tmps.getD t undef) := by
  rcases get_tr T.es T.vs (fun i o d hi => (T.step i o d hi).2.2.1) p (by rw [opL_len hc.hl]; omega) t with ⟨q, oq, d, h1, h2, h3, h4⟩ | ⟨h1, h2⟩
  · obtain ⟨hq, hoq, _⟩ := opL_inv hc.hl hc.qlt h2
    have hd : dstOf ops (nth qs q) = some t := by rw [dst_eq hoq]; exact h3
    rw [h4]
    rcases hc.qq p q t o hpl hq hd ho ht with ⟨_, h⟩ | h | ⟨h, _⟩
    · exact hp.done q t hq (reach_listed hcl 6 _ _ o ho he h) hd
    · omega
    · omega
  · rw [h2, T.e0']
    refine hp.old t (fun q hq hl hd => ?_) (fun i hi hd => ?_)
    · rcases hc.qq p q t o hpl hq hd ho ht with ⟨h, _⟩ | h | ⟨_, h⟩
      · have hoq := Array.getElem?_eq_getElem (hc.qlt q hq)
        exact h1 q _ _ h (opL_get hc.hl hq hoq) (by rw [← dst_eq hoq]; exact hd)
      · subst h; rw [hun] at hl; cases hl
      · have := closed_reach hcl (hc.qlt q hq) hl h
        rw [hun] at this; cases this
    · have hil : i < ss.length := Nat.lt_of_lt_of_le hi hp.jl
      have := closed_reach hcl (hc.slt i hil) ((hp.lst i hil).2 hi) (hc.sq p i t o hpl hil hd ho ht)
      rw [hun] at this; cases this
/-- a slot that the next effect reads -/
theorem GInv.eslot (hp : GInv P ops nt qs ss hid sp e h n T E B w0 listed j a w m) (hc : ChkS ops qs ss hid sp) (hcl : Closed ops listed) {o : Oper} (hjl : j < ss.length) (ho : ops[nth ss j]? = some o)
    (he : ∀ e ∈ o.after, Region.binds .any e = true → listed.getD e.on false = true) {t : Nat} (ht : t ∈ opTmps ops o) : RepA B (LB m (E.hs j)) m w (get (E.es j) t) (a.tmps.getD t undef) := by
  rcases get_tr E.es E.vs (fun i o d hi => (E.step i o d hi).2.2.1) j (by rw [opL_len hc.sl]; omega) t with ⟨q, oq, d, h1, h2, h3, h4⟩ | ⟨h1, h2⟩
  · obtain ⟨hq, hoq, _⟩ := opL_inv hc.sl hc.slt h2
    rw [h4]
    exact hp.doneE q t h1 (by rw [dst_eq hoq]; exact h3)
  · rw [h2, E.e0']
    have hno : ∀ i, i < j → dstOf ops (nth ss i) ≠ some t := fun i hi hd => by
      have hil : i < ss.length := Nat.lt_of_lt_of_le hi hp.jl
      have hoi := Array.getElem?_eq_getElem (hc.slt i hil)
      exact h1 i _ _ hi (opL_get hc.sl hil hoi) (by rw [← dst_eq hoi]; exact hd)
    rcases get_tr T.es T.vs (fun i o d hi => (T.step i o d hi).2.2.1) qs.length (by rw [opL_len hc.hl]; omega) t with ⟨q, oq, d, h1, h2, h3, h4⟩ | ⟨h1, h2⟩
    · obtain ⟨hq, hoq, _⟩ := opL_inv hc.hl hc.qlt h2
      have hd : dstOf ops (nth qs q) = some t := by rw [dst_eq hoq]; exact h3
      rw [h4]
      exact hp.done q t hq (reach_listed hcl 8 _ _ o ho he (hc.qs' q j t o hq hjl hd ho ht)) hd
    · rw [h2, T.e0']
      refine hp.old t (fun q hq hl hd => ?_) hno
      have hoq := Array.getElem?_eq_getElem (hc.qlt q hq)
      exact h1 q _ _ hq (opL_get hc.hl hq hoq) (by rw [← dst_eq hoq]; exact hd)

/-- what no effect has touched is as it was -/
theorem GInv.frame (hp : GInv P ops nt qs ss hid sp e h n T E B w0 listed j a w m) (hc : ChkS ops qs ss hid sp) {id : Nat} {c : List AV} (hin : (id, c) ∈ T.hs qs.length) : ∀ i, i ≤ j → (∀ k, k < i → ¬ id ∈ hsIds P e h n (nth sp k)) → (id, c) ∈ E.hs i
  | 0, _, _ => by rw [E.hz]; exact hin
  | i + 1, hi, hno => by
    have h1 := GInv.frame hp hc hin i (by omega) (fun k hk => hno k (by omega))
    have hil : i < ss.length := Nat.lt_of_lt_of_le (by omega) hp.jl
    have hoi := Array.getElem?_eq_getElem (hc.slt i hil)
    obtain ⟨_, _, _, h2, h3⟩ := E.step i _ _ (opL_get hc.sl hil hoi)
    cases hg : E.gs i with
    | true => exact (h2 hg).2.keep (h2 hg).1 h1 (hno i (by omega))
    | false => rw [(h3 hg).2.1]; exact h1

/-- what is hidden of quiet operation p: all that effects have touched that are done -/
theorem GInv.hid_mem (hp : GInv P ops nt qs ss hid sp e h n T E B w0 listed j a w m) (hc : ChkS ops qs ss hid sp) (hcl : Closed ops listed) {p : Nat} (hpl : p < qs.length) (hun : listed.getD (nth qs p) false = false) {id : Nat}
    (hno : ¬ id ∈ hsIds P e h n (nth hid p)) : ∀ k, k < j → ¬ id ∈ hsIds P e h n (nth sp k) := by
  intro k hk hin
  have hkl : k < ss.length := Nat.lt_of_lt_of_le hk hp.jl
  rcases hc.hidden p k hpl hkl with h | h
  · have := closed_reach hcl (hc.slt k hkl) ((hp.lst k hkl).2 hk) h
    rw [hun] at this; cases this
  · obtain ⟨s, hs, hin⟩ := List.mem_flatMap.1 hin
    exact hno (List.mem_flatMap.2 ⟨s, h s hs, hin⟩)

theorem GInv.qnext (hp : GInv P ops nt qs ss hid sp e h n T E B w0 listed j a w m) (hc : ChkS ops qs ss hid sp) {p : Nat} {o : Oper} (hpl : p < qs.length) (ho : ops[nth qs p]? = some o) (hf : listed[nth qs p]? = some false)
    {v' : Value} {w' : World} {m' : Mm} (hdk : dOk nt o.dst) (hpo : Post B (E.hs j) m w (T.ns p) (T.Es p).length (T.vs p) v' w' m') : GInv P ops nt qs ss hid sp e h n T E B w0 (listed.setIfInBounds (nth qs p) true) j (a.put o.dst v') w' m' := by
  obtain ⟨p1, p2, p3, p4, p5, p6⟩ := hpo
  have hB : B.n ≤ w.heap.size := by have := hp.below.size; have := hp.base; omega
  have hO : LaidW.ok w := LaidW.keep w0.ok (by have := hp.below; rw [hp.base] at this; exact this)
  have hmono : ∀ p v, RepA B (LB m (E.hs j)) m w p v → RepA B (LB m' (E.hs j)) m' w' p v := fun p v hr => hr.mono p1 (fun b hb hn hl => by
    rcases p5 b hl with h1 | h1
    · exact hn h1
    · omega) (fun b hb _ => p3.block b hb)
  have hsz := (Array.getElem?_eq_some_iff.1 hf).1
  have hdi : dstOf ops (nth qs p) = o.dst := dst_eq ho
  have hsd : dOk a.tmps.size o.dst := by rw [hp.size]; exact hdk
  have hlf : listed.getD (nth qs p) false = false := by rw [Array.getD_eq_getD_getElem?, hf]; rfl
  have hset : ∀ k, (listed.setIfInBounds (nth qs p) true).getD k false = if nth qs p = k then true else listed.getD k false := fun k => set_get hsz
  have hqx : ∀ q, q < qs.length → (nth qs p = nth qs q ↔ q = p) := fun q hq => ⟨fun h => (hc.qinj p q hpl hq h).symm, fun h => by rw [h]⟩
  refine ⟨hp.base, hp.below.trans (p3.mono hB), by rw [put_defers]; exact hp.defers, by rw [put_size]; exact hp.size, p4, hp.ids, hp.mono, fun id => ?_, fun q t hq hl hd => ?_, fun i t hi hd => ?_, fun t hq hi => ?_, fun i hi => ?_, hp.jl, hp.fr.mono p1 (fun b hb hn hl => by
    rcases p5 b hl with h1 | h1
    · exact hn h1
    · omega) (fun b hb _ => p3.block b hb) (Nat.le_refl _)⟩
  · rw [p2, hp.dom]
    constructor
    · rintro ((h1 | ⟨q, h2, h3, h4⟩ | h1) | h1)
      · exact .inl h1
      · exact .inr (.inl ⟨q, h2, by rw [hset]; split <;> simp_all, h4⟩)
      · exact .inr (.inr h1)
      · exact .inr (.inl ⟨p, hpl, by rw [hset, if_pos rfl], h1⟩)
    · rintro (h1 | ⟨q, h2, h3, h4⟩ | h1)
      · exact .inl (.inl h1)
      · by_cases hqp : q = p
        · subst hqp; exact .inr h4
        · rw [hset, if_neg (fun h => hqp ((hqx q h2).1 h))] at h3
          exact .inl (.inr (.inl ⟨q, h2, h3, h4⟩))
      · exact .inl (.inr (.inr h1))
  · rw [get_put_val hsd]
    by_cases hqp : q = p
    · subst hqp
      rw [hdi] at hd
      rw [if_pos hd]
      exact p6
    · have hne : nth qs p ≠ nth qs q := fun h => hqp ((hqx q hq).1 h)
      rw [hset, if_neg hne] at hl
      have : o.dst ≠ some t := fun hot => hc.once _ _ t (hc.qlt p hpl) (hc.qlt q hq) hne (by rw [hdi]; exact hot) hd
      rw [if_neg this]
      exact hmono _ _ (hp.done q t hq hl hd)
  · rw [get_put_val hsd]
    have hil : i < ss.length := Nat.lt_of_lt_of_le hi hp.jl
    have : o.dst ≠ some t := fun hot => hc.once _ _ t (hc.qlt p hpl) (hc.slt i hil) (hc.qne p i hpl hil) (by rw [hdi]; exact hot) hd
    rw [if_neg this]
    exact hmono _ _ (hp.doneE i t hi hd)
  · rw [get_put_val hsd]
    have h1 := hq p hpl (by rw [hset, if_pos rfl])
    rw [hdi] at h1
    rw [if_neg h1]
    refine hmono _ _ (hp.old t (fun q hql hl => hq q hql ?_) hi)
    rw [hset]; split <;> simp_all
  · rw [hset, if_neg (hc.qne p i hpl hi)]
    exact hp.lst i hi

theorem GInv.enext (hp : GInv P ops nt qs ss hid sp e h n T E B w0 listed j a w m) (hc : ChkS ops qs ss hid sp) {o : Oper} (hjl : j < ss.length) (ho : ops[nth ss j]? = some o) (hf : listed[nth ss j]? = some false)
    {v' : Value} {w' : World} {m' : Mm} (hdk : dOk nt o.dst) (hids : ∀ id c, (id, c) ∈ E.hs (j + 1) → id < E.ns (j + 1)) (hmon : E.ns j ≤ E.ns (j + 1)) (hpo : EPost B (E.hs j) m w (E.ns j) (E.hs (j + 1)) (E.ns (j + 1)) (E.vs j) v' w' m') :
    GInv P ops nt qs ss hid sp e h n T E B w0 (listed.setIfInBounds (nth ss j) true) (j + 1) (a.put o.dst v') w' m' := by
  obtain ⟨p1, p2, p3, p4, p5, p6, p7⟩ := hpo
  have hmono : ∀ p v, RepA B (LB m (E.hs j)) m w p v → RepA B (LB m' (E.hs (j + 1))) m' w' p v := fun p v hr => hr.mono p1 p5 p6
  have hsz := (Array.getElem?_eq_some_iff.1 hf).1
  have hdi : dstOf ops (nth ss j) = o.dst := dst_eq ho
  have hsd : dOk a.tmps.size o.dst := by rw [hp.size]; exact hdk
  have hset : ∀ k, (listed.setIfInBounds (nth ss j) true).getD k false = if nth ss j = k then true else listed.getD k false := fun k => set_get hsz
  have hqn : ∀ q, q < qs.length → nth ss j ≠ nth qs q := fun q hq h => hc.qne q j hq hjl h.symm
  refine ⟨hp.base, hp.below.trans p3, by rw [put_defers]; exact hp.defers, by rw [put_size]; exact hp.size, p4, hids, Nat.le_trans hp.mono hmon, fun id => ?_, fun q t hq hl hd => ?_, fun i t hi hd => ?_, fun t hq hi => ?_, fun i hi => ?_, by omega, hp.fr.mono p1 p5 p6 (Nat.le_refl _)⟩
  · rw [p2, hp.dom]
    have hmn := hp.mono
    constructor
    · rintro ((h1 | ⟨q, h2, h3, h4⟩ | h1) | h1)
      · exact .inl h1
      · exact .inr (.inl ⟨q, h2, by rw [hset, if_neg (hqn q h2)]; exact h3, h4⟩)
      · exact .inr (.inr ⟨h1.1, by omega⟩)
      · exact .inr (.inr ⟨by omega, h1.2⟩)
    · rintro (h1 | ⟨q, h2, h3, h4⟩ | h1)
      · exact .inl (.inl h1)
      · rw [hset, if_neg (hqn q h2)] at h3
        exact .inl (.inr (.inl ⟨q, h2, h3, h4⟩))
      · by_cases h2 : id < E.ns j
        · exact .inl (.inr (.inr ⟨h1.1, h2⟩))
        · exact .inr ⟨by omega, h1.2⟩
  · rw [get_put_val hsd]
    rw [hset, if_neg (hqn q hq)] at hl
    have : o.dst ≠ some t := fun hot => hc.once _ _ t (hc.slt j hjl) (hc.qlt q hq) (hqn q hq) (by rw [hdi]; exact hot) hd
    rw [if_neg this]
    exact hmono _ _ (hp.done q t hq hl hd)
  · rw [get_put_val hsd]
    by_cases hij : i = j
    · subst hij
      rw [hdi] at hd
      rw [if_pos hd]; exact p7
    · have hil : i < ss.length := by omega
      have hne : nth ss j ≠ nth ss i := fun h => hij (hc.sinj j i hjl hil h).symm
      have : o.dst ≠ some t := fun hot => hc.once _ _ t (hc.slt j hjl) (hc.slt i hil) hne (by rw [hdi]; exact hot) hd
      rw [if_neg this]
      exact hmono _ _ (hp.doneE i t (by omega) hd)
  · rw [get_put_val hsd]
    have h1 := hi j (by omega)
    rw [hdi] at h1
    rw [if_neg h1]
    exact hmono _ _ (hp.old t (fun q hql hl => hq q hql (by rw [hset, if_neg (hqn q hql)]; exact hl)) (fun i hi' => hi i (by omega)))
  · rw [hset]
    split
    · rename_i heq
      have := hc.sinj j i hjl hi heq
      simp; omega
    · rename_i hne
      rw [hp.lst i hi]
      have : i ≠ j := by rintro rfl; exact hne rfl
      omega

theorem sG_sound (hc : ChkS ops qs ss hid sp) {K : Exit → St → Prop} (hK : K .normal ⟨E.es ss.length, E.hs ss.length, E.ns ss.length, nt⟩) :
    ∀ (f : Nat) (listed : Array Bool) (j : Nat) (a : Act) (w : World) (m : Mm), listed.size = ops.size → Closed ops listed → open_ listed ≤ f → GInv P ops nt qs ss hid sp e h n T E B w0 listed j a w m →
      wpAnyIn (Fe w0.r) 0 P .any ops (fun e a w => ∃ st' m', K e st' ∧ Sim B w0 st' a w m') f listed a w := by
  -- at the end
  have last : ∀ (listed : Array Bool) (j : Nat) (a : Act) (w : World) (m : Mm), (∀ i, i < ops.size → listed.getD i false = true) → GInv P ops nt qs ss hid sp e h n T E B w0 listed j a w m → ∃ st' m', K .normal st' ∧ Sim B w0 st' a w m' := by
    intro listed j a w m hall hp
    have hj : j = ss.length := by
      have := hp.jl
      rcases Nat.lt_or_ge j ss.length with h1 | h1
      · have := (hp.lst j h1).1 (hall _ (hc.slt j h1)); omega
      · omega
    subst hj
    refine ⟨_, m, hK, hp.base, hp.below, hp.defers, hp.size, fun t => ?_, hp.heap, fun id => ?_, hp.ids, hp.fr.mono (Mm.le.refl m) (fun _ _ h => h) (fun _ _ _ => rfl) (by have h1 := T.ns_mono (i := 0) (j := qs.length) (by omega) (by rw [opL_len hc.hl]; omega); rw [T.n0'] at h1; exact Nat.le_trans h1 hp.mono)⟩
    · show RepA _ _ _ _ (get (E.es ss.length) t) _
      rcases get_tr E.es E.vs (fun i o d hi => (E.step i o d hi).2.2.1) ss.length (by rw [opL_len hc.sl]; omega) t with ⟨q, oq, d, h1, h2, h3, h4⟩ | ⟨h1, h2⟩
      · obtain ⟨hq, hoq, _⟩ := opL_inv hc.sl hc.slt h2
        rw [h4]
        exact hp.doneE q t h1 (by rw [dst_eq hoq]; exact h3)
      · rw [h2, E.e0']
        have hno : ∀ i, i < ss.length → dstOf ops (nth ss i) ≠ some t := fun i hi hd => by
          have hoi := Array.getElem?_eq_getElem (hc.slt i hi)
          exact h1 i _ _ hi (opL_get hc.sl hi hoi) (by rw [← dst_eq hoi]; exact hd)
        rcases get_tr T.es T.vs (fun i o d hi => (T.step i o d hi).2.2.1) qs.length (by rw [opL_len hc.hl]; omega) t with ⟨q, oq, d, h1, h2, h3, h4⟩ | ⟨h1, h2⟩
        · obtain ⟨hq, hoq, _⟩ := opL_inv hc.hl hc.qlt h2
          rw [h4]
          exact hp.done q t hq (hall _ (hc.qlt q hq)) (by rw [dst_eq hoq]; exact h3)
        · rw [h2, T.e0']
          refine hp.old t (fun q hq hl hd => ?_) hno
          have hoq := Array.getElem?_eq_getElem (hc.qlt q hq)
          exact h1 q _ _ hq (opL_get hc.hl hq hoq) (by rw [← dst_eq hoq]; exact hd)
    · rw [hp.dom]
      show _ ↔ id < E.ns ss.length
      have hsteps : ∀ i, i ≤ qs.length → (id < T.ns i ↔ id < n ∨ ∃ j, j < i ∧ T.ns j ≤ id ∧ id < T.ns j + (T.Es j).length) := by
        intro i
        induction i with
        | zero => intro _; rw [T.n0']; constructor
                  · exact .inl
                  · rintro (h | ⟨j, h, _⟩)
                    · exact h
                    · omega
        | succ i ih =>
          intro hi
          have hoi := Array.getElem?_eq_getElem (hc.qlt i (by omega))
          have hst := (T.step i _ _ (opL_get hc.hl (by omega) hoi)).2.2.2.2.1
          rw [hst]
          constructor
          · intro h1
            rcases Nat.lt_or_ge id (T.ns i) with h2 | h2
            · rcases (ih (by omega)).1 h2 with h3 | ⟨j, h3, h4⟩
              · exact .inl h3
              · exact .inr ⟨j, by omega, h4⟩
            · exact .inr ⟨i, by omega, h2, h1⟩
          · rintro (h1 | ⟨j, h1, h2, h3⟩)
            · have := (ih (by omega)).2 (.inl h1); omega
            · by_cases hji : j = i
              · subst hji; exact h3
              · have := (ih (by omega)).2 (.inr ⟨j, by omega, h2, h3⟩); omega
      have h1 := hsteps qs.length (Nat.le_refl _)
      have h2 := hp.mono
      constructor
      · rintro (h3 | ⟨p, h3, _, h4⟩ | h3)
        · have := h1.2 (.inl h3); omega
        · have := h1.2 (.inr ⟨p, h3, h4⟩); omega
        · exact h3.2
      · intro h3
        rcases Nat.lt_or_ge id (T.ns qs.length) with h4 | h4
        · rcases h1.1 h4 with h5 | ⟨p, h5, h6⟩
          · exact .inl h5
          · exact .inr (.inl ⟨p, h5, hall _ (hc.qlt p h5), h6⟩)
        · exact .inr (.inr ⟨h4, h3⟩)
  have noready : ∀ (listed : Array Bool), listed.size = ops.size → (∀ i, i < ops.size → listed.getD i false = true) → Region.ready .any ops listed = [] := by
    intro listed hsz hall
    cases hr : Region.ready .any ops listed with
    | nil => rfl
    | cons x xs =>
      obtain ⟨o, ho, hf, _⟩ := ready_false hsz (i := x) (by rw [hr]; simp)
      have := hall x (Array.getElem?_eq_some_iff.1 ho).1
      rw [Array.getD_eq_getD_getElem?, hf] at this; cases this
  intro f
  induction f with
  | zero =>
    intro listed j a w m hsz hcl hop hp
    have hall : ∀ i, i < ops.size → listed.getD i false = true := fun i hi => open_zero (Nat.le_zero.1 hop) (by omega)
    exact ⟨noready listed hsz hall, last listed j a w m hall hp⟩
  | succ f ih =>
    intro listed j a w m hsz hcl hop hp
    refine ⟨fun hnil => ?_, fun x hx => ?_⟩
    · refine last listed j a w m (fun i hi => ?_) hp
      cases hq : listed.getD i false with
      | true => rfl
      | false => exact absurd hnil (some_ready hsz hc.down i hi hq)
    · obtain ⟨o, ho, hf, he⟩ := ready_false hsz hx
      have hxs := (Array.getElem?_eq_some_iff.1 ho).1
      have hlf : listed.getD x false = false := by rw [Array.getD_eq_getD_getElem?, hf]; rfl
      have hB : B.n ≤ w.heap.size := by have := hp.below.size; have := hp.base; omega
      have hO : LaidW.ok w := LaidW.keep w0.ok (by have := hp.below; rw [hp.base] at this; exact this)
      have hop' : open_ (listed.setIfInBounds x true) ≤ f := by have := open_set hf; omega
      rcases hc.all x hxs with ⟨p, hpl, rfl⟩ | ⟨i, hil, rfl⟩
      · obtain ⟨hdk, hw, _, _, _, hq1, hq2⟩ := T.step p o _ (opL_get hc.hl hpl ho)
        have hnext : ∀ v' w' m', Post B (E.hs j) m w (T.ns p) (T.Es p).length (T.vs p) v' w' m' → wpAnyIn (Fe w0.r) 0 P .any ops (fun e a w => ∃ st' m', K e st' ∧ Sim B w0 st' a w m') f (listed.setIfInBounds (nth qs p) true) (a.put o.dst v') w' := by
          intro v' w' m' hpost
          exact ih _ j _ w' m' (by simpa using hsz) (hcl.set ho he) hop' (hp.qnext hc hpl ho hf hdk hpost)
        have hlen := opL_len (ops := ops) hc.hl
        unfold wpOpIn
        rw [ho]
        simp only [wanted_slot hw (fun t ht => hp.qslot hc hcl hpl ho hlf he ht)]
        cases hg : T.gs p with
        | true =>
          simp only [if_true]
          obtain ⟨hq3, hq4⟩ := hq1 hg
          refine wpIn_of_wp (qf_nd hq3) (hq3.sound o hO hp.heap hB (fun id cs hl => ?_) (fun q cs hl => ?_) (fun q hq hd => ?_) (fun y hy => ?_) _ _ (fun v' w' m' hpost => hnext v' w' m' hpost))
          · obtain ⟨h1, h2⟩ := hide_get hl
            exact hp.frame hc (T.hs_sub (i := p) (by omega) (by omega) h1) j (Nat.le_refl _) (hp.hid_mem hc hcl hpl hlf h2)
          · have hql := (List.getElem?_eq_some_iff.1 hl).1
            refine hp.frame hc (T.hs_sub (i := p + 1) (by omega) (by omega) ?_) j (Nat.le_refl _) (hp.hid_mem hc hcl hpl hlf (newOk_get hq4 hql))
            rw [(T.step p o _ (opL_get hc.hl hpl ho)).2.2.2.1]
            exact (addE_mem _ _ _ _ _).2 (.inr ⟨q, hl, rfl⟩)
          · have hnx : n ≤ T.ns p := by have := T.ns_mono (i := 0) (j := p) (by omega) (by omega); rw [T.n0'] at this; exact this
            have hsx := (T.step p o _ (opL_get hc.hl hpl ho)).2.2.2.2.1
            have hmx := T.ns_mono (i := p + 1) (j := qs.length) (by omega) (by omega)
            rcases (hp.dom _).1 hd with h1 | ⟨k, hk, hl, h2, h3⟩ | h1
            · omega
            · have hkx : k ≠ p := by
                rintro rfl
                rw [hlf] at hl; cases hl
              have hsk := (T.step k _ _ (opL_get hc.hl hk (Array.getElem?_eq_getElem (hc.qlt k hk)))).2.2.2.2.1
              rcases Nat.lt_or_ge k p with h4 | h4
              · have := T.ns_mono (i := k + 1) (j := p) (by omega) (by omega)
                omega
              · have := T.ns_mono (i := p + 1) (j := k) (by omega) (by omega)
                omega
            · omega
          · refine ev_rep y (fun t e => ?_)
            subst e
            exact hp.qslot hc hcl hpl ho hlf he (mem_opTmps hy)
        | false =>
          simp only [Bool.false_eq_true, if_false]
          obtain ⟨h1, h2⟩ := hq2 hg
          refine ⟨fun _ _ => trivial, hnext undef w m ?_⟩
          rw [h1, h2]
          exact ⟨Mm.le.refl m, fun i => ⟨.inl, fun h => h.elim id fun h => by simp at h; omega⟩, Below.refl _ _, hp.heap, fun b hb => .inl hb, .tup rfl (fun j p v hp => by simp at hp)⟩
      · have hij : i = j := by
          have h1 : ¬ i < j := fun h => by
            have := (hp.lst i hil).2 h
            rw [hlf] at this; cases this
          rcases Nat.lt_or_ge j i with h2 | h2
          · have h3 := reach_listed hcl 8 _ _ o ho he (hc.chain j i hil h2)
            have := (hp.lst j (by omega)).1 h3
            omega
          · omega
        subst hij
        obtain ⟨hdk, hw, _, hq1, hq2⟩ := E.step i o _ (opL_get hc.sl hil ho)
        have hnext : ∀ v' w' m', (∀ id c, (id, c) ∈ E.hs (i + 1) → id < E.ns (i + 1)) → E.ns i ≤ E.ns (i + 1) → EPost B (E.hs i) m w (E.ns i) (E.hs (i + 1)) (E.ns (i + 1)) (E.vs i) v' w' m' → wpAnyIn (Fe w0.r) 0 P .any ops (fun e a w => ∃ st' m', K e st' ∧ Sim B w0 st' a w m') f (listed.setIfInBounds (nth ss i) true) (a.put o.dst v') w' := by
          intro v' w' m' h1 h2 hpost
          exact ih _ (i + 1) _ w' m' (by simpa using hsz) (hcl.set ho he) hop' (hp.enext hc hil ho hf hdk h1 h2 hpost)
        unfold wpOpIn
        rw [ho]
        simp only [wanted_slot hw (fun t ht => hp.eslot hc hcl hil ho he ht)]
        cases hg : E.gs i with
        | true =>
          simp only [if_true]
          refine wpIn_of_wp (estep_nd (hq1 hg).2) (estep_core o (hq1 hg).2 hO hp.heap hB (fun k hk hd => ?_) hp.ids (fun y hy => ?_) _ _ (fun v v' h' n' w' m' hkk hpo hn hid => ?_))
          · have hmx := hp.mono
            have hn0 : n ≤ T.ns qs.length := by have := T.ns_mono (i := 0) (j := qs.length) (by omega) (by rw [opL_len hc.hl]; omega); rw [T.n0'] at this; exact this
            rcases (hp.dom _).1 hd with h1 | ⟨q, hq, hl, h2, h3⟩ | h1
            · omega
            · have hsk := (T.step q _ _ (opL_get hc.hl hq (Array.getElem?_eq_getElem (hc.qlt q hq)))).2.2.2.2.1
              have := T.ns_mono (i := q + 1) (j := qs.length) (by omega) (by rw [opL_len hc.hl]; omega)
              omega
            · omega
          · refine ev_rep y (fun t e => ?_)
            subst e
            exact hp.eslot hc hcl hil ho he (mem_opTmps hy)
          · obtain ⟨hn1, hgv⟩ := hkk
            subst hn1
            obtain ⟨hpo2, hid2⟩ := post_give hgv hpo hid
            exact hnext v' w' m' hid2 hn hpo2
        | false =>
          simp only [Bool.false_eq_true, if_false]
          obtain ⟨h1, h2, h3⟩ := hq2 hg
          refine ⟨fun _ _ => trivial, hnext undef w m (by rw [h2, h3]; exact hp.ids) (by rw [h3]; exact Nat.le_refl _) ?_⟩
          rw [h1, h2, h3]
          exact ⟨Mm.le.refl m, same_dom, Below.refl _ _, hp.heap, fun b _ h => h, fun b _ _ => rfl, .tup rfl (fun j p v hp => by simp at hp)⟩

/-- the same as awp_regionS, ahead of the draw -/
theorem any_regionG {K : Exit → St → Prop} (qs ss : List Nat) (hid sp : List (List HS)) (hchk : chkS ops qs ss hid sp = true)
    (hk : aPreS P ops nt e h n (opL ops qs hid) e h n fun e' h' n' => aEffG P ops nt gv e h n (opL ops ss sp) e' h' n' fun e'' h'' n'' => K .normal ⟨e'', h'', n'', nt⟩) : ∀ (B : Base) (w0 : Ctx fk) (a : Act) (w : World) (m : Mm), Sim B w0 ⟨e, h, n, nt⟩ a w m →
      wpAnyIn (Fe w0.r) 0 P .any ops (fun e a' w' => ∃ st' m', K e st' ∧ Sim B w0 st' a' w' m') ops.size (Array.replicate ops.size false) a { w with drawn := w.drawn + 1 } := by
  intro B w0 a w m hs
  have hc := chkS_of hchk
  obtain ⟨T, hK⟩ := aPreS_tr _ _ _ _ hk
  rw [opL_len hc.hl] at hK
  obtain ⟨E, hK⟩ := aEffG_tr _ _ _ _ hK
  rw [opL_len hc.sl] at hK
  have hs' : Sim B w0 ⟨e, h, n, nt⟩ a { w with drawn := w.drawn + 1 } m := by
    have hb : Below w.heap.size w { w with drawn := w.drawn + 1 } := (Below.refl _ _).drew
    have hB := hs.room
    exact ⟨hs.base, hs.below.trans (hb.mono hB), hs.defers, hs.size, fun t => (hs.env t).mono (Mm.le.refl m) (fun _ _ h => h) (fun b hb' _ => hb.block b hb'), hs.heap.below hb, hs.dom, hs.ids, hs.fr.mono (Mm.le.refl m) (fun _ _ h => h) (fun b hb' _ => hb.block b hb') (Nat.le_refl _)⟩
  have hquiet : ∀ i, i ≤ qs.length → Sim0 B (T.hs i) m { w with drawn := w.drawn + 1 } ∧ LB m (T.hs i) = LB m h ∧ (∀ id c, (id, c) ∈ T.hs i → id < T.ns i) := by
    intro i
    induction i with
    | zero => intro _; rw [T.hz, T.n0']; exact ⟨hs'.heap, rfl, hs'.ids⟩
    | succ i ih =>
      intro hi
      obtain ⟨h1, h2, h3⟩ := ih (by omega)
      have hst := T.step i _ _ (opL_get hc.hl (by omega) (Array.getElem?_eq_getElem (hc.qlt i (by omega))))
      have hn : n ≤ T.ns i := by have := T.ns_mono (i := 0) (j := i) (by omega) (by rw [opL_len hc.hl]; omega); rw [T.n0'] at this; exact this
      obtain ⟨h4, h5⟩ := sim0_addE (T.Es i) (T.hs i) (T.ns i) h1 (fun j hj hdj => by have := (hs'.dom j).1 hdj; simp only at this; omega) h3
      rw [hst.2.2.2.1]
      refine ⟨h4, h5.trans h2, fun id c hin => ?_⟩
      rw [hst.2.2.2.2.1]
      rcases (addE_mem _ _ _ _ _).1 hin with h6 | ⟨q, h6, rfl⟩
      · have := h3 id c h6; omega
      · have := (List.getElem?_eq_some_iff.1 h6).1; omega
  obtain ⟨h1, h2, h3⟩ := hquiet qs.length (Nat.le_refl _)
  have hf : ∀ i, (Array.replicate ops.size false).getD i false = false := by
    intro i
    rw [Array.getD_eq_getD_getElem?, Array.getElem?_replicate]
    split <;> rfl
  refine sG_sound hc hK ops.size _ 0 a _ m (by simp) (fun i o ho hl => by rw [hf] at hl; cases hl) ?_ ⟨hs'.base, hs'.below, hs'.defers, hs'.size, by rw [E.hz]; exact h1, by rw [E.hz, E.n0']; exact h3, by rw [E.n0']; exact Nat.le_refl _, fun id => ?_,
    (fun p t hp hl => by rw [hf] at hl; cases hl), (fun i t hi => by omega), fun t _ _ => ?_, fun i _ => ?_, Nat.zero_le _, by rw [E.hz, h2]; exact hs'.fr⟩
  · unfold open_
    refine Nat.le_trans List.countP_le_length ?_
    simp
  · rw [hs'.dom, E.n0']
    constructor
    · exact .inl
    · rintro (h | ⟨i, _, hl, _⟩ | h)
      · exact h
      · rw [hf] at hl; cases hl
      · omega
  · rw [E.hz, h2]
    exact hs'.env t
  · rw [hf]; constructor
    · intro h; cases h
    · intro h; omega
omit [LaidW] in
theorem giveK_mono {b : Bool} {D : List Nat} {v : AV} {h : Heap} {K K' : AV → Heap → Prop} (hg : giveK b D v h K) (hk : ∀ v h, K v h → K' v h) : giveK b D v h K' := by
  cases b with
  | false => exact hk _ _ hg
  | true =>
    obtain ⟨hd, hg⟩ := hg
    refine ⟨hd, ?_⟩
    split at hg
    · rename_i p hf; exact hk _ _ hg
    · exact hg.elim
end

section
variable {P : Program} {ops : Array Oper} {L : List (Nat × Nat)} {nt : Nat} {gv : List Nat} {e : Env} {h : Heap} {n : Nat}
theorem aEffG_nilE {e0 : Env} {h0 : Heap} {n0 : Nat} {e : Env} {h : Heap} {n : Nat} {K : Env → Heap → Nat → Prop} : aEffG P ops nt gv e0 h0 n0 [] e h n K = K e h n := rfl
theorem aEffG_consE {e0 : Env} {h0 : Heap} {n0 : Nat} {o : Oper} {d : List HS} {os : List (Oper × List HS)} {e : Env} {h : Heap} {n : Nat} {K : Env → Heap → Nat → Prop} : aEffG P ops nt gv e0 h0 n0 ((o, d) :: os) e h n K = (match wantedA ops e o with
    | some g => dOk nt o.dst ∧ (g = true → touch e o.op (hsIds P e0 h0 n0 d) ∧ EStep P e h n o.op fun v h' n' => giveK (isGv gv o.dst) (hsIds P e0 h0 n0 d) v h' fun v2 h2 => aEffG P ops nt gv e0 h0 n0 os (put e o.dst v2) h2 n' K) ∧
        (g = false → aEffG P ops nt gv e0 h0 n0 os (put e o.dst (.tup [])) h n K)
    | none => False) := rfl
theorem aEffG_ed {e0 : Env} {h0 : Heap} {n0 : Nat} {K : Env → Heap → Nat → Prop} : ∀ (l l' : List (Oper × List HS)), l.length = l'.length → (∀ k : Nat, ∀ p q, l[k]? = some p → l'[k]? = some q → eqO p.1 q.1 ∧ q.2 = p.2) → ∀ (e : Env) (h : Heap) (n : Nat),
    aEffG P ops nt gv e0 h0 n0 l e h n K → aEffG P (addEd ops L) nt gv e0 h0 n0 l' e h n K := by
  intro l
  induction l with
  | nil =>
    intro l' hl hq e h n hp
    have : l' = [] := List.eq_nil_of_length_eq_zero (by simpa using hl.symm)
    subst this
    rw [aEffG_nilE] at hp ⊢
    exact hp
  | cons x l ih =>
    intro l' hl hq e h n hp
    cases l' with
    | nil => cases hl
    | cons y l' =>
      obtain ⟨o, d⟩ := x
      obtain ⟨o', d'⟩ := y
      obtain ⟨⟨z, hz⟩, hd⟩ := hq 0 _ _ rfl rfl
      simp only at hz hd
      subst hz; subst hd
      have ih' := ih l' (by simpa using hl) (fun k p q h1 h2 => hq (k + 1) p q (by simpa using h1) (by simpa using h2))
      rw [aEffG_consE] at hp ⊢
      rw [addEd_wantedA, (addE'_op o z).1, (addE'_op o z).2.2]
      cases hg : wantedA ops e o with
      | none => rw [hg] at hp; exact hp.elim
      | some g =>
        rw [hg] at hp
        exact ⟨hp.1, fun hgt => ⟨(hp.2.1 hgt).1, estep_mono (hp.2.1 hgt).2 fun v h' n' hh => giveK_mono hh fun v2 h2 hh2 => ih' _ _ _ hh2⟩, fun hgf => ih' _ _ _ (hp.2.2 hgf)⟩
/-- A REGION THAT DRAWS ITS ORDER, TO WHICH EDGES ARE ADDED (as awp_regionSE); what lies in the slots gv is given up for data as soon as it is there -/
theorem awp_regionGv {K : Exit → St → Prop} (gv : List Nat) (L : List (Nat × Nat)) (qs ss : List Nat) (hid sp : List (List HS)) {id : Nat} (hm : P.follows .mixedOrders = true) (hE : chkE ops L = true) (hchk : chkS (addEd ops L) qs ss hid sp = true)
    (hk : aPreS P ops nt e h n (opL ops qs hid) e h n fun e' h' n' => aEffG P ops nt gv e h n (opL ops ss sp) e' h' n' fun e'' h'' n'' => K .normal ⟨e'', h'', n'', nt⟩) : AWPk fk P (.region id ops true) ⟨e, h, n, nt⟩ K := by
  have hc := chkS_of hchk
  have hq := opL_ed (ops := ops) (L := L) qs hid (fun i hi => by
    obtain ⟨p, hp, rfl⟩ := List.mem_iff_getElem.1 hi
    have := hc.qlt p hp
    rw [addEd_size] at this
    simpa [nth, List.getD_eq_getElem?_getD, List.getElem?_eq_getElem hp] using this)
  have hs := opL_ed (ops := ops) (L := L) ss sp (fun i hi => by
    obtain ⟨p, hp, rfl⟩ := List.mem_iff_getElem.1 hi
    have := hc.slt p hp
    rw [addEd_size] at this
    simpa [nth, List.getD_eq_getElem?_getD, List.getElem?_eq_getElem hp] using this)
  refine awp_mono (K' := K) (K := fun x s => match x with | .normal => K .normal s | _ => False) ?_ (fun x s hx => by cases x <;> first | exact hx | exact hx.elim)
  intro B w0 a w m hsim
  refine wpIn_region_any hm ?_
  have key := any_regionG (fk := fk) (P := P) (ops := addEd ops L) (K := fun x s => match x with | .normal => K .normal s | _ => False) (nt := nt) (gv := gv) (e := e) (h := h) (n := n) qs ss hid sp hchk
    (aPreS_ed (fun e' h' n' hh => aEffG_ed _ _ hs.1 hs.2 _ _ _ hh) _ _ hq.1 hq.2 _ _ _ hk) B w0 a w m hsim
  rw [addEd_size] at key
  exact any_edges (chkE_of hE) (fun c a w hh => by obtain ⟨_, _, hf, _⟩ := hh; exact hf) _ _ _ _ (by simp) key
/-! the simp set -/
@[simp ↓] theorem aEffG_nil {e0 : Env} {h0 : Heap} {n0 : Nat} {env : Env} {K : Env → Heap → Nat → Prop} : aEffG P ops nt gv e0 h0 n0 [] env h n K = K env h n := rfl
@[simp ↓] theorem aEffG_plain {e0 : Env} {h0 : Heap} {n0 : Nat} {env : Env} {dst : Option Tmp} {op : Op} {ty : TypeId} {pos : String} {after : Array Edge} {os : List (Oper × List HS)} {K : Env → Heap → Nat → Prop} {ds : List HS} :
    aEffG P ops nt gv e0 h0 n0 ((⟨dst, op, ty, pos, after, none⟩, ds) :: os) env h n K = (dOk nt dst ∧ touch env op (hsIds P e0 h0 n0 ds) ∧ EStep P env h n op fun v h' n' => giveK (isGv gv dst) (hsIds P e0 h0 n0 ds) v h' fun v2 h2 => aEffG P ops nt gv e0 h0 n0 os (put env dst v2) h2 n' K) := by
  simp [aEffG, wantedA]
def gvM (r : Option PV) (i : Nat) (h : Heap) (K : AV → Heap → Prop) : Prop :=
  match r with
  | some p => K (.w false false p) (dropH i h)
  | none => False
omit [LaidW] in
@[congr] theorem giveK_congr {b b' : Bool} {D D' : List Nat} {v v' : AV} {h h' : Heap} {K : AV → Heap → Prop} (h1 : b = b') (h2 : D = D') (h3 : v = v') (h4 : h = h') : giveK b D v h K = giveK b' D' v' h' K := by rw [h1, h2, h3, h4]
omit [LaidW] in
@[congr] theorem gvM_congr {r r' : Option PV} {i i' : Nat} {h h' : Heap} {K : AV → Heap → Prop} (h1 : r = r') (h2 : i = i') (h3 : h = h') : gvM r i h K = gvM r' i' h' K := by rw [h1, h2, h3]
omit [LaidW] in
@[simp] theorem giveK_false {D : List Nat} {v : AV} {h : Heap} {K : AV → Heap → Prop} : giveK false D v h K = K v h := rfl
omit [LaidW] in
@[simp] theorem giveK_true {D : List Nat} {v : AV} {h : Heap} {K : AV → Heap → Prop} : giveK true D v h K = ((isMslB v = true ∧ idOf v ∈ D) ∧ gvM (frz (keepH [idOf v] h) 6 v) (idOf v) h K) := by
  unfold giveK gvM; rfl
omit [LaidW] in
@[simp] theorem gvM_some {p : PV} {i : Nat} {h : Heap} {K : AV → Heap → Prop} : gvM (some p) i h K = K (.w false false p) (dropH i h) := rfl
omit [LaidW] in
@[simp] theorem dropH_nil (i : Nat) : dropH i [] = [] := rfl
omit [LaidW] in
@[simp] theorem dropH_cons (i k : Nat) (v : List AV) (r : Heap) : dropH i ((k, v) :: r) = bif k == i then dropH i r else (k, v) :: dropH i r := by
  rw [dropH]
  by_cases e : k = i
  · rw [if_pos e, e]; simp
  · have e2 : (k == i) = false := by simpa using e
    rw [if_neg e, e2]; rfl
omit [LaidW] in
@[simp] theorem isMslB_msl (a b c d e : Nat) : isMslB (.msl a b c d e) = true := rfl
omit [LaidW] in
@[simp] theorem isGv_some (gv : List Nat) (t : Nat) : isGv gv (some t) = gv.contains t := rfl
omit [LaidW] in
@[simp] theorem isGv_none (gv : List Nat) : isGv gv none = false := rfl
end
end Go.Fi

