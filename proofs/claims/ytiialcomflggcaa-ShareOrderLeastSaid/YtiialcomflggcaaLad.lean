/- A logic of abstract states for this claim (part Lad): lemmas alone. -/
import Derived.Test.YtiialcomflggcaaLm
set_option linter.unusedSimpArgs false
set_option linter.unusedVariables false

namespace Go.Fi
open Go Go.RowKit
variable [LaidW]
variable {fk : Fk}

section
variable {P : Program} {ops : Array Oper} {nt : Nat} {qs ss : List Nat} {hid sp : List (List HS)} {e : Env} {h : Heap} {n : Nat}
end

/-! ### a region to which edges are added: operations on slots alone come in an order of our choosing -/
def lateOp (o : Oper) : Bool :=
  match o.op, o.guard with
  | .extract _ _, none => true
  | .move _, none => true
  | .assign _, none => true
  | _, _ => false
def isDefer (o : Oper) : Bool :=
  match o.op with
  | .defer _ => true
  | _ => false
def onB (o : Oper) (i : Nat) : Bool := o.after.any fun e => Region.binds .any e && e.on == i
section
variable {F : Fence} {N : Nat} {P : Program} {ops : Array Oper} {L : List (Nat × Nat)} {Q : Exit → Act → World → Prop}

structure ChkE (ops : Array Oper) (L : List (Nat × Nat)) : Prop where
  sel : ∀ (j : Nat) (o : Oper) cs b, ops[j]? = some o → o.op ≠ .select cs b
  nd : ∀ (j : Nat) (o : Oper), ops[j]? = some o → isDefer o = false
  lt : ∀ j i, (j, i) ∈ L → i < j
  ed : ∀ j i, (j, i) ∈ L → ∃ oj oi, ops[j]? = some oj ∧ ops[i]? = some oi ∧ lateOp oi = true ∧ (∀ e ∈ oi.after, Region.binds .any e = true → onB oj e.on = true) ∧
    ∀ k ok, ops[k]? = some ok → k ≠ i → onB ok i = false → onB oi k = false → oi.apart ops ok = true
end

section
variable {P : Program} {ops : Array Oper} {L : List (Nat × Nat)} {nt : Nat} {e : Env} {h : Heap} {n : Nat}
end
end Go.Fi

namespace Go.Fi
open Go Go.RowKit
variable [LaidW]
variable {fk : Fk}

/-! ### regions that draw their order, in which an effect's place may be given up for data -/
def dropH (i : Nat) : Heap → Heap
  | [] => []
  | (k, v) :: r => if k = i then dropH i r else (k, v) :: dropH i r
omit [LaidW] in
theorem dropH_mem {i : Nat} : ∀ {h : Heap} {p : Nat × List AV}, p ∈ dropH i h ↔ p ∈ h ∧ p.1 ≠ i
  | [], p => by simp [dropH]
  | (k, v) :: r, p => by
    unfold dropH
    by_cases e : k = i
    · rw [if_pos e, dropH_mem]
      constructor
      · rintro ⟨h1, h2⟩; exact ⟨List.mem_cons_of_mem _ h1, h2⟩
      · rintro ⟨h1, h2⟩
        rcases List.mem_cons.1 h1 with rfl | h1
        · exact absurd e h2
        · exact ⟨h1, h2⟩
    · rw [if_neg e]
      constructor
      · intro hp
        rcases List.mem_cons.1 hp with rfl | hp
        · exact ⟨List.mem_cons_self, e⟩
        · obtain ⟨h1, h2⟩ := dropH_mem.1 hp
          exact ⟨List.mem_cons_of_mem _ h1, h2⟩
      · rintro ⟨h1, h2⟩
        rcases List.mem_cons.1 h1 with rfl | h1
        · exact List.mem_cons_self
        · exact List.mem_cons_of_mem _ (dropH_mem.2 ⟨h1, h2⟩)
def isMslB : AV → Bool
  | .msl _ _ _ _ _ => true
  | _ => false
/-- what an effect gave, as it is, or as data, its place given up -/
def giveK (b : Bool) (D : List Nat) (v : AV) (h : Heap) (K : AV → Heap → Prop) : Prop :=
  match b with
  | false => K v h
  | true => (isMslB v = true ∧ idOf v ∈ D) ∧ match frz (keepH [idOf v] h) 6 v with
    | some p => K (.w false false p) (dropH (idOf v) h)
    | none => False
def isGv (gv : List Nat) (d : Option Tmp) : Bool :=
  match d with
  | some t => gv.contains t
  | none => false

section
variable {B : Base} {m m' : Mm} {w w' : World} {h h1 h' : Heap} {n n' : Nat}
end

def EFG (P : Program) (env : Env) (h : Heap) (n : Nat) (op : Op) (b : Bool) (D : List Nat) (v : AV) (h' : Heap) (n' : Nat) : Prop :=
  EStep P env h n op fun v1 h1 n1 => n1 = n' ∧ giveK b D v1 h1 fun v2 h2 => v2 = v ∧ h2 = h'
section
variable {P : Program} {env : Env} {h : Heap} {n : Nat}
theorem EFG.keep {op : Op} {b : Bool} {v : AV} {h' : Heap} {n' : Nat} {D : List Nat} (he : EFG P env h n op b D v h' n') (ht : touch env op D) {i : Nat} {c : List AV} (hin : (i, c) ∈ h) (hD : ¬ i ∈ D) : (i, c) ∈ h' := by
  obtain ⟨v1, h1, n1, hef, hn, hg⟩ := EStep.ef he
  have h2 := hef.keep ht hin hD
  cases b with
  | false => obtain ⟨_, rfl⟩ := hg; exact h2
  | true =>
    obtain ⟨⟨_, hd⟩, hg⟩ := hg
    split at hg
    · obtain ⟨_, rfl⟩ := hg
      exact dropH_mem.2 ⟨h2, fun e => hD (by rw [show i = idOf v1 from e]; exact hd)⟩
    · exact hg.elim
end

section
variable {P : Program} {ops : Array Oper} {nt : Nat} {gv : List Nat} {e0 : Env} {h0 : Heap} {n0 : Nat}
/-- effects, one after the other; what each may touch; what lies in the slots gv is given up for data -/
def aEffG (P : Program) (ops : Array Oper) (nt : Nat) (gv : List Nat) (e0 : Env) (h0 : Heap) (n0 : Nat) : List (Oper × List HS) → Env → Heap → Nat → (Env → Heap → Nat → Prop) → Prop
  | [], e, h, n, K => K e h n
  | (o, d) :: os, e, h, n, K =>
    match wantedA ops e o with
    | some g => dOk nt o.dst ∧ (g = true → touch e o.op (hsIds P e0 h0 n0 d) ∧ EStep P e h n o.op fun v h' n' => giveK (isGv gv o.dst) (hsIds P e0 h0 n0 d) v h' fun v2 h2 => aEffG P ops nt gv e0 h0 n0 os (put e o.dst v2) h2 n' K) ∧
        (g = false → aEffG P ops nt gv e0 h0 n0 os (put e o.dst (.tup [])) h n K)
    | none => False
structure TrG (P : Program) (ops : Array Oper) (nt : Nat) (gv : List Nat) (e0 : Env) (h0 : Heap) (n0 : Nat) (os : List (Oper × List HS)) (e : Env) (h : Heap) (n : Nat) where
  es : Nat → Env
  hs : Nat → Heap
  ns : Nat → Nat
  vs : Nat → AV
  gs : Nat → Bool
  e0' : es 0 = e
  hz : hs 0 = h
  n0' : ns 0 = n
  step : ∀ i o d, os[i]? = some (o, d) → dOk nt o.dst ∧ wantedA ops (es i) o = some (gs i) ∧ es (i + 1) = put (es i) o.dst (vs i) ∧
    (gs i = true → touch (es i) o.op (hsIds P e0 h0 n0 d) ∧ EFG P (es i) (hs i) (ns i) o.op (isGv gv o.dst) (hsIds P e0 h0 n0 d) (vs i) (hs (i + 1)) (ns (i + 1))) ∧ (gs i = false → vs i = .tup [] ∧ hs (i + 1) = hs i ∧ ns (i + 1) = ns i)
end

section
variable {P : Program} {ops : Array Oper} {nt : Nat} {gv : List Nat} {qs ss : List Nat} {hid sp : List (List HS)} {e : Env} {h : Heap} {n : Nat}
/-- some of the operations have been run: quiet ones, and the first j effects -/
structure GInv (P : Program) (ops : Array Oper) (nt : Nat) (qs ss : List Nat) (hid sp : List (List HS)) (e : Env) (h : Heap) (n : Nat) {gv : List Nat} (T : TrQ P ops nt e h n (opL ops qs hid) e h n)
    (E : TrG P ops nt gv e h n (opL ops ss sp) (T.es qs.length) (T.hs qs.length) (T.ns qs.length)) (B : Base) (w0 : Ctx fk) (listed : Array Bool) (j : Nat) (a : Act) (w : World) (m : Mm) : Prop where
  base : B.n = w0.w.heap.size
  below : Below B.n w0.w w
  defers : a.defers = marks w0.ds
  size : a.tmps.size = nt
  heap : Sim0 B (E.hs j) m w
  ids : ∀ id c, (id, c) ∈ E.hs j → id < E.ns j
  mono : T.ns qs.length ≤ E.ns j
  dom : ∀ id, m.dom id ↔ id < n ∨ (∃ p, p < qs.length ∧ listed.getD (nth qs p) false = true ∧ T.ns p ≤ id ∧ id < T.ns p + (T.Es p).length) ∨ (T.ns qs.length ≤ id ∧ id < E.ns j)
  done : ∀ p t, p < qs.length → listed.getD (nth qs p) false = true → dstOf ops (nth qs p) = some t → RepA B (LB m (E.hs j)) m w (T.vs p) (a.tmps.getD t undef)
  doneE : ∀ i t, i < j → dstOf ops (nth ss i) = some t → RepA B (LB m (E.hs j)) m w (E.vs i) (a.tmps.getD t undef)
  old : ∀ t, (∀ p, p < qs.length → listed.getD (nth qs p) false = true → dstOf ops (nth qs p) ≠ some t) → (∀ i, i < j → dstOf ops (nth ss i) ≠ some t) → RepA B (LB m (E.hs j)) m w (get e t) (a.tmps.getD t undef)
  lst : ∀ i, i < ss.length → (listed.getD (nth ss i) false = true ↔ i < j)
  jl : j ≤ ss.length
  fr : FrOk B w0 (LB m (E.hs j)) m w n

variable {T : TrQ P ops nt e h n (opL ops qs hid) e h n} {E : TrG P ops nt gv e h n (opL ops ss sp) (T.es qs.length) (T.hs qs.length) (T.ns qs.length)} {B : Base} {w0 : Ctx fk} {listed : Array Bool} {j : Nat} {a : Act} {w : World} {m : Mm}

/-- a slot that quiet operation p reads -/
theorem GInv.qslot (hp : GInv P ops nt qs ss hid sp e h n T E B w0 listed j a w m) (hc : ChkS ops qs ss hid sp) (hcl : Closed ops listed) {p : Nat} {o : Oper} (hpl : p < qs.length) (ho : ops[nth qs p]? = some o) (hun : listed.getD (nth qs p) false = false)
    (he : ∀ e ∈ o.after, Region.binds .any e = true → listed.getD e.on false = true) {t : Nat} (ht : t ∈ opTmps ops o) : RepA B (LB m (E.hs j)) m w (get (T.es p) t) (a.tmps.getD t undef) := by
  rcases get_tr T.es T.vs (fun i o d hi => (T.step i o d hi).2.2.1) p (by rw [opL_len hc.hl]; omega) t with ⟨q, oq, d, h1, h2, h3, h4⟩ | ⟨h1, h2⟩
  · obtain ⟨hq, hoq, _⟩ := opL_inv hc.hl hc.qlt h2
    have hd : dstOf ops (nth qs q) = some t := by rw [dst_eq hoq]; exact h3
    rw [h4]
    rcases hc.qq p q t o hpl hq hd ho ht with ⟨_, h⟩ | h | ⟨h, _⟩
    · exact hp.done q t hq (reach_listed hcl 6 _ _ o ho he h) hd
    · omega
    · omega
  · rw [h2, T.e0']
    refine hp.old t (fun q hq hl hd => ?_) (fun i hi hd => ?_)
    · rcases hc.qq p q t o hpl hq hd ho ht with ⟨h, _⟩ | h | ⟨_, h⟩
      · have hoq := Array.getElem?_eq_getElem (hc.qlt q hq)
        exact h1 q _ _ h (opL_get hc.hl hq hoq) (by rw [← dst_eq hoq]; exact hd)
      · subst h; rw [hun] at hl; cases hl
      · have := closed_reach hcl (hc.qlt q hq) hl h
        rw [hun] at this; cases this
    · have hil : i < ss.length := Nat.lt_of_lt_of_le hi hp.jl
      have := closed_reach hcl (hc.slt i hil) ((hp.lst i hil).2 hi) (hc.sq p i t o hpl hil hd ho ht)
      rw [hun] at this; cases this
/-- a slot that the next effect reads -/
theorem GInv.eslot (hp : GInv P ops nt qs ss hid sp e h n T E B w0 listed j a w m) (hc : ChkS ops qs ss hid sp) (hcl : Closed ops listed) {o : Oper} (hjl : j < ss.length) (ho : ops[nth ss j]? = some o)
    (he : ∀ e ∈ o.after, Region.binds .any e = true → listed.getD e.on false = true) {t : Nat} (ht : t ∈ opTmps ops o) : RepA B (LB m (E.hs j)) m w (get (E.es j) t) (a.tmps.getD t undef) := by
  rcases get_tr E.es E.vs (fun i o d hi => (E.step i o d hi).2.2.1) j (by rw [opL_len hc.sl]; omega) t with ⟨q, oq, d, h1, h2, h3, h4⟩ | ⟨h1, h2⟩
  · obtain ⟨hq, hoq, _⟩ := opL_inv hc.sl hc.slt h2
    rw [h4]
    exact hp.doneE q t h1 (by rw [dst_eq hoq]; exact h3)
  · rw [h2, E.e0']
    have hno : ∀ i, i < j → dstOf ops (nth ss i) ≠ some t := fun i hi hd => by
      have hil : i < ss.length := Nat.lt_of_lt_of_le hi hp.jl
      have hoi := Array.getElem?_eq_getElem (hc.slt i hil)
      exact h1 i _ _ hi (opL_get hc.sl hil hoi) (by rw [← dst_eq hoi]; exact hd)
    rcases get_tr T.es T.vs (fun i o d hi => (T.step i o d hi).2.2.1) qs.length (by rw [opL_len hc.hl]; omega) t with ⟨q, oq, d, h1, h2, h3, h4⟩ | ⟨h1, h2⟩
    · obtain ⟨hq, hoq, _⟩ := opL_inv hc.hl hc.qlt h2
      have hd : dstOf ops (nth qs q) = some t := by rw [dst_eq hoq]; exact h3
      rw [h4]
      exact hp.done q t hq (reach_listed hcl 8 _ _ o ho he (hc.qs' q j t o hq hjl hd ho ht)) hd
    · rw [h2, T.e0']
      refine hp.old t (fun q hq hl hd => ?_) hno
      have hoq := Array.getElem?_eq_getElem (hc.qlt q hq)
      exact h1 q _ _ hq (opL_get hc.hl hq hoq) (by rw [← dst_eq hoq]; exact hd)

/-- what no effect has touched is as it was -/
theorem GInv.frame (hp : GInv P ops nt qs ss hid sp e h n T E B w0 listed j a w m) (hc : ChkS ops qs ss hid sp) {id : Nat} {c : List AV} (hin : (id, c) ∈ T.hs qs.length) : ∀ i, i ≤ j → (∀ k, k < i → ¬ id ∈ hsIds P e h n (nth sp k)) → (id, c) ∈ E.hs i
  | 0, _, _ => by rw [E.hz]; exact hin
  | i + 1, hi, hno => by
    have h1 := GInv.frame hp hc hin i (by omega) (fun k hk => hno k (by omega))
    have hil : i < ss.length := Nat.lt_of_lt_of_le (by omega) hp.jl
    have hoi := Array.getElem?_eq_getElem (hc.slt i hil)
    obtain ⟨_, _, _, h2, h3⟩ := E.step i _ _ (opL_get hc.sl hil hoi)
    cases hg : E.gs i with
    | true => exact (h2 hg).2.keep (h2 hg).1 h1 (hno i (by omega))
    | false => rw [(h3 hg).2.1]; exact h1

/-- what is hidden of quiet operation p: all that effects have touched that are done -/
theorem GInv.hid_mem (hp : GInv P ops nt qs ss hid sp e h n T E B w0 listed j a w m) (hc : ChkS ops qs ss hid sp) (hcl : Closed ops listed) {p : Nat} (hpl : p < qs.length) (hun : listed.getD (nth qs p) false = false) {id : Nat}
    (hno : ¬ id ∈ hsIds P e h n (nth hid p)) : ∀ k, k < j → ¬ id ∈ hsIds P e h n (nth sp k) := by
  intro k hk hin
  have hkl : k < ss.length := Nat.lt_of_lt_of_le hk hp.jl
  rcases hc.hidden p k hpl hkl with h | h
  · have := closed_reach hcl (hc.slt k hkl) ((hp.lst k hkl).2 hk) h
    rw [hun] at this; cases this
  · obtain ⟨s, hs, hin⟩ := List.mem_flatMap.1 hin
    exact hno (List.mem_flatMap.2 ⟨s, h s hs, hin⟩)

theorem GInv.qnext (hp : GInv P ops nt qs ss hid sp e h n T E B w0 listed j a w m) (hc : ChkS ops qs ss hid sp) {p : Nat} {o : Oper} (hpl : p < qs.length) (ho : ops[nth qs p]? = some o) (hf : listed[nth qs p]? = some false)
    {v' : Value} {w' : World} {m' : Mm} (hdk : dOk nt o.dst) (hpo : Post B (E.hs j) m w (T.ns p) (T.Es p).length (T.vs p) v' w' m') : GInv P ops nt qs ss hid sp e h n T E B w0 (listed.setIfInBounds (nth qs p) true) j (a.put o.dst v') w' m' := by
  obtain ⟨p1, p2, p3, p4, p5, p6⟩ := hpo
  have hB : B.n ≤ w.heap.size := by have := hp.below.size; have := hp.base; omega
  have hO : LaidW.ok w := LaidW.keep w0.ok (by have := hp.below; rw [hp.base] at this; exact this)
  have hmono : ∀ p v, RepA B (LB m (E.hs j)) m w p v → RepA B (LB m' (E.hs j)) m' w' p v := fun p v hr => hr.mono p1 (fun b hb hn hl => by
    rcases p5 b hl with h1 | h1
    · exact hn h1
    · omega) (fun b hb _ => p3.block b hb)
  have hsz := (Array.getElem?_eq_some_iff.1 hf).1
  have hdi : dstOf ops (nth qs p) = o.dst := dst_eq ho
  have hsd : dOk a.tmps.size o.dst := by rw [hp.size]; exact hdk
  have hlf : listed.getD (nth qs p) false = false := by rw [Array.getD_eq_getD_getElem?, hf]; rfl
  have hset : ∀ k, (listed.setIfInBounds (nth qs p) true).getD k false = if nth qs p = k then true else listed.getD k false := fun k => set_get hsz
  have hqx : ∀ q, q < qs.length → (nth qs p = nth qs q ↔ q = p) := fun q hq => ⟨fun h => (hc.qinj p q hpl hq h).symm, fun h => by rw [h]⟩
  refine ⟨hp.base, hp.below.trans (p3.mono hB), by rw [put_defers]; exact hp.defers, by rw [put_size]; exact hp.size, p4, hp.ids, hp.mono, fun id => ?_, fun q t hq hl hd => ?_, fun i t hi hd => ?_, fun t hq hi => ?_, fun i hi => ?_, hp.jl, hp.fr.mono p1 (fun b hb hn hl => by
    rcases p5 b hl with h1 | h1
    · exact hn h1
    · omega) (fun b hb _ => p3.block b hb) (Nat.le_refl _)⟩
  · rw [p2, hp.dom]
    constructor
    · rintro ((h1 | ⟨q, h2, h3, h4⟩ | h1) | h1)
      · exact .inl h1
      · exact .inr (.inl ⟨q, h2, by rw [hset]; split <;> simp_all, h4⟩)
      · exact .inr (.inr h1)
      · exact .inr (.inl ⟨p, hpl, by rw [hset, if_pos rfl], h1⟩)
    · rintro (h1 | ⟨q, h2, h3, h4⟩ | h1)
      · exact .inl (.inl h1)
      · by_cases hqp : q = p
        · subst hqp; exact .inr h4
        · rw [hset, if_neg (fun h => hqp ((hqx q h2).1 h))] at h3
          exact .inl (.inr (.inl ⟨q, h2, h3, h4⟩))
      · exact .inl (.inr (.inr h1))
  · rw [get_put_val hsd]
    by_cases hqp : q = p
    · subst hqp
      rw [hdi] at hd
      rw [if_pos hd]
      exact p6
    · have hne : nth qs p ≠ nth qs q := fun h => hqp ((hqx q hq).1 h)
      rw [hset, if_neg hne] at hl
      have : o.dst ≠ some t := fun hot => hc.once _ _ t (hc.qlt p hpl) (hc.qlt q hq) hne (by rw [hdi]; exact hot) hd
      rw [if_neg this]
      exact hmono _ _ (hp.done q t hq hl hd)
  · rw [get_put_val hsd]
    have hil : i < ss.length := Nat.lt_of_lt_of_le hi hp.jl
    have : o.dst ≠ some t := fun hot => hc.once _ _ t (hc.qlt p hpl) (hc.slt i hil) (hc.qne p i hpl hil) (by rw [hdi]; exact hot) hd
    rw [if_neg this]
    exact hmono _ _ (hp.doneE i t hi hd)
  · rw [get_put_val hsd]
    have h1 := hq p hpl (by rw [hset, if_pos rfl])
    rw [hdi] at h1
    rw [if_neg h1]
    refine hmono _ _ (hp.old t (fun q hql hl => hq q hql ?_) hi)
    rw [hset]; split <;> simp_all
  · rw [hset, if_neg (hc.qne p i hpl hi)]
    exact hp.lst i hi

theorem GInv.enext (hp : GInv P ops nt qs ss hid sp e h n T E B w0 listed j a w m) (hc : ChkS ops qs ss hid sp) {o : Oper} (hjl : j < ss.length) (ho : ops[nth ss j]? = some o) (hf : listed[nth ss j]? = some false)
    {v' : Value} {w' : World} {m' : Mm} (hdk : dOk nt o.dst) (hids : ∀ id c, (id, c) ∈ E.hs (j + 1) → id < E.ns (j + 1)) (hmon : E.ns j ≤ E.ns (j + 1)) (hpo : EPost B (E.hs j) m w (E.ns j) (E.hs (j + 1)) (E.ns (j + 1)) (E.vs j) v' w' m') :
    GInv P ops nt qs ss hid sp e h n T E B w0 (listed.setIfInBounds (nth ss j) true) (j + 1) (a.put o.dst v') w' m' := by
  obtain ⟨p1, p2, p3, p4, p5, p6, p7⟩ := hpo
  have hmono : ∀ p v, RepA B (LB m (E.hs j)) m w p v → RepA B (LB m' (E.hs (j + 1))) m' w' p v := fun p v hr => hr.mono p1 p5 p6
  have hsz := (Array.getElem?_eq_some_iff.1 hf).1
  have hdi : dstOf ops (nth ss j) = o.dst := dst_eq ho
  have hsd : dOk a.tmps.size o.dst := by rw [hp.size]; exact hdk
  have hset : ∀ k, (listed.setIfInBounds (nth ss j) true).getD k false = if nth ss j = k then true else listed.getD k false := fun k => set_get hsz
  have hqn : ∀ q, q < qs.length → nth ss j ≠ nth qs q := fun q hq h => hc.qne q j hq hjl h.symm
  refine ⟨hp.base, hp.below.trans p3, by rw [put_defers]; exact hp.defers, by rw [put_size]; exact hp.size, p4, hids, Nat.le_trans hp.mono hmon, fun id => ?_, fun q t hq hl hd => ?_, fun i t hi hd => ?_, fun t hq hi => ?_, fun i hi => ?_, by omega, hp.fr.mono p1 p5 p6 (Nat.le_refl _)⟩
  · rw [p2, hp.dom]
    have hmn := hp.mono
    constructor
    · rintro ((h1 | ⟨q, h2, h3, h4⟩ | h1) | h1)
      · exact .inl h1
      · exact .inr (.inl ⟨q, h2, by rw [hset, if_neg (hqn q h2)]; exact h3, h4⟩)
      · exact .inr (.inr ⟨h1.1, by omega⟩)
      · exact .inr (.inr ⟨by omega, h1.2⟩)
    · rintro (h1 | ⟨q, h2, h3, h4⟩ | h1)
      · exact .inl (.inl h1)
      · rw [hset, if_neg (hqn q h2)] at h3
        exact .inl (.inr (.inl ⟨q, h2, h3, h4⟩))
      · by_cases h2 : id < E.ns j
        · exact .inl (.inr (.inr ⟨h1.1, h2⟩))
        · exact .inr ⟨by omega, h1.2⟩
  · rw [get_put_val hsd]
    rw [hset, if_neg (hqn q hq)] at hl
    have : o.dst ≠ some t := fun hot => hc.once _ _ t (hc.slt j hjl) (hc.qlt q hq) (hqn q hq) (by rw [hdi]; exact hot) hd
    rw [if_neg this]
    exact hmono _ _ (hp.done q t hq hl hd)
  · rw [get_put_val hsd]
    by_cases hij : i = j
    · subst hij
      rw [hdi] at hd
      rw [if_pos hd]; exact p7
    · have hil : i < ss.length := by omega
      have hne : nth ss j ≠ nth ss i := fun h => hij (hc.sinj j i hjl hil h).symm
      have : o.dst ≠ some t := fun hot => hc.once _ _ t (hc.slt j hjl) (hc.slt i hil) hne (by rw [hdi]; exact hot) hd
      rw [if_neg this]
      exact hmono _ _ (hp.doneE i t (by omega) hd)
  · rw [get_put_val hsd]
    have h1 := hi j (by omega)
    rw [hdi] at h1
    rw [if_neg h1]
    exact hmono _ _ (hp.old t (fun q hql hl => hq q hql (by rw [hset, if_neg (hqn q hql)]; exact hl)) (fun i hi' => hi i (by omega)))
  · rw [hset]
    split
    · rename_i heq
      have := hc.sinj j i hjl hi heq
      simp; omega
    · rename_i hne
      rw [hp.lst i hi]
      have : i ≠ j := by rintro rfl; exact hne rfl
      omega

end

section
variable {P : Program} {ops : Array Oper} {L : List (Nat × Nat)} {nt : Nat} {gv : List Nat} {e : Env} {h : Heap} {n : Nat}
/-! the simp set -/
@[simp ↓] theorem aEffG_nil {e0 : Env} {h0 : Heap} {n0 : Nat} {env : Env} {K : Env → Heap → Nat → Prop} : aEffG P ops nt gv e0 h0 n0 [] env h n K = K env h n := rfl
@[simp ↓] theorem aEffG_plain {e0 : Env} {h0 : Heap} {n0 : Nat} {env : Env} {dst : Option Tmp} {op : Op} {ty : TypeId} {pos : String} {after : Array Edge} {os : List (Oper × List HS)} {K : Env → Heap → Nat → Prop} {ds : List HS} :
    aEffG P ops nt gv e0 h0 n0 ((⟨dst, op, ty, pos, after, none⟩, ds) :: os) env h n K = (dOk nt dst ∧ touch env op (hsIds P e0 h0 n0 ds) ∧ EStep P env h n op fun v h' n' => giveK (isGv gv dst) (hsIds P e0 h0 n0 ds) v h' fun v2 h2 => aEffG P ops nt gv e0 h0 n0 os (put env dst v2) h2 n' K) := by
  simp [aEffG, wantedA]
def gvM (r : Option PV) (i : Nat) (h : Heap) (K : AV → Heap → Prop) : Prop :=
  match r with
  | some p => K (.w false false p) (dropH i h)
  | none => False
omit [LaidW] in
@[congr] theorem giveK_congr {b b' : Bool} {D D' : List Nat} {v v' : AV} {h h' : Heap} {K : AV → Heap → Prop} (h1 : b = b') (h2 : D = D') (h3 : v = v') (h4 : h = h') : giveK b D v h K = giveK b' D' v' h' K := by rw [h1, h2, h3, h4]
omit [LaidW] in
@[congr] theorem gvM_congr {r r' : Option PV} {i i' : Nat} {h h' : Heap} {K : AV → Heap → Prop} (h1 : r = r') (h2 : i = i') (h3 : h = h') : gvM r i h K = gvM r' i' h' K := by rw [h1, h2, h3]
omit [LaidW] in
@[simp] theorem giveK_false {D : List Nat} {v : AV} {h : Heap} {K : AV → Heap → Prop} : giveK false D v h K = K v h := rfl
omit [LaidW] in
@[simp] theorem giveK_true {D : List Nat} {v : AV} {h : Heap} {K : AV → Heap → Prop} : giveK true D v h K = ((isMslB v = true ∧ idOf v ∈ D) ∧ gvM (frz (keepH [idOf v] h) 6 v) (idOf v) h K) := by
  unfold giveK gvM; rfl
omit [LaidW] in
@[simp] theorem gvM_some {p : PV} {i : Nat} {h : Heap} {K : AV → Heap → Prop} : gvM (some p) i h K = K (.w false false p) (dropH i h) := rfl
omit [LaidW] in
@[simp] theorem dropH_nil (i : Nat) : dropH i [] = [] := rfl
omit [LaidW] in
@[simp] theorem dropH_cons (i k : Nat) (v : List AV) (r : Heap) : dropH i ((k, v) :: r) = bif k == i then dropH i r else (k, v) :: dropH i r := by
  rw [dropH]
  by_cases e : k = i
  · rw [if_pos e, e]; simp
  · have e2 : (k == i) = false := by simpa using e
    rw [if_neg e, e2]; rfl
omit [LaidW] in
@[simp] theorem isMslB_msl (a b c d e : Nat) : isMslB (.msl a b c d e) = true := rfl
omit [LaidW] in
@[simp] theorem isGv_some (gv : List Nat) (t : Nat) : isGv gv (some t) = gv.contains t := rfl
omit [LaidW] in
@[simp] theorem isGv_none (gv : List Nat) : isGv gv none = false := rfl
end
end Go.Fi

