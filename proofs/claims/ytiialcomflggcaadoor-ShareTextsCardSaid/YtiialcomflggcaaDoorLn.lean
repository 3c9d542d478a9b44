/- A logic of abstract states for this claim (part Ln): lemmas alone. -/
import Derived.Test.YtiialcomflggcaaDoorLf
set_option linter.unusedSimpArgs false
set_option linter.unusedVariables false

namespace Go.Fi
open Go Go.RowKit
variable [LaidW]
variable {fk : Fk}

/-- 'slices.Grow' of a nil slice, by its contract -/
structure GrowC (P : Program) (f : FuncId) (sz : Nat) : Prop where
  ent : Enterable P f
  z : ∀ w : World, Calls P f #[.slice none 0 0, .int .i64 0] w fun e w' => e = .returned (.slice none 0 0) ∧ w' = w
  nz : ∀ (k : Nat) (w : World), 0 < k → k ≤ 1000000 → Calls P f #[.slice none 0 0, .int .i64 k] w fun e w' =>
    ∃ (cap : Nat) (cs : Array Value) (ty : TypeId), cs.size = cap * sz ∧ e = .returned (.slice (some ⟨w.heap.size, 0, none⟩) 0 cap) ∧ w' = w.drew.alloc (.cells cs ty)

omit [LaidW] in
theorem new_none {B : Base} {h : Heap} {n : Nat} {m : Mm} {w : World} (hs : Sim0 B h m w) (hnd : ¬ m.dom n) (hne : ∀ id cs, (id, cs) ∈ h → id ≠ n) (hdom : ∀ id cs, (id, cs) ∈ h → m.dom id) :
    Sim0 B ((n, []) :: h) (m.new n 0 none) w ∧ ∀ b, LB (m.new n 0 none) ((n, []) :: h) b → LB m h b := by
  have hs1 := sim0_cons (c := []) hs hnd hne
  have hle := Mm.new_le (m := m) (id := n) (len := 0) (bc := none) hnd
  have hin : (n, ([] : List AV)) ∈ (n, []) :: h := List.mem_cons_self
  have hLe : LB m ((n, []) :: h) = LB m h := funext fun b => propext (LB_cons hnd b)
  have hL : ∀ b, LB (m.new n 0 none) ((n, []) :: h) b → LB m h b := by
    intro b hb
    rcases LB_new (cells := []) hs1 hin hb with h1 | ⟨C, h1⟩
    · rw [hLe] at h1; exact h1
    · cases h1
  have hmono : ∀ x v, RepA B (LB m h) m w x v → RepA B (LB (m.new n 0 none) ((n, []) :: h)) (m.new n 0 none) w x v := fun x v hr => hr.mono hle (fun b _ hn hl => hn (hL b hl)) (fun _ _ _ => rfl)
  refine ⟨⟨fun id c hic hd => ?_, ?_⟩, hL⟩
  · rcases List.mem_cons.1 hic with e | e
    · injection e with e1 e2; subst e1; subst e2
      exact ⟨by simp [Mm.new], .inl ⟨by simp [Mm.new], rfl⟩⟩
    · have hdi : m.dom id := hdom id c e
      have hin' : id ≠ n := hne id c e
      obtain ⟨ht, hen⟩ := hs.entry id c e hdi
      refine ⟨by simp [Mm.new, hin', ht], ?_⟩
      rcases hen with ⟨h1, h2⟩ | ⟨b, C, cs, e', h1, h2, h3, h4, h5, h6⟩ | ⟨b, es, clk, h1, h2⟩
      · exact .inl ⟨by simp [Mm.new, hin', h1], h2⟩
      · exact .inr (.inl ⟨b, C, cs, e', by simp [Mm.new, hin', h1], h2, h3, h4, h5, fun j p v hp hv => hmono p v (h6 j p v hp hv)⟩)
      · exact .inr (.inr ⟨b, es, clk, by simp [Mm.new, hin', h1], h2⟩)
  · refine List.pairwise_cons.2 ⟨fun y hy => ⟨fun e => hne y.1 y.2 hy e.symm, fun b C C' _ _ hax => by simp [Mm.new] at hax⟩, ?_⟩
    refine List.Pairwise.imp_of_mem ?_ hs.inj
    intro x y hx hy ⟨hxy, hh⟩
    refine ⟨hxy, fun b C C' hdx hdy hax hay => ?_⟩
    have h1 : x.1 ≠ n := hne x.1 x.2 hx
    have h2 : y.1 ≠ n := hne y.1 y.2 hy
    simp only [Mm.new, h1, h2, false_and, if_false] at hax hay
    exact hh b C C' (hdom _ _ hx) (hdom _ _ hy) hax hay

/-- a slice that is to grow: a place of the call's own, with room -/
theorem awp_grow {P : Program} {f : FuncId} {sz : Nat} (hr : GrowC P f sz) {K : Exit → St → Prop} {rid d1 d2 t ty1 ty2 : Nat} {p1 p2 : String} {a1 a2 : Array Edge} {tys : Array TypeId} {env : Env} {h : Heap} {n nt : Nat} {ops : Array Oper} {rest : List Oper} {k : Nat} {ow fl : Bool}
    (hops : ops.toList = ⟨some d1, .move (.tmp t), ty1, p1, a1, none⟩ :: ⟨some d2, .call ⟨.value (.func f), #[.const (.slice none 0 0), .tmp d1], tys⟩, ty2, p2, a2, none⟩ :: rest)
    (hg : get env t = .w ow fl (.int .i64 k)) (hk1 : k ≤ 1000000) (hd1 : d1 < nt) (hd2 : d2 < nt)
    (hk : aOps P ops nt rest ((d2, .msl n 0 sz 0 0) :: (d1, .w ow fl (.int .i64 k)) :: env) ((n, []) :: h) (n + 1) fun e' h' n' => K .normal ⟨e', h', n', nt⟩) :
    AWPk fk P (.region rid ops false) ⟨env, h, n, nt⟩ K := by
  intro B w0 a w m hs
  refine wpIn_region_list ?_
  rw [hops]
  simp only [wpListIn, Region.wanted, if_true]
  refine wpIn_of_wp (fun c e => by cases e) (estep_sound w0 (⟨some d1, .move (.tmp t), ty1, p1, a1, none⟩ : Oper) (K := fun v h' n' => v = get env t ∧ h' = h ∧ n' = n) (by simp) hs hd1 _ _ ?_)
  rintro v h' n' a w m ⟨rfl, rfl, rfl⟩ hs
  refine wpIn_of_wp (fun c e => by cases e) ?_
  rw [hg] at hs
  have hx : RepA B (LB m h') m w (.w ow fl (.int .i64 k)) (a.eval (.tmp d1)) := by
    have := hs.env d1
    rw [show get (St.env ⟨put env (some d1) (.w ow fl (.int .i64 k)), h', n', nt⟩) d1 = .w ow fl (.int .i64 k) from by simp [put, get]] at this
    exact this
  have hv := hx.int_inv
  obtain ⟨fn, hfn, hname, hbody⟩ := hr.ent
  have hrun : (execOp a.eval ⟨some d2, .call ⟨.value (.func f), #[.const (.slice none 0 0), .tmp d1], tys⟩, ty2, p2, a2, none⟩).run P w = .ok (.enter f #[.slice none 0 0, .int .i64 k]) w := by
    have hn' : ¬ fn.name = "runtime.NumGoroutine" := by simpa using hname
    have hb' : ¬ fn.body = none := by intro h; simp [h] at hbody
    have hv' : a.eval (.tmp d1) = .int .i64 k := hv
    simp [execOp, resolve, Act.eval, Deferred.ofValue, invoke, callFunc, hfn, hn', hb'] at hv' ⊢
    exact hv'
  unfold Oper.wp
  rw [hrun, Oper.upon_enter]
  have hnd : ¬ m.dom n' := fun hd => by have := (hs.dom n').1 hd; exact absurd this (Nat.lt_irrefl n')
  have hne : ∀ id cs, (id, cs) ∈ h' → id ≠ n' := fun id cs hin => by have := hs.ids id cs hin; simp only at this; omega
  have hdom : ∀ id cs, (id, cs) ∈ h' → m.dom id := fun id cs hin => (hs.dom id).2 (hs.ids id cs hin)
  -- the new state
  have fin : ∀ v w' m', EPost B h' m w n' ((n', []) :: h') (n' + 1) (.msl n' 0 sz 0 0) v w' m' →
      wpListIn (Fe w0.r) 0 P ops (fun e a' w' => ∃ st' m', K e st' ∧ Sim B w0 st' a' w' m') rest (a.put (some d2) v) w' := by
    rintro v w' m' ⟨e1, e2, e3, e4, e5, e6, e7⟩
    have hs2 : Sim B w0 ⟨(d2, .msl n' 0 sz 0 0) :: (d1, .w ow fl (.int .i64 k)) :: env, (n', []) :: h', n' + 1, nt⟩ (a.put (some d2) v) w' m' := by
      refine ⟨hs.base, hs.below.trans e3, by rw [put_defers]; exact hs.defers, by rw [put_size]; exact hs.size, ?_, e4, fun i => ?_, fun i c hic => ?_, hs.fr.mono e1 e5 e6 (Nat.le_succ _)⟩
      · exact get_put _ a (some d2) _ _ (by show d2 < a.tmps.size; rw [hs.size]; exact hd2) e7 (fun t => (hs.env t).mono e1 e5 e6)
      · rw [e2, hs.dom]
        show i < n' ∨ _ ↔ i < n' + 1
        omega
      · rcases List.mem_cons.1 hic with e | e
        · injection e with e _; show i < n' + 1; omega
        · have := hs.ids i c e; show i < n' + 1; simp only at this; omega
    exact aOps_sound (fun _ _ _ _ _ m hk' hs' => ⟨_, m, hk', hs'⟩) rest _ _ _ _ _ m' hk hs2
  have hdm : ∀ bc : Option (Nat × Nat), ∀ i, (m.new n' 0 bc).dom i ↔ m.dom i ∨ (n' ≤ i ∧ i < n' + 1) := fun bc i => by
    simp only [Mm.new]
    constructor
    · rintro (h | h)
      · exact .inl h
      · exact .inr (by omega)
    · rintro (h | h)
      · exact .inl h
      · exact .inr (by omega)
  by_cases h0 : k = 0
  · subst h0
    refine (hr.z w).mono ?_
    rintro e w' ⟨rfl, rfl⟩
    obtain ⟨g1, g2⟩ := new_none hs.heap hnd hne hdom
    exact fin _ _ (m.new n' 0 none) ⟨Mm.new_le hnd, hdm none, Below.refl _ _, g1, fun b _ hn hl => hn (g2 b hl), fun _ _ _ => rfl, .msl (Or.inr rfl) (by simp [Mm.new]) (Nat.le_refl _) (fun _ => ⟨rfl, rfl⟩) (fun b C e => by simp [Mm.new] at e)⟩
  · refine (hr.nz k w (by omega) hk1).mono ?_
    rintro e w' ⟨cap, cs, ty, hcs, rfl, rfl⟩
    have hb : Below w.heap.size w w.drew := (Below.refl _ _).drew
    have hB := hs.room
    have hs0 : Sim0 B h' m w.drew := hs.heap.below hb
    have hs1 := sim0_cons (c := []) hs0 hnd hne
    have hin : (n', ([] : List AV)) ∈ (n', []) :: h' := List.mem_cons_self
    have g1 := new_entry (cells := []) hs1 (by exact hB) hin hnd cs ty (Nat.zero_le _) (fun j p v hp => by simp at hp)
    have hLe : LB m ((n', []) :: h') = LB m h' := funext fun b => propext (LB_cons hnd b)
    have hsz : w.drew.heap.size = w.heap.size := rfl
    refine fin _ _ _ ⟨Mm.new_le hnd, hdm _, ?_, g1, fun b hb hn hl => ?_, fun b hb _ => ?_, ?_⟩
    · exact (hb.alloc (Nat.le_refl _) _).mono hB
    · rcases LB_new (cells := []) hs1 hin hl with h1 | ⟨C, h1⟩
      · rw [hLe] at h1; exact hn h1
      · injection h1 with h1; injection h1 with h1 _; omega
    · exact heap_push_old w.drew _ hb
    · refine .msl (Or.inr rfl) (by simp [Mm.new]) (Nat.zero_le _) (fun e => by simp [Mm.new] at e) (fun b C e => ?_)
      simp [Mm.new] at e
      obtain ⟨e1, e2⟩ := e
      subst e1; subst e2
      exact ⟨fun _ => rfl, by omega, Nat.zero_le _⟩
end Go.Fi

