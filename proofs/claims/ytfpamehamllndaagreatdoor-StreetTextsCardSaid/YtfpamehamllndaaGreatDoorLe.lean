/- A logic of abstract states for this claim (part Le): lemmas alone. -/
import Derived.Test.YtfpamehamllndaaGreatDoorLd
set_option linter.unusedSimpArgs false
set_option linter.unusedVariables false

namespace Go.Fi
open Go Go.RowKit
variable [LaidW]
variable {fk : Fk}

/-- which place: a new one of the region, by its number, or that at which a slot of the state ahead of the region points -/
inductive HS where
  | new (k : Nat)
  | slot (t : Nat)
  | fld (t : Nat) (s : TypeId) (f : Nat)
  | all
  deriving DecidableEq, Inhabited
def idOf : AV → Nat
  | .ptr id _ _ => id
  | .msl id _ _ _ _ => id
  | .mp id => id
  | _ => 1000000007
def idF (h : Heap) (v : AV) (o : Option (Nat × Nat × Bool)) : Nat :=
  match v, o with
  | .ptr id _ off, some (o, _, _) => match hget h id with
    | some c => idOf (nthA c (off + o))
    | none => 1000000007
  | _, _ => 1000000007
def hsId (P : Program) (e : Env) (h : Heap) (n : Nat) : HS → Nat
  | .new k => n + k
  | .slot t => idOf (get e t)
  | .fld t s f => idF h (get e t) (fOf P s f)
  | .all => 1000000007
/-- 'all': every place that there is ahead of the region -/
def hsIdL (P : Program) (e : Env) (h : Heap) (n : Nat) : HS → List Nat
  | .all => List.range n
  | s => [hsId P e h n s]
def hsIds (P : Program) (e : Env) (h : Heap) (n : Nat) (l : List HS) : List Nat := l.flatMap (hsIdL P e h n)
def hide (D : List Nat) : Heap → Heap
  | [] => []
  | (k, v) :: r => if k ∈ D then hide D r else (k, v) :: hide D r
def newOk (D : List Nat) : Nat → List (List AV) → Prop
  | _, [] => True
  | n, _ :: E => ¬ n ∈ D ∧ newOk D (n + 1) E
omit [LaidW] in
theorem hide_get {D : List Nat} : ∀ {h : Heap} {id : Nat} {c : List AV}, hget (hide D h) id = some c → (id, c) ∈ h ∧ ¬ id ∈ D
  | [], id, c, e => by cases e
  | (k, v) :: r, id, c, e => by
    simp only [hide] at e
    split at e
    · obtain ⟨h1, h2⟩ := hide_get e
      exact ⟨List.mem_cons_of_mem _ h1, h2⟩
    · rename_i hk
      simp only [hget] at e
      split at e
      · rename_i h; subst h; injection e with e; subst e
        exact ⟨List.mem_cons_self, hk⟩
      · obtain ⟨h1, h2⟩ := hide_get e
        exact ⟨List.mem_cons_of_mem _ h1, h2⟩
omit [LaidW] in
theorem newOk_get {D : List Nat} : ∀ {E : List (List AV)} {n k : Nat}, newOk D n E → k < E.length → ¬ n + k ∈ D
  | [], n, k, _, hk => by simp at hk
  | _ :: E, n, 0, h, _ => h.1
  | _ :: E, n, k + 1, h, hk => by
    have := newOk_get (k := k) h.2 (by simpa using hk)
    rwa [show n + 1 + k = n + (k + 1) by omega] at this

/-- an effect touches these places alone -/
def touchL (env : Env) (args : List Operand) (D : List Nat) : Prop :=
  match args with
  | x :: _ => match ev env x with
    | .msl id _ _ _ _ => id ∈ D
    | _ => True
  | [] => True
def touchP (v : AV) (D : List Nat) : Prop :=
  match v with
  | .ptr id _ _ => id ∈ D
  | _ => False
def touchMp (v : AV) (D : List Nat) : Prop :=
  match v with
  | .mp id => id ∈ D
  | _ => False
def touch (env : Env) (op : Op) (D : List Nat) : Prop :=
  match op with
  | .store _ ad _ => touchP (ev env ad) D
  | .call { callee := .builtin .append, args := args, argTypes := _ } => touchL env args.toList D
  | .mapUpdate _ mo _ _ => touchMp (ev env mo) D
  | _ => True

def EF (P : Program) (env : Env) (h : Heap) (n : Nat) (op : Op) (v : AV) (h' : Heap) (n' : Nat) : Prop := EStep P env h n op fun v1 h1 n1 => v1 = v ∧ h1 = h' ∧ n1 = n'

section
variable {P : Program} {env : Env} {h : Heap} {n : Nat}
theorem QF.q {op : Op} {v : AV} {E : List (List AV)} {K : AV → List (List AV) → Prop} (hq : QF P env h n op v E) (hk : K v E) : QStep P env h n op K := by
  rcases hq with ⟨c, h0, hc⟩ | ⟨f, args, tys, g, caps, pvs, res, fr, rfl, hf, hp, ⟨hr, hfr, rfl, rfl⟩ | ⟨E0, v0, hr, rfl, rfl⟩⟩
  · unfold QStep
    split
    · simp [aOp] at h0
    · rw [h0]; exact ⟨hc, hk⟩
  · simp only [QStep, hf, callW, hp]
    exact .inl ⟨res, fr, hr, hfr, hk⟩
  · simp only [QStep, hf, callW, hp]
    exact .inr ⟨E0, v0, hr, hk⟩
theorem EStep.ef {op : Op} {K : AV → Heap → Nat → Prop} (he : EStep P env h n op K) : ∃ v h' n', EF P env h n op v h' n' ∧ K v h' n' := by
  have quiet : ∀ op, QStep P env h n op (fun v E => K v (addE h n E) (n + E.length)) → ∃ v h' n', QStep P env h n op (fun v1 E => v1 = v ∧ addE h n E = h' ∧ n + E.length = n') ∧ K v h' n' := by
    intro op hq
    obtain ⟨v, E, hq, hk⟩ := hq.qf
    exact ⟨v, _, _, hq.q ⟨rfl, rfl, rfl⟩, hk⟩
  unfold EStep at he
  unfold EF EStep
  split at he
  · unfold storeW at he ⊢
    split at he
    · split at he
      · rename_i e
        simp only [e]
        exact ⟨_, _, _, ⟨he.1, rfl, rfl, rfl⟩, he.2⟩
      · exact he.elim
    · exact he.elim
  · unfold appendW at he ⊢
    split at he
    · split at he
      · split at he
        · split at he
          · split at he
            · rename_i e
              simp only [e]
              exact ⟨_, _, _, ⟨he.1, rfl, rfl, rfl⟩, he.2⟩
            · exact he.elim
          · rename_i own k cells es
            cases hcond : (own && decide (k = 0) && cells.isEmpty) with
            | true =>
              rw [hcond] at he
              simp only [cond_true] at he ⊢
              exact ⟨_, _, _, ⟨he.1, rfl, rfl, rfl⟩, he.2⟩
            | false =>
              rw [hcond] at he
              simp only [cond_false] at he ⊢
              split at he
              · exact ⟨_, _, _, ⟨he.1, rfl, rfl, rfl⟩, he.2⟩
              · exact he.elim
          · exact he.elim
        · exact he.elim
      · exact he.elim
    · exact he.elim
  · unfold convW at he ⊢
    split at he
    · exact ⟨_, _, _, ⟨he.1, rfl, rfl, rfl⟩, he.2⟩
    · rename_i hne
      obtain ⟨v, h', n', h1, h2⟩ := quiet _ he
      exact ⟨v, h', n', h1, h2⟩
  · exact ⟨_, _, _, ⟨he.1, rfl, rfl, rfl⟩, he.2⟩
  · unfold setMW at he ⊢
    split at he
    · split at he
      · rename_i e1 e2 e3 e4
        simp only [e1, e2, e3, e4]
        exact ⟨_, _, _, ⟨he.1, rfl, rfl, rfl⟩, he.2⟩
      · exact he.elim
    · exact he.elim
  · exact quiet _ he

omit [LaidW] in
theorem hset_other {id i : Nat} {x c : List AV} (hne : i ≠ id) : ∀ {h : Heap}, (i, c) ∈ h → (i, c) ∈ hset h id x
  | [], hin => by cases hin
  | (k, v) :: r, hin => by
    simp only [hset]
    split
    · rename_i hk
      rcases List.mem_cons.1 hin with e | e
      · injection e with e1 _; omega
      · exact List.mem_cons_of_mem _ e
    · rcases List.mem_cons.1 hin with e | e
      · rw [e]; exact List.mem_cons_self
      · exact List.mem_cons_of_mem _ (hset_other hne e)

theorem EF.keep {op : Op} {v : AV} {h' : Heap} {n' : Nat} {D : List Nat} (he : EF P env h n op v h' n') (ht : touch env op D) {i : Nat} {c : List AV} (hin : (i, c) ∈ h) (hD : ¬ i ∈ D) : (i, c) ∈ h' := by
  have quiet : ∀ op, QStep P env h n op (fun v1 E => v1 = v ∧ addE h n E = h' ∧ n + E.length = n') → (i, c) ∈ h' := by
    intro op hq
    obtain ⟨_, E, _, _, hk, _⟩ := hq.qf
    rw [← hk]
    exact (addE_mem E h n i c).2 (.inl hin)
  unfold EF EStep at he
  split at he
  · unfold storeW at he
    split at he
    · rename_i had
      split at he
      · obtain ⟨_, _, h2, _⟩ := he
        rw [← h2]
        simp only [touch, touchP, had] at ht
        exact hset_other (fun e => hD (by rw [e]; exact ht)) hin
      · exact he.elim
    · exact he.elim
  · unfold appendW at he
    split at he
    · rename_i hargs htys
      split at he
      · split at he
        · split at he
          · rename_i es
            split at he
            · obtain ⟨_, _, h2, _⟩ := he
              rw [← h2]
              simp only [touch, hargs, touchL, es] at ht
              exact hset_other (fun e => hD (by rw [e]; exact ht)) hin
            · exact he.elim
          · rename_i own k cells es
            cases hcond : (own && decide (k = 0) && cells.isEmpty) with
            | true =>
              rw [hcond] at he
              simp only [cond_true] at he
              obtain ⟨_, _, h2, _⟩ := he
              rw [← h2]
              exact List.mem_cons_of_mem _ hin
            | false =>
              rw [hcond] at he
              simp only [cond_false] at he
              split at he
              · obtain ⟨_, _, h2, _⟩ := he
                rw [← h2]; exact hin
              · exact he.elim
          · exact he.elim
        · exact he.elim
      · exact he.elim
    · exact he.elim
  · unfold convW at he
    split at he
    · obtain ⟨_, _, h2, _⟩ := he
      rw [← h2]; exact hin
    · exact quiet _ he
  · obtain ⟨_, _, h2, _⟩ := he
    rw [← h2]
    exact List.mem_cons_of_mem _ hin
  · unfold setMW at he
    split at he
    · rename_i hm
      split at he
      · obtain ⟨_, _, h2, _⟩ := he
        rw [← h2]
        simp only [touch, touchMp, hm] at ht
        exact hset_other (fun e => hD (by rw [e]; exact ht)) hin
      · exact he.elim
    · exact he.elim
  · exact quiet _ he
end

section
variable {P : Program} {ops : Array Oper} {nt : Nat} {e0 : Env} {h0 : Heap} {n0 : Nat}

/-- quiet operations; what each may not look at -/
def aPreS (P : Program) (ops : Array Oper) (nt : Nat) (e0 : Env) (h0 : Heap) (n0 : Nat) : List (Oper × List HS) → Env → Heap → Nat → (Env → Heap → Nat → Prop) → Prop
  | [], e, h, n, K => K e h n
  | (o, d) :: os, e, h, n, K =>
    match wantedA ops e o with
    | some g => dOk nt o.dst ∧ (g = true → QStep P e (hide (hsIds P e0 h0 n0 d) h) n o.op fun v E => newOk (hsIds P e0 h0 n0 d) n E ∧ aPreS P ops nt e0 h0 n0 os (put e o.dst v) (addE h n E) (n + E.length) K) ∧
        (g = false → aPreS P ops nt e0 h0 n0 os (put e o.dst (.tup [])) h n K)
    | none => False
/-- effects, one after the other; what each may touch -/
def aEffS (P : Program) (ops : Array Oper) (nt : Nat) (e0 : Env) (h0 : Heap) (n0 : Nat) : List (Oper × List HS) → Env → Heap → Nat → (Env → Heap → Nat → Prop) → Prop
  | [], e, h, n, K => K e h n
  | (o, d) :: os, e, h, n, K =>
    match wantedA ops e o with
    | some g => dOk nt o.dst ∧ (g = true → touch e o.op (hsIds P e0 h0 n0 d) ∧ EStep P e h n o.op fun v h' n' => aEffS P ops nt e0 h0 n0 os (put e o.dst v) h' n' K) ∧
        (g = false → aEffS P ops nt e0 h0 n0 os (put e o.dst (.tup [])) h n K)
    | none => False

structure TrQ (P : Program) (ops : Array Oper) (nt : Nat) (e0 : Env) (h0 : Heap) (n0 : Nat) (os : List (Oper × List HS)) (e : Env) (h : Heap) (n : Nat) where
  es : Nat → Env
  hs : Nat → Heap
  ns : Nat → Nat
  vs : Nat → AV
  Es : Nat → List (List AV)
  gs : Nat → Bool
  e0' : es 0 = e
  hz : hs 0 = h
  n0' : ns 0 = n
  step : ∀ i o d, os[i]? = some (o, d) → dOk nt o.dst ∧ wantedA ops (es i) o = some (gs i) ∧ es (i + 1) = put (es i) o.dst (vs i) ∧ hs (i + 1) = addE (hs i) (ns i) (Es i) ∧ ns (i + 1) = ns i + (Es i).length ∧
    (gs i = true → QF P (es i) (hide (hsIds P e0 h0 n0 d) (hs i)) (ns i) o.op (vs i) (Es i) ∧ newOk (hsIds P e0 h0 n0 d) (ns i) (Es i)) ∧ (gs i = false → vs i = .tup [] ∧ Es i = [])

theorem aPreS_tr {K : Env → Heap → Nat → Prop} : ∀ (os : List (Oper × List HS)) (e : Env) (h : Heap) (n : Nat), aPreS P ops nt e0 h0 n0 os e h n K → ∃ T : TrQ P ops nt e0 h0 n0 os e h n, K (T.es os.length) (T.hs os.length) (T.ns os.length)
  | [], e, h, n, hk => ⟨⟨fun _ => e, fun _ => h, fun _ => n, fun _ => .tup [], fun _ => [], fun _ => true, rfl, rfl, rfl, fun i o d hi => by simp at hi⟩, hk⟩
  | (o, d) :: os, e, h, n, hk => by
    simp only [aPreS] at hk
    split at hk
    · rename_i g hg
      obtain ⟨hd, h1, h2⟩ := hk
      have main : ∀ (v : AV) (E : List (List AV)), (g = true → QF P e (hide (hsIds P e0 h0 n0 d) h) n o.op v E ∧ newOk (hsIds P e0 h0 n0 d) n E) → (g = false → v = .tup [] ∧ E = []) → aPreS P ops nt e0 h0 n0 os (put e o.dst v) (addE h n E) (n + E.length) K →
          ∃ T : TrQ P ops nt e0 h0 n0 ((o, d) :: os) e h n, K (T.es ((o, d) :: os).length) (T.hs ((o, d) :: os).length) (T.ns ((o, d) :: os).length) := by
        intro v E q1 q2 hr
        obtain ⟨T, hK⟩ := aPreS_tr os _ _ _ hr
        refine ⟨⟨fun i => match i with | 0 => e | i + 1 => T.es i, fun i => match i with | 0 => h | i + 1 => T.hs i, fun i => match i with | 0 => n | i + 1 => T.ns i,
          fun i => match i with | 0 => v | i + 1 => T.vs i, fun i => match i with | 0 => E | i + 1 => T.Es i, fun i => match i with | 0 => g | i + 1 => T.gs i, rfl, rfl, rfl, fun i o' d' hi => ?_⟩, hK⟩
        cases i with
        | zero =>
          simp at hi; obtain ⟨rfl, rfl⟩ := hi
          exact ⟨hd, hg, T.e0', T.hz, T.n0', q1, q2⟩
        | succ i => exact T.step i o' d' (by simpa using hi)
      cases g with
      | true =>
        obtain ⟨v, E, q, hn, hr⟩ := (h1 rfl).qf
        exact main v E (fun _ => ⟨q, hn⟩) (fun h => by cases h) hr
      | false => exact main (.tup []) [] (fun h => by cases h) (fun _ => ⟨rfl, rfl⟩) (h2 rfl)
    · exact hk.elim

structure TrE (P : Program) (ops : Array Oper) (nt : Nat) (e0 : Env) (h0 : Heap) (n0 : Nat) (os : List (Oper × List HS)) (e : Env) (h : Heap) (n : Nat) where
  es : Nat → Env
  hs : Nat → Heap
  ns : Nat → Nat
  vs : Nat → AV
  gs : Nat → Bool
  e0' : es 0 = e
  hz : hs 0 = h
  n0' : ns 0 = n
  step : ∀ i o d, os[i]? = some (o, d) → dOk nt o.dst ∧ wantedA ops (es i) o = some (gs i) ∧ es (i + 1) = put (es i) o.dst (vs i) ∧
    (gs i = true → touch (es i) o.op (hsIds P e0 h0 n0 d) ∧ EF P (es i) (hs i) (ns i) o.op (vs i) (hs (i + 1)) (ns (i + 1))) ∧ (gs i = false → vs i = .tup [] ∧ hs (i + 1) = hs i ∧ ns (i + 1) = ns i)

theorem aEffS_tr {K : Env → Heap → Nat → Prop} : ∀ (os : List (Oper × List HS)) (e : Env) (h : Heap) (n : Nat), aEffS P ops nt e0 h0 n0 os e h n K → ∃ T : TrE P ops nt e0 h0 n0 os e h n, K (T.es os.length) (T.hs os.length) (T.ns os.length)
  | [], e, h, n, hk => ⟨⟨fun _ => e, fun _ => h, fun _ => n, fun _ => .tup [], fun _ => true, rfl, rfl, rfl, fun i o d hi => by simp at hi⟩, hk⟩
  | (o, d) :: os, e, h, n, hk => by
    simp only [aEffS] at hk
    split at hk
    · rename_i g hg
      obtain ⟨hd, h1, h2⟩ := hk
      have main : ∀ (v : AV) (h' : Heap) (n' : Nat), (g = true → touch e o.op (hsIds P e0 h0 n0 d) ∧ EF P e h n o.op v h' n') → (g = false → v = .tup [] ∧ h' = h ∧ n' = n) → aEffS P ops nt e0 h0 n0 os (put e o.dst v) h' n' K →
          ∃ T : TrE P ops nt e0 h0 n0 ((o, d) :: os) e h n, K (T.es ((o, d) :: os).length) (T.hs ((o, d) :: os).length) (T.ns ((o, d) :: os).length) := by
        intro v h' n' q1 q2 hr
        obtain ⟨T, hK⟩ := aEffS_tr os _ _ _ hr
        refine ⟨⟨fun i => match i with | 0 => e | i + 1 => T.es i, fun i => match i with | 0 => h | i + 1 => T.hs i, fun i => match i with | 0 => n | i + 1 => T.ns i,
          fun i => match i with | 0 => v | i + 1 => T.vs i, fun i => match i with | 0 => g | i + 1 => T.gs i, rfl, rfl, rfl, fun i o' d' hi => ?_⟩, hK⟩
        cases i with
        | zero =>
          simp at hi; obtain ⟨rfl, rfl⟩ := hi
          refine ⟨hd, hg, T.e0', fun hg => ?_, fun hg => ?_⟩
          · obtain ⟨h3, h4⟩ := q1 hg
            refine ⟨h3, ?_⟩
            show EF P e h n o.op v (T.hs 0) (T.ns 0)
            rw [T.hz, T.n0']; exact h4
          · obtain ⟨h3, h4, h5⟩ := q2 hg
            exact ⟨h3, T.hz.trans h4, T.n0'.trans h5⟩
        | succ i => exact T.step i o' d' (by simpa using hi)
      cases g with
      | true =>
        obtain ⟨ht, he⟩ := h1 rfl
        obtain ⟨v, h', n', q, hr⟩ := he.ef
        exact main v h' n' (fun _ => ⟨ht, q⟩) (fun h => by cases h) hr
      | false => exact main (.tup []) h n (fun h => by cases h) (fun _ => ⟨rfl, rfl, rfl⟩) (h2 rfl)
    · exact hk.elim

section
variable {os : List (Oper × List HS)} {e : Env} {h : Heap} {n : Nat}

theorem TrQ.ns_mono (T : TrQ P ops nt e0 h0 n0 os e h n) {i j : Nat} (hij : i ≤ j) (hj : j ≤ os.length) : T.ns i ≤ T.ns j := by
  induction j with
  | zero => have : i = 0 := by omega
            subst this; exact Nat.le_refl _
  | succ j ih =>
    by_cases hi : i = j + 1
    · subst hi; exact Nat.le_refl _
    · have := ih (by omega) (by omega)
      have hs := (T.step j os[j].1 os[j].2 (List.getElem?_eq_getElem (by omega))).2.2.2.2.1
      omega
theorem TrQ.hs_sub (T : TrQ P ops nt e0 h0 n0 os e h n) {i j : Nat} (hij : i ≤ j) (hj : j ≤ os.length) {p : Nat × List AV} (hp : p ∈ T.hs i) : p ∈ T.hs j := by
  induction j with
  | zero => have : i = 0 := by omega
            subst this; exact hp
  | succ j ih =>
    by_cases hi : i = j + 1
    · subst hi; exact hp
    · have := ih (by omega) (by omega)
      have hs := (T.step j os[j].1 os[j].2 (List.getElem?_eq_getElem (by omega))).2.2.2.1
      rw [hs]
      exact (addE_mem (T.Es j) (T.hs j) (T.ns j) p.1 p.2).2 (.inl this)

omit [LaidW] in
/-- the environment ahead of operation i: the last one that wrote the slot -/
theorem get_tr (es : Nat → Env) (vs : Nat → AV) (hst : ∀ i o d, os[i]? = some (o, d) → es (i + 1) = put (es i) o.dst (vs i)) (i : Nat) (hi : i ≤ os.length) (t : Nat) :
    (∃ (j : Nat) (o : Oper) (d : List HS), j < i ∧ os[j]? = some (o, d) ∧ o.dst = some t ∧ get (es i) t = vs j) ∨ ((∀ (j : Nat) (o : Oper) (d : List HS), j < i → os[j]? = some (o, d) → o.dst ≠ some t) ∧ get (es i) t = get (es 0) t) := by
  induction i with
  | zero => exact .inr ⟨fun j o d hj => by omega, rfl⟩
  | succ i ih =>
    have hgi : os[i]? = some os[i] := List.getElem?_eq_getElem (by omega)
    have hs := hst i os[i].1 os[i].2 hgi
    rw [hs]
    cases hd : os[i].1.dst with
    | none =>
      simp only [put]
      rcases ih (by omega) with ⟨j, o, d, h1, h2, h3, h4⟩ | ⟨h1, h2⟩
      · exact .inl ⟨j, o, d, by omega, h2, h3, h4⟩
      · refine .inr ⟨fun j o d hj ho => ?_, h2⟩
        by_cases hji : j = i
        · subst hji; rw [hgi] at ho; injection ho with ho; rw [ho] at hd; rw [hd]; simp
        · exact h1 j o d (by omega) ho
    | some d' =>
      simp only [put, get]
      by_cases hdt : d' = t
      · subst hdt
        simp only [if_true]
        exact .inl ⟨i, os[i].1, os[i].2, by omega, hgi, hd, rfl⟩
      · simp only [hdt, if_false]
        rcases ih (by omega) with ⟨j, o, d, h1, h2, h3, h4⟩ | ⟨h1, h2⟩
        · exact .inl ⟨j, o, d, by omega, h2, h3, h4⟩
        · refine .inr ⟨fun j o d hj ho => ?_, h2⟩
          by_cases hji : j = i
          · subst hji; rw [hgi] at ho; injection ho with ho; rw [ho] at hd; rw [hd]; simpa using hdt
          · exact h1 j o d (by omega) ho
end
end

/-! the check -/
def rd (ops : Array Oper) (x t : Nat) : Bool := match ops[x]? with | some o => (opTmps ops o).contains t | none => false
def wr (ops : Array Oper) (x : Nat) (f : Nat → Bool) : Bool := match dstOf ops x with | some t => f t | none => true
def chkS (ops : Array Oper) (qs ss : List Nat) (hid sp : List (List HS)) : Bool :=
  ((List.range ops.size).all fun i => match ops[i]? with
    | some o => o.after.toList.all fun e => !Region.binds .any e || decide (e.on < i)
    | none => true) &&
  ((List.range ops.size).all fun i => qs.contains i || ss.contains i) && ((qs ++ ss).all fun x => decide (x < ops.size)) && decide ((qs ++ ss).Nodup) && decide (hid.length = qs.length) && decide (sp.length = ss.length) &&
  ((List.range qs.length).all fun p => (List.range qs.length).all fun q => wr ops (nth qs q) fun t => !rd ops (nth qs p) t || (decide (q < p) && reach ops 6 (nth qs p) (nth qs q)) || decide (q = p) || (decide (p < q) && reach ops 6 (nth qs q) (nth qs p))) &&
  ((List.range qs.length).all fun p => (List.range ss.length).all fun j => wr ops (nth ss j) fun t => !rd ops (nth qs p) t || reach ops 8 (nth ss j) (nth qs p)) &&
  ((List.range ss.length).all fun j => (List.range qs.length).all fun p => wr ops (nth qs p) fun t => !rd ops (nth ss j) t || reach ops 8 (nth ss j) (nth qs p)) &&
  ((List.range ops.size).all fun i => (List.range ops.size).all fun j => decide (i = j) || wr ops i fun t => decide (dstOf ops j ≠ some t)) &&
  ((List.range ss.length).all fun j => (List.range j).all fun i => reach ops 8 (nth ss j) (nth ss i)) &&
  ((List.range qs.length).all fun p => (List.range ss.length).all fun j => reach ops 8 (nth ss j) (nth qs p) || (nth sp j).all fun s => (nth hid p).contains s)

structure ChkS (ops : Array Oper) (qs ss : List Nat) (hid sp : List (List HS)) : Prop where
  down : ∀ (i : Nat) (o : Oper), ops[i]? = some o → ∀ e ∈ o.after, Region.binds .any e = true → e.on < i
  all : ∀ i, i < ops.size → (∃ p, p < qs.length ∧ nth qs p = i) ∨ (∃ j, j < ss.length ∧ nth ss j = i)
  qlt : ∀ p, p < qs.length → nth qs p < ops.size
  slt : ∀ j, j < ss.length → nth ss j < ops.size
  qinj : ∀ p q, p < qs.length → q < qs.length → nth qs p = nth qs q → p = q
  sinj : ∀ i j, i < ss.length → j < ss.length → nth ss i = nth ss j → i = j
  qne : ∀ p j, p < qs.length → j < ss.length → nth qs p ≠ nth ss j
  hl : hid.length = qs.length
  sl : sp.length = ss.length
  qq : ∀ p q t o, p < qs.length → q < qs.length → dstOf ops (nth qs q) = some t → ops[nth qs p]? = some o → t ∈ opTmps ops o → (q < p ∧ reach ops 6 (nth qs p) (nth qs q) = true) ∨ q = p ∨ (p < q ∧ reach ops 6 (nth qs q) (nth qs p) = true)
  sq : ∀ p j t o, p < qs.length → j < ss.length → dstOf ops (nth ss j) = some t → ops[nth qs p]? = some o → t ∈ opTmps ops o → reach ops 8 (nth ss j) (nth qs p) = true
  qs' : ∀ p j t o, p < qs.length → j < ss.length → dstOf ops (nth qs p) = some t → ops[nth ss j]? = some o → t ∈ opTmps ops o → reach ops 8 (nth ss j) (nth qs p) = true
  once : ∀ i j t, i < ops.size → j < ops.size → i ≠ j → dstOf ops i = some t → dstOf ops j ≠ some t
  chain : ∀ i j, j < ss.length → i < j → reach ops 8 (nth ss j) (nth ss i) = true
  hidden : ∀ p j, p < qs.length → j < ss.length → reach ops 8 (nth ss j) (nth qs p) = true ∨ ∀ s ∈ nth sp j, s ∈ nth hid p

omit [LaidW] in
theorem nth_mem {α : Type} [Inhabited α] {l : List α} {i : Nat} (h : i < l.length) : nth l i ∈ l := by
  simp [nth, List.getD_eq_getElem?_getD, List.getElem?_eq_getElem h]
omit [LaidW] in
theorem nth_get {α : Type} [Inhabited α] {l : List α} {i : Nat} (h : i < l.length) : l[i]? = some (nth l i) := by
  simp [nth, List.getD_eq_getElem?_getD, List.getElem?_eq_getElem h]
omit [LaidW] in
theorem nth_of_mem {α : Type} [Inhabited α] {l : List α} {x : α} (h : x ∈ l) : ∃ i, i < l.length ∧ nth l i = x := by
  obtain ⟨i, hi, rfl⟩ := List.getElem_of_mem h
  exact ⟨i, hi, by simp [nth, List.getD_eq_getElem?_getD, List.getElem?_eq_getElem hi]⟩

omit [LaidW] in
theorem chkS_of {ops : Array Oper} {qs ss : List Nat} {hid sp : List (List HS)} (h : chkS ops qs ss hid sp = true) : ChkS ops qs ss hid sp := by
  simp only [chkS, Bool.and_eq_true, decide_eq_true_eq, List.all_eq_true, List.mem_range, Bool.or_eq_true, List.contains_iff_mem] at h
  obtain ⟨⟨⟨⟨⟨⟨⟨⟨⟨⟨⟨h1, h2⟩, h3⟩, h4⟩, h5⟩, h6⟩, h7⟩, h8⟩, h9⟩, h10⟩, h11⟩, h12⟩ := h
  have hnd := List.nodup_append.1 h4
  have hinj : ∀ {l : List Nat}, l.Nodup → ∀ p q, p < l.length → q < l.length → nth l p = nth l q → p = q := by
    intro l hl p q hp hq he
    have h1 := nth_get hp
    have h2 := nth_get hq
    rw [he] at h1
    rw [List.getElem?_eq_getElem hp] at h1
    rw [List.getElem?_eq_getElem hq] at h2
    have h3 : l[p] = l[q] := (Option.some.inj h1).trans (Option.some.inj h2).symm
    have h4 := List.pairwise_iff_getElem.1 hl
    rcases Nat.lt_trichotomy p q with h | h | h
    · exact absurd h3 (h4 p q hp hq h)
    · exact h
    · exact absurd h3.symm (h4 q p hq hp h)
  have hrd : ∀ x t o, ops[x]? = some o → t ∈ opTmps ops o → rd ops x t = true := by
    intro x t o ho ht
    simp only [rd, ho, List.contains_iff_mem]; exact ht
  have hwr : ∀ x t f, dstOf ops x = some t → wr ops x f = true → f t = true := by
    intro x t f hd hw
    simpa only [wr, hd] using hw
  refine ⟨fun i o ho e hin hb => ?_, fun i hi => ?_, fun p hp => ?_, fun j hj => ?_, hinj hnd.1, hinj hnd.2.1, fun p j hp hj => ?_, h5, h6, fun p q t o hp hq hd ho ht => ?_, fun p j t o hp hj hd ho ht => ?_, fun p j t o hp hj hd ho ht => ?_, fun i j t hi hj hne hd => ?_, fun i j hj hi => ?_, fun p j hp hj => ?_⟩
  · have hlt := (Array.getElem?_eq_some_iff.1 ho).1
    have := h1 i hlt
    simp only [ho, List.all_eq_true] at this
    have := this e (Array.mem_toList_iff.2 hin)
    simpa [hb] using this
  · rcases h2 i hi with h | h
    · exact .inl (nth_of_mem h)
    · exact .inr (nth_of_mem h)
  · exact h3 _ (List.mem_append.2 (.inl (nth_mem hp)))
  · exact h3 _ (List.mem_append.2 (.inr (nth_mem hj)))
  · exact hnd.2.2 _ (nth_mem hp) _ (nth_mem hj)
  · have := hwr _ _ _ hd (h7 p hp q hq)
    rw [hrd _ _ _ ho ht] at this
    simp only [Bool.not_true, Bool.false_or, Bool.or_eq_true, Bool.and_eq_true, decide_eq_true_eq] at this
    rcases this with (h | h) | h
    · exact .inl h
    · exact .inr (.inl h)
    · exact .inr (.inr h)
  · have := hwr _ _ _ hd (h8 p hp j hj)
    rw [hrd _ _ _ ho ht] at this
    simpa using this
  · have := hwr _ _ _ hd (h9 j hj p hp)
    rw [hrd _ _ _ ho ht] at this
    simpa using this
  · rcases h10 i hi j hj with h | h
    · exact absurd h hne
    · simpa using hwr _ _ _ hd h
  · exact h11 j hj i hi
  · rcases h12 p hp j hj with h | h
    · exact .inl h
    · exact .inr h

section
variable {P : Program} {ops : Array Oper} {nt : Nat} {qs ss : List Nat} {hid sp : List (List HS)} {e : Env} {h : Heap} {n : Nat}

def opLn : List Oper → Nat → Oper
  | [], _ => ⟨none, .move (.func 0), 0, "", #[], none⟩
  | o :: _, 0 => o
  | _ :: r, k + 1 => opLn r k
def opAt (ops : Array Oper) (i : Nat) : Oper := opLn ops.toList i
def opL (ops : Array Oper) : List Nat → List (List HS) → List (Oper × List HS)
  | i :: l, d :: ds => (opAt ops i, d) :: opL ops l ds
  | _, _ => []
omit [LaidW] in
theorem opLn_get : ∀ (l : List Oper) (i : Nat) (o : Oper), l[i]? = some o → opLn l i = o
  | [], i, o, h => by simp at h
  | x :: r, 0, o, h => by simpa [opLn] using h
  | x :: r, i + 1, o, h => opLn_get r i o (by simpa using h)
omit [LaidW] in
theorem opL_len : ∀ {l : List Nat} {d : List (List HS)}, d.length = l.length → (opL ops l d).length = l.length
  | [], [], _ => rfl
  | i :: l, d :: ds, h => by simp [opL, opL_len (l := l) (d := ds) (by simpa using h)]
  | [], _ :: _, h => by simp at h
  | _ :: _, [], h => by simp at h
omit [LaidW] in
theorem opL_get : ∀ {l : List Nat} {d : List (List HS)}, d.length = l.length → ∀ {i : Nat} {o : Oper}, i < l.length → ops[nth l i]? = some o → (opL ops l d)[i]? = some (o, nth d i)
  | [], _, _, i, o, hi, _ => by simp at hi
  | _ :: _, [], h, _, _, _, _ => by simp at h
  | x :: l, d :: ds, h, 0, o, hi, ho => by
    simp only [opL, List.getElem?_cons_zero, nth_zero] at ho ⊢
    rw [show opAt ops x = o from opLn_get _ _ _ (by rw [Array.getElem?_toList]; exact ho)]
  | x :: l, d :: ds, h, i + 1, o, hi, ho => by
    simp only [opL, List.getElem?_cons_succ, nth_succ] at ho ⊢
    exact opL_get (by simpa using h) (by simpa using hi) ho

/-- some of the operations have been run: quiet ones, and the first j effects -/
structure SInv (P : Program) (ops : Array Oper) (nt : Nat) (qs ss : List Nat) (hid sp : List (List HS)) (e : Env) (h : Heap) (n : Nat) (T : TrQ P ops nt e h n (opL ops qs hid) e h n)
    (E : TrE P ops nt e h n (opL ops ss sp) (T.es qs.length) (T.hs qs.length) (T.ns qs.length)) (B : Base) (w0 : Ctx fk) (listed : Array Bool) (j : Nat) (a : Act) (w : World) (m : Mm) : Prop where
  base : B.n = w0.w.heap.size
  below : Below B.n w0.w w
  defers : a.defers = marks w0.ds
  size : a.tmps.size = nt
  heap : Sim0 B (E.hs j) m w
  ids : ∀ id c, (id, c) ∈ E.hs j → id < E.ns j
  mono : T.ns qs.length ≤ E.ns j
  dom : ∀ id, m.dom id ↔ id < n ∨ (∃ p, p < qs.length ∧ listed.getD (nth qs p) false = true ∧ T.ns p ≤ id ∧ id < T.ns p + (T.Es p).length) ∨ (T.ns qs.length ≤ id ∧ id < E.ns j)
  done : ∀ p t, p < qs.length → listed.getD (nth qs p) false = true → dstOf ops (nth qs p) = some t → RepA B (LB m (E.hs j)) m w (T.vs p) (a.tmps.getD t undef)
  doneE : ∀ i t, i < j → dstOf ops (nth ss i) = some t → RepA B (LB m (E.hs j)) m w (E.vs i) (a.tmps.getD t undef)
  old : ∀ t, (∀ p, p < qs.length → listed.getD (nth qs p) false = true → dstOf ops (nth qs p) ≠ some t) → (∀ i, i < j → dstOf ops (nth ss i) ≠ some t) → RepA B (LB m (E.hs j)) m w (get e t) (a.tmps.getD t undef)
  lst : ∀ i, i < ss.length → (listed.getD (nth ss i) false = true ↔ i < j)
  jl : j ≤ ss.length
  fr : FrOk B w0 (LB m (E.hs j)) m w n

variable {T : TrQ P ops nt e h n (opL ops qs hid) e h n} {E : TrE P ops nt e h n (opL ops ss sp) (T.es qs.length) (T.hs qs.length) (T.ns qs.length)} {B : Base} {w0 : Ctx fk} {listed : Array Bool} {j : Nat} {a : Act} {w : World} {m : Mm}

omit [LaidW] in
theorem closed_reach (hcl : Closed ops listed) {f i k : Nat} (hi : i < ops.size) (hl : listed.getD i false = true) (hr : reach ops f i k = true) : listed.getD k false = true :=
  reach_listed hcl f i k ops[i] (Array.getElem?_eq_getElem hi) (fun e hin hb => hcl i _ (Array.getElem?_eq_getElem hi) hl e hin hb) hr

omit [LaidW] in
theorem dst_eq {x : Nat} {o : Oper} (ho : ops[x]? = some o) : dstOf ops x = o.dst := by simp [dstOf, ho]
omit [LaidW] in
theorem opL_inv {l : List Nat} {d : List (List HS)} (hl : d.length = l.length) (hb : ∀ i, i < l.length → nth l i < ops.size) {i : Nat} {o : Oper} {x : List HS} (ho : (opL ops l d)[i]? = some (o, x)) : i < l.length ∧ ops[nth l i]? = some o ∧ x = nth d i := by
  have hi : i < l.length := by have := (List.getElem?_eq_some_iff.1 ho).1; rwa [opL_len hl] at this
  have h1 := opL_get (d := d) hl hi (Array.getElem?_eq_getElem (hb i hi))
  rw [h1] at ho; injection ho with ho; injection ho with h2 h3
  exact ⟨hi, by rw [← h2]; exact Array.getElem?_eq_getElem _, h3.symm⟩

/-- a slot that quiet operation p reads -/
theorem SInv.qslot (hp : SInv P ops nt qs ss hid sp e h n T E B w0 listed j a w m) (hc : ChkS ops qs ss hid sp) (hcl : Closed ops listed) {p : Nat} {o : Oper} (hpl : p < qs.length) (ho : ops[nth qs p]? = some o) (hun : listed.getD (nth qs p) false = false)
    (he : ∀ e ∈ o.after, Region.binds .any e = true → listed.getD e.on false = true) {t : Nat} (ht : t ∈ opTmps ops o) : RepA B (LB m (E.hs j)) m w (get (T.es p) t) (a.tmps.getD t undef) := by
  rcases get_tr T.es T.vs (fun i o d hi => (T.step i o d hi).2.2.1) p (by rw [opL_len hc.hl]; omega) t with ⟨q, oq, d, h1, h2, h3, h4⟩ | ⟨h1, h2⟩
  · obtain ⟨hq, hoq, _⟩ := opL_inv hc.hl hc.qlt h2
    have hd : dstOf ops (nth qs q) = some t := by rw [dst_eq hoq]; exact h3
    rw [h4]
    rcases hc.qq p q t o hpl hq hd ho ht with ⟨_, h⟩ | h | ⟨h, _⟩
    · exact hp.done q t hq (reach_listed hcl 6 _ _ o ho he h) hd
    · omega
    · omega
  · rw [h2, T.e0']
    refine hp.old t (fun q hq hl hd => ?_) (fun i hi hd => ?_)
    · rcases hc.qq p q t o hpl hq hd ho ht with ⟨h, _⟩ | h | ⟨_, h⟩
      · have hoq := Array.getElem?_eq_getElem (hc.qlt q hq)
        exact h1 q _ _ h (opL_get hc.hl hq hoq) (by rw [← dst_eq hoq]; exact hd)
      · subst h; rw [hun] at hl; cases hl
      · have := closed_reach hcl (hc.qlt q hq) hl h
        rw [hun] at this; cases this
    · have hil : i < ss.length := Nat.lt_of_lt_of_le hi hp.jl
      have := closed_reach hcl (hc.slt i hil) ((hp.lst i hil).2 hi) (hc.sq p i t o hpl hil hd ho ht)
      rw [hun] at this; cases this
/-- a slot that the next effect reads -/
theorem SInv.eslot (hp : SInv P ops nt qs ss hid sp e h n T E B w0 listed j a w m) (hc : ChkS ops qs ss hid sp) (hcl : Closed ops listed) {o : Oper} (hjl : j < ss.length) (ho : ops[nth ss j]? = some o)
    (he : ∀ e ∈ o.after, Region.binds .any e = true → listed.getD e.on false = true) {t : Nat} (ht : t ∈ opTmps ops o) : RepA B (LB m (E.hs j)) m w (get (E.es j) t) (a.tmps.getD t undef) := by
  rcases get_tr E.es E.vs (fun i o d hi => (E.step i o d hi).2.2.1) j (by rw [opL_len hc.sl]; omega) t with ⟨q, oq, d, h1, h2, h3, h4⟩ | ⟨h1, h2⟩
  · obtain ⟨hq, hoq, _⟩ := opL_inv hc.sl hc.slt h2
    rw [h4]
    exact hp.doneE q t h1 (by rw [dst_eq hoq]; exact h3)
  · rw [h2, E.e0']
    have hno : ∀ i, i < j → dstOf ops (nth ss i) ≠ some t := fun i hi hd => by
      have hil : i < ss.length := Nat.lt_of_lt_of_le hi hp.jl
      have hoi := Array.getElem?_eq_getElem (hc.slt i hil)
      exact h1 i _ _ hi (opL_get hc.sl hil hoi) (by rw [← dst_eq hoi]; exact hd)
    rcases get_tr T.es T.vs (fun i o d hi => (T.step i o d hi).2.2.1) qs.length (by rw [opL_len hc.hl]; omega) t with ⟨q, oq, d, h1, h2, h3, h4⟩ | ⟨h1, h2⟩
    · obtain ⟨hq, hoq, _⟩ := opL_inv hc.hl hc.qlt h2
      have hd : dstOf ops (nth qs q) = some t := by rw [dst_eq hoq]; exact h3
      rw [h4]
      exact hp.done q t hq (reach_listed hcl 8 _ _ o ho he (hc.qs' q j t o hq hjl hd ho ht)) hd
    · rw [h2, T.e0']
      refine hp.old t (fun q hq hl hd => ?_) hno
      have hoq := Array.getElem?_eq_getElem (hc.qlt q hq)
      exact h1 q _ _ hq (opL_get hc.hl hq hoq) (by rw [← dst_eq hoq]; exact hd)

/-- what no effect has touched is as it was -/
theorem SInv.frame (hp : SInv P ops nt qs ss hid sp e h n T E B w0 listed j a w m) (hc : ChkS ops qs ss hid sp) {id : Nat} {c : List AV} (hin : (id, c) ∈ T.hs qs.length) : ∀ i, i ≤ j → (∀ k, k < i → ¬ id ∈ hsIds P e h n (nth sp k)) → (id, c) ∈ E.hs i
  | 0, _, _ => by rw [E.hz]; exact hin
  | i + 1, hi, hno => by
    have h1 := SInv.frame hp hc hin i (by omega) (fun k hk => hno k (by omega))
    have hil : i < ss.length := Nat.lt_of_lt_of_le (by omega) hp.jl
    have hoi := Array.getElem?_eq_getElem (hc.slt i hil)
    obtain ⟨_, _, _, h2, h3⟩ := E.step i _ _ (opL_get hc.sl hil hoi)
    cases hg : E.gs i with
    | true => exact (h2 hg).2.keep (h2 hg).1 h1 (hno i (by omega))
    | false => rw [(h3 hg).2.1]; exact h1

/-- what is hidden of quiet operation p: all that effects have touched that are done -/
theorem SInv.hid_mem (hp : SInv P ops nt qs ss hid sp e h n T E B w0 listed j a w m) (hc : ChkS ops qs ss hid sp) (hcl : Closed ops listed) {p : Nat} (hpl : p < qs.length) (hun : listed.getD (nth qs p) false = false) {id : Nat}
    (hno : ¬ id ∈ hsIds P e h n (nth hid p)) : ∀ k, k < j → ¬ id ∈ hsIds P e h n (nth sp k) := by
  intro k hk hin
  have hkl : k < ss.length := Nat.lt_of_lt_of_le hk hp.jl
  rcases hc.hidden p k hpl hkl with h | h
  · have := closed_reach hcl (hc.slt k hkl) ((hp.lst k hkl).2 hk) h
    rw [hun] at this; cases this
  · obtain ⟨s, hs, hin⟩ := List.mem_flatMap.1 hin
    exact hno (List.mem_flatMap.2 ⟨s, h s hs, hin⟩)

omit [LaidW] in
theorem set_get {i k : Nat} (hi : i < listed.size) : (listed.setIfInBounds i true).getD k false = if i = k then true else listed.getD k false := by
  by_cases h : i = k
  · subst h
    rw [if_pos rfl, Array.getD_eq_getD_getElem?, Array.getElem?_setIfInBounds]
    simp [hi]
  · rw [if_neg h]; exact getD_set_ne false h

theorem SInv.qnext (hp : SInv P ops nt qs ss hid sp e h n T E B w0 listed j a w m) (hc : ChkS ops qs ss hid sp) {p : Nat} {o : Oper} (hpl : p < qs.length) (ho : ops[nth qs p]? = some o) (hf : listed[nth qs p]? = some false)
    {v' : Value} {w' : World} {m' : Mm} (hdk : dOk nt o.dst) (hpo : Post B (E.hs j) m w (T.ns p) (T.Es p).length (T.vs p) v' w' m') : SInv P ops nt qs ss hid sp e h n T E B w0 (listed.setIfInBounds (nth qs p) true) j (a.put o.dst v') w' m' := by
  obtain ⟨p1, p2, p3, p4, p5, p6⟩ := hpo
  have hB : B.n ≤ w.heap.size := by have := hp.below.size; have := hp.base; omega
  have hO : LaidW.ok w := LaidW.keep w0.ok (by have := hp.below; rw [hp.base] at this; exact this)
  have hmono : ∀ p v, RepA B (LB m (E.hs j)) m w p v → RepA B (LB m' (E.hs j)) m' w' p v := fun p v hr => hr.mono p1 (fun b hb hn hl => by
    rcases p5 b hl with h1 | h1
    · exact hn h1
    · omega) (fun b hb _ => p3.block b hb)
  have hsz := (Array.getElem?_eq_some_iff.1 hf).1
  have hdi : dstOf ops (nth qs p) = o.dst := dst_eq ho
  have hsd : dOk a.tmps.size o.dst := by rw [hp.size]; exact hdk
  have hlf : listed.getD (nth qs p) false = false := by rw [Array.getD_eq_getD_getElem?, hf]; rfl
  have hset : ∀ k, (listed.setIfInBounds (nth qs p) true).getD k false = if nth qs p = k then true else listed.getD k false := fun k => set_get hsz
  have hqx : ∀ q, q < qs.length → (nth qs p = nth qs q ↔ q = p) := fun q hq => ⟨fun h => (hc.qinj p q hpl hq h).symm, fun h => by rw [h]⟩
  refine ⟨hp.base, hp.below.trans (p3.mono hB), by rw [put_defers]; exact hp.defers, by rw [put_size]; exact hp.size, p4, hp.ids, hp.mono, fun id => ?_, fun q t hq hl hd => ?_, fun i t hi hd => ?_, fun t hq hi => ?_, fun i hi => ?_, hp.jl, hp.fr.mono p1 (fun b hb hn hl => by
    rcases p5 b hl with h1 | h1
    · exact hn h1
    · omega) (fun b hb _ => p3.block b hb) (Nat.le_refl _)⟩
  · rw [p2, hp.dom]
    constructor
    · rintro ((h1 | ⟨q, h2, h3, h4⟩ | h1) | h1)
      · exact .inl h1
      · exact .inr (.inl ⟨q, h2, by rw [hset]; split <;> simp_all, h4⟩)
      · exact .inr (.inr h1)
      · exact .inr (.inl ⟨p, hpl, by rw [hset, if_pos rfl], h1⟩)
    · rintro (h1 | ⟨q, h2, h3, h4⟩ | h1)
      · exact .inl (.inl h1)
      · by_cases hqp : q = p
        · subst hqp; exact .inr h4
        · rw [hset, if_neg (fun h => hqp ((hqx q h2).1 h))] at h3
          exact .inl (.inr (.inl ⟨q, h2, h3, h4⟩))
      · exact .inl (.inr (.inr h1))
  · rw [get_put_val hsd]
    by_cases hqp : q = p
    · subst hqp
      rw [hdi] at hd
      rw [if_pos hd]
      exact p6
    · have hne : nth qs p ≠ nth qs q := fun h => hqp ((hqx q hq).1 h)
      rw [hset, if_neg hne] at hl
      have : o.dst ≠ some t := fun hot => hc.once _ _ t (hc.qlt p hpl) (hc.qlt q hq) hne (by rw [hdi]; exact hot) hd
      rw [if_neg this]
      exact hmono _ _ (hp.done q t hq hl hd)
  · rw [get_put_val hsd]
    have hil : i < ss.length := Nat.lt_of_lt_of_le hi hp.jl
    have : o.dst ≠ some t := fun hot => hc.once _ _ t (hc.qlt p hpl) (hc.slt i hil) (hc.qne p i hpl hil) (by rw [hdi]; exact hot) hd
    rw [if_neg this]
    exact hmono _ _ (hp.doneE i t hi hd)
  · rw [get_put_val hsd]
    have h1 := hq p hpl (by rw [hset, if_pos rfl])
    rw [hdi] at h1
    rw [if_neg h1]
    refine hmono _ _ (hp.old t (fun q hql hl => hq q hql ?_) hi)
    rw [hset]; split <;> simp_all
  · rw [hset, if_neg (hc.qne p i hpl hi)]
    exact hp.lst i hi

theorem SInv.enext (hp : SInv P ops nt qs ss hid sp e h n T E B w0 listed j a w m) (hc : ChkS ops qs ss hid sp) {o : Oper} (hjl : j < ss.length) (ho : ops[nth ss j]? = some o) (hf : listed[nth ss j]? = some false)
    {v' : Value} {w' : World} {m' : Mm} (hdk : dOk nt o.dst) (hids : ∀ id c, (id, c) ∈ E.hs (j + 1) → id < E.ns (j + 1)) (hmon : E.ns j ≤ E.ns (j + 1)) (hpo : EPost B (E.hs j) m w (E.ns j) (E.hs (j + 1)) (E.ns (j + 1)) (E.vs j) v' w' m') :
    SInv P ops nt qs ss hid sp e h n T E B w0 (listed.setIfInBounds (nth ss j) true) (j + 1) (a.put o.dst v') w' m' := by
  obtain ⟨p1, p2, p3, p4, p5, p6, p7⟩ := hpo
  have hmono : ∀ p v, RepA B (LB m (E.hs j)) m w p v → RepA B (LB m' (E.hs (j + 1))) m' w' p v := fun p v hr => hr.mono p1 p5 p6
  have hsz := (Array.getElem?_eq_some_iff.1 hf).1
  have hdi : dstOf ops (nth ss j) = o.dst := dst_eq ho
  have hsd : dOk a.tmps.size o.dst := by rw [hp.size]; exact hdk
  have hset : ∀ k, (listed.setIfInBounds (nth ss j) true).getD k false = if nth ss j = k then true else listed.getD k false := fun k => set_get hsz
  have hqn : ∀ q, q < qs.length → nth ss j ≠ nth qs q := fun q hq h => hc.qne q j hq hjl h.symm
  refine ⟨hp.base, hp.below.trans p3, by rw [put_defers]; exact hp.defers, by rw [put_size]; exact hp.size, p4, hids, Nat.le_trans hp.mono hmon, fun id => ?_, fun q t hq hl hd => ?_, fun i t hi hd => ?_, fun t hq hi => ?_, fun i hi => ?_, by omega, hp.fr.mono p1 p5 p6 (Nat.le_refl _)⟩
  · rw [p2, hp.dom]
    have hmn := hp.mono
    constructor
    · rintro ((h1 | ⟨q, h2, h3, h4⟩ | h1) | h1)
      · exact .inl h1
      · exact .inr (.inl ⟨q, h2, by rw [hset, if_neg (hqn q h2)]; exact h3, h4⟩)
      · exact .inr (.inr ⟨h1.1, by omega⟩)
      · exact .inr (.inr ⟨by omega, h1.2⟩)
    · rintro (h1 | ⟨q, h2, h3, h4⟩ | h1)
      · exact .inl (.inl h1)
      · rw [hset, if_neg (hqn q h2)] at h3
        exact .inl (.inr (.inl ⟨q, h2, h3, h4⟩))
      · by_cases h2 : id < E.ns j
        · exact .inl (.inr (.inr ⟨h1.1, h2⟩))
        · exact .inr ⟨by omega, h1.2⟩
  · rw [get_put_val hsd]
    rw [hset, if_neg (hqn q hq)] at hl
    have : o.dst ≠ some t := fun hot => hc.once _ _ t (hc.slt j hjl) (hc.qlt q hq) (hqn q hq) (by rw [hdi]; exact hot) hd
    rw [if_neg this]
    exact hmono _ _ (hp.done q t hq hl hd)
  · rw [get_put_val hsd]
    by_cases hij : i = j
    · subst hij
      rw [hdi] at hd
      rw [if_pos hd]; exact p7
    · have hil : i < ss.length := by omega
      have hne : nth ss j ≠ nth ss i := fun h => hij (hc.sinj j i hjl hil h).symm
      have : o.dst ≠ some t := fun hot => hc.once _ _ t (hc.slt j hjl) (hc.slt i hil) hne (by rw [hdi]; exact hot) hd
      rw [if_neg this]
      exact hmono _ _ (hp.doneE i t (by omega) hd)
  · rw [get_put_val hsd]
    have h1 := hi j (by omega)
    rw [hdi] at h1
    rw [if_neg h1]
    exact hmono _ _ (hp.old t (fun q hql hl => hq q hql (by rw [hset, if_neg (hqn q hql)]; exact hl)) (fun i hi' => hi i (by omega)))
  · rw [hset]
    split
    · rename_i heq
      have := hc.sinj j i hjl hi heq
      simp; omega
    · rename_i hne
      rw [hp.lst i hi]
      have : i ≠ j := by rintro rfl; exact hne rfl
      omega

theorem sS_sound (hc : ChkS ops qs ss hid sp) {K : Exit → St → Prop} (hK : K .normal ⟨E.es ss.length, E.hs ss.length, E.ns ss.length, nt⟩) :
    ∀ (f : Nat) (listed : Array Bool) (j : Nat) (a : Act) (w : World) (m : Mm), listed.size = ops.size → Closed ops listed → open_ listed ≤ f → SInv P ops nt qs ss hid sp e h n T E B w0 listed j a w m →
      wpAnyIn (Fe w0.r) 0 P .any ops (fun e a w => ∃ st' m', K e st' ∧ Sim B w0 st' a w m') f listed a w := by
  -- at the end
  have last : ∀ (listed : Array Bool) (j : Nat) (a : Act) (w : World) (m : Mm), (∀ i, i < ops.size → listed.getD i false = true) → SInv P ops nt qs ss hid sp e h n T E B w0 listed j a w m → ∃ st' m', K .normal st' ∧ Sim B w0 st' a w m' := by
    intro listed j a w m hall hp
    have hj : j = ss.length := by
      have := hp.jl
      rcases Nat.lt_or_ge j ss.length with h1 | h1
      · have := (hp.lst j h1).1 (hall _ (hc.slt j h1)); omega
      · omega
    subst hj
    refine ⟨_, m, hK, hp.base, hp.below, hp.defers, hp.size, fun t => ?_, hp.heap, fun id => ?_, hp.ids, hp.fr.mono (Mm.le.refl m) (fun _ _ h => h) (fun _ _ _ => rfl) (by have h1 := T.ns_mono (i := 0) (j := qs.length) (by omega) (by rw [opL_len hc.hl]; omega); rw [T.n0'] at h1; exact Nat.le_trans h1 hp.mono)⟩
    · show RepA _ _ _ _ (get (E.es ss.length) t) _
      rcases get_tr E.es E.vs (fun i o d hi => (E.step i o d hi).2.2.1) ss.length (by rw [opL_len hc.sl]; omega) t with ⟨q, oq, d, h1, h2, h3, h4⟩ | ⟨h1, h2⟩
      · obtain ⟨hq, hoq, _⟩ := opL_inv hc.sl hc.slt h2
        rw [h4]
        exact hp.doneE q t h1 (by rw [dst_eq hoq]; exact h3)
      · rw [h2, E.e0']
        have hno : ∀ i, i < ss.length → dstOf ops (nth ss i) ≠ some t := fun i hi hd => by
          have hoi := Array.getElem?_eq_getElem (hc.slt i hi)
          exact h1 i _ _ hi (opL_get hc.sl hi hoi) (by rw [← dst_eq hoi]; exact hd)
        rcases get_tr T.es T.vs (fun i o d hi => (T.step i o d hi).2.2.1) qs.length (by rw [opL_len hc.hl]; omega) t with ⟨q, oq, d, h1, h2, h3, h4⟩ | ⟨h1, h2⟩
        · obtain ⟨hq, hoq, _⟩ := opL_inv hc.hl hc.qlt h2
          rw [h4]
          exact hp.done q t hq (hall _ (hc.qlt q hq)) (by rw [dst_eq hoq]; exact h3)
        · rw [h2, T.e0']
          refine hp.old t (fun q hq hl hd => ?_) hno
          have hoq := Array.getElem?_eq_getElem (hc.qlt q hq)
          exact h1 q _ _ hq (opL_get hc.hl hq hoq) (by rw [← dst_eq hoq]; exact hd)
    · rw [hp.dom]
      show _ ↔ id < E.ns ss.length
      have hsteps : ∀ i, i ≤ qs.length → (id < T.ns i ↔ id < n ∨ ∃ j, j < i ∧ T.ns j ≤ id ∧ id < T.ns j + (T.Es j).length) := by
        intro i
        induction i with
        | zero => intro _; rw [T.n0']; constructor
                  · exact .inl
                  · rintro (h | ⟨j, h, _⟩)
                    · exact h
                    · omega
        | succ i ih =>
          intro hi
          have hoi := Array.getElem?_eq_getElem (hc.qlt i (by omega))
          have hst := (T.step i _ _ (opL_get hc.hl (by omega) hoi)).2.2.2.2.1
          rw [hst]
          constructor
          · intro h1
            rcases Nat.lt_or_ge id (T.ns i) with h2 | h2
            · rcases (ih (by omega)).1 h2 with h3 | ⟨j, h3, h4⟩
              · exact .inl h3
              · exact .inr ⟨j, by omega, h4⟩
            · exact .inr ⟨i, by omega, h2, h1⟩
          · rintro (h1 | ⟨j, h1, h2, h3⟩)
            · have := (ih (by omega)).2 (.inl h1); omega
            · by_cases hji : j = i
              · subst hji; exact h3
              · have := (ih (by omega)).2 (.inr ⟨j, by omega, h2, h3⟩); omega
      have h1 := hsteps qs.length (Nat.le_refl _)
      have h2 := hp.mono
      constructor
      · rintro (h3 | ⟨p, h3, _, h4⟩ | h3)
        · have := h1.2 (.inl h3); omega
        · have := h1.2 (.inr ⟨p, h3, h4⟩); omega
        · exact h3.2
      · intro h3
        rcases Nat.lt_or_ge id (T.ns qs.length) with h4 | h4
        · rcases h1.1 h4 with h5 | ⟨p, h5, h6⟩
          · exact .inl h5
          · exact .inr (.inl ⟨p, h5, hall _ (hc.qlt p h5), h6⟩)
        · exact .inr (.inr ⟨h4, h3⟩)
  have noready : ∀ (listed : Array Bool), listed.size = ops.size → (∀ i, i < ops.size → listed.getD i false = true) → Region.ready .any ops listed = [] := by
    intro listed hsz hall
    cases hr : Region.ready .any ops listed with
    | nil => rfl
    | cons x xs =>
      obtain ⟨o, ho, hf, _⟩ := ready_false hsz (i := x) (by rw [hr]; simp)
      have := hall x (Array.getElem?_eq_some_iff.1 ho).1
      rw [Array.getD_eq_getD_getElem?, hf] at this; cases this
  intro f
  induction f with
  | zero =>
    intro listed j a w m hsz hcl hop hp
    have hall : ∀ i, i < ops.size → listed.getD i false = true := fun i hi => open_zero (Nat.le_zero.1 hop) (by omega)
    exact ⟨noready listed hsz hall, last listed j a w m hall hp⟩
  | succ f ih =>
    intro listed j a w m hsz hcl hop hp
    refine ⟨fun hnil => ?_, fun x hx => ?_⟩
    · refine last listed j a w m (fun i hi => ?_) hp
      cases hq : listed.getD i false with
      | true => rfl
      | false => exact absurd hnil (some_ready hsz hc.down i hi hq)
    · obtain ⟨o, ho, hf, he⟩ := ready_false hsz hx
      have hxs := (Array.getElem?_eq_some_iff.1 ho).1
      have hlf : listed.getD x false = false := by rw [Array.getD_eq_getD_getElem?, hf]; rfl
      have hB : B.n ≤ w.heap.size := by have := hp.below.size; have := hp.base; omega
      have hO : LaidW.ok w := LaidW.keep w0.ok (by have := hp.below; rw [hp.base] at this; exact this)
      have hop' : open_ (listed.setIfInBounds x true) ≤ f := by have := open_set hf; omega
      rcases hc.all x hxs with ⟨p, hpl, rfl⟩ | ⟨i, hil, rfl⟩
      · obtain ⟨hdk, hw, _, _, _, hq1, hq2⟩ := T.step p o _ (opL_get hc.hl hpl ho)
        have hnext : ∀ v' w' m', Post B (E.hs j) m w (T.ns p) (T.Es p).length (T.vs p) v' w' m' → wpAnyIn (Fe w0.r) 0 P .any ops (fun e a w => ∃ st' m', K e st' ∧ Sim B w0 st' a w m') f (listed.setIfInBounds (nth qs p) true) (a.put o.dst v') w' := by
          intro v' w' m' hpost
          exact ih _ j _ w' m' (by simpa using hsz) (hcl.set ho he) hop' (hp.qnext hc hpl ho hf hdk hpost)
        have hlen := opL_len (ops := ops) hc.hl
        unfold wpOpIn
        rw [ho]
        simp only [wanted_slot hw (fun t ht => hp.qslot hc hcl hpl ho hlf he ht)]
        cases hg : T.gs p with
        | true =>
          simp only [if_true]
          obtain ⟨hq3, hq4⟩ := hq1 hg
          refine wpIn_of_wp (qf_nd hq3) (hq3.sound o hO hp.heap hB (fun id cs hl => ?_) (fun q cs hl => ?_) (fun q hq hd => ?_) (fun y hy => ?_) _ _ (fun v' w' m' hpost => hnext v' w' m' hpost))
          · obtain ⟨h1, h2⟩ := hide_get hl
            exact hp.frame hc (T.hs_sub (i := p) (by omega) (by omega) h1) j (Nat.le_refl _) (hp.hid_mem hc hcl hpl hlf h2)
          · have hql := (List.getElem?_eq_some_iff.1 hl).1
            refine hp.frame hc (T.hs_sub (i := p + 1) (by omega) (by omega) ?_) j (Nat.le_refl _) (hp.hid_mem hc hcl hpl hlf (newOk_get hq4 hql))
            rw [(T.step p o _ (opL_get hc.hl hpl ho)).2.2.2.1]
            exact (addE_mem _ _ _ _ _).2 (.inr ⟨q, hl, rfl⟩)
          · have hnx : n ≤ T.ns p := by have := T.ns_mono (i := 0) (j := p) (by omega) (by omega); rw [T.n0'] at this; exact this
            have hsx := (T.step p o _ (opL_get hc.hl hpl ho)).2.2.2.2.1
            have hmx := T.ns_mono (i := p + 1) (j := qs.length) (by omega) (by omega)
            rcases (hp.dom _).1 hd with h1 | ⟨k, hk, hl, h2, h3⟩ | h1
            · omega
            · have hkx : k ≠ p := by
                rintro rfl
                rw [hlf] at hl; cases hl
              have hsk := (T.step k _ _ (opL_get hc.hl hk (Array.getElem?_eq_getElem (hc.qlt k hk)))).2.2.2.2.1
              rcases Nat.lt_or_ge k p with h4 | h4
              · have := T.ns_mono (i := k + 1) (j := p) (by omega) (by omega)
                omega
              · have := T.ns_mono (i := p + 1) (j := k) (by omega) (by omega)
                omega
            · omega
          · refine ev_rep y (fun t e => ?_)
            subst e
            exact hp.qslot hc hcl hpl ho hlf he (mem_opTmps hy)
        | false =>
          simp only [Bool.false_eq_true, if_false]
          obtain ⟨h1, h2⟩ := hq2 hg
          refine ⟨fun _ _ => trivial, hnext undef w m ?_⟩
          rw [h1, h2]
          exact ⟨Mm.le.refl m, fun i => ⟨.inl, fun h => h.elim id fun h => by simp at h; omega⟩, Below.refl _ _, hp.heap, fun b hb => .inl hb, .tup rfl (fun j p v hp => by simp at hp)⟩
      · have hij : i = j := by
          have h1 : ¬ i < j := fun h => by
            have := (hp.lst i hil).2 h
            rw [hlf] at this; cases this
          rcases Nat.lt_or_ge j i with h2 | h2
          · have h3 := reach_listed hcl 8 _ _ o ho he (hc.chain j i hil h2)
            have := (hp.lst j (by omega)).1 h3
            omega
          · omega
        subst hij
        obtain ⟨hdk, hw, _, hq1, hq2⟩ := E.step i o _ (opL_get hc.sl hil ho)
        have hnext : ∀ v' w' m', (∀ id c, (id, c) ∈ E.hs (i + 1) → id < E.ns (i + 1)) → E.ns i ≤ E.ns (i + 1) → EPost B (E.hs i) m w (E.ns i) (E.hs (i + 1)) (E.ns (i + 1)) (E.vs i) v' w' m' → wpAnyIn (Fe w0.r) 0 P .any ops (fun e a w => ∃ st' m', K e st' ∧ Sim B w0 st' a w m') f (listed.setIfInBounds (nth ss i) true) (a.put o.dst v') w' := by
          intro v' w' m' h1 h2 hpost
          exact ih _ (i + 1) _ w' m' (by simpa using hsz) (hcl.set ho he) hop' (hp.enext hc hil ho hf hdk h1 h2 hpost)
        unfold wpOpIn
        rw [ho]
        simp only [wanted_slot hw (fun t ht => hp.eslot hc hcl hil ho he ht)]
        cases hg : E.gs i with
        | true =>
          simp only [if_true]
          refine wpIn_of_wp (estep_nd (hq1 hg).2) (estep_core o (hq1 hg).2 hO hp.heap hB (fun k hk hd => ?_) hp.ids (fun y hy => ?_) _ _ (fun v v' h' n' w' m' hkk hpo hn hid => ?_))
          · have hmx := hp.mono
            have hn0 : n ≤ T.ns qs.length := by have := T.ns_mono (i := 0) (j := qs.length) (by omega) (by rw [opL_len hc.hl]; omega); rw [T.n0'] at this; exact this
            rcases (hp.dom _).1 hd with h1 | ⟨q, hq, hl, h2, h3⟩ | h1
            · omega
            · have hsk := (T.step q _ _ (opL_get hc.hl hq (Array.getElem?_eq_getElem (hc.qlt q hq)))).2.2.2.2.1
              have := T.ns_mono (i := q + 1) (j := qs.length) (by omega) (by rw [opL_len hc.hl]; omega)
              omega
            · omega
          · refine ev_rep y (fun t e => ?_)
            subst e
            exact hp.eslot hc hcl hil ho he (mem_opTmps hy)
          · obtain ⟨rfl, rfl, rfl⟩ := hkk
            exact hnext v' w' m' hid hn hpo
        | false =>
          simp only [Bool.false_eq_true, if_false]
          obtain ⟨h1, h2, h3⟩ := hq2 hg
          refine ⟨fun _ _ => trivial, hnext undef w m (by rw [h2, h3]; exact hp.ids) (by rw [h3]; exact Nat.le_refl _) ?_⟩
          rw [h1, h2, h3]
          exact ⟨Mm.le.refl m, same_dom, Below.refl _ _, hp.heap, fun b _ h => h, fun b _ _ => rfl, .tup rfl (fun j p v hp => by simp at hp)⟩

/-- A REGION THAT DRAWS ITS ORDER: quiet operations in any order, and effects, which come one behind the other, wherever they like -/
theorem awp_regionS {K : Exit → St → Prop} (qs ss : List Nat) (hid sp : List (List HS)) {id : Nat} (hm : P.follows .mixedOrders = true) (hchk : chkS ops qs ss hid sp = true)
    (hk : aPreS P ops nt e h n (opL ops qs hid) e h n fun e' h' n' => aEffS P ops nt e h n (opL ops ss sp) e' h' n' fun e'' h'' n'' => K .normal ⟨e'', h'', n'', nt⟩) : AWPk fk P (.region id ops true) ⟨e, h, n, nt⟩ K := by
  intro B w0 a w m hs
  have hc := chkS_of hchk
  obtain ⟨T, hK⟩ := aPreS_tr _ _ _ _ hk
  rw [opL_len hc.hl] at hK
  obtain ⟨E, hK⟩ := aEffS_tr _ _ _ _ hK
  rw [opL_len hc.sl] at hK
  refine wpIn_region_any hm ?_
  have hs' : Sim B w0 ⟨e, h, n, nt⟩ a { w with drawn := w.drawn + 1 } m := by
    have hb : Below w.heap.size w { w with drawn := w.drawn + 1 } := (Below.refl _ _).drew
    have hB := hs.room
    exact ⟨hs.base, hs.below.trans (hb.mono hB), hs.defers, hs.size, fun t => (hs.env t).mono (Mm.le.refl m) (fun _ _ h => h) (fun b hb' _ => hb.block b hb'), hs.heap.below hb, hs.dom, hs.ids, hs.fr.mono (Mm.le.refl m) (fun _ _ h => h) (fun b hb' _ => hb.block b hb') (Nat.le_refl _)⟩
  have hquiet : ∀ i, i ≤ qs.length → Sim0 B (T.hs i) m { w with drawn := w.drawn + 1 } ∧ LB m (T.hs i) = LB m h ∧ (∀ id c, (id, c) ∈ T.hs i → id < T.ns i) := by
    intro i
    induction i with
    | zero => intro _; rw [T.hz, T.n0']; exact ⟨hs'.heap, rfl, hs'.ids⟩
    | succ i ih =>
      intro hi
      obtain ⟨h1, h2, h3⟩ := ih (by omega)
      have hst := T.step i _ _ (opL_get hc.hl (by omega) (Array.getElem?_eq_getElem (hc.qlt i (by omega))))
      have hn : n ≤ T.ns i := by have := T.ns_mono (i := 0) (j := i) (by omega) (by rw [opL_len hc.hl]; omega); rw [T.n0'] at this; exact this
      obtain ⟨h4, h5⟩ := sim0_addE (T.Es i) (T.hs i) (T.ns i) h1 (fun j hj hdj => by have := (hs'.dom j).1 hdj; simp only at this; omega) h3
      rw [hst.2.2.2.1]
      refine ⟨h4, h5.trans h2, fun id c hin => ?_⟩
      rw [hst.2.2.2.2.1]
      rcases (addE_mem _ _ _ _ _).1 hin with h6 | ⟨q, h6, rfl⟩
      · have := h3 id c h6; omega
      · have := (List.getElem?_eq_some_iff.1 h6).1; omega
  obtain ⟨h1, h2, h3⟩ := hquiet qs.length (Nat.le_refl _)
  have hf : ∀ i, (Array.replicate ops.size false).getD i false = false := by
    intro i
    rw [Array.getD_eq_getD_getElem?, Array.getElem?_replicate]
    split <;> rfl
  refine sS_sound hc hK ops.size _ 0 a _ m (by simp) (fun i o ho hl => by rw [hf] at hl; cases hl) ?_ ⟨hs'.base, hs'.below, hs'.defers, hs'.size, by rw [E.hz]; exact h1, by rw [E.hz, E.n0']; exact h3, by rw [E.n0']; exact Nat.le_refl _, fun id => ?_,
    (fun p t hp hl => by rw [hf] at hl; cases hl), (fun i t hi => by omega), fun t _ _ => ?_, fun i _ => ?_, Nat.zero_le _, by rw [E.hz, h2]; exact hs'.fr⟩
  · unfold open_
    refine Nat.le_trans List.countP_le_length ?_
    simp
  · rw [hs'.dom, E.n0']
    constructor
    · exact .inl
    · rintro (h | ⟨i, _, hl, _⟩ | h)
      · exact h
      · rw [hf] at hl; cases hl
      · omega
  · rw [E.hz, h2]
    exact hs'.env t
  · rw [hf]; constructor
    · intro h; cases h
    · intro h; omega
end
end Go.Fi

namespace Go.Fi
open Go Go.RowKit
variable [LaidW]
variable {fk : Fk}

section
variable {P : Program} {ops : Array Oper} {nt : Nat} {e0 : Env} {h0 : Heap} {n0 : Nat}
@[congr] theorem aPreS_congr {os : List (Oper × List HS)} {e e' : Env} {h h' : Heap} {n n' : Nat} {K : Env → Heap → Nat → Prop} (h1 : e = e') (h2 : h = h') (h3 : n = n') : aPreS P ops nt e0 h0 n0 os e h n K = aPreS P ops nt e0 h0 n0 os e' h' n' K := by rw [h1, h2, h3]
@[congr] theorem aEffS_congr {os : List (Oper × List HS)} {e e' : Env} {h h' : Heap} {n n' : Nat} {K : Env → Heap → Nat → Prop} (h1 : e = e') (h2 : h = h') (h3 : n = n') : aEffS P ops nt e0 h0 n0 os e h n K = aEffS P ops nt e0 h0 n0 os e' h' n' K := by rw [h1, h2, h3]
omit [LaidW] in
@[simp] theorem hsIds_nil (e : Env) (h : Heap) (n : Nat) : hsIds P e h n [] = [] := rfl
omit [LaidW] in
@[simp] theorem hsIds_new (e : Env) (h : Heap) (n k : Nat) (l : List HS) : hsIds P e h n (.new k :: l) = hsId P e h n (.new k) :: hsIds P e h n l := rfl
omit [LaidW] in
@[simp] theorem hsIds_slot (e : Env) (h : Heap) (n t : Nat) (l : List HS) : hsIds P e h n (.slot t :: l) = hsId P e h n (.slot t) :: hsIds P e h n l := rfl
omit [LaidW] in
@[simp] theorem hsIds_fld (e : Env) (h : Heap) (n t s f : Nat) (l : List HS) : hsIds P e h n (.fld t s f :: l) = hsId P e h n (.fld t s f) :: hsIds P e h n l := rfl
omit [LaidW] in
@[simp] theorem hsIds_all (e : Env) (h : Heap) (n : Nat) (l : List HS) : hsIds P e h n (.all :: l) = List.range n ++ hsIds P e h n l := rfl
omit [LaidW] in
@[simp] theorem hsId_new (e : Env) (h : Heap) (n k : Nat) : hsId P e h n (.new k) = n + k := rfl
omit [LaidW] in
@[simp] theorem hsId_slot (e : Env) (h : Heap) (n t : Nat) : hsId P e h n (.slot t) = idOf (get e t) := rfl
omit [LaidW] in
@[simp] theorem hsId_fld (e : Env) (h : Heap) (n t s f : Nat) : hsId P e h n (.fld t s f) = idF h (get e t) (fOf P s f) := rfl
omit [LaidW] in
@[simp] theorem idOf_ptr (a b c : Nat) : idOf (.ptr a b c) = a := rfl
omit [LaidW] in
@[simp] theorem idOf_msl (a b c d e : Nat) : idOf (.msl a b c d e) = a := rfl
omit [LaidW] in
@[simp] theorem idOf_w (o f : Bool) (p : PV) : idOf (.w o f p) = 1000000007 := rfl
attribute [simp] idF
omit [LaidW] in
theorem hide_none : ∀ h : Heap, hide [] h = h
  | [] => rfl
  | (k, v) :: r => by simp [hide, hide_none r]
omit [LaidW] in
@[simp] theorem hide_nil (D : List Nat) : hide D [] = [] := rfl
omit [LaidW] in
theorem hide_cons (D : List Nat) (k : Nat) (v : List AV) (r : Heap) : hide D ((k, v) :: r) = if k ∈ D then hide D r else (k, v) :: hide D r := rfl
omit [LaidW] in
@[simp] theorem hide_in {D : List Nat} {k : Nat} (v : List AV) (r : Heap) (h : k ∈ D) : hide D ((k, v) :: r) = hide D r := by rw [hide_cons, if_pos h]
omit [LaidW] in
@[simp] theorem hide_out {D : List Nat} {k : Nat} (v : List AV) (r : Heap) (h : ¬ k ∈ D) : hide D ((k, v) :: r) = (k, v) :: hide D r := by rw [hide_cons, if_neg h]
omit [LaidW] in
@[simp] theorem newOk_nil (D : List Nat) (n : Nat) : newOk D n [] = True := rfl
omit [LaidW] in
@[simp] theorem newOk_cons (D : List Nat) (n : Nat) (c : List AV) (E : List (List AV)) : newOk D n (c :: E) = (¬ n ∈ D ∧ newOk D (n + 1) E) := rfl
omit [LaidW] in
theorem newOk_none : ∀ (n : Nat) (E : List (List AV)), newOk [] n E = True
  | _, [] => rfl
  | n, _ :: E => by simp [newOk, newOk_none (n + 1) E]
omit [LaidW] in
@[simp] theorem touchP_ptr (a b c : Nat) (D : List Nat) : touchP (.ptr a b c) D = (a ∈ D) := rfl
attribute [simp] touchL
omit [LaidW] in
@[simp] theorem touch_store (env : Env) (t : TypeId) (ad x : Operand) (D : List Nat) : touch env (.store t ad x) D = touchP (ev env ad) D := rfl
omit [LaidW] in
@[simp] theorem touch_append (env : Env) (args : Array Operand) (tys : Array TypeId) (D : List Nat) : touch env (.call ⟨.builtin .append, args, tys⟩) D = touchL env args.toList D := rfl
omit [LaidW] in
@[simp] theorem touch_call (env : Env) (f : Operand) (args : Array Operand) (tys : Array TypeId) (D : List Nat) : touch env (.call ⟨.value f, args, tys⟩) D = True := rfl
omit [LaidW] in
@[simp] theorem touch_len (env : Env) (args : Array Operand) (tys : Array TypeId) (D : List Nat) : touch env (.call ⟨.builtin .len, args, tys⟩) D = True := rfl
omit [LaidW] in
@[simp] theorem touch_assign (env : Env) (x : Operand) (D : List Nat) : touch env (.assign x) D = True := rfl
omit [LaidW] in
@[simp] theorem touch_move (env : Env) (x : Operand) (D : List Nat) : touch env (.move x) D = True := rfl
omit [LaidW] in
@[simp] theorem touch_binOp (env : Env) (o : BinOp) (t : TypeId) (x y : Operand) (u : TypeId) (D : List Nat) : touch env (.binOp o t x y u) D = True := rfl
omit [LaidW] in
@[simp] theorem touch_load (env : Env) (t : TypeId) (x : Operand) (D : List Nat) : touch env (.load t x) D = True := rfl
omit [LaidW] in
@[simp] theorem touch_alloc (env : Env) (t : TypeId) (D : List Nat) : touch env (.alloc t) D = True := rfl
omit [LaidW] in
@[simp] theorem touch_box (env : Env) (t : TypeId) (x : Operand) (D : List Nat) : touch env (.box t x) D = True := rfl
omit [LaidW] in
@[simp] theorem touch_fieldAddr (env : Env) (t : TypeId) (x : Operand) (f : Nat) (D : List Nat) : touch env (.fieldAddr t x f) D = True := rfl
omit [LaidW] in
@[simp] theorem touch_indexAddr (env : Env) (t : TypeId) (x i : Operand) (D : List Nat) : touch env (.indexAddr t x i) D = True := rfl
omit [LaidW] in
@[simp] theorem touch_extract (env : Env) (x : Operand) (i : Nat) (D : List Nat) : touch env (.extract x i) D = True := rfl
omit [LaidW] in
@[simp] theorem touch_convert (env : Env) (a b : TypeId) (x : Operand) (D : List Nat) : touch env (.convert a b x) D = True := rfl
omit [LaidW] in
@[simp] theorem touch_slice (env : Env) (t : TypeId) (x : Operand) (l u m : Option Operand) (D : List Nat) : touch env (.slice t x l u m) D = True := rfl
omit [LaidW] in
@[simp] theorem touch_build (env : Env) (t : TypeId) (p : Array (Nat × Operand)) (D : List Nat) : touch env (.build t p) D = True := rfl
omit [LaidW] in
@[simp] theorem touch_field (env : Env) (t : TypeId) (x : Operand) (f : Nat) (D : List Nat) : touch env (.field t x f) D = True := rfl
omit [LaidW] in
@[simp] theorem touch_nilCheck (env : Env) (x : Operand) (D : List Nat) : touch env (.nilCheck x) D = True := rfl
omit [LaidW] in
@[simp] theorem touch_pick (env : Env) (c x y : Operand) (D : List Nat) : touch env (.pick c x y) D = True := rfl

omit [LaidW] in
@[simp] theorem opL_cons (i : Nat) (l : List Nat) (d : List HS) (ds : List (List HS)) : opL ops (i :: l) (d :: ds) = (opAt ops i, d) :: opL ops l ds := rfl
omit [LaidW] in
@[simp] theorem opL_nil : opL ops [] [] = [] := rfl
omit [LaidW] in
@[simp] theorem opAt_arr (l : List Oper) (i : Nat) : opAt l.toArray i = opLn l i := rfl
omit [LaidW] in
@[simp] theorem opLn_zero (o : Oper) (r : List Oper) : opLn (o :: r) 0 = o := rfl
omit [LaidW] in
@[simp] theorem opLn_succ (o : Oper) (r : List Oper) (k : Nat) : opLn (o :: r) (k + 1) = opLn r k := rfl

variable {env : Env} {h : Heap} {n : Nat}
@[simp ↓] theorem aPreS_nil (K : Env → Heap → Nat → Prop) : aPreS P ops nt e0 h0 n0 [] env h n K = K env h n := rfl
@[simp ↓] theorem aEffS_nil (K : Env → Heap → Nat → Prop) : aEffS P ops nt e0 h0 n0 [] env h n K = K env h n := rfl
section
variable {dst : Option Tmp} {op : Op} {ty : TypeId} {pos : String} {after : Array Edge} {j : Nat} {want : Bool} {d : HS} {ds : List HS} {os : List (Oper × List HS)} {K : Env → Heap → Nat → Prop}
@[simp ↓] theorem aPreS_plain0 : aPreS P ops nt e0 h0 n0 ((⟨dst, op, ty, pos, after, none⟩, []) :: os) env h n K = (dOk nt dst ∧ QStep P env h n op fun v E => aPreS P ops nt e0 h0 n0 os (put env dst v) (addE h n E) (n + E.length) K) := by
  simp [aPreS, wantedA, hide_none, newOk_none]
@[simp ↓] theorem aPreS_plain : aPreS P ops nt e0 h0 n0 ((⟨dst, op, ty, pos, after, none⟩, d :: ds) :: os) env h n K =
    (dOk nt dst ∧ QStep P env (hide (hsIds P e0 h0 n0 (d :: ds)) h) n op fun v E => newOk (hsIds P e0 h0 n0 (d :: ds)) n E ∧ aPreS P ops nt e0 h0 n0 os (put env dst v) (addE h n E) (n + E.length) K) := by
  simp [aPreS, wantedA]
@[simp ↓] theorem aEffS_plain {ds : List HS} : aEffS P ops nt e0 h0 n0 ((⟨dst, op, ty, pos, after, none⟩, ds) :: os) env h n K = (dOk nt dst ∧ touch env op (hsIds P e0 h0 n0 ds) ∧ EStep P env h n op fun v h' n' => aEffS P ops nt e0 h0 n0 os (put env dst v) h' n' K) := by
  simp [aEffS, wantedA]
theorem aPreS_guard {ds : List HS} : aPreS P ops nt e0 h0 n0 ((⟨dst, op, ty, pos, after, some (j, want)⟩, ds) :: os) env h n K = (dOk nt dst ∧ gW (gOf ops env j want) (QStep P env (hide (hsIds P e0 h0 n0 ds) h) n op fun v E => newOk (hsIds P e0 h0 n0 ds) n E ∧ aPreS P ops nt e0 h0 n0 os (put env dst v) (addE h n E) (n + E.length) K) (aPreS P ops nt e0 h0 n0 os (put env dst (.tup [])) h n K)) := by
  conv => lhs; unfold aPreS
  rw [wantedA_guard]
  cases gOf ops env j want <;> simp [gW]
theorem aEffS_guard {ds : List HS} : aEffS P ops nt e0 h0 n0 ((⟨dst, op, ty, pos, after, some (j, want)⟩, ds) :: os) env h n K = (dOk nt dst ∧ gW (gOf ops env j want) (touch env op (hsIds P e0 h0 n0 ds) ∧ EStep P env h n op fun v h' n' => aEffS P ops nt e0 h0 n0 os (put env dst v) h' n' K) (aEffS P ops nt e0 h0 n0 os (put env dst (.tup [])) h n K)) := by
  conv => lhs; unfold aEffS
  rw [wantedA_guard]
  cases gOf ops env j want <;> simp [gW]
@[simp ↓] theorem aPreS_gQ {ds : List HS} : aPreS P ops nt e0 h0 n0 ((⟨dst, op, ty, pos, after, some (j, want)⟩, ds) :: os) env h n K = (dOk nt dst ∧ gQ (gOf ops env j want) P env (hide (hsIds P e0 h0 n0 ds) h) n op (fun v E => newOk (hsIds P e0 h0 n0 ds) n E ∧ aPreS P ops nt e0 h0 n0 os (put env dst v) (addE h n E) (n + E.length) K) .it) := by
  rw [aPreS_guard]
  unfold gQ
  have e : (newOk (hsIds P e0 h0 n0 ds) n [] ∧ aPreS P ops nt e0 h0 n0 os (put env dst (.tup [])) (addE h n []) (n + ([] : List (List AV)).length) K) = aPreS P ops nt e0 h0 n0 os (put env dst (.tup [])) h n K := by
    simp [newOk]
  exact congrArg (fun y => dOk nt dst ∧ gW (gOf ops env j want) _ y) e.symm
@[simp ↓] theorem aEffS_gM {ds : List HS} : aEffS P ops nt e0 h0 n0 ((⟨dst, op, ty, pos, after, some (j, want)⟩, ds) :: os) env h n K = (dOk nt dst ∧ gM (gOf ops env j want) (touch env op (hsIds P e0 h0 n0 ds) ∧ EStep P env h n op fun v h' n' => aEffS P ops nt e0 h0 n0 os (put env dst v) h' n' K) (aEffS P ops nt e0 h0 n0 os (put env dst (.tup [])) h n K) .it) := aEffS_guard
end
end
/-- what stays of the memory -/
def pk (c : Option (List AV)) (k : Nat) (r : Heap) : Heap := match c with | some c => (k, c) :: r | none => r
omit [LaidW] in
@[simp] theorem pk_some (c : List AV) (k : Nat) (r : Heap) : pk (some c) k r = (k, c) :: r := rfl
def pickH (h : Heap) : List Nat → Heap
  | [] => []
  | k :: ks => pk (hget h k) k (pickH h ks)
omit [LaidW] in
@[simp] theorem pickH_nil (h : Heap) : pickH h [] = [] := rfl
omit [LaidW] in
@[simp] theorem pickH_cons (h : Heap) (k : Nat) (ks : List Nat) : pickH h (k :: ks) = pk (hget h k) k (pickH h ks) := rfl
/-- A LOOP: 'ks', 'hks' are the slots and the places that stay, 'mods', 'hm' those that change -/
theorem awp_for3 {P : Program} {K : Exit → St → Prop} {c : Code} {id : Nat} {env : Env} {h : Heap} {n nt : Nat} {α β : Type} (J : α → Prop) (ks : List Nat) (mods : α → Env) (hks : List Nat) (hm : α → Heap) (μ : α → Nat)
    (F : β → Prop) (fks : List Nat) (fmods : β → Env) (fhks : List Nat) (fhm : β → Heap) (x0 : α) (hJ : J x0)
    (h0 : envLe env n (mods x0 ++ pickE env ks)) (h1 : heapLe h n (hm x0 ++ pickH h hks))
    (round : ∀ x, J x → AWPk fk P c ⟨mods x ++ pickE env ks, hm x ++ pickH h hks, n, nt⟩ (loopK fk J (fun x => ⟨mods x ++ pickE env ks, hm x ++ pickH h hks, n, nt⟩) μ x (forB fk id F (fun y => ⟨fmods y ++ pickE env fks, fhm y ++ pickH h fhks, n, nt⟩) K)))
    (after : ∀ y, F y → K .normal ⟨fmods y ++ pickE env fks, fhm y ++ pickH h fhks, n, nt⟩) : AWPk fk P (.block id (.loop c)) ⟨env, h, n, nt⟩ K :=
  awp_for2 J ks mods (fun x => hm x ++ pickH h hks) μ F fks fmods (fun y => fhm y ++ pickH h fhks) x0 hJ h0 h1 round after
end Go.Fi

