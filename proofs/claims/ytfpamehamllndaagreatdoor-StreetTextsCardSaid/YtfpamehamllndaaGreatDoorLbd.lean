/- A logic of abstract states for this claim (part Lbd): lemmas alone. -/
import Derived.Test.YtfpamehamllndaaGreatDoorLac
import Derived.Lib.Builder
import Derived.Lib.AppendStr
import Derived.Lib.UnsafeStr
set_option linter.unusedSimpArgs false
set_option linter.unusedVariables false

namespace Go.Fi
open Go Go.RowKit
variable [LaidW]

/-! ### a walk over plain data, beside a strings.Builder of the function's own: between two of its regions nothing but data is known, so the builder's block and its buffer are blocks that nothing leans on -/

/-- a builder in block b that holds a text: what its two cells hold -/
def BV (T e : TypeId) (n0 b : Nat) (t : ByteArray) (w : World) (p v : Value) : Prop :=
  w.heap[b]? = some (.cells #[p, v] T (0, 0)) ∧ (p = .pointer none ∨ p = .pointer (some ⟨b, 0, none⟩)) ∧ w.ownsRow n0 e 1 v t.size (Lib.strCells t) ∧ v.ownBlock ≠ some b

/-- '(*strings.Builder).WriteString', to the block -/
structure WriteC (P : Program) (T e : TypeId) (f : FuncId) : Prop where
  ent : Enterable P f
  run : ∀ (n0 b : Nat) (t s : ByteArray) (w : World) (p v : Value), n0 ≤ b → n0 ≤ w.heap.size → BV T e n0 b t w p v → t.size + s.size ≤ 1000000000 →
    Calls P f #[.pointer (some ⟨b, 0, none⟩), .string s] w fun ex w' => ex = .returned (.tuple #[.int .i64 s.size, .nilIface]) ∧ Below n0 w w' ∧ (∀ j, j < w.heap.size → j ≠ b → v.ownBlock ≠ some j → w'.heap[j]? = w.heap[j]?) ∧
      ∃ p' v', BV T e n0 b (t ++ s) w' p' v' ∧ ∀ g, v'.ownBlock = some g → v.ownBlock = some g ∨ w.heap.size ≤ g
/-- '(*strings.Builder).String' -/
structure TextC (P : Program) (T e : TypeId) (f : FuncId) : Prop where
  ent : Enterable P f
  run : ∀ (n0 b : Nat) (t : ByteArray) (w : World) (p v : Value), n0 ≤ b → n0 ≤ w.heap.size → BV T e n0 b t w p v →
    Calls P f #[.pointer (some ⟨b, 0, none⟩)] w fun ex w' => ex = .returned (.string t) ∧ Below n0 w w'

abbrev DEnv := List (Nat × PV)

def BldIs (T e : TypeId) (tB n0 : Nat) (G : Nat → Prop) (w : World) (a : Act) : Option ByteArray → Prop
  | none => True
  | some t => ∃ b p v, a.tmps.getD tB undef = .pointer (some ⟨b, 0, none⟩) ∧ n0 ≤ b ∧ b < w.heap.size ∧ ¬ G b ∧ BV T e n0 b t w p v ∧ ∀ g, v.ownBlock = some g → ¬ G g ∧ g < w.heap.size

def DHyp (T e : TypeId) (tB : Nat) (w0 : World) (nt : Nat) (env : DEnv) (t : Option ByteArray) (a : Act) (w : World) : Prop :=
  LaidW.ok w0 ∧ a.defers = [] ∧ a.tmps.size = nt ∧ Below w0.heap.size w0 w ∧
    ∃ G : Nat → Prop, (∀ p ∈ env, Rep G w p.2 (a.tmps.getD p.1 undef)) ∧ BldIs T e tB w0.heap.size G w a t

section
variable {P : Program} {T e : TypeId} {tB nt : Nat}

def DPost (T e : TypeId) (tB : Nat) (w0 : World) (nt : Nat) (K : Exit → DEnv → Option ByteArray → Prop) (ex : Exit) (a' : Act) (w' : World) : Prop :=
  ∃ env' t', K ex env' t' ∧ DHyp T e tB w0 nt env' t' a' w'

def AWPD (P : Program) (T e : TypeId) (tB nt : Nat) (c : Code) (env : DEnv) (t : Option ByteArray) (K : Exit → DEnv → Option ByteArray → Prop) : Prop :=
  ∀ (w0 : World) (a : Act) (w : World), DHyp T e tB w0 nt env t a w → c.wpIn (Fe none) 0 P (DPost T e tB w0 nt K) a w

variable {env env' : DEnv} {t : Option ByteArray} {K K' : Exit → DEnv → Option ByteArray → Prop}

def thenD (P : Program) (T e : TypeId) (tB nt : Nat) (y : Code) (K : Exit → DEnv → Option ByteArray → Prop) : Exit → DEnv → Option ByteArray → Prop
  | .normal, s, t => AWPD P T e tB nt y s t K
  | ex, s, t => K ex s t
theorem awpd_seq {x y : Code} (h : AWPD P T e tB nt x env t (thenD P T e tB nt y K)) : AWPD P T e tB nt (.seq x y) env t K :=
  fun w0 a w hh => wpIn_seq (wpIn_mono (h w0 a w hh) (fun ex a' w' ⟨st', t', h1, h2⟩ => by
    cases ex <;> first | exact h1 w0 a' w' h2 | exact ⟨st', t', h1, h2⟩))
theorem awpd_skip (h : K .normal env t) : AWPD P T e tB nt .skip env t K := fun _ _ _ hh => wpIn_skip ⟨env, t, h, hh⟩
theorem awpd_ret (h : K .ret env t) : AWPD P T e tB nt .ret env t K := fun _ _ _ hh => wpIn_ret ⟨env, t, h, hh⟩
theorem awpd_exit {id : Nat} (h : K (.exit id) env t) : AWPD P T e tB nt (.exit id) env t K := fun _ _ _ hh => wpIn_exit ⟨env, t, h, hh⟩
def blockD (id : Nat) (K : Exit → DEnv → Option ByteArray → Prop) : Exit → DEnv → Option ByteArray → Prop
  | .exit id', s, t => if id' = id then K .normal s t else K (.exit id') s t
  | ex, s, t => K ex s t
theorem awpd_block {id : Nat} {c : Code} (h : AWPD P T e tB nt c env t (blockD id K)) : AWPD P T e tB nt (.block id c) env t K :=
  fun w0 a w hh => wpIn_block (wpIn_mono (h w0 a w hh) (fun ex a' w' ⟨st', t', h1, h2⟩ => by
    cases ex <;> first
      | exact ⟨st', t', h1, h2⟩
      | (simp only [Exit.inBlock]; simp only [blockD] at h1; split <;> (rename_i hid; simp only [hid, if_true, if_false] at h1; exact ⟨st', t', h1, h2⟩))))
theorem DHyp.sub {w0 : World} {a : Act} {w : World} (hh : DHyp T e tB w0 nt env t a w) (hs : ∀ p ∈ env', p ∈ env) : DHyp T e tB w0 nt env' t a w := by
  obtain ⟨h1, h2, h3, h4, G, h5, h6⟩ := hh
  exact ⟨h1, h2, h3, h4, G, fun p hp => h5 p (hs p hp), h6⟩
theorem awpd_sub {c : Code} (hs : ∀ p ∈ env', p ∈ env) (h : AWPD P T e tB nt c env' t K) : AWPD P T e tB nt c env t K := fun w0 a w hh => h w0 a w (hh.sub hs)
def loopD {α : Type} (J : α → Prop) (I : α → DEnv) (tx : α → Option ByteArray) (μ : α → Nat) (x : α) (K : Exit → DEnv → Option ByteArray → Prop) : Exit → DEnv → Option ByteArray → Prop
  | .normal, s, t => ∃ y, J y ∧ μ y < μ x ∧ (∀ p ∈ I y, p ∈ s) ∧ t = tx y
  | ex, s, t => K ex s t
theorem awpd_loop {c : Code} {α : Type} (J : α → Prop) (I : α → DEnv) (tx : α → Option ByteArray) (μ : α → Nat) (x0 : α) (hJ : J x0) (h0 : ∀ p ∈ I x0, p ∈ env) (ht : t = tx x0)
    (round : ∀ x, J x → AWPD P T e tB nt c (I x) (tx x) (loopD J I tx μ x K)) : AWPD P T e tB nt (.loop c) env t K := by
  intro w0 a w hh
  refine wpIn_loop_ghost (fun j a w => ∃ x, J x ∧ μ x = j ∧ DHyp T e tB w0 nt (I x) (tx x) a w) (μ x0) ⟨x0, hJ, rfl, ht ▸ hh.sub h0⟩ ?_
  rintro j a w ⟨x, hx, rfl, hx2⟩
  refine wpIn_mono (round x hx w0 a w hx2) (fun ex a' w' ⟨st', t', h2, h3⟩ => ?_)
  cases ex <;> first
    | exact ⟨st', t', h2, h3⟩
    | (obtain ⟨y, hy, hlt, hle, rfl⟩ := h2
       exact ⟨μ y, hlt, y, hy, rfl, h3.sub hle⟩)
theorem awpd_cond {c : Nat} {b : Bool} {x y : Code} (hc : (c, PV.bool b) ∈ env) (hx : b = true → AWPD P T e tB nt x env t K) (hy : b = false → AWPD P T e tB nt y env t K) : AWPD P T e tB nt (.cond (.tmp c) x y) env t K := by
  intro w0 a w hh
  have hv : a.eval (.tmp c) = .bool b := by
    obtain ⟨_, _, _, _, G, h5, _⟩ := hh
    have := h5 _ hc
    generalize hq : a.tmps.getD c undef = q at this
    cases this
    exact hq
  refine wpIn_cond hv ?_
  cases b
  · exact hy rfl w0 a w hh
  · exact hx rfl w0 a w hh

/-! ### a piece that leaves the builder alone -/
def dEnv : DEnv → Env
  | [] => []
  | p :: r => (p.1, .w false false p.2) :: dEnv r
def sEnv (tB : Nat) : Option ByteArray → DEnv → Env
  | none, env => dEnv env
  | some _, env => (tB, .ptr 0 0 0) :: dEnv env
def FzL (env : Env) (h : Heap) : DEnv → Prop
  | [] => True
  | p :: r => frz h 9 (get env p.1) = some p.2 ∧ FzL env h r
def Keeps (tB : Nat) (env : Env) : Option ByteArray → Prop
  | none => True
  | some _ => get env tB = .ptr 0 0 0

omit [LaidW] in
theorem get_dEnv : ∀ (env : DEnv) (s : Nat), get (dEnv env) s = .w false false .undef ∨ ∃ p ∈ env, p.1 = s ∧ get (dEnv env) s = .w false false p.2
  | [], s => .inl rfl
  | p :: r, s => by
    simp only [dEnv, get]
    by_cases h : p.1 = s
    · rw [if_pos h]; exact .inr ⟨p, by simp, h, rfl⟩
    · rw [if_neg h]
      rcases get_dEnv r s with h1 | ⟨q, hq, h2, h3⟩
      · exact .inl h1
      · exact .inr ⟨q, List.mem_cons_of_mem _ hq, h2, h3⟩
omit [LaidW] in
theorem FzL.mem {env : Env} {h : Heap} : ∀ {l : DEnv}, FzL env h l → ∀ p ∈ l, frz h 9 (get env p.1) = some p.2
  | [], _, p, hp => by cases hp
  | q :: r, hf, p, hp => by
    rcases List.mem_cons.1 hp with e | hp
    · subst e; exact hf.1
    · exact FzL.mem hf.2 p hp

/-- the state at the start of a piece -/
theorem DHyp.start {w0 : World} {a : Act} {w : World} (hh : DHyp T e tB w0 nt env t a w) :
    ∃ (G : Nat → Prop) (b : Nat) (m : Mm) (F : List (AV × Value)), (∀ u, t = some u → (AV.ptr 0 0 0, Value.pointer (some ⟨b, 0, none⟩)) ∈ F) ∧ BldIs T e tB w0.heap.size G w a t ∧ (∀ u, t = some u → a.tmps.getD tB undef = .pointer (some ⟨b, 0, none⟩)) ∧
      ∃ ok, Sim ⟨w.heap.size, G⟩ (⟨w, F, none, [], [], fun ri h => (by cases h), ok⟩ : Ctx ⟨1, none⟩) ⟨sEnv tB t env, [], 1, nt⟩ a w m := by
  obtain ⟨h1, h2, h3, h4, G, h5, h6⟩ := hh
  have ok : LaidW.ok w := LaidW.keep h1 h4
  have base : ∀ (b : Nat) (F : List (AV × Value)), (∀ p ∈ F, p = (AV.ptr 0 0 0, Value.pointer (some ⟨b, 0, none⟩))) → (∀ u, t = some u → a.tmps.getD tB undef = .pointer (some ⟨b, 0, none⟩)) →
      Sim ⟨w.heap.size, G⟩ (⟨w, F, none, [], [], fun ri h => (by cases h), ok⟩ : Ctx ⟨1, none⟩) ⟨sEnv tB t env, [], 1, nt⟩ a w ⟨fun i v => if i = 0 ∧ v = 0 then some (b, 0) else none, fun _ => 0, fun i => i = 0⟩ := by
    intro b F hF hslot
    have hptr : RepA ⟨w.heap.size, G⟩ (LB ⟨fun i v => if i = 0 ∧ v = 0 then some (b, 0) else none, fun _ => 0, fun i => i = 0⟩ []) ⟨fun i v => if i = 0 ∧ v = 0 then some (b, 0) else none, fun _ => 0, fun i => i = 0⟩ w (.ptr 0 0 0) (.pointer (some ⟨b, 0, none⟩)) :=
      .ptr (C := 0) rfl (Nat.le_refl _) (by simp) (Nat.le_refl _)
    have hd : ∀ s, RepA ⟨w.heap.size, G⟩ (LB ⟨fun i v => if i = 0 ∧ v = 0 then some (b, 0) else none, fun _ => 0, fun i => i = 0⟩ []) ⟨fun i v => if i = 0 ∧ v = 0 then some (b, 0) else none, fun _ => 0, fun i => i = 0⟩ w (get (dEnv env) s) (a.tmps.getD s undef) := by
      intro s
      rcases get_dEnv env s with hq | ⟨p, hp, rfl, hq⟩
      · rw [hq]; exact .w (.undef _) (fun h => by cases h)
      · rw [hq]
        refine .w ((h5 p hp).imp fun x hx => ⟨?_, (fun h => by cases h), fun _ => hx⟩) (fun h => by cases h)
        rintro ⟨id, cells, C, hin, _⟩
        cases hin
    refine ⟨rfl, Below.refl _ _, h2, h3, fun s => ?_, ⟨fun id cells hin => (by cases hin), List.Pairwise.nil⟩, fun i => ⟨fun h => (by simp only at h; subst h; exact Nat.one_pos), fun h => (by simp only at h ⊢; omega)⟩, fun id c hin => (by cases hin), Nat.le_refl _, fun p hp => ?_, fun q hq => by cases hq⟩
    · cases t with
      | none => exact hd s
      | some u =>
        show RepA _ _ _ _ (get ((tB, .ptr 0 0 0) :: dEnv env) s) _
        simp only [get]
        by_cases hs : tB = s
        · subst hs; rw [if_pos rfl, hslot u rfl]; exact hptr
        · rw [if_neg hs]; exact hd s
    · rw [hF p hp]
      exact ⟨rfl, hptr⟩
  cases t with
  | none => exact ⟨G, 0, _, [], fun u h => (by cases h), h6, fun u h => (by cases h), ok, base 0 [] (fun p hp => by cases hp) (fun u h => by cases h)⟩
  | some u =>
    obtain ⟨b, p, v, hb, _⟩ := id h6
    exact ⟨G, b, _, [(AV.ptr 0 0 0, .pointer (some ⟨b, 0, none⟩))], fun u _ => List.mem_singleton.2 rfl, h6, fun u _ => hb, ok, base b _ (fun p hp => List.mem_singleton.1 hp) (fun u _ => hb)⟩
end
end Go.Fi

namespace Go.Fi
open Go Go.RowKit
variable [LaidW]
section
variable {P : Program} {T e : TypeId} {tB nt : Nat} {env env' : DEnv} {t : Option ByteArray} {K K' : Exit → DEnv → Option ByteArray → Prop}

omit [LaidW] in
theorem BV.keep {n0 b : Nat} {u : ByteArray} {w w' : World} {p v : Value} (h : BV T e n0 b u w p v) (hb : w'.heap[b]? = w.heap[b]?) (hg : ∀ g, v.ownBlock = some g → w'.heap[g]? = w.heap[g]?) : BV T e n0 b u w' p v := by
  obtain ⟨h1, h2, h3, h4⟩ := h
  refine ⟨by rw [hb]; exact h1, h2, ⟨h3.1, ?_⟩, h4⟩
  rcases h3.2 with h | ⟨g, cap, cur, rfl, h5, h6, h7⟩
  · exact .inl h
  · exact .inr ⟨g, cap, cur, rfl, h5, by rw [hg g rfl]; exact h6, h7⟩
omit [LaidW] in
theorem RepA.ptr0 {B : Base} {L : Nat → Prop} {m : Mm} {w : World} {v v' : Value} (h : RepA B L m w (.ptr 0 0 0) v) (h' : RepA B L m w (.ptr 0 0 0) v') : v = v' := by
  obtain ⟨b, C, rfl, _, _, ha⟩ := h.ptr_inv
  obtain ⟨b', C', rfl, _, _, ha'⟩ := h'.ptr_inv
  rw [ha] at ha'; injection ha' with ha'; injection ha' with h1 _; subst h1; rfl

/-- what is known in the middle of a piece: enough to go on -/
theorem stopB {w0 : World} {a : Act} {w : World} (hh : DHyp T e tB w0 nt env t a w) {G : Nat → Prop} {b : Nat} {F : List (AV × Value)} (hF : ∀ u, t = some u → (AV.ptr 0 0 0, Value.pointer (some ⟨b, 0, none⟩)) ∈ F) (hbl : BldIs T e tB w0.heap.size G w a t)
    (hsl : ∀ u, t = some u → a.tmps.getD tB undef = .pointer (some ⟨b, 0, none⟩)) {ok : LaidW.ok w} {e' : Env} {h' : Heap} {n' : Nat} {a' : Act} {w' : World} {m' : Mm}
    (hs : Sim ⟨w.heap.size, G⟩ (⟨w, F, none, [], [], fun ri h => (by cases h), ok⟩ : Ctx ⟨1, none⟩) ⟨e', h', n', nt⟩ a' w' m') (hk : Keeps tB e' t) :
    LaidW.ok w0 ∧ a'.defers = [] ∧ a'.tmps.size = nt ∧ Below w0.heap.size w0 w' ∧ (∀ (x : AV) (p : PV) (v : Value), frz h' 9 x = some p → RepA ⟨w.heap.size, G⟩ (LB m' h') m' w' x v → Rep (fun x => w.heap.size ≤ x ∨ G x) w' p v) ∧
      BldIs T e tB w0.heap.size (fun x => w.heap.size ≤ x ∨ G x) w' a' t := by
  obtain ⟨h1, h2, h3, h4, _⟩ := hh
  have hle : w0.heap.size ≤ w.heap.size := h4.size
  refine ⟨h1, hs.defers, hs.size, h4.trans ⟨hs.below.os, hs.below.tape, hs.below.output, hs.below.size, fun k hk => hs.below.block k (by show k < w.heap.size; omega)⟩, fun x p v hf hr => ?_, ?_⟩
  · refine frz_rep (B := ⟨w.heap.size, G⟩) hs.heap (fun id cs e => hget_mem e) false (fun b hb => .inl hb) (fun _ b hg => ?_) 9 x p v hf (fun h => by cases h) hr
    rcases Nat.lt_or_ge b w.heap.size with h | h
    · exact .inr (hg.2.2 h)
    · exact .inl h
  · cases t with
    | none => trivial
    | some u =>
      obtain ⟨b', p, v, q1, q2, q3, q4, q5, q6⟩ := hbl
      have hbb : b' = b := by
        have := hsl u rfl
        rw [q1] at this; injection this with this; injection this with this; injection this
      subst hbb
      have r1 := (hs.fr.2.1 _ (hF u rfl)).2
      have r2 := hs.env tB
      rw [show get (St.env ⟨e', h', n', nt⟩) tB = .ptr 0 0 0 from hk] at r2
      have hw : ∀ k, k < w.heap.size → w'.heap[k]? = w.heap[k]? := fun k hk => hs.below.block k hk
      refine ⟨b', p, v, r2.ptr0 r1, q2, Nat.lt_of_lt_of_le q3 hs.below.size, fun h => h.elim (fun h => by omega) q4, q5.keep (hw b' q3) (fun g hg => hw g (q6 g hg).2), fun g hg => ⟨fun h => ?_, Nat.lt_of_lt_of_le (q6 g hg).2 hs.below.size⟩⟩
      exact h.elim (fun h => by have := (q6 g hg).2; omega) (q6 g hg).1
theorem DHyp.stop {w0 : World} {a : Act} {w : World} (hh : DHyp T e tB w0 nt env t a w) {G : Nat → Prop} {b : Nat} {F : List (AV × Value)} (hF : ∀ u, t = some u → (AV.ptr 0 0 0, Value.pointer (some ⟨b, 0, none⟩)) ∈ F) (hbl : BldIs T e tB w0.heap.size G w a t)
    (hsl : ∀ u, t = some u → a.tmps.getD tB undef = .pointer (some ⟨b, 0, none⟩)) {ok : LaidW.ok w} {e' : Env} {h' : Heap} {n' : Nat} {a' : Act} {w' : World} {m' : Mm}
    (hs : Sim ⟨w.heap.size, G⟩ (⟨w, F, none, [], [], fun ri h => (by cases h), ok⟩ : Ctx ⟨1, none⟩) ⟨e', h', n', nt⟩ a' w' m') (hk : Keeps tB e' t) (hz : FzL e' h' env') : DHyp T e tB w0 nt env' t a' w' := by
  obtain ⟨g1, g2, g3, g4, g5, g6⟩ := stopB hh hF hbl hsl hs hk
  exact ⟨g1, g2, g3, g4, _, fun p hp => g5 _ _ _ (hz.mem p hp) (hs.env p.1), g6⟩

/-- A PIECE THAT LEAVES THE BUILDER ALONE -/
theorem awpd_of {c : Code} (h : AWPk ⟨1, none⟩ P c ⟨sEnv tB t env, [], 1, nt⟩ fun ex st' => st'.nt = nt ∧ Keeps tB st'.env t ∧ ∃ env', FzL st'.env st'.heap env' ∧ K ex env' t) : AWPD P T e tB nt c env t K := by
  intro w0 a w hh
  obtain ⟨G, b, m, F, hF, hbl, hsl, ok, hs⟩ := hh.start
  refine wpIn_mono (h _ _ _ _ _ hs) (fun ex a' w' ⟨st', m', ⟨hnt, hk, env', hz, hK⟩, hs'⟩ => ⟨env', t, hK, ?_⟩)
  obtain ⟨e', h', n', nt'⟩ := st'
  simp only at hnt
  subst hnt
  exact hh.stop hF hbl hsl hs' hk hz

/-! ### regions -/
def DLs (P : Program) (T e : TypeId) (tB nt : Nat) (ops : Array Oper) (rest : List Oper) (env : DEnv) (t : Option ByteArray) (K : Exit → DEnv → Option ByteArray → Prop) : Prop :=
  ∀ (w0 : World) (a : Act) (w : World), DHyp T e tB w0 nt env t a w → wpListIn (Fe none) 0 P ops (DPost T e tB w0 nt K) rest a w
variable {ops : Array Oper} {rest : List Oper} {h : Heap} {n : Nat}
theorem awpd_region {id : Nat} (hk : DLs P T e tB nt ops ops.toList env t K) : AWPD P T e tB nt (.region id ops false) env t K :=
  fun w0 a w hh => wpIn_region_list (hk w0 a w hh)
theorem dls_nil (hk : K .normal env t) : DLs P T e tB nt ops [] env t K := fun _ _ _ hh => ⟨env, t, hk, hh⟩
theorem dls_of (hk : aOps P ops nt rest (sEnv tB t env) [] 1 fun e' h' n' => Keeps tB e' t ∧ ∃ env', FzL e' h' env' ∧ K .normal env' t) : DLs P T e tB nt ops rest env t K := by
  intro w0 a w hh
  obtain ⟨G, b, m, F, hF, hbl, hsl, ok, hs⟩ := hh.start
  exact aOps_sound (fun e' h' n' a' w' m' ⟨hk, env', hz, hK⟩ hs' => ⟨env', t, hK, hh.stop hF hbl hsl hs' hk hz⟩) rest _ _ _ a w m hk hs

/-- operations in their order, some of them calls that are walked in place -/
def ALs (fk : Fk) (P : Program) (ops : Array Oper) (nt : Nat) (pre : List Oper) (env : Env) (h : Heap) (n : Nat) (Kd : Env → Heap → Nat → Prop) : Prop :=
  ∀ (B : Base) (w0 : Ctx fk) (a : Act) (w : World) (m : Mm) (Q : Exit → Act → World → Prop) (post : List Oper), Sim B w0 ⟨env, h, n, nt⟩ a w m →
    (∀ e' h' n' a' w' m', Kd e' h' n' → Sim B w0 ⟨e', h', n', nt⟩ a' w' m' → wpListIn (Fe w0.r) 0 P ops Q post a' w') → wpListIn (Fe w0.r) 0 P ops Q (pre ++ post) a w
variable {fk : Fk} {ev0 : Env} {Kd : Env → Heap → Nat → Prop}
theorem als_ops {pre : List Oper} (hk : aOps P ops nt pre ev0 h n Kd) : ALs fk P ops nt pre ev0 h n Kd :=
  fun _ _ a w m _ post hs hp => aOps_app post (fun e h n a w m hk' hs' => hp e h n a w m hk' hs') pre ev0 h n a w m hk hs
theorem als_inl {o : Oper} {g : FuncId} {args : Array Operand} {tys : Array TypeId} (ho : o.op = .call { callee := .value (.func g), args := args, argTypes := tys }) {fn : Func} {c : Code}
    (hfn : P.funcs[g]? = some fn) (hname : (fn.name == "runtime.NumGoroutine") = false) (hb : fn.body = some c) (hl : args.toList.length ≤ fn.ntmps) (hd : dOk nt o.dst) (hg : o.guard = none)
    (hk : AWPk ⟨n, none⟩ P c ⟨envA 0 (args.toList.map (ev ev0)), h, n, fn.ntmps⟩ (inlK P fn.results.toList fun v h' n' => Kd (put ev0 o.dst v) h' n')) : ALs fk P ops nt [o] ev0 h n Kd := by
  intro B w0 a w m Q post hs hp
  simp only [List.cons_append, List.nil_append, wpListIn, Region.wanted, hg, if_true]
  exact wpIn_of_wp (fun c e => by rw [ho] at e; cases e) (inline_sound o (.func g) args tys ho (caps := []) rfl hfn hname hb (by rw [List.append_nil, List.length_map]; exact hl) (by rw [List.append_nil]; exact hk) hs hd _ _
    (fun v h' n' a' w' m' hkv hs' => hp _ _ _ a' w' m' hkv hs'))

/-- the text that the builder holds is taken: behind it the builder is forgotten -/
theorem dls_text {f : FuncId} (hc : TextC P T e f) {o : Oper} {d : Nat} {tys : Array TypeId} (ho : o.op = .call { callee := .value (.func f), args := #[.tmp tB], argTypes := tys }) (hg : o.guard = none) (hdst : o.dst = some d) (hd : d < nt)
    {u : ByteArray} (hk : DLs P T e tB nt ops rest [(d, .str u)] none K) : DLs P T e tB nt ops (o :: rest) env (some u) K := by
  rintro w0 a w ⟨h1, h2, h3, h4, G, h5, b, p, v, q1, q2, q3, q4, q5, q6⟩
  simp only [wpListIn, Region.wanted, hg, if_true]
  refine wpIn_of_wp (fun c e => by rw [ho] at e; cases e) ?_
  have hxb : a.eval (.tmp tB) = .pointer (some ⟨b, 0, none⟩) := q1
  obtain ⟨fn, hfn, hname, hbody⟩ := hc.ent
  have hrun : (execOp a.eval o).run P w = .ok (.enter f #[.pointer (some ⟨b, 0, none⟩)]) w := by
    have hn' : ¬ fn.name = "runtime.NumGoroutine" := by simpa using hname
    have hb' : ¬ fn.body = none := by intro h; simp [h] at hbody
    have e1 : a.eval (.func f) = .func (.func f) #[] #[] := rfl
    simp [execOp, ho, resolve, e1, Deferred.ofValue, invoke, callFunc, hfn, hn', hb', hxb]
  unfold Oper.wp
  rw [hrun, Oper.upon_enter]
  refine (hc.run w0.heap.size b u w p v q2 h4.size q5).mono ?_
  rintro ex w2 ⟨rfl, r1⟩
  refine hk w0 _ w2 ⟨h1, by rw [put_defers]; exact h2, by rw [put_size]; exact h3, h4.trans r1, fun x => G x, fun q hq => ?_, trivial⟩
  rw [hdst]
  have hdk : dOk a.tmps.size (some d) := by rw [h3]; exact hd
  rw [List.mem_singleton.1 hq, get_put_val hdk, if_pos rfl]; exact .str _

/-- a builder is made -/
theorem dls_new {o : Oper} (ho : o.op = .alloc T) (hg : o.guard = none) (hdst : o.dst = some tB) (hd : tB < nt) {i : TypeInfo} {ad sl : Value} (hi : P.info? T = some i) (hz : i.zero = some (.agg #[.pointer none, .slice none 0 0]))
    (hsub : ∀ p ∈ env', p ∈ env ∧ p.1 ≠ tB) (hk : DLs P T e tB nt ops rest env' (some .empty) K) : DLs P T e tB nt ops (o :: rest) env none K := by
  rintro w0 a w ⟨h1, h2, h3, h4, G, h5, _⟩
  simp only [wpListIn, Region.wanted, hg, if_true]
  refine wpIn_of_wp (fun c e => by rw [ho] at e; cases e) ?_
  have hrun : (execOp a.eval o).run P w = .ok (.value (.pointer (some ⟨w.heap.size, 0, none⟩))) (w.alloc (.cells #[.pointer none, .slice none 0 0] T)) := by
    simp [execOp, ho, Instr.alloc, zeroValue, typeInfo, hi, hz, newVar, newRow]; rfl
  unfold Oper.wp
  rw [hrun, Oper.upon_value]
  have hnew : (w.alloc (.cells #[.pointer none, .slice none 0 0] T)).heap[w.heap.size]? = some (.cells #[.pointer none, .slice none 0 0] T (0, 0)) := heap_push_new w _
  have hold : ∀ x, x < w.heap.size → (w.alloc (.cells #[.pointer none, .slice none 0 0] T)).heap[x]? = w.heap[x]? := fun x hx => heap_push_old w _ hx
  have hdk : dOk a.tmps.size (some tB) := by rw [h3]; exact hd
  refine hk w0 _ _ ⟨h1, by rw [put_defers]; exact h2, by rw [put_size]; exact h3, h4.trans ((Below.refl _ _).alloc h4.size _), fun x => G x ∧ x < w.heap.size, fun q hq => ?_, w.heap.size, .pointer none, .slice none 0 0, ?_, h4.size, ?_, fun h => Nat.lt_irrefl _ h.2, ⟨hnew, .inl rfl, ⟨rfl, .inl ⟨rfl, rfl⟩⟩, by simp [Value.ownBlock]⟩, fun g hg => by simp [Value.ownBlock] at hg⟩
  · obtain ⟨hq, hn⟩ := hsub q hq
    rw [hdst, get_put_val hdk, if_neg (fun h => hn (by injection h with h; exact h.symm))]
    exact (h5 q hq).mono (fun x hx h => ⟨h, hx⟩) (fun x hx _ => hold x hx)
  · rw [hdst, get_put_val hdk, if_pos rfl]
  · rw [alloc_size]; exact Nat.lt_succ_self _
end
end Go.Fi

namespace Go.Fi
open Go Go.RowKit
variable [LaidW]

omit [LaidW] in
/-- a region that draws its order, from where its rest has just one: that rest in its order -/
theorem any_of_list {P : Program} {ops : Array Oper} {F : Fence} {Q : Exit → Act → World → Prop} {j : Nat} (hdown : ∀ (i : Nat) (o : Oper), ops[i]? = some o → ∀ e ∈ o.after, Region.binds .any e = true → e.on < i) (hseq : ∀ i, j ≤ i → i < ops.size → ∀ l, l < i → reach ops 8 i l = true) :
    ∀ (f i : Nat) (listed : Array Bool) (a : Act) (w : World), j ≤ i → i ≤ ops.size → listed.size = ops.size → Closed ops listed → (∀ l, l < ops.size → (listed.getD l false = true ↔ l < i)) → open_ listed ≤ f →
      wpListIn F 0 P ops Q (ops.toList.drop i) a w → wpAnyIn F 0 P .any ops Q f listed a w := by
  have none_left : ∀ (listed : Array Bool), (∀ l, l < ops.size → (listed.getD l false = true ↔ l < ops.size)) → Region.ready .any ops listed = [] ∨ listed.size ≠ ops.size := by
    intro listed hl
    by_cases hsz : listed.size = ops.size
    · refine .inl ?_
      cases hr : Region.ready .any ops listed with
      | nil => rfl
      | cons x xs =>
        obtain ⟨o, ho, hf, _⟩ := ready_false hsz (i := x) (by rw [hr]; simp)
        have hx := (Array.getElem?_eq_some_iff.1 ho).1
        have := (hl x hx).2 hx
        rw [Array.getD_eq_getD_getElem?, hf] at this
        cases this
    · exact .inr hsz
  intro f
  induction f with
  | zero =>
    intro i listed a w hki hi hsz hc hl hop hk
    have hall : i = ops.size := by
      rcases Nat.lt_or_ge i ops.size with hlt | hge
      · have := open_zero (Nat.le_zero.1 hop) (i := i) (by omega)
        have := (hl i hlt).1 this
        omega
      · omega
    subst hall
    rw [List.drop_of_length_le (by simp)] at hk
    exact ⟨(none_left listed hl).elim id (fun e => absurd hsz e), hk⟩
  | succ f ih =>
    intro i listed a w hki hi hsz hc hl hop hk
    by_cases hlt : i < ops.size
    · have hne := some_ready hsz hdown i hlt (by
        cases hq : listed.getD i false with
        | true => have := (hl i hlt).1 hq; omega
        | false => rfl)
      refine ⟨fun hnil => absurd hnil hne, fun x hx => ?_⟩
      obtain ⟨o, ho, hf, he⟩ := ready_false hsz hx
      have hxs := (Array.getElem?_eq_some_iff.1 ho).1
      have hxi : x = i := by
        have h1 : ¬ x < i := fun hxl => by
          have := (hl x hxs).2 hxl
          rw [Array.getD_eq_getD_getElem?, hf] at this
          cases this
        rcases Nat.lt_or_ge i x with h2 | h2
        · have := reach_listed hc 8 x i o ho he (hseq x (by omega) hxs i h2)
          have := (hl i hlt).1 this
          omega
        · omega
      subst hxi
      have hdrop : ops.toList.drop x = o :: ops.toList.drop (x + 1) := by
        rw [List.drop_eq_getElem_cons (by simpa using hlt)]
        congr 1
        have : ops.toList[x]? = some o := by rw [Array.getElem?_toList]; exact ho
        rw [List.getElem?_eq_getElem (by simpa using hlt)] at this
        injection this
      rw [hdrop] at hk
      simp only [wpListIn] at hk
      have hnext : ∀ a' w', wpListIn F 0 P ops Q (ops.toList.drop (x + 1)) a' w' → wpAnyIn F 0 P .any ops Q f (listed.setIfInBounds x true) a' w' := by
        intro a' w' hk'
        refine ih (x + 1) _ a' w' (by omega) (by omega) (by simpa using hsz) (hc.set ho he) (fun l hl' => ?_) (by have := open_set hf; omega) hk'
        by_cases hxl : x = l
        · subst hxl
          rw [Array.getD_eq_getD_getElem?, Array.getElem?_setIfInBounds]
          simp [hsz, hl']
        · rw [getD_set_ne false hxl, hl l hl']
          omega
      unfold wpOpIn
      rw [ho]
      dsimp only
      split at hk
      · rename_i hw
        rw [if_pos hw]
        exact Oper.wpIn_mono (fun _ _ h => hnext _ _ h) hk
      · rename_i hw
        rw [if_neg hw]
        exact ⟨hk.1, hnext _ _ hk.2⟩
    · have hall : i = ops.size := by omega
      subst hall
      rw [List.drop_of_length_le (by simp)] at hk
      have hr : Region.ready .any ops listed = [] := (none_left listed hl).elim id (fun e => absurd hsz e)
      refine ⟨fun _ => hk, fun x hx => ?_⟩
      rw [hr] at hx; cases hx

section
variable {P : Program} {ops : Array Oper} {nt : Nat} {fk : Fk} {e : Env} {h : Heap} {n : Nat}
/-- a region that draws its order, whatever comes behind its first k operations, whatever is to hold behind it -/
theorem regionG_Q (k : Nat) {id : Nat} {Kp : Env → Heap → Nat → Prop} (hm : P.follows .mixedOrders = true) (hc : Chk ops k) (hk : aPre P ops nt (ops.toList.take k) e h n Kp) {B : Base} {w0 : Ctx fk} {a : Act} {w : World} {m : Mm} {Q : Exit → Act → World → Prop} (hs : Sim B w0 ⟨e, h, n, nt⟩ a w m)
    (hlast : ∀ (e' : Env) (h' : Heap) (n' : Nat), Kp e' h' n' → ∀ (f : Nat) (listed : Array Bool) (a : Act) (w : World) (m : Mm), listed.size = ops.size → Closed ops listed → (∀ j, j < ops.size → (listed.getD j false = true ↔ j < k)) → open_ listed ≤ f → Sim B w0 ⟨e', h', n', nt⟩ a w m → wpAnyIn (Fe w0.r) 0 P .any ops Q f listed a w) :
    (Code.region id ops true).wpIn (Fe w0.r) 0 P Q a w := by
  obtain ⟨T, hK⟩ := aPre_tr _ _ _ _ hk
  have hlen : (ops.toList.take k).length = k := by simp [hc.le]
  rw [hlen] at hK
  refine wpIn_region_any hm ?_
  have hs' : Sim B w0 ⟨e, h, n, nt⟩ a { w with drawn := w.drawn + 1 } m := by
    have hb : Below w.heap.size w { w with drawn := w.drawn + 1 } := (Below.refl _ _).drew
    have hB := hs.room
    exact ⟨hs.base, hs.below.trans (hb.mono hB), hs.defers, hs.size, fun t => (hs.env t).mono (Mm.le.refl m) (fun _ _ h => h) (fun b hb' _ => hb.block b hb'), hs.heap.below hb, hs.dom, hs.ids, hs.fr.mono (Mm.le.refl m) (fun _ _ h => h) (fun b hb' _ => hb.block b hb') (Nat.le_refl _)⟩
  obtain ⟨h1, h2, h3⟩ := sim0_hs (T := T) hc.le hs'.heap hs'.dom hs'.ids k (Nat.le_refl _)
  have hf : ∀ i, (Array.replicate ops.size false).getD i false = false := by
    intro i
    rw [Array.getD_eq_getD_getElem?, Array.getElem?_replicate]
    split <;> rfl
  refine pre_sound (T := T) hc h3 (fun f listed a w m => hlast _ _ _ hK f listed a w m) ops.size _ a _ m (by simp) (fun i o ho hl => by rw [hf] at hl; cases hl) ?_ (fun i _ _ => hf i) ⟨hs'.base, hs'.below, hs'.defers, hs'.size, h1, fun id => ?_, (fun i t hi hl => by rw [hf] at hl; cases hl), fun t _ => ?_, by rw [h2]; exact hs'.fr⟩
  · unfold open_
    refine Nat.le_trans List.countP_le_length ?_
    simp
  · rw [hs'.dom]
    constructor
    · exact .inl
    · rintro (h | ⟨i, _, hl, _⟩)
      · exact h
      · rw [hf] at hl; cases hl
  · rw [h2]
    exact hs'.env t
end

section
variable {P : Program} {T e : TypeId} {tB nt : Nat} {env env' : DEnv} {t : Option ByteArray} {K K' : Exit → DEnv → Option ByteArray → Prop} {ops : Array Oper} {rest : List Oper} {e0 : Env} {h : Heap} {n : Nat}
/-- in the middle of a piece -/
def MLs (P : Program) (T e : TypeId) (tB nt : Nat) (ops : Array Oper) (rest : List Oper) (t : Option ByteArray) (e0 : Env) (h : Heap) (n : Nat) (K : Exit → DEnv → Option ByteArray → Prop) : Prop :=
  ∀ (w0 : World) (a : Act) (w : World) (G : Nat → Prop) (b : Nat) (F : List (AV × Value)) (ok : LaidW.ok w), DHyp T e tB w0 nt [] t a w → (∀ u, t = some u → (AV.ptr 0 0 0, Value.pointer (some ⟨b, 0, none⟩)) ∈ F) → BldIs T e tB w0.heap.size G w a t →
    (∀ u, t = some u → a.tmps.getD tB undef = .pointer (some ⟨b, 0, none⟩)) → ∀ (a' : Act) (w' : World) (m' : Mm), Sim ⟨w.heap.size, G⟩ (⟨w, F, none, [], [], fun ri h => (by cases h), ok⟩ : Ctx ⟨1, none⟩) ⟨e0, h, n, nt⟩ a' w' m' →
      wpListIn (Fe none) 0 P ops (DPost T e tB w0 nt K) rest a' w'
theorem dls_mls (hk : MLs P T e tB nt ops rest t (sEnv tB t env) [] 1 K) : DLs P T e tB nt ops rest env t K := by
  intro w0 a w hh
  obtain ⟨G, b, m, F, hF, hbl, hsl, ok, hs⟩ := hh.start
  exact hk w0 a w G b F ok (hh.sub (fun p hp => by cases hp)) hF hbl hsl a w m hs
theorem mls_als {p1 p2 : List Oper} (hk : ALs ⟨1, none⟩ P ops nt p1 e0 h n fun e' h' n' => MLs P T e tB nt ops p2 t e' h' n' K) : MLs P T e tB nt ops (p1 ++ p2) t e0 h n K := by
  intro w0 a w G b F ok hh hF hbl hsl a' w' m' hs'
  exact hk _ _ a' w' m' _ p2 hs' (fun e2 h2 n2 a2 w2 m2 hk2 hs2 => hk2 w0 a w G b F ok hh hF hbl hsl a2 w2 m2 hs2)
theorem mls_write {f : FuncId} (hc : WriteC P T e f) {o : Oper} {tX : Nat} {tys : Array TypeId} (ho : o.op = .call { callee := .value (.func f), args := #[.tmp tB, .tmp tX], argTypes := tys }) (hg : o.guard = none) (hd : dOk nt o.dst) (hne : o.dst ≠ some tB)
    {u : ByteArray} (hk : get e0 tB = .ptr 0 0 0 ∧ ∃ ow fl s, get e0 tX = .w ow fl (.str s) ∧ u.size + s.size ≤ 1000000000 ∧ ∃ env', FzL (put e0 o.dst (.w false false .undef)) h env' ∧ K .normal env' (some (u ++ s))) :
    MLs P T e tB nt ops [o] (some u) e0 h n K := by
  intro w0 a w G b F ok hh hF hbl hsl a' w' m' hs'
  obtain ⟨hB, ow, fl, s, hX, hsz, env', hz, hK⟩ := hk
  obtain ⟨g1, g2, g3, g4, g5, b', p, v, q1, q2, q3, q4, q5, q6⟩ := stopB hh hF hbl hsl hs' (t := some u) hB
  simp only [wpListIn, Region.wanted, hg, if_true]
  refine wpIn_of_wp (fun c e => by rw [ho] at e; cases e) ?_
  have hxs : a'.eval (.tmp tX) = .string s := by
    have := hs'.env tX
    rw [show get (St.env ⟨e0, h, n, nt⟩) tX = .w ow fl (.str s) from hX] at this
    exact this.str_inv
  have hxb : a'.eval (.tmp tB) = .pointer (some ⟨b', 0, none⟩) := q1
  obtain ⟨fn, hfn, hname, hbody⟩ := hc.ent
  have hrun : (execOp a'.eval o).run P w' = .ok (.enter f #[.pointer (some ⟨b', 0, none⟩), .string s]) w' := by
    have hn' : ¬ fn.name = "runtime.NumGoroutine" := by simpa using hname
    have hb' : ¬ fn.body = none := by intro h; simp [h] at hbody
    have e1 : a'.eval (.func f) = .func (.func f) #[] #[] := rfl
    simp [execOp, ho, resolve, e1, Deferred.ofValue, invoke, callFunc, hfn, hn', hb', hxs, hxb]
  unfold Oper.wp
  rw [hrun, Oper.upon_enter]
  refine (hc.run w0.heap.size b' u s w' p v q2 g4.size q5 hsz).mono ?_
  rintro ex w2 ⟨rfl, r1, r2, p', v', r3, r4⟩
  refine ⟨env', some (u ++ s), hK, g1, by rw [put_defers]; exact g2, by rw [put_size]; exact g3, g4.trans r1, (fun x => (w.heap.size ≤ x ∨ G x) ∧ x < w'.heap.size), fun q hq => ?_, b', p', v', ?_, q2, Nat.lt_of_lt_of_le q3 r1.size, fun h => q4 h.1, r3, fun g hg => ?_⟩
  · have hf := hz.mem q hq
    by_cases hqd : o.dst = some q.1
    · rw [hqd] at hf
      have : q.2 = .undef := by
        simp only [put, get, if_true] at hf
        have : frz h 9 (.w false false .undef) = some .undef := rfl
        rw [this] at hf; injection hf with hf; exact hf.symm
      rw [this]; exact .undef _
    · have e1 : get (put e0 o.dst (.w false false .undef)) q.1 = get e0 q.1 := by
        cases hdst : o.dst with
        | none => rfl
        | some d => simp only [put, get]; rw [if_neg (fun h => hqd (by rw [hdst, h]))]
      rw [e1] at hf
      have e2 : (a'.put o.dst (.tuple #[.int .i64 s.size, .nilIface])).tmps.getD q.1 undef = a'.tmps.getD q.1 undef := by
        rw [get_put_val (by rw [g3]; exact hd), if_neg hqd]
      rw [e2]
      refine (g5 _ _ _ hf (hs'.env q.1)).mono (fun x hx hg => ⟨hg, hx⟩) (fun x hx hg => r2 x hx (fun h => q4 (h ▸ hg)) (fun h => (q6 x h).1 hg))
  · rw [get_put_val (by rw [g3]; exact hd), if_neg hne]
    exact q1
  · rcases r4 g hg with h | h
    · exact ⟨fun h2 => (q6 g h).1 h2.1, Nat.lt_of_lt_of_le (q6 g h).2 r1.size⟩
    · refine ⟨fun h2 => by have := h2.2; omega, ?_⟩
      rcases r3.2.2.1.2 with ⟨rfl, _⟩ | ⟨g', cap, cur, rfl, _, h6, _⟩
      · simp [Value.ownBlock] at hg
      · simp only [Value.ownBlock, Option.some.injEq] at hg
        subst hg
        exact (Array.getElem?_eq_some_iff.1 h6).1
/-- A REGION THAT DRAWS ITS ORDER, ITS END IN ONE ORDER -/
theorem awpd_regionD (k : Nat) {id : Nat} (hm : P.follows .mixedOrders = true) (hchk : chkP ops k = true) (hk : aPre P ops nt (ops.toList.take k) (sEnv tB t env) [] 1 fun e' h' n' => MLs P T e tB nt ops (ops.toList.drop k) t e' h' n' K) :
    AWPD P T e tB nt (.region id ops true) env t K := by
  intro w0 a w hh
  obtain ⟨hc, hseq⟩ := chk_of hchk
  obtain ⟨G, b, m, F, hF, hbl, hsl, ok, hs⟩ := hh.start
  exact regionG_Q k hm hc hk hs fun e' h' n' hM f listed a2 w2 m2 hsz hcl hl hop hs2 =>
    any_of_list hc.down hseq f k listed a2 w2 (Nat.le_refl _) hc.le hsz hcl hl hop (hM w0 a w G b F ok (hh.sub (fun p hp => by cases hp)) hF hbl hsl a2 w2 m2 hs2)

/-- a function that is walked so -/
theorem realcall_of_awpd {f : FuncId} {fn : Func} {c : Code} {args : List PV} {res : PV} (hf : P.funcs[f]? = some fn) (hname : (fn.name == "runtime.NumGoroutine") = false) (hb : fn.body = some c) (hnt : args.length ≤ fn.ntmps)
    (hk : AWPD P T e tB fn.ntmps c ((List.range args.length).map fun i => (i, args.getD i .undef)) none fun ex env' t' => RetOk P fn.results.toList ⟨dEnv env', [], 1, fn.ntmps⟩ res true ∧ (ex = .normal ∨ ex = .ret)) : RealCall P f args res true := by
  refine ⟨⟨fn, hf, hname, by rw [hb]; rfl⟩, fun G w vs hok hlen hrep => ?_⟩
  refine calls_of_wp hf hb ((wpIn_wide (n := 0)).1 ?_)
  have hst : DHyp T e tB w fn.ntmps ((List.range args.length).map fun i => (i, args.getD i .undef)) none { tmps := vs ++ Array.replicate (fn.ntmps - vs.size) undef, defers := [] } w := by
    refine ⟨hok, rfl, by simp; omega, Below.refl _ _, G, fun p hp => ?_, trivial⟩
    obtain ⟨i, hi, rfl⟩ := List.mem_map.1 hp
    have hlt : i < args.length := List.mem_range.1 hi
    have : (vs ++ Array.replicate (fn.ntmps - vs.size) undef).getD i undef = vs[i]'(by omega) := by
      rw [Array.getD_eq_getD_getElem?, Array.getElem?_append_left (by omega), Array.getElem?_eq_getElem (by omega)]; rfl
    show Rep G w (args.getD i .undef) ((vs ++ Array.replicate (fn.ntmps - vs.size) undef).getD i undef)
    rw [this]
    exact hrep i _ _ (by rw [List.getD_eq_getElem?_getD, List.getElem?_eq_getElem hlt]; rfl) (Array.getElem?_eq_getElem (by omega))
  refine wpIn_mono (hk w _ w hst) (fun ex a' w' ⟨env', t', ⟨hr, hex⟩, hh⟩ => ?_)
  obtain ⟨G2, b, m, F, _, _, _, ok, hs⟩ := (show DHyp T e tB w fn.ntmps env' none a' w' from ⟨hh.1, hh.2.1, hh.2.2.1, hh.2.2.2.1, hh.2.2.2.2.choose, hh.2.2.2.2.choose_spec.1, trivial⟩).start
  have hbel := hh.2.2.2.1
  have main : a'.defers = [] ∧ ∃ v, (results fn a'.tmps).run P w' = .ok v w' ∧ ∃ v', Ending.returned v = .returned v' ∧ Below w.heap.size w w' ∧ Rep (fun b => (b < w.heap.size → G b) ∧ (true = true → w.heap.size ≤ b)) w' res v' := by
    refine ⟨hh.2.1, ?_⟩
    unfold RetOk at hr
    split at hr
    · rename_i vs' d hres
      obtain ⟨hd, hfz, hfr⟩ := hr
      obtain ⟨us, h1, h2, h3⟩ := run_results hs _ _ _ hres hd
      have hrun : (results fn a'.tmps).run P w' = .ok (if h : us.toArray.size = 1 then us.toArray[0] else .tuple us.toArray) w' := by
        have he : results fn a'.tmps = (do
            let vs ← fn.results.mapM (resRun a'.tmps)
            pure (if h : vs.size = 1 then vs[0] else .tuple vs)) := rfl
        rw [he, Array.mapM_eq_mapM_toList]
        simp only [Sem.run_bind, Sem.run_map, h1, Result.andThen_ok, Sem.run_pure]
      have hone : RepA ⟨w'.heap.size, G2⟩ (LB m []) m w' (oneOf vs') (if h : us.toArray.size = 1 then us.toArray[0] else .tuple us.toArray) := by
        have tupc : vs'.length ≠ 1 → RepA ⟨w'.heap.size, G2⟩ (LB m []) m w' (.tup vs') (if h : us.toArray.size = 1 then us.toArray[0] else .tuple us.toArray) := by
          intro hne
          rw [dif_neg (by simp; omega)]
          exact .tup (by simpa using h2) (fun j p u hp hu => h3 j p u hp (by simpa using hu))
        match vs', h2, h3, tupc with
        | [], h2, h3, tupc => exact tupc (by simp)
        | [v], h2, h3, tupc =>
          obtain ⟨u, rfl⟩ : ∃ u, us = [u] := List.length_eq_one_iff.1 (by simpa using h2.symm)
          exact h3 0 v u rfl rfl
        | v :: v2 :: r, h2, h3, tupc => exact tupc (by simp)
      refine ⟨_, hrun, _, rfl, hbel, ?_⟩
      have hle := hbel.size
      exact frz_rep (B := ⟨w'.heap.size, G2⟩) hs.heap (fun id cs e => hget_mem e) true (fun b hb => ⟨fun hl => by simp only at hb; omega, fun _ => by simp only at hb; omega⟩) (fun hf b hg => by cases hf) 6 _ _ _ hfz hfr hone
    · exact hr.elim
  rcases hex with rfl | rfl <;> exact main
end
end Go.Fi

