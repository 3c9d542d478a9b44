/- A logic of abstract states for this claim (part Lb): lemmas alone. -/
import Derived.Test.YtfpamehamllndaaGreatDoorLa
import Derived.Laws.NewFold
import Derived.MapKept
set_option linter.unusedSimpArgs false
set_option linter.unusedVariables false

namespace Go.Fi
open Go Go.RowKit

section
variable {P : Program} {B : Base} {m : Mm} {w : World} {H h : Heap} {n : Nat} {env : Env} {a : Act}

theorem run_bounds (len cap l u : Nat) (low high : Option Value) (hl : low = none ∧ l = 0 ∨ ∃ k, low = some (.int k l)) (hh : high = none ∧ u = len ∨ ∃ k, high = some (.int k u)) (h1 : l ≤ u) (h2 : u ≤ cap) :
    (Instr.sliceBounds true len cap low high none).run P w = .ok (l, u, cap) w := by
  rcases hl with ⟨rfl, rfl⟩ | ⟨k, rfl⟩ <;> rcases hh with ⟨rfl, rfl⟩ | ⟨k', rfl⟩ <;> simp [Instr.sliceBounds, Instr.sliceBound, asIntOf, h1, h2]
theorem run_boundsS (len l u : Nat) (low high : Option Value) (hl : low = none ∧ l = 0 ∨ ∃ k, low = some (.int k l)) (hh : high = none ∧ u = len ∨ ∃ k, high = some (.int k u)) (h1 : l ≤ u) (h2 : u ≤ len) :
    (Instr.sliceBounds false len len low high none).run P w = .ok (l, u, len) w := by
  rcases hl with ⟨rfl, rfl⟩ | ⟨k, rfl⟩ <;> rcases hh with ⟨rfl, rfl⟩ | ⟨k', rfl⟩ <;> simp [Instr.sliceBounds, Instr.sliceBound, asIntOf, h1, h2]
theorem run_bounds3 (len cap l u : Nat) (low high : Option Value) (kq : IntKind) (hl : low = none ∧ l = 0 ∨ ∃ k, low = some (.int k l)) (hh : ∃ k, high = some (.int k u)) (h1 : l ≤ u) (h2 : u ≤ cap) :
    (Instr.sliceBounds true len cap low high (some (.int kq u))).run P w = .ok (l, u, u) w := by
  rcases hl with ⟨rfl, rfl⟩ | ⟨k, rfl⟩ <;> obtain ⟨k', rfl⟩ := hh <;> simp [Instr.sliceBounds, Instr.sliceBound, asIntOf, h1, h2]

theorem run_slice_sl {t e sz : Nat} (hs : slE P t = some (e, sz)) (a0 : Option Addr) (len cap l u mx : Nat) (low high max : Option Value) (hb : (Instr.sliceBounds true len cap low high max).run P w = .ok (l, u, mx) w) :
    (Instr.sliceAt t (.slice a0 len cap) low high max).run P w = .ok (.slice (if mx = l then a0 else a0.map (·.add (l * sz))) (u - l) (mx - l)) w := by
  obtain ⟨hu, i, hi, hz⟩ := slE_spec hs
  simp [Instr.sliceAt, Instr.slice, run_underlying hu, hb, sizeOf, typeInfo, hi, hz]

theorem avInt_spec {L : Nat → Prop} {x : AV} {v : Value} {i : Int} (hx : RepA B L m w x v) (h : avInt x = some i) : ∃ k, v = .int k i := by
  unfold avInt at h
  split at h
  · injection h with h; subst h; exact ⟨_, hx.int_inv⟩
  · cases h
theorem lo_spec {lo : Option Operand} {l : Int} (hr : ∀ x, lo = some x → RepA B (LB m H) m w (ev env x) (a.eval x)) (h : lov (ev env) lo = some l) (h0 : 0 ≤ l) :
    lo.map a.eval = none ∧ l.toNat = 0 ∨ ∃ k, lo.map a.eval = some (.int k (l.toNat : Int)) := by
  cases lo with
  | none => injection h with h; subst h; exact .inl ⟨rfl, rfl⟩
  | some x =>
    obtain ⟨k, hk⟩ := avInt_spec (hr x rfl) h
    exact .inr ⟨k, by simp [hk, Int.toNat_of_nonneg h0]⟩
theorem hi_spec {hi : Option Operand} {u : Int} {k : Nat} (hr : ∀ x, hi = some x → RepA B (LB m H) m w (ev env x) (a.eval x)) (h : hiv (ev env) k hi = some u) (h0 : 0 ≤ u) :
    hi.map a.eval = none ∧ u.toNat = k ∨ ∃ q, hi.map a.eval = some (.int q (u.toNat : Int)) := by
  cases hi with
  | none => injection h with h; subst h; exact .inl ⟨rfl, by simp⟩
  | some x =>
    obtain ⟨k, hk⟩ := avInt_spec (hr x rfl) h
    exact .inr ⟨k, by simp [hk, Int.toNat_of_nonneg h0]⟩

theorem cut_rep {own f : Bool} {k : Nat} {cells : List PV} {v : Value} (hx : RepA B (LB m H) m w (.w own f (.sl k cells)) v) (l u mx sz : Nat) (hmx : l ≤ u) (hu : u ≤ mx) (f' : Bool) (hf : f' = true → mx = u) :
    ∃ a0 cap, v = .slice a0 k cap ∧ k ≤ cap ∧ (mx ≤ cap → RepA B (LB m H) m w (.w own f' (.sl (u - l) ((cells.drop (l * sz)).take ((u - l) * sz)))) (.slice (if mx = l then a0 else a0.map (·.add (l * sz))) (u - l) (mx - l))) := by
  obtain ⟨a0, cap, hv, hk, _, hn, hc⟩ := hx.sl_inv
  refine ⟨a0, cap, hv, hk, fun hmc => .w ?_ (fun e a n c hh => by injection hh with _ h1 h2; have := hf e; omega)⟩
  cases hL : (cells.drop (l * sz)).take ((u - l) * sz) with
  | nil =>
    cases ha : a0 with
    | none =>
      obtain ⟨h1, h2⟩ := hn ha
      have e1 : u - l = 0 := by omega
      have e2 : mx - l = 0 := by omega
      rw [e1, e2]
      split <;> exact .slnil
    | some aa => split <;> exact .slz (by omega)
  | cons x xs =>
    have hne : cells ≠ [] := by rintro rfl; simp at hL
    obtain ⟨b, off, vals, rfl, h1, h2, h3⟩ := hc hne
    have hlt : l < u := by
      rcases Nat.lt_or_ge l u with h | h
      · exact h
      · have : u - l = 0 := by omega
        rw [this] at hL; simp at hL
    rw [if_neg (by omega)]
    simp only [Option.map_some, Addr.add_mk]
    refine .sl (fun j => vals (l * sz + j)) (by omega) (fun j hj => ?_) (fun _ => h2) (fun j p hp => ?_)
    · have hj' : l * sz + j < cells.length := by
        rw [← hL, List.length_take, List.length_drop] at hj; omega
      rw [Nat.add_assoc]; exact h1 _ hj'
    · rw [← hL, List.getElem?_take] at hp
      split at hp
      · rw [List.getElem?_drop] at hp; exact h3 _ p hp
      · cases hp

theorem ok_slice (t : TypeId) (x : Operand) (lo hi mx : Option Operand) (o : Oper) (ho : o.op = .slice t x lo hi mx) {c : Prop} {v : AV} {E : List (List AV)} (h0 : aOp P h n (ev env) (.slice t x lo hi mx) = some (c, v, E)) (hc : c)
    (hx : RepA B (LB m H) m w (ev env x) (a.eval x)) (hlo : ∀ y, lo = some y → RepA B (LB m H) m w (ev env y) (a.eval y)) (hhi : ∀ y, hi = some y → RepA B (LB m H) m w (ev env y) (a.eval y))
    (hmx : ∀ y, mx = some y → RepA B (LB m H) m w (ev env y) (a.eval y)) : E = [] ∧ ValOk P B H m w (execOp a.eval o) v := by
  simp only [aOp] at h0
  split at h0
  · rename_i e sz hs
    split at h0
    · rename_i l own f k cells hl ex
      rw [ex] at hx
      split at h0
      · rename_i u hu
        simp only [Option.some.injEq, Prod.mk.injEq] at h0; obtain ⟨rfl, rfl, rfl⟩ := h0
        obtain ⟨c1, c2, c3⟩ := hc
        have hl' := lo_spec hlo hl c1
        have hu' := hi_spec hhi hu (by omega)
        obtain ⟨a0, cap, hv, hk, _⟩ := cut_rep hx l.toNat u.toNat u.toNat sz (by omega) (Nat.le_refl _) false (fun e => by cases e)
        obtain ⟨a0', cap', hv', _, hr⟩ := cut_rep hx l.toNat u.toNat cap sz (by omega) (by omega) false (fun e => by cases e)
        rw [hv] at hv'; injection hv' with e1 e2 e3; subst e1; subst e3
        refine ⟨rfl, _, ?_, hr (Nat.le_refl _)⟩
        have hb := run_bounds (P := P) (w := w) k cap l.toNat u.toNat _ _ hl' hu' (by omega) (by omega)
        simp [execOp, ho, hv, run_slice_sl hs a0 k cap _ _ _ _ _ _ hb]
      · rename_i u y hu
        split at h0
        · rename_i q yy hq
          simp only [Option.some.injEq, Prod.mk.injEq] at h0; obtain ⟨rfl, rfl, rfl⟩ := h0
          obtain ⟨c1, c2, c3, c4⟩ := hc
          subst c4
          have hl' := lo_spec hlo hl c1
          have hu' := hi_spec hhi hu (by omega)
          obtain ⟨kq, hqv⟩ := avInt_spec (hmx y rfl) hq
          obtain ⟨a0, cap, hv, hk, hr⟩ := cut_rep hx l.toNat q.toNat q.toNat sz (by omega) (Nat.le_refl _) true (fun _ => rfl)
          refine ⟨rfl, _, ?_, hr (by omega)⟩
          have hu'' : ∃ k, (some yy).map a.eval = some (.int k (q.toNat : Int)) := by
            rcases hu' with ⟨h, _⟩ | h
            · cases h
            · exact h
          have hb := run_bounds3 (P := P) (w := w) k cap l.toNat q.toNat _ _ kq hl' hu'' (by omega) (by omega)
          have hq' : a.eval y = .int kq (q.toNat : Int) := by rw [hqv, Int.toNat_of_nonneg (by omega)]
          have hs' := run_slice_sl hs a0 k cap _ _ _ _ _ _ hb
          rw [← hq', ← Option.map_some (f := a.eval) (a := y)] at hs'
          simp only [execOp, ho, hv, Sem.run_bind, hs', Result.andThen_ok, Sem.run_pure]
        · cases h0
      · cases h0
    · rename_i l id ver z off k hl ex
      rw [ex] at hx
      split at h0
      · rename_i u hu
        simp only [Option.some.injEq, Prod.mk.injEq] at h0; obtain ⟨rfl, rfl, rfl⟩ := h0
        obtain ⟨c1, c2, c3, c4⟩ := hc
        subst c4
        have hl' := lo_spec hlo hl c1
        have hu' := hi_spec hhi hu (by omega)
        obtain ⟨a0, cap, hv, hk, h1, h2, h3, h4⟩ := hx.msl_inv
        have hb := run_bounds (P := P) (w := w) k cap l.toNat u.toNat _ _ hl' hu' (by omega) (by omega)
        have hs' := run_slice_sl hs a0 k cap _ _ _ _ _ _ hb
        refine ⟨rfl, .slice (if cap = l.toNat then a0 else a0.map (·.add (l.toNat * z))) (u.toNat - l.toNat) (cap - l.toNat), ?_, .msl h1 h2 (by omega) (fun e => ?_) (fun b C e => ?_)⟩
        · simp only [execOp, ho, hv, Sem.run_bind, hs', Option.map_none, Result.andThen_ok, Sem.run_pure]
        · obtain ⟨e2, e3⟩ := h3 e
          exact ⟨by omega, e3⟩
        · obtain ⟨e1, e2, e3⟩ := h4 b C e
          have e5 : l.toNat * z + (cap - l.toNat) * z = cap * z := by rw [← Nat.add_mul]; congr 1; omega
          refine ⟨fun hp => ?_, by omega, by omega⟩
          rw [if_neg (by omega), e1 (by omega)]
          simp [Addr.add_mk]
      · cases h0
    · cases h0
  · unfold slcX at h0
    split at h0
    · rename_i own f s hst ex
      rw [ex] at hx
      split at h0
      · rename_i l u hl hu
        simp only [Option.some.injEq, Prod.mk.injEq] at h0; obtain ⟨rfl, rfl, rfl⟩ := h0
        obtain ⟨c1, c2, c3⟩ := hc
        have hl' := lo_spec hlo hl c1
        have hu' := hi_spec hhi hu (by omega)
        have hut : P.underlying t = some .string := by
          unfold isStr at hst
          split at hst
          · assumption
          · cases hst
        have hb : (Instr.sliceBounds false s.size s.size (lo.map a.eval) (hi.map a.eval) none).run P w = .ok (l.toNat, u.toNat, s.size) w := by
          exact run_boundsS s.size l.toNat u.toNat _ _ hl' hu' (by omega) (by omega)
        refine ⟨rfl, .string (s.extract l.toNat u.toNat), ?_, rep_str _⟩
        simp [execOp, ho, hx.str_inv, Instr.sliceAt, Instr.slice, run_underlying hut, hb]
      · cases h0
    · rename_i own f cells off hst ex
      rw [ex] at hx
      split at h0
      · rename_i n sz hp
        simp only [Option.some.injEq, Prod.mk.injEq] at h0; obtain ⟨rfl, rfl, rfl⟩ := h0
        obtain ⟨c1, c2⟩ := hc
        unfold arE at hp
        split at hp
        · rename_i n' e hu
          cases hie : P.info? e with
          | none => rw [hie] at hp; cases hp
          | some i =>
            rw [hie] at hp
            simp only [Option.map_some, Option.some.injEq, Prod.mk.injEq] at hp
            obtain ⟨rfl, rfl⟩ := hp
            obtain ⟨b, o', vals, hv, h1, h2, h3⟩ := hx.ip_inv
            refine ⟨rfl, .slice (some ⟨b, o' + off, none⟩) n' n', ?_, ?_⟩
            · simp [execOp, ho, hv, Instr.sliceAt, Instr.sureAddr, run_underlying hu, Instr.sliceBounds, sizeOf, typeInfo, hie]
              intros
              first | omega | simp [Addr.add_mk]
            · refine .w (.sl (fun j => vals (off + j)) (Nat.le_refl _) (fun j hj => ?_) (fun hne => h2 ?_) (fun j p hj => ?_)) (fun _ a n c e => by injection e with _ e1 e2; omega)
              · rw [List.length_take, List.length_drop] at hj
                rw [Nat.add_assoc]; exact h1 (off + j) (by omega)
              · intro e; rw [e] at hne; simp at hne
              · have hj2 := (List.getElem?_eq_some_iff.1 hj).1
                rw [List.length_take, List.length_drop] at hj2
                rw [List.getElem?_take, if_pos (by omega), List.getElem?_drop] at hj
                exact h3 _ _ hj
        · cases hp
      · rename_i n sz y hp
        split at h0
        · rename_i u hu0
          simp only [Option.some.injEq, Prod.mk.injEq] at h0; obtain ⟨rfl, rfl, rfl⟩ := h0
          obtain ⟨c1, c2, c3, c4⟩ := hc
          obtain ⟨U, rfl⟩ := Int.eq_ofNat_of_zero_le c3
          obtain ⟨kq, hyv⟩ := avInt_spec (hhi y rfl) hu0
          simp only [Int.toNat_natCast]
          have hU : U ≤ n := by omega
          have hUs : U * sz ≤ n * sz := Nat.mul_le_mul_right sz hU
          unfold arE at hp
          split at hp
          · rename_i n' e hu
            cases hie : P.info? e with
            | none => rw [hie] at hp; cases hp
            | some i =>
              rw [hie] at hp
              simp only [Option.map_some, Option.some.injEq, Prod.mk.injEq] at hp
              obtain ⟨rfl, rfl⟩ := hp
              obtain ⟨b, o', vals, hv, h1, h2, h3⟩ := hx.ip_inv
              refine ⟨trivial, .slice (some ⟨b, o' + off, none⟩) U n', ?_, ?_⟩
              · simp [execOp, ho, hv, hyv, Instr.sliceAt, Instr.sureAddr, run_underlying hu, Instr.sliceBounds, Instr.sliceBound, asIntOf, sizeOf, typeInfo, hie, hU]
                intros
                first | omega | simp [Addr.add_mk]
              · refine .w (.sl (fun j => vals (off + j)) hU (fun j hj => ?_) (fun hne => h2 ?_) (fun j p hj => ?_)) (fun h => by cases h)
                · rw [List.length_take, List.length_drop] at hj
                  rw [Nat.add_assoc]; exact h1 (off + j) (by omega)
                · intro e; rw [e] at hne; simp at hne
                · have hj2 := (List.getElem?_eq_some_iff.1 hj).1
                  rw [List.length_take, List.length_drop] at hj2
                  rw [List.getElem?_take, if_pos (by omega), List.getElem?_drop] at hj
                  exact h3 _ _ hj
          · cases hp
        · cases h0
      · cases h0
    · cases h0
end
end Go.Fi

namespace Go.Fi
open Go Go.RowKit

theorem heap_push_old (w : World) (o : Obj) {b : Nat} (h : b < w.heap.size) : (w.alloc o).heap[b]? = w.heap[b]? := by
  show (w.heap.push o)[b]? = _
  rw [Array.getElem?_push, if_neg (by omega)]
theorem heap_push_new (w : World) (o : Obj) : (w.alloc o).heap[w.heap.size]? = some o := by
  show (w.heap.push o)[w.heap.size]? = _
  simp
theorem alloc_size (w : World) (o : Obj) : (w.alloc o).heap.size = w.heap.size + 1 := by
  show (w.heap.push o).size = _
  simp

section
variable {P : Program} {B : Base} {m : Mm} {w : World} {H h : Heap} {n : Nat} {env : Env} {a : Act}

theorem Pairwise_key {H : Heap} {R : (Nat × List AV) → (Nat × List AV) → Prop} (hp : H.Pairwise fun x y => x.1 ≠ y.1 ∧ R x y) {id : Nat} {c c' : List AV} (h1 : (id, c) ∈ H) (h2 : (id, c') ∈ H) : c = c' := by
  induction hp with
  | nil => cases h1
  | @cons x l hx _ ih =>
    rcases List.mem_cons.1 h1 with e1 | e1 <;> rcases List.mem_cons.1 h2 with e2 | e2
    · rw [← e1] at e2; injection e2 with _ e2; exact e2.symm
    · subst e1; exact absurd rfl (hx _ e2).1
    · subst e2; exact absurd rfl (hx _ e1).1
    · exact ih e1 e2

theorem Sim0.key (hs : Sim0 B H m w) {id : Nat} {c c' : List AV} (h1 : (id, c) ∈ H) (h2 : (id, c') ∈ H) : c = c' := Pairwise_key (R := fun _ _ => _) hs.inj h1 h2

/-- a place's block -/
theorem Sim0.block (hs : Sim0 B H m w) {id : Nat} {cells : List AV} (hin : (id, cells) ∈ H) (hd : m.dom id) {b C : Nat} (ha : m.addr id cells.length = some (b, C)) : (∃ o, w.heap[b]? = some o) ∧ B.n ≤ b := by
  rcases (hs.entry id cells hin hd).2 with ⟨h0, _⟩ | ⟨b', C', cs, e, h1, h2, h3, h4, h5, h6⟩ | ⟨b', es, clk, h1, h2, h3, h4, _⟩
  · rw [h0] at ha; cases ha
  · rw [h1] at ha; injection ha with ha; injection ha with hb hC; subst hb; exact ⟨⟨_, h2⟩, h5⟩
  · rw [h1] at ha; injection ha with ha; injection ha with hb hC; subst hb; exact ⟨⟨_, h3⟩, h4⟩
theorem LB_lt (hs : Sim0 B H m w) {b : Nat} (h : LB m H b) : b < w.heap.size := by
  obtain ⟨id, cells, C, hin, hd, ha⟩ := h
  obtain ⟨⟨o, hh⟩, _⟩ := hs.block hin hd ha
  rcases Nat.lt_or_ge b w.heap.size with h | h
  · exact h
  · rw [Array.getElem?_eq_none h] at hh; cases hh

/-- one new place comes to be, at a new block or nowhere -/
def Mm.new (m : Mm) (id len : Nat) (bc : Option (Nat × Nat)) : Mm :=
  { addr := fun i v => if i = id ∧ v = len then bc else m.addr i v, top := fun i => if i = id then len else m.top i, dom := fun i => m.dom i ∨ i = id }

theorem Mm.new_le {m : Mm} {id len : Nat} {bc : Option (Nat × Nat)} (hnd : ¬ m.dom id) : m.le (m.new id len bc) := by
  refine ⟨fun i hi => .inl hi, fun i hi => ?_, fun i v hi _ => ?_⟩
  · have : i ≠ id := fun e => hnd (e ▸ hi)
    simp [Mm.new, this]
  · have : i ≠ id := fun e => hnd (e ▸ hi)
    simp [Mm.new, this]

theorem LB_new (hs : Sim0 B H m w) {id : Nat} {cells : List AV} (hin : (id, cells) ∈ H) {bc : Option (Nat × Nat)} {b : Nat} (h : LB (m.new id cells.length bc) H b) : LB m H b ∨ ∃ C, bc = some (b, C) := by
  obtain ⟨i, c, C, h1, h2, h3⟩ := h
  by_cases hi : i = id
  · subst hi
    obtain rfl := hs.key h1 hin
    simp only [Mm.new, and_self, if_true] at h3
    exact .inr ⟨C, h3⟩
  · simp only [Mm.new, hi, false_and, if_false] at h3
    rcases h2 with h2 | h2
    · exact .inl ⟨i, c, C, h1, h2, h3⟩
    · exact absurd h2 hi

theorem new_entry (hs : Sim0 B H m w) (hB : B.n ≤ w.heap.size) {id : Nat} {cells : List AV} (hin : (id, cells) ∈ H) (hnd : ¬ m.dom id) (cs : Array Value) (e : TypeId) (hlen : cells.length ≤ cs.size)
    (hr : ∀ (j : Nat) (p : AV) (v : Value), cells[j]? = some p → cs[j]? = some v → RepA B (LB m H) m w p v) :
    Sim0 B H (m.new id cells.length (some (w.heap.size, cs.size))) (w.alloc (.cells cs e)) := by
  have hle := Mm.new_le (len := cells.length) (bc := some (w.heap.size, cs.size)) hnd
  have hL : ∀ b, b < w.heap.size → ¬ LB m H b → ¬ LB (m.new id cells.length (some (w.heap.size, cs.size))) H b := by
    intro b hb hn hl
    rcases LB_new hs hin hl with h | ⟨C, h⟩
    · exact hn h
    · injection h with h; injection h with h _; omega
  have hmono : ∀ p v, RepA B (LB m H) m w p v → RepA B (LB (m.new id cells.length (some (w.heap.size, cs.size))) H) (m.new id cells.length (some (w.heap.size, cs.size))) (w.alloc (.cells cs e)) p v :=
    fun p v h => h.mono hle hL (fun b hb _ => heap_push_old w _ hb)
  refine ⟨fun i c hic hd => ?_, ?_⟩
  · by_cases hi : i = id
    · subst hi
      obtain rfl := hs.key hic hin
      refine ⟨by simp [Mm.new], .inr (.inl ⟨w.heap.size, cs.size, cs, e, by simp [Mm.new], heap_push_new w _, rfl, by omega, hB, fun j p v hp hv => hmono p v (hr j p v hp hv)⟩)⟩
    · have hd' : m.dom i := by
        rcases hd with hd | hd
        · exact hd
        · exact absurd hd hi
      obtain ⟨ht, hen⟩ := hs.entry i c hic hd'
      refine ⟨by simp [Mm.new, hi, ht], ?_⟩
      rcases hen with ⟨h1, h2⟩ | ⟨b, C, cs', e', h1, h2, h3, h4, h5, h6⟩ | ⟨b, es, clk, h1, h2, h3, h4, h5⟩
      · exact .inl ⟨by simp [Mm.new, hi, h1], h2⟩
      · have hb : b < w.heap.size := LB_lt hs ⟨i, c, C, hic, hd', h1⟩
        exact .inr (.inl ⟨b, C, cs', e', by simp [Mm.new, hi, h1], (heap_push_old w _ hb).trans h2, h3, h4, h5, fun j p v hp hv => hmono p v (h6 j p v hp hv)⟩)
      · have hb : b < w.heap.size := LB_lt hs ⟨i, c, 0, hic, hd', h1⟩
        exact .inr (.inr ⟨b, es, clk, by simp [Mm.new, hi, h1], h2, (heap_push_old w _ hb).trans h3, h4, h5⟩)
  · have hinj := hs.inj
    refine List.Pairwise.imp_of_mem ?_ hinj
    intro x y hx hy ⟨hne, hxy⟩
    refine ⟨hne, fun b C C' hdx hdy hax hay => ?_⟩
    by_cases h1 : x.1 = id
    · have h2 : y.1 ≠ id := fun e => hne (h1.trans e.symm)
      have hdy' : m.dom y.1 := by rcases hdy with h | h; · exact h
                                  · exact absurd h h2
      have hxc : x.2 = cells := hs.key (id := id) (by rw [← h1]; exact hx) hin
      simp only [Mm.new, h1, hxc, and_self, if_true, Option.some.injEq, Prod.mk.injEq] at hax
      simp only [Mm.new, h2, false_and, if_false] at hay
      have := LB_lt hs ⟨y.1, y.2, C', hy, hdy', hay⟩
      omega
    · have hdx' : m.dom x.1 := by rcases hdx with h | h; · exact h
                                  · exact absurd h h1
      simp only [Mm.new, h1, false_and, if_false] at hax
      by_cases h2 : y.1 = id
      · have hyc : y.2 = cells := hs.key (id := id) (by rw [← h2]; exact hy) hin
        simp only [Mm.new, h2, hyc, and_self, if_true, Option.some.injEq, Prod.mk.injEq] at hay
        have := LB_lt hs ⟨x.1, x.2, C, hx, hdx', hax⟩
        omega
      · have hdy' : m.dom y.1 := by rcases hdy with h | h; · exact h
                                    · exact absurd h h2
        simp only [Mm.new, h2, false_and, if_false] at hay
        exact hxy b C C' hdx' hdy' hax hay
theorem new_mapE (hs : Sim0 B H m w) (hB : B.n ≤ w.heap.size) {id : Nat} {cells : List AV} (hin : (id, cells) ∈ H) (hce : cells = [mcell []]) (hnd : ¬ m.dom id) :
    Sim0 B H (m.new id cells.length (some (w.heap.size, 0))) (w.alloc (.map #[] 0)) := by
  have hle := Mm.new_le (len := cells.length) (bc := some (w.heap.size, 0)) hnd
  have hL : ∀ b, b < w.heap.size → ¬ LB m H b → ¬ LB (m.new id cells.length (some (w.heap.size, 0))) H b := by
    intro b hb hn hl
    rcases LB_new hs hin hl with h | ⟨C, h⟩
    · exact hn h
    · injection h with h; injection h with h _; omega
  have hmono : ∀ p v, RepA B (LB m H) m w p v → RepA B (LB (m.new id cells.length (some (w.heap.size, 0))) H) (m.new id cells.length (some (w.heap.size, 0))) (w.alloc (.map #[] 0)) p v :=
    fun p v h => h.mono hle hL (fun b hb _ => heap_push_old w _ hb)
  refine ⟨fun i c hic hd => ?_, ?_⟩
  · by_cases hi : i = id
    · subst hi
      obtain rfl := hs.key hic hin
      refine ⟨by simp [Mm.new], .inr (.inr ⟨w.heap.size, #[], 0, by simp [Mm.new], by rw [hce]; rfl, heap_push_new w _, hB, by rw [hce]; exact mapIs_of ⟨rfl, fun j p e hp => by simp at hp⟩⟩)⟩
    · have hd' : m.dom i := by
        rcases hd with hd | hd
        · exact hd
        · exact absurd hd hi
      obtain ⟨ht, hen⟩ := hs.entry i c hic hd'
      refine ⟨by simp [Mm.new, hi, ht], ?_⟩
      rcases hen with ⟨h1, h2⟩ | ⟨b, C, cs', e', h1, h2, h3, h4, h5, h6⟩ | ⟨b, es, clk, h1, h2, h3, h4, h5⟩
      · exact .inl ⟨by simp [Mm.new, hi, h1], h2⟩
      · have hb : b < w.heap.size := LB_lt hs ⟨i, c, C, hic, hd', h1⟩
        exact .inr (.inl ⟨b, C, cs', e', by simp [Mm.new, hi, h1], (heap_push_old w _ hb).trans h2, h3, h4, h5, fun j p v hp hv => hmono p v (h6 j p v hp hv)⟩)
      · have hb : b < w.heap.size := LB_lt hs ⟨i, c, 0, hic, hd', h1⟩
        exact .inr (.inr ⟨b, es, clk, by simp [Mm.new, hi, h1], h2, (heap_push_old w _ hb).trans h3, h4, h5⟩)
  · have hinj := hs.inj
    refine List.Pairwise.imp_of_mem ?_ hinj
    intro x y hx hy ⟨hne, hxy⟩
    refine ⟨hne, fun b C C' hdx hdy hax hay => ?_⟩
    by_cases h1 : x.1 = id
    · have h2 : y.1 ≠ id := fun e => hne (h1.trans e.symm)
      have hdy' : m.dom y.1 := by rcases hdy with h | h; · exact h
                                  · exact absurd h h2
      have hxc : x.2 = cells := hs.key (id := id) (by rw [← h1]; exact hx) hin
      simp only [Mm.new, h1, hxc, and_self, if_true, Option.some.injEq, Prod.mk.injEq] at hax
      simp only [Mm.new, h2, false_and, if_false] at hay
      have := LB_lt hs ⟨y.1, y.2, C', hy, hdy', hay⟩
      omega
    · have hdx' : m.dom x.1 := by rcases hdx with h | h; · exact h
                                  · exact absurd h h1
      simp only [Mm.new, h1, false_and, if_false] at hax
      by_cases h2 : y.1 = id
      · have hyc : y.2 = cells := hs.key (id := id) (by rw [← h2]; exact hy) hin
        simp only [Mm.new, h2, hyc, and_self, if_true, Option.some.injEq, Prod.mk.injEq] at hay
        have := LB_lt hs ⟨x.1, x.2, C, hx, hdx', hax⟩
        omega
      · have hdy' : m.dom y.1 := by rcases hdy with h | h; · exact h
                                    · exact absurd h h2
        simp only [Mm.new, h2, false_and, if_false] at hay
        exact hxy b C C' hdx' hdy' hax hay
end
end Go.Fi

namespace Go.Fi
open Go Go.RowKit

def QOk (P : Program) (B : Base) (H : Heap) (m : Mm) (w : World) (n k : Nat) (r : Sem Next) (v : AV) : Prop :=
  ∃ v' w' m', r.run P w = .ok (.value v') w' ∧ m.le m' ∧ (∀ i, m'.dom i ↔ m.dom i ∨ (n ≤ i ∧ i < n + k)) ∧ Below w.heap.size w w' ∧ Sim0 B H m' w' ∧
    (∀ b, LB m' H b → LB m H b ∨ w.heap.size ≤ b) ∧ RepA B (LB m' H) m' w' v v'

section
variable {P : Program} {B : Base} {m : Mm} {w : World} {H h : Heap} {n : Nat} {env : Env} {a : Act} {L : Nat → Prop}

theorem ValOk.q {r : Sem Next} {v : AV} (hs : Sim0 B H m w) (hv : ValOk P B H m w r v) : QOk P B H m w n 0 r v := by
  obtain ⟨v', h1, h2⟩ := hv
  exact ⟨v', w, m, h1, Mm.le.refl m, fun i => ⟨.inl, fun h => h.elim id fun h => by omega⟩, Below.refl _ _, hs, fun b hb => .inl hb, h2⟩

/-- one new block -/
theorem new_q {r : Sem Next} {v : AV} {cells : List AV} (hs : Sim0 B H m w) (hB : B.n ≤ w.heap.size) (hin : (n, cells) ∈ H) (hnd : ¬ m.dom n) (cs : Array Value) (e : TypeId) (hlen : cells.length = cs.size)
    (hr : ∀ (j : Nat) (p : AV) (v : Value), cells[j]? = some p → cs[j]? = some v → RepA B (LB m H) m w p v) (v' : Value) (hrun : r.run P w = .ok (.value v') (w.alloc (.cells cs e)))
    (hv : ∀ m' : Mm, m'.dom n → m'.top n = cells.length → m'.addr n cells.length = some (w.heap.size, cs.size) → ∀ L w', RepA B L m' w' v v') : QOk P B H m w n 1 r v := by
  have hs' := new_entry hs hB hin hnd cs e (Nat.le_of_eq hlen) hr
  refine ⟨v', _, _, hrun, Mm.new_le hnd, fun i => ?_, (Below.refl _ _).alloc (Nat.le_refl _) _, hs', fun b hb => ?_, hv _ (Or.inr rfl) (by simp [Mm.new]) (by simp [Mm.new]) _ _⟩
  · simp only [Mm.new]
    constructor
    · rintro (h | h)
      · exact .inl h
      · exact .inr (by omega)
    · rintro (h | h)
      · exact .inl h
      · exact .inr (by omega)
  · rcases LB_new hs hin hb with h | ⟨C, h⟩
    · exact .inl h
    · injection h with h; injection h with h _; exact .inr (by omega)

def RepL (B : Base) (L : Nat → Prop) (m : Mm) (w : World) (cs : List AV) (vs : Array Value) : Prop :=
  cs.length = vs.size ∧ ∀ (j : Nat) (p : AV) (v : Value), cs[j]? = some p → vs[j]? = some v → RepA B L m w p v

theorem cst1_list (vs : Array Value) : RepL B L m w (vs.toList.map cst1) vs := by
  refine ⟨by simp, fun j p v hp hv => ?_⟩
  obtain ⟨x, hx, rfl⟩ := getElem?_map_some hp
  rw [Array.getElem?_toList] at hx
  obtain rfl : x = v := by rw [hx] at hv; injection hv
  exact cst1_rep _

theorem zcells_spec {t : TypeId} {z : List AV} (hz : zcells P t = some z) : ∃ i v, P.info? t = some i ∧ i.zero = some v ∧ z = v.cells.toList.map cst1 := by
  unfold zcells at hz
  split at hz
  · rename_i i hi
    cases hv : i.zero with
    | none => rw [hv] at hz; cases hz
    | some v => rw [hv] at hz; injection hz with hz; exact ⟨i, v, hi, hv, hz.symm⟩
  · cases hz

theorem RepL.set {cs : List AV} {vs : Array Value} (h : RepL B L m w cs vs) (i : Nat) {p : AV} {v : Value} (hp : RepA B L m w p v) : RepL B L m w (cs.set i p) (vs.setIfInBounds i v) := by
  refine ⟨by simpa using h.1, fun j q u hq hu => ?_⟩
  rw [List.getElem?_set] at hq
  rw [Array.getElem?_setIfInBounds] at hu
  by_cases hij : i = j
  · subst hij
    simp only [if_true] at hq hu
    split at hq
    · split at hu
      · injection hq with hq; injection hu with hu; subst hq; subst hu; exact hp
      · cases hu
    · cases hq
  · simp only [hij, if_false] at hq hu
    exact h.2 j q u hq hu

theorem setAt_rep : ∀ (ps : List AV) (us : List Value) (off : Nat) (cs : List AV) (vs : Array Value), RepL B L m w cs vs → ps.length = us.length → (∀ (j : Nat) (p : AV) (v : Value), ps[j]? = some p → us[j]? = some v → RepA B L m w p v) →
    RepL B L m w (setAt cs off ps) ((us.zipIdx off).foldl (fun cs (c, j) => cs.setIfInBounds j c) vs)
  | [], us, off, cs, vs, h, hl, _ => by
    cases us with
    | nil => exact h
    | cons u us => cases hl
  | p :: ps, us, off, cs, vs, h, hl, hr => by
    cases us with
    | nil => cases hl
    | cons u us =>
      simp only [setAt, List.zipIdx_cons, List.foldl_cons]
      exact setAt_rep ps us (off + 1) _ _ (h.set off (hr 0 p u rfl rfl)) (by simpa using hl) (fun j q v hq hv => hr (j + 1) q v (by simpa using hq) (by simpa using hv))

theorem setAt_len : ∀ (ps : List AV) (off : Nat) (cs : List AV), (setAt cs off ps).length = cs.length
  | [], _, _ => rfl
  | _ :: ps, off, cs => by rw [setAt, setAt_len ps]; simp

theorem foldl_off (us : List Value) (off k : Nat) (vs : Array Value) :
    ((us.zipIdx k).foldl (fun cs (c, j) => cs.setIfInBounds (off + j) c) vs) = ((us.zipIdx (off + k)).foldl (fun cs (c, j) => cs.setIfInBounds j c) vs) := by
  induction us generalizing k vs with
  | nil => rfl
  | cons u us ih =>
    simp only [List.zipIdx_cons, List.foldl_cons]
    rw [ih (k + 1)]
    rfl

theorem fill_rep (place place' : Nat → Option (Nat × Nat)) (hpl : ∀ i x, place i = some x → place' i = some x) : ∀ (parts : List (Nat × AV)) (vparts : List (Nat × Value)) (cs cs' : List AV) (vs : Array Value),
    parts.length = vparts.length → (∀ (j i : Nat) (p : AV) (x : Nat × Value), parts[j]? = some (i, p) → vparts[j]? = some x → x.1 = i ∧ RepA B L m w p x.2) →
    RepL B L m w cs vs → fillA place cs parts = some cs' → ∃ vs', Instr.fill place' vs vparts = some vs' ∧ RepL B L m w cs' vs'
  | [], vparts, cs, cs', vs, hl, _, h, hf => by
    cases vparts with
    | nil => injection hf with hf; subst hf; exact ⟨vs, rfl, h⟩
    | cons x xs => cases hl
  | (i, p) :: parts, vparts, cs, cs', vs, hl, hr, h, hf => by
    cases vparts with
    | nil => cases hl
    | cons x xs =>
      obtain ⟨i', v⟩ := x
      obtain ⟨hi, hp⟩ := hr 0 i p (i', v) rfl rfl
      simp only at hi hp
      subst hi
      simp only [fillA] at hf
      split at hf
      · cases hf
      · rename_i off size hpi
        split at hf
        · cases hf
        · rename_i hno
          simp only [not_or] at hno
          obtain ⟨h1, h2, h3⟩ := hno
          have hok : p.ok = true := by simpa using h1
          obtain ⟨e1, e2⟩ := cells_rep hp hok
          have hset := setAt_rep p.cells v.cells.toList off cs vs h (by simpa using e1) (fun j q u hq hu => e2 j q u hq (by rw [← Array.getElem?_toList]; exact hu))
          obtain ⟨vs', hv', hr'⟩ := fill_rep place place' hpl parts xs _ cs' _ (by simpa using hl) (fun j i q x hq hx => hr (j + 1) i q x (by simpa using hq) (by simpa using hx)) hset hf
          refine ⟨vs', ?_, hr'⟩
          simp only [Instr.fill, hpl _ _ hpi]
          have h2' : v.cells.size = size := by rw [← e1]; exact Decidable.not_not.1 h2
          have h3' : ¬ (off + v.cells.size > vs.size) := by rw [← e1, ← h.1]; exact h3
          rw [if_neg (by simp [h2']; omega)]
          rw [← hv']
          congr 1
          rw [← Array.foldl_toList, Array.toList_zipIdx]
          exact foldl_off v.cells.toList off 0 vs

theorem run_mapM_pls (f : Field → Sem (Nat × Nat)) (g : Field → Option (Nat × Nat)) (hfg : ∀ x y, g x = some y → (f x).run P w = .ok y w) : ∀ (fs : List Field) (l : List (Nat × Nat)), fs.mapM g = some l → (fs.mapM f).run P w = .ok l w
  | [], l, h => by simp at h; subst h; rfl
  | x :: fs, l, h => by
    simp only [List.mapM_cons] at h ⊢
    cases hx : g x with
    | none => simp [hx] at h
    | some y =>
      simp only [hx, Option.bind_eq_bind, Option.bind_some] at h
      cases hr : fs.mapM g with
      | none => simp [hr] at h
      | some l' =>
        simp only [hr, Option.bind_some] at h
        injection h with h; subst h
        simp [hfg x y hx, run_mapM_pls f g hfg fs l' hr]

theorem parts_rep (parts : Array (Nat × Operand)) (hx : ∀ x ∈ parts.toList.map (·.2), RepA B L m w (ev env x) (a.eval x)) :
    ∀ (j i : Nat) (p : AV) (x : Nat × Value), (parts.toList.map fun (i, x) => (i, ev env x))[j]? = some (i, p) → (parts.toList.map fun (i, x) => (i, a.eval x))[j]? = some x → x.1 = i ∧ RepA B L m w p x.2 := by
  intro j i p x hp hq
  obtain ⟨y, hy, e⟩ := getElem?_map_some hp
  obtain ⟨y', hy', e'⟩ := getElem?_map_some hq
  rw [hy] at hy'; injection hy' with hy'; subst hy'
  obtain ⟨yi, yo⟩ := y
  simp only [Prod.mk.injEq] at e
  obtain ⟨rfl, rfl⟩ := e
  subst e'
  exact ⟨rfl, hx _ (List.mem_map.2 ⟨(yi, yo), List.mem_of_getElem? hy, rfl⟩)⟩

theorem ok_build (t : TypeId) (parts : Array (Nat × Operand)) (o : Oper) (ho : o.op = .build t parts) {c : Prop} {v : AV} {E : List (List AV)} (h0 : aOp P h n (ev env) (.build t parts) = some (c, v, E))
    (hx : ∀ x ∈ parts.toList.map (·.2), RepA B (LB m H) m w (ev env x) (a.eval x)) : E = [] ∧ ValOk P B H m w (execOp a.eval o) v := by
  simp only [aOp] at h0
  split at h0
  · rename_i z hz
    obtain ⟨iz, vz, hi, hzero, rfl⟩ := zcells_spec hz
    split at h0
    · rename_i l hl
      split at h0
      · rename_i cs hcs
        simp only [Option.some.injEq, Prod.mk.injEq] at h0; obtain ⟨rfl, rfl, rfl⟩ := h0
        refine ⟨rfl, ?_⟩
        have key : ∀ place' : Nat → Option (Nat × Nat), (∀ i x, l[i]? = some x → place' i = some x) → ∃ vs', Instr.fill place' vz.cells (parts.map fun (i, x) => (i, a.eval x)).toList = some vs' ∧ RepL B (LB m H) m w cs vs' := by
          intro place' hpl
          rw [Array.toList_map]
          exact fill_rep (l[·]?) place' hpl _ _ _ cs vz.cells (by simp) (parts_rep parts hx) (cst1_list vz.cells) hcs
        unfold pls at hl
        split at hl
        · rename_i fs hu
          have hm := run_mapM_pls (P := P) (w := w) (fun f => Functor.map (Prod.mk f.offset) (sizeOf f.type)) _ (fun f y hy => by
            cases hq : P.info? f.type with
            | none => simp [hq] at hy
            | some i => simp only [hq, Option.map_some, Option.some.injEq] at hy; subst hy; simp [sizeOf, typeInfo, hq]) fs.toList l hl
          obtain ⟨vs', hv', hr'⟩ := key (l.toArray[·]?) (fun i x hx => by simpa using hx)
          refine ⟨.agg vs', ?_, .agg hr'.1 hr'.2⟩
          have hmm : (fs.mapM fun f => (Functor.map (Prod.mk f.offset) (sizeOf f.type) : Sem (Nat × Nat))).run P w = .ok l.toArray w := by
            rw [Array.mapM_eq_mapM_toList, Sem.run_map, hm]; rfl
          simp only [Array.toList_map, List.getElem?_toArray] at hv'
          simp [execOp, ho, Instr.build, zeroValue, typeInfo, hi, hzero, run_underlying hu, hmm, hv']
        · rename_i k e hu
          cases hie : P.info? e with
          | none => simp [hie] at hl
          | some ie =>
            simp only [hie, Option.map_some, Option.some.injEq] at hl
            obtain ⟨vs', hv', hr'⟩ := key (fun i => some (i * ie.size, ie.size)) (fun i x hx => by
              rw [← hl] at hx
              obtain ⟨y, hy, rfl⟩ := getElem?_map_some hx
              obtain ⟨hlt, rfl⟩ := List.getElem?_eq_some_iff.1 hy
              simp)
            refine ⟨.agg vs', ?_, .agg hr'.1 hr'.2⟩
            simp only [Array.toList_map] at hv'
            simp [execOp, ho, Instr.build, zeroValue, typeInfo, hi, hzero, run_underlying hu, sizeOf, hie, hv']
        · cases hl
      · cases h0
    · cases h0
  · cases h0

theorem ok_alloc (t : TypeId) (o : Oper) (ho : o.op = .alloc t) {c : Prop} {v : AV} {E : List (List AV)} (h0 : aOp P h n (ev env) (.alloc t) = some (c, v, E)) (hs : Sim0 B H m w) (hB : B.n ≤ w.heap.size)
    (hE : ∀ k cs, E[k]? = some cs → (n + k, cs) ∈ H) (hnd : ∀ k, k < E.length → ¬ m.dom (n + k)) : QOk P B H m w n E.length (execOp a.eval o) v := by
  simp only [aOp] at h0
  split at h0
  · rename_i z hz
    obtain ⟨iz, vz, hi, hzero, rfl⟩ := zcells_spec hz
    simp only [Option.some.injEq, Prod.mk.injEq] at h0; obtain ⟨rfl, rfl, rfl⟩ := h0
    have hz := cst1_list (B := B) (L := LB m H) (m := m) (w := w) vz.cells
    exact new_q hs hB (hE 0 _ rfl) (hnd 0 (by simp)) vz.cells t hz.1 hz.2 (.pointer (some ⟨w.heap.size, 0, none⟩)) (by simp [execOp, ho, Instr.alloc, zeroValue, typeInfo, hi, hzero, newVar, newRow])
      (fun m' h1 h2 h3 L w' => .ptr h1 (by rw [h2]; exact Nat.le_refl _) h3 (by rw [List.length_map, Array.length_toList]; exact Nat.le_refl _))
  · cases h0

theorem ok_box (t : TypeId) (x : Operand) (o : Oper) (ho : o.op = .box t x) {c : Prop} {v : AV} {E : List (List AV)} (h0 : aOp P h n (ev env) (.box t x) = some (c, v, E)) (hc : c) (hs : Sim0 B H m w) (hB : B.n ≤ w.heap.size)
    (hE : ∀ k cs, E[k]? = some cs → (n + k, cs) ∈ H) (hnd : ∀ k, k < E.length → ¬ m.dom (n + k)) (hx : RepA B (LB m H) m w (ev env x) (a.eval x)) : QOk P B H m w n E.length (execOp a.eval o) v := by
  simp only [aOp, Option.some.injEq, Prod.mk.injEq] at h0; obtain ⟨rfl, rfl, rfl⟩ := h0
  obtain ⟨h1, h2⟩ := cells_rep hx hc
  exact new_q hs hB (hE 0 _ rfl) (hnd 0 (by simp)) (a.eval x).cells t h1 h2 (.pointer (some ⟨w.heap.size, 0, none⟩)) (by simp [execOp, ho, Instr.box, newVar, newRow])
    (fun m' h1' h2 h3 L w' => .ptr h1' (by rw [h2]; exact Nat.le_refl _) h3 (by rw [h1]; exact Nat.le_refl _))
end
end Go.Fi

namespace Go.Fi
open Go Go.RowKit

section
variable {P : Program} {B : Base} {m : Mm} {w : World} {H h : Heap} {n : Nat} {env : Env} {a : Act} {L : Nat → Prop}

theorem repl_get (z : List AV) (hz : 0 < z.length) : ∀ (k j : Nat), j < k * z.length → (repl k z)[j]? = z[j % z.length]?
  | 0, j, h => by simp at h
  | k + 1, j, h => by
    have e : repl (k + 1) z = z ++ repl k z := by simp [repl, List.replicate_succ]
    rw [e]
    by_cases hj : j < z.length
    · rw [List.getElem?_append_left hj, Nat.mod_eq_of_lt hj]
    · have hj : z.length ≤ j := by omega
      have h' : j - z.length < k * z.length := by rw [Nat.add_mul] at h; omega
      rw [List.getElem?_append_right hj, repl_get z hz k _ h', Nat.mod_eq_sub_mod hj]
theorem repl_len (z : List AV) (k : Nat) : (repl k z).length = k * z.length := by
  simp [repl, List.length_flatten, List.map_replicate]

theorem repl_rep {z : List AV} {zero : Array Value} (hz : 0 < z.length) (hr : RepL B L m w z zero) (k : Nat) : RepL B L m w (repl k z) ((Array.range (k * z.length)).map fun i => zero[i % zero.size]!) := by
  refine ⟨by simp [repl_len], fun j p v hp hv => ?_⟩
  have hj : j < k * z.length := by have := (List.getElem?_eq_some_iff.1 hp).1; rwa [repl_len] at this
  rw [repl_get z hz k j hj] at hp
  refine hr.2 (j % z.length) p v hp ?_
  have hm : j % zero.size < zero.size := Nat.mod_lt _ (by rw [← hr.1]; exact hz)
  have : v = zero[j % zero.size]! := by
    simp only [Array.getElem?_map] at hv
    rw [Array.getElem?_eq_getElem (by simpa using hj)] at hv
    simp only [Array.getElem_range, Option.map_some, Option.some.injEq] at hv
    exact hv.symm
  rw [this, hr.1]
  simp [hm]

theorem r0 : Array.range 0 = #[] := rfl

theorem ok_buildSlice (t : TypeId) (len : Nat) (parts : Array (Nat × Operand)) (o : Oper) (ho : o.op = .buildSlice t len parts) {c : Prop} {v : AV} {E : List (List AV)} (h0 : aOp P h n (ev env) (.buildSlice t len parts) = some (c, v, E)) (hc : c) (hs : Sim0 B H m w) (hB : B.n ≤ w.heap.size)
    (hE : ∀ k cs, E[k]? = some cs → (n + k, cs) ∈ H) (hnd : ∀ k, k < E.length → ¬ m.dom (n + k)) (hx : ∀ x ∈ parts.toList.map (·.2), RepA B (LB m H) m w (ev env x) (a.eval x)) : QOk P B H m w n E.length (execOp a.eval o) v := by
  simp only [aOp] at h0
  split at h0
  · rename_i e sz hs'
    obtain ⟨hu, ie, hie, hsz⟩ := slE_spec hs'
    split at h0
    · rename_i z hz
      obtain ⟨iz, vz, hi, hzero, rfl⟩ := zcells_spec hz
      rw [hie] at hi; injection hi with hi; subst hi
      split at h0
      · rename_i cs hcs
        simp only [Option.some.injEq, Prod.mk.injEq] at h0; obtain ⟨rfl, rfl, rfl⟩ := h0
        obtain ⟨c1, c2, c3⟩ := hc
        have hz := cst1_list (B := B) (L := LB m H) (m := m) (w := w) vz.cells
        have hrep := repl_rep (by omega) hz len
        rw [c1] at hrep
        obtain ⟨vs', hv', hr'⟩ := fill_rep (fun i => some (i * sz, sz)) (fun i => some (i * sz, sz)) (fun _ _ h => h) _ (parts.toList.map fun (i, x) => (i, a.eval x)) _ cs _ (by simp) (parts_rep parts hx) hrep hcs
        have hrun : (execOp a.eval o).run P w = .ok (.value (.slice (some ⟨w.heap.size, 0, none⟩) len len)) (w.alloc (.cells vs' e)) := by
          by_cases h0 : len * sz = 0
          · have hl0 : len = 0 := by rcases Nat.mul_eq_zero.1 h0 with h | h; · exact h
                                     · omega
            subst hl0
            simp only [Nat.zero_mul] at hv'
            have e0 : Instr.fill (fun i => some (i * ie.size, ie.size)) #[] (List.map (fun x => (x.fst, a.eval x.snd)) parts.toList) = some vs' := by
              rw [hsz]; simpa [r0] using hv'
            simp [execOp, ho, Instr.buildSlice, run_underlying hu, sizeOf, typeInfo, hie, r0, e0, newRow]
          · have e0 : Instr.fill (fun i => some (i * sz, sz)) (Array.map (fun x => vz.cells[x % vz.cells.size]!) (Array.range (len * sz))) (List.map (fun x => (x.fst, a.eval x.snd)) parts.toList) = some vs' := hv'
            have hno' : ¬ (16777216 < len * sz) := by omega
            simp [execOp, ho, Instr.buildSlice, run_underlying hu, sizeOf, typeInfo, zeroValue, hie, hsz, hzero, hno', e0, newRow]
            intro h; exact absurd h h0
        exact new_q hs hB (hE 0 _ rfl) (hnd 0 (by simp)) vs' e hr'.1 hr'.2 _ hrun (fun m' h1 h2 h3 L w' => by
          have hlen : cs.length = len * sz := by
            have : ∀ (place : Nat → Option (Nat × Nat)) (parts : List (Nat × AV)) (cs cs' : List AV), fillA place cs parts = some cs' → cs'.length = cs.length := by
              intro place parts
              induction parts with
              | nil => intro cs cs' h; injection h with h; rw [h]
              | cons x xs ih =>
                obtain ⟨i, x⟩ := x
                intro cs cs' h
                simp only [fillA] at h
                split at h
                · cases h
                · split at h
                  · cases h
                  · rw [ih _ _ h, setAt_len]
            rw [this _ _ _ _ hcs, repl_len, c1]
          refine .msl h1 (by rw [h2]; exact Nat.le_refl _) (Nat.le_refl _) (fun e => ?_) (fun b C e => ?_)
          · rw [h3] at e; cases e
          · rw [h3] at e; injection e with e; injection e with e1 e2; subst e1; subst e2
            have := hr'.1
            exact ⟨fun _ => rfl, by omega, by omega⟩)
      · cases h0
    · cases h0
  · cases h0

theorem ok_makeSlice (t : TypeId) (l k : Operand) (o : Oper) (ho : o.op = .makeSlice t l k) {c : Prop} {v : AV} {E : List (List AV)} (h0 : aOp P h n (ev env) (.makeSlice t l k) = some (c, v, E)) (hc : c) (hs : Sim0 B H m w) (hB : B.n ≤ w.heap.size)
    (hE : ∀ k cs, E[k]? = some cs → (n + k, cs) ∈ H) (hnd : ∀ k, k < E.length → ¬ m.dom (n + k)) (hl : RepA B (LB m H) m w (ev env l) (a.eval l)) (hk : RepA B (LB m H) m w (ev env k) (a.eval k)) : QOk P B H m w n E.length (execOp a.eval o) v := by
  simp only [aOp] at h0
  split at h0
  · rename_i e sz _ _ k1 q _ _ k2 q' hs' el ek
    rw [el] at hl; rw [ek] at hk
    obtain ⟨hu, ie, hie, hsz⟩ := slE_spec hs'
    split at h0
    · rename_i z by_ hz hby
      obtain ⟨iz, vz, hi, hzero, rfl⟩ := zcells_spec hz
      rw [hie] at hi; injection hi with hi; subst hi
      simp only [Option.some.injEq, Prod.mk.injEq] at h0; obtain ⟨rfl, rfl, rfl⟩ := h0
      obtain ⟨rfl, c2, c3, c4, c5, c6⟩ := hc
      have hby' : ie.bytes = by_ := by simpa [byE, hie] using hby
      have hz := cst1_list (B := B) (L := LB m H) (m := m) (w := w) vz.cells
      have hrep := repl_rep (by omega) hz q.toNat
      rw [c4] at hrep
      have hw : IntKind.i64.wrap q = q := inI_wrap (by simp [inI, IntKind.min, IntKind.max, IntKind.signed, IntKind.bits]; omega)
      have hbig : ¬ ((by_ : Int) * q > 281474976710656) := by
        have : (by_ : Int) * q ≤ 100000 * 1000000000 := Int.mul_le_mul (by omega) c3 c2 (by omega)
        omega
      have hrun : (execOp a.eval o).run P w = .ok (.value (.slice (some ⟨w.heap.size, 0, none⟩) q.toNat q.toNat)) (w.alloc (.cells ((Array.range (q.toNat * sz)).map (vz.cells[· % vz.cells.size]!)) e)) := by
        have hq0 : ¬ q < 0 := by omega
        have hbig' : ¬ (281474976710656 < (by_ : Int) * q) := by omega
        by_cases hz0 : q.toNat = 0
        · simp [execOp, ho, hl.int_inv, hk.int_inv, Instr.makeSlice, run_underlying hu, asInt, asIntOf, typeInfo, hie, hby', hw, hq0, hbig', sizeOf, hz0, r0, newRow]
        · simp [execOp, ho, hl.int_inv, hk.int_inv, Instr.makeSlice, run_underlying hu, asInt, asIntOf, typeInfo, hie, hby', hw, hq0, hbig', sizeOf, hsz, zeroValue, hzero, newRow]
          intro h; rcases Nat.mul_eq_zero.1 h with h | h
          · exact absurd h hz0
          · omega
      exact new_q hs hB (hE 0 _ rfl) (hnd 0 (by simp)) _ e hrep.1 hrep.2 _ hrun (fun m' h1 h2 h3 L w' => by
        have hlen := repl_len (vz.cells.toList.map cst1) q.toNat
        rw [c4] at hlen
        refine .msl h1 (by rw [h2]; exact Nat.le_refl _) (Nat.le_refl _) (fun e => ?_) (fun b C e => ?_)
        · rw [h3] at e; cases e
        · rw [h3] at e; injection e with e; injection e with e1 e2; subst e1; subst e2
          have := hrep.1
          exact ⟨fun _ => rfl, by omega, by omega⟩)
    · cases h0
  · cases h0
end
end Go.Fi

namespace Go.Fi
open Go Go.RowKit
variable [LaidW]

/-! ### maps: looking up, making, setting -/
omit [LaidW] in
theorem isKey_lit {d : TypeDesc} {p : PV} (h : okK d p = true) : MapKept.IsKey d (litV p) := by
  cases d <;> cases p <;> simp_all [okK, litV, MapKept.IsKey]
omit [LaidW] in
theorem same_lit {d : TypeDesc} {k p : PV} (hk : okK d k = true) (hp : okK d p = true) : Instr.sameNow d (litV k) (litV p) = some (eqK k p) := by
  cases d <;> cases k <;> simp [okK] at hk <;> cases p <;> simp [okK] at hp
  · subst hk; subst hp
    simp [Instr.sameNow, litV, eqK]
    rename_i a b
    by_cases h : a = b <;> simp [h]
  · rename_i a b
    simp only [Instr.sameNow, litV, eqK]
    congr 1
    by_cases h : a = b
    · subst h; rw [decide_eq_true rfl]; exact (MapKept.bytes_beq a a).2 rfl
    · rw [decide_eq_false h]
      cases hb : (a == b) with
      | false => rfl
      | true => exact absurd ((MapKept.bytes_beq a b).1 hb) h
def mfind : List (PV × PV) → PV → Nat → Option (Nat × PV)
  | [], _, _ => none
  | p :: r, k, i => if eqK k p.1 = true then some (i, p.2) else mfind r k (i + 1)
omit [LaidW] in
theorem mfind_look : ∀ (l : List (PV × PV)) (k : PV) (i : Nat), (mfind l k i).map (·.2) = mlook l k
  | [], _, _ => rfl
  | p :: r, k, i => by
    unfold mfind mlook
    split
    · rfl
    · exact mfind_look r k (i + 1)
omit [LaidW] in
theorem find_abs {d : TypeDesc} {k : PV} (hk : okK d k = true) : ∀ (l : List (PV × PV)) (es : List MapEntry) (i : Nat), l.length = es.length → (∀ (j : Nat) (p : PV × PV) (e : MapEntry), l[j]? = some p → es[j]? = some e → e.key = litV p.1 ∧ e.val = litV p.2) →
    (∀ p ∈ l, okK d p.1 = true) → Instr.findNow d (litV k) es i = some ((mfind l k i).map fun x => (x.1, litV x.2))
  | [], es, i, hl, _, _ => by
    have : es = [] := List.eq_nil_of_length_eq_zero (by simpa using hl.symm)
    subst this; rfl
  | p :: r, [], i, hl, _, _ => by simp at hl
  | p :: r, e :: es, i, hl, he, hok => by
    obtain ⟨h1, h2⟩ := he 0 p e rfl rfl
    have hs := same_lit hk (hok p (by simp))
    unfold Instr.findNow mfind
    rw [h1, hs]
    cases hq : eqK k p.1 with
    | true => simp [h2]
    | false =>
      simp only [Bool.false_eq_true, if_false]
      exact find_abs hk r es (i + 1) (by simpa using hl) (fun j p' e' hp' he' => he (j + 1) p' e' (by simpa using hp') (by simpa using he')) (fun q hq' => hok q (List.mem_cons_of_mem _ hq'))
section
variable {P : Program} {B : Base} {m : Mm} {w : World} {H h : Heap} {n : Nat} {env : Env} {a : Act} {L : Nat → Prop}
omit [LaidW] in
/-- a place that a map value names is a map -/
theorem Sim0.mapAt (hs : Sim0 B H m w) {id : Nat} {cells : List AV} (hin : (id, cells) ∈ H) {v : Value} (hv : RepA B L m w (.mp id) v) {l : List (PV × PV)} (hm : mdec cells = some l) :
    ∃ b es clk, v = .map (some b) ∧ m.dom id ∧ isMc cells = true ∧ m.addr id cells.length = some (b, 0) ∧ w.heap[b]? = some (.map es clk) ∧ B.n ≤ b ∧ MapIs es l := by
  cases hv with
  | @mp _ b hd ht ha =>
    have hlen : cells.length = 1 := by
      unfold mdec at hm
      split at hm
      · rfl
      · cases hm
    rcases (hs.entry id cells hin hd).2 with ⟨h0, _⟩ | ⟨b', C, cs, e, h1, h2, h3, h4, h5, h6⟩ | ⟨b', es, clk, h1, h2, h3, h4, h5⟩
    · rw [hlen, ha] at h0; cases h0
    · rw [hlen, ha] at h1; injection h1 with h1; injection h1 with h1 h7; omega
    · have h8 : m.addr id 1 = some (b', 0) := by rw [← hlen]; exact h1
      rw [ha] at h8; injection h8 with h8; injection h8 with h8 _
      subst h8
      exact ⟨b, es, clk, rfl, hd, h2, h1, h3, h4, h5 l hm⟩
omit [LaidW] in
theorem rep_lit {G : Nat → Prop} {p : PV} (h : isLit p = true) : Rep G w p (litV p) := by
  cases p <;> simp [isLit] at h
  · exact .bool _
  · exact .int _ _
  · exact .str _
omit [LaidW] in
theorem lit_of {p : PV} {v : Value} {G : Nat → Prop} (h : isLit p = true) (hr : Rep G w p v) : v = litV p := by
  cases p <;> simp [isLit] at h <;> cases hr <;> rfl
omit [LaidW] in
theorem okK_lit {d : TypeDesc} {p : PV} (h : okK d p = true) : isLit p = true := by
  cases d <;> cases p <;> simp_all [okK, isLit]
omit [LaidW] in
theorem zeroP_run {e : TypeId} {z : PV} (h : zeroP P e = some z) : (zeroValue e).run P w = .ok (litV z) w ∧ isLit z = true := by
  unfold zeroP at h
  cases hi : P.info? e with
  | none => rw [hi] at h; cases h
  | some i =>
    rw [hi] at h
    simp only [Option.bind_some] at h
    have hz : ∀ v, i.zero = some v → (zeroValue e).run P w = .ok v w := fun v hv => by
      simp [zeroValue, typeInfo, hi, hv]
    split at h <;> first | (injection h with h; subst h; exact ⟨hz _ ‹_›, rfl⟩) | cases h
omit [LaidW] in
theorem mapT_spec {t : TypeId} {d : TypeDesc} {z : PV} (h : mapT P t = some (d, z)) : ∃ k e, P.underlying t = some (.map k e) ∧ P.underlying k = some d ∧ zeroP P e = some z := by
  unfold mapT at h
  split at h
  · rename_i k e hu
    split at h
    · rename_i d' z' h1 h2
      injection h with h; injection h with e1 e2; subst e1; subst e2
      exact ⟨k, e, hu, h1, h2⟩
    · cases h
  · cases h
omit [LaidW] in
theorem mlook_lit : ∀ (l : List (PV × PV)) (k q : PV), (∀ p ∈ l, isLit p.2 = true) → mlook l k = some q → isLit q = true
  | [], k, q, _, h => by cases h
  | p :: r, k, q, hl, h => by
    unfold mlook at h
    split at h
    · injection h with h; subst h; exact hl p (by simp)
    · exact mlook_lit r k q (fun y hy => hl y (List.mem_cons_of_mem _ hy)) h
omit [LaidW] in
theorem ok_lookup (t : TypeId) (x k : Operand) (c0 : Bool) (o : Oper) (ho : o.op = .lookup t x k c0) {c : Prop} {v : AV} {E : List (List AV)} (h0 : aOp P h n (ev env) (.lookup t x k c0) = some (c, v, E)) (hc : c)
    (hs : Sim0 B H m w) (hlook : ∀ id cs, hget h id = some cs → (id, cs) ∈ H) (hx : RepA B (LB m H) m w (ev env x) (a.eval x)) (hk : RepA B (LB m H) m w (ev env k) (a.eval k)) :
    E = [] ∧ ValOk P B H m w (execOp a.eval o) v := by
  simp only [aOp] at h0
  unfold lkV at h0
  split at h0
  · rename_i l ow fl kp d z hl hkp hmt
    injection h0 with h0; injection h0 with h1 h2; injection h2 with h2 h3
    subst h1; subst h2; subst h3
    refine ⟨rfl, ?_⟩
    obtain ⟨id, hid, cells, hg, hd⟩ : ∃ id, ev env x = .mp id ∧ ∃ cells, hget h id = some cells ∧ mdec cells = some l := by
      cases hex : ev env x with
      | mp id =>
        rw [hex] at hl
        simp only [mpC] at hl
        cases hg : hget h id with
        | none => rw [hg] at hl; cases hl
        | some cells => rw [hg] at hl; exact ⟨id, rfl, cells, hg, hl⟩
      | _ => rw [hex] at hl; simp [mpC] at hl
    rw [hid] at hx
    obtain ⟨b, es, clk, hv, _, _, _, hb, _, hes⟩ := hs.mapAt (hlook id cells hg) hx hd
    unfold okM at hc
    rw [Bool.and_eq_true, List.all_eq_true] at hc
    obtain ⟨hc1, hc2⟩ := hc
    rw [hkp] at hk
    have hkv : a.eval k = litV kp := by cases hk with | w hr _ => exact lit_of (okK_lit hc1) hr
    obtain ⟨kt, et, hu, hd2, hz⟩ := mapT_spec hmt
    obtain ⟨hz1, hz2⟩ := zeroP_run (w := w) hz
    have hf := find_abs hc1 l es.toList 0 (by rw [Array.length_toList]; exact hes.1) (fun j p e hp he => hes.2 j p e hp (by rw [← Array.getElem?_toList]; exact he)) (fun p hp => by
      have := hc2 p hp; rw [Bool.and_eq_true] at this; exact this.1)
    have hlk := mfind_look l kp 0
    have hrun : (Instr.lookup t (.map (some b)) (litV kp) c0).run P w = .ok (match mfind l kp 0 with
        | some x => if c0 = true then .tuple #[litV x.2, .bool true] else litV x.2
        | none => if c0 = true then .tuple #[litV z, .bool false] else litV z) w := by
      unfold Instr.lookup
      simp only [Sem.run_bind, run_underlying hu, Result.andThen_ok, MapKept.run_getObj_map hb, Sem.run_pure]
      rw [show (10000 : Nat) = 9999 + 1 from rfl, MapKept.run_checkKey hd2 (isKey_lit hc1)]
      simp only [Result.andThen_ok]
      rw [MapKept.run_findKey hd2 hf]
      simp only [Result.andThen_ok]
      cases mfind l kp 0 with
      | none => simp only [Option.map_none, Sem.run_bind, hz1, Result.andThen_ok, Sem.run_pure]
      | some x => simp only [Option.map_some, Sem.run_bind, Sem.run_pure, Result.andThen_ok]
    have hmem : ∀ q, mlook l kp = some q → isLit q = true := fun q hq => mlook_lit l kp q (fun p hp => by have := hc2 p hp; rw [Bool.and_eq_true] at this; exact this.2) hq
    refine ⟨_, by simp only [execOp, ho, hv, hkv, Sem.run_bind, hrun, Result.andThen_ok]; rfl, ?_⟩
    have pair : ∀ (q : PV) (bb : Bool), isLit q = true → RepA B (LB m H) m w (.w false false (.tup [q, .bool bb])) (.tuple #[litV q, .bool bb]) := fun q bb hq => by
      refine .w (.tup rfl (fun j p u hp hu => ?_)) (fun h => by cases h)
      match j, hp, hu with
      | 0, hp, hu => simp at hp hu; subst hp; subst hu; exact rep_lit hq
      | 1, hp, hu => simp at hp hu; subst hp; subst hu; exact .bool _
    cases hq : mfind l kp 0 with
    | none =>
      rw [hq] at hlk
      have : mlook l kp = none := hlk.symm
      rw [this]
      cases c0 with
      | true => exact pair z false hz2
      | false => exact .w (rep_lit hz2) (fun h => by cases h)
    | some y =>
      rw [hq] at hlk
      have : mlook l kp = some y.2 := hlk.symm
      rw [this]
      cases c0 with
      | true => exact pair y.2 true (hmem _ this)
      | false => exact .w (rep_lit (hmem _ this)) (fun h => by cases h)
  · cases h0
end
end Go.Fi

namespace Go.Fi
open Go Go.RowKit
variable [LaidW]

section
variable {P : Program} {B : Base} {m : Mm} {w : World} {H h : Heap} {n : Nat} {env : Env} {a : Act} {L : Nat → Prop}

omit [LaidW] in
theorem q_of {r : Sem Next} {v : AV} {E : List (List AV)} (hs : Sim0 B H m w) (hv : E = [] ∧ ValOk P B H m w r v) : QOk P B H m w n E.length r v := by
  obtain ⟨rfl, hv⟩ := hv
  exact hv.q hs

omit [LaidW] in
theorem quiet_op (o : Oper) {c : Prop} {v : AV} {E : List (List AV)} (h0 : aOp P h n (ev env) o.op = some (c, v, E)) (hc : c) (hs : Sim0 B H m w) (hB : B.n ≤ w.heap.size)
    (hlook : ∀ id cs, hget h id = some cs → (id, cs) ∈ H) (hE : ∀ k cs, E[k]? = some cs → (n + k, cs) ∈ H) (hnd : ∀ k, k < E.length → ¬ m.dom (n + k))
    (hx : ∀ x, x ∈ o.op.operands → RepA B (LB m H) m w (ev env x) (a.eval x)) : QOk P B H m w n E.length (execOp a.eval o) v := by
  cases ho : o.op with
  | move x =>
    rw [ho] at h0 hx
    simp only [aOp, Option.some.injEq, Prod.mk.injEq] at h0; obtain ⟨rfl, rfl, rfl⟩ := h0
    exact q_of hs ⟨rfl, _, by simp [execOp, ho], hx x (by simp [Op.operands])⟩
  | assign x =>
    rw [ho] at h0 hx
    simp only [aOp, Option.some.injEq, Prod.mk.injEq] at h0; obtain ⟨rfl, rfl, rfl⟩ := h0
    exact q_of hs ⟨rfl, _, by simp [execOp, ho], hx x (by simp [Op.operands])⟩
  | pick x y z => rw [ho] at h0 hx; exact q_of hs (ok_pick x y z o ho h0 (hx x (by simp [Op.operands])) (hx y (by simp [Op.operands])) (hx z (by simp [Op.operands])))
  | alloc t => rw [ho] at h0; exact ok_alloc t o ho h0 hs hB hE hnd
  | box t x => rw [ho] at h0 hx; exact ok_box t x o ho h0 hc hs hB hE hnd (hx x (by simp [Op.operands]))
  | build t ps => rw [ho] at h0 hx; exact q_of hs (ok_build t ps o ho h0 (fun x hm => hx x (by simpa [Op.operands] using hm)))
  | buildSlice t l ps => rw [ho] at h0 hx; exact ok_buildSlice t l ps o ho h0 hc hs hB hE hnd (fun x hm => hx x (by simpa [Op.operands] using hm))
  | load t x => rw [ho] at h0 hx; exact q_of hs (ok_load t x o ho h0 hc hs hlook (hx x (by simp [Op.operands])))
  | nilCheck x => rw [ho] at h0 hx; exact q_of hs (ok_nilCheck x o ho h0 (hx x (by simp [Op.operands])))
  | binOp op t x y yt =>
    rw [ho] at h0 hx
    have h1 := hx x (by simp [Op.operands])
    have h2 := hx y (by simp [Op.operands])
    simp only [aOp] at h0
    split at h0
    · rename_i k hk
      split at h0
      · rename_i r hr
        split at h0
        · simp only [Option.some.injEq, Prod.mk.injEq] at h0; obtain ⟨rfl, rfl, rfl⟩ := h0
          exact q_of hs ⟨rfl, ok_eql .eql (.inl rfl) t x y yt hk hr h1 h2 hc.1 hc.2 o ho⟩
        · simp only [Option.some.injEq, Prod.mk.injEq] at h0; obtain ⟨rfl, rfl, rfl⟩ := h0
          exact q_of hs ⟨rfl, ok_eql .neq (.inr rfl) t x y yt hk hr h1 h2 hc.1 hc.2 o ho⟩
        · cases h0
      · cases h0
    · split at h0
      · rename_i ox fx p oy fy q ex ey
        split at h0
        · rename_i c' v' hb
          simp only [Option.some.injEq, Prod.mk.injEq] at h0; obtain ⟨rfl, rfl, rfl⟩ := h0
          exact q_of hs ⟨rfl, ok_bin op t x y yt ex ey hb hc h1 h2 o ho⟩
        · cases h0
      · cases h0
  | unOp op t x => rw [ho] at h0 hx; exact q_of hs (ok_un op t x o ho h0 hc (hx x (by simp [Op.operands])))
  | convert s d x => rw [ho] at h0 hx; exact q_of hs (ok_convert s d x o ho h0 hc (hx x (by simp [Op.operands])))
  | makeInterface t x => rw [ho] at h0 hx; exact q_of hs (ok_makeInterface t x o ho h0 (hx x (by simp [Op.operands])))
  | makeFunc f fs cs => rw [ho] at h0 hx; exact q_of hs (ok_makeFunc f fs cs o ho h0 (fun x hm => hx x (by simp [Op.operands, Array.mem_toList_iff.1 hm])))
  | makeSlice t x y => rw [ho] at h0 hx; exact ok_makeSlice t x y o ho h0 hc hs hB hE hnd (hx x (by simp [Op.operands])) (hx y (by simp [Op.operands]))
  | slice t x lo hi mx =>
    rw [ho] at h0 hx
    exact q_of hs (ok_slice t x lo hi mx o ho h0 hc (hx x (by simp [Op.operands])) (fun y e => hx y (by simp [Op.operands, e])) (fun y e => hx y (by simp [Op.operands, e])) (fun y e => hx y (by simp [Op.operands, e])))
  | fieldAddr s x f => rw [ho] at h0 hx; exact q_of hs (ok_fieldAddr s x f o ho h0 (hx x (by simp [Op.operands])))
  | field s x f => rw [ho] at h0 hx; exact q_of hs (ok_field s x f o ho h0 hc (hx x (by simp [Op.operands])))
  | indexAddr t x i => rw [ho] at h0 hx; exact q_of hs (ok_indexAddr t x i o ho h0 hc (hx x (by simp [Op.operands])) (hx i (by simp [Op.operands])))
  | index t x i => rw [ho] at h0 hx; exact q_of hs (ok_index t x i o ho h0 hc (hx x (by simp [Op.operands])) (hx i (by simp [Op.operands])))
  | lookup t x k c0 => rw [ho] at h0 hx; exact q_of hs (ok_lookup t x k c0 o ho h0 hc hs hlook (hx x (by simp [Op.operands])) (hx k (by simp [Op.operands])))
  | extract x i => rw [ho] at h0 hx; exact q_of hs (ok_extract x i o ho h0 (hx x (by simp [Op.operands])))
  | call cl =>
    rw [ho] at h0 hx
    obtain ⟨callee, args, tys⟩ := cl
    cases callee with
    | builtin b =>
      have hargs : ∀ x ∈ args.toList, RepA B (LB m H) m w (ev env x) (a.eval x) := fun x hm => hx x (by simp [Op.operands, Call.operands, Array.mem_toList_iff.1 hm])
      cases b with
      | len => exact q_of hs (ok_len args tys o ho h0 hargs)
      | max => exact q_of hs (ok_max args tys o ho h0 hargs)
      | min => exact q_of hs (ok_min args tys o ho h0 hargs)
      | _ => simp [aOp] at h0
    | _ => simp [aOp] at h0
  | _ => rw [ho] at h0; simp [aOp] at h0
end

/-- a function that is entered -/
def Enterable (P : Program) (f : FuncId) : Prop := ∃ fn, P.funcs[f]? = some fn ∧ (fn.name == "runtime.NumGoroutine") = false ∧ fn.body.isNone = false

/-- what a call gives: data in, data out; all that was there stays; 'fr': what comes back lies in new memory alone -/
def RealCall (P : Program) (f : FuncId) (args : List PV) (res : PV) (fr : Bool) : Prop :=
  Enterable P f ∧ ∀ (G : Nat → Prop) (w : World) (vs : Array Value), LaidW.ok w → args.length = vs.size → (∀ (j : Nat) (p : PV) (v : Value), args[j]? = some p → vs[j]? = some v → Rep G w p v) →
    Calls P f vs w fun e w' => ∃ v, e = .returned v ∧ Below w.heap.size w w' ∧ Rep (fun b => (b < w.heap.size → G b) ∧ (fr = true → w.heap.size ≤ b)) w' res v

def isW : AV → Bool
  | .w _ _ _ => true
  | _ => false
def allW : List AV → Bool
  | [] => true
  | x :: r => isW x && allW r
def pureA : AV → Bool
  | .w _ _ _ => true
  | .agg cs => allW cs
  | .fn _ cs => allW cs
  | _ => false
def pureL : List AV → Bool
  | [] => true
  | x :: r => pureA x && pureL r

section
variable {P : Program} {B : Base} {m : Mm} {w : World} {H h : Heap} {n : Nat} {env : Env} {a : Act} {L : Nat → Prop}

omit [LaidW] in
theorem mapM_some {α β : Type} {f : α → Option β} : ∀ {l : List α} {r : List β}, l.mapM f = some r → l.length = r.length ∧ ∀ (j : Nat) (y : β), r[j]? = some y → ∃ x, l[j]? = some x ∧ f x = some y
  | [], r, h => by simp at h; subst h; exact ⟨rfl, fun j y h => by simp at h⟩
  | x :: l, r, h => by
    simp only [List.mapM_cons] at h
    cases hx : f x with
    | none => simp [hx] at h
    | some y =>
      simp only [hx, Option.bind_eq_bind, Option.bind_some] at h
      cases hr : l.mapM f with
      | none => simp [hr] at h
      | some r' =>
        simp only [hr, Option.bind_some] at h
        injection h with h; subst h
        obtain ⟨h1, h2⟩ := mapM_some hr
        refine ⟨by simp [h1], fun j z hz => ?_⟩
        cases j with
        | zero => simp at hz; subst hz; exact ⟨x, rfl, hx⟩
        | succ j => exact h2 j z (by simpa using hz)

omit [LaidW] in
theorem flat_rep {w w' : World} {p : PV} (hf : flat p = true) {G G' : Nat → Prop} {v : Value} (h : Rep G w p v) : Rep G' w' p v := by
  cases h <;> first
    | exact .undef _
    | exact .anyb _
    | exact .bool _
    | exact .int _ _
    | exact .str _
    | exact .nilp
    | exact .nili
    | (cases hf; done)

/-- what lies in the call's own new memory alone -/
def freshA (h : Heap) : Nat → AV → Bool
  | _, .w own _ p => own || flat p
  | 0, _ => false
  | d + 1, .ptr id _ _ => match hget h id with
    | some cells => cells.all (freshA h d)
    | none => false
  | d + 1, .msl id _ _ _ _ => match hget h id with
    | some cells => cells.all (freshA h d)
    | none => false
  | d + 1, .agg cs => cs.all (freshA h d)
  | d + 1, .tup cs => cs.all (freshA h d)
  | d + 1, .fn _ c => c.all (freshA h d)
  | _ + 1, .mp _ => false

omit [LaidW] in
theorem all_get {α : Type} {f : α → Bool} {l : List α} (h : l.all f = true) {j : Nat} {x : α} (hx : l[j]? = some x) : f x = true := List.all_eq_true.1 h x (List.mem_of_getElem? hx)

omit [LaidW] in
/-- handed to a call, or back -/
theorem frz_rep (hs : Sim0 B H m w) (hlook : ∀ id cs, hget h id = some cs → (id, cs) ∈ H) {G' : Nat → Prop} (fr : Bool) (hG1 : ∀ b, B.n ≤ b → G' b) (hG2 : fr = false → ∀ b, Good B (LB m H) false b → G' b) : ∀ (d : Nat) (x : AV) (p : PV) (v : Value), frz h d x = some p → (fr = true → freshA h d x = true) → RepA B (LB m H) m w x v → Rep G' w p v
  | d, .w o f q, p, v, hf, hfr, hr => by
    have : q = p := by cases d <;> (simp [frz] at hf; exact hf)
    subst this
    cases hr with
    | w hr _ =>
      cases hfv : fr with
      | false => exact hr.imp fun b hg => hG2 hfv b ⟨hg.1, (fun h => by cases h), hg.2.2⟩
      | true =>
        have h1 := hfr hfv
        have h2 : (o || flat q) = true := by cases d <;> exact h1
        cases o with
        | true => exact hr.imp fun b hg => hG1 b (hg.2.1 rfl)
        | false => exact flat_rep (by simpa using h2) hr
  | 0, .ptr .., _, _, hf, _, _ => by simp [frz] at hf
  | 0, .msl .., _, _, hf, _, _ => by simp [frz] at hf
  | 0, .agg _, _, _, hf, _, _ => by simp [frz] at hf
  | 0, .tup _, _, _, hf, _, _ => by simp [frz] at hf
  | 0, .fn _ _, _, _, hf, _, _ => by simp [frz] at hf
  | 0, .mp _, _, _, hf, _, _ => by simp [frz] at hf
  | _ + 1, .mp _, _, _, hf, _, _ => by simp [frz] at hf
  | d + 1, .ptr id ver off, p, v, hf, hfr, hr => by
    simp only [frz] at hf
    split at hf
    · rename_i cells hg
      split at hf
      · rename_i hver
        cases hm : cells.mapM (frz h d) with
        | none => simp [hm] at hf
        | some r =>
          simp only [hm, Option.map_some, Option.some.injEq] at hf; subst hf
          obtain ⟨h1, h2⟩ := mapM_some hm
          obtain ⟨b, C, rfl, hd, hvC, ha⟩ := hr.ptr_inv
          rw [← hver] at ha hvC
          obtain ⟨cs, e, hh, hC, hle, hbB, hcell⟩ := hs.read (hlook id cells hg) hd ha hvC.2
          have := Rep.ip (G := G') (w := w) (o := off) (b := b) (off := 0) (cells := r) (fun j => cs.getD j undef) (fun j hj => by
            have : j < cs.size := by omega
            rw [Nat.zero_add, cell_of hh]; simp [this]) (fun _ => hG1 b hbB) (fun j q hq => by
            obtain ⟨x, hx, hxq⟩ := h2 j q hq
            have hj : j < cs.size := by have := (List.getElem?_eq_some_iff.1 hx).1; omega
            exact frz_rep hs hlook fr hG1 hG2 d x q _ hxq (fun e => by have := hfr e; simp only [freshA, hg] at this; exact all_get this hx) (hcell j x _ hx (by simp [hj])))
          rw [Nat.zero_add] at this
          exact this
      · cases hf
    · cases hf
  | d + 1, .msl id ver sz off k, p, v, hf, hfr, hr => by
    simp only [frz] at hf
    split at hf
    · rename_i cells hg
      split at hf
      · rename_i hver
        cases hm : cells.mapM (frz h d) with
        | none => simp [hm] at hf
        | some r =>
          simp only [hm, Option.map_some, Option.some.injEq, cutW_eq] at hf; subst hf
          obtain ⟨h1, h2⟩ := mapM_some hm
          obtain ⟨a0, cap, rfl, hk, hd, _, h3, h4⟩ := hr.msl_inv
          rw [← hver] at h3 h4
          cases ha : m.addr id cells.length with
          | none =>
            obtain ⟨rfl, h5⟩ := h3 ha
            have hr0 : r = [] := List.eq_nil_of_length_eq_zero (by omega)
            subst hr0
            have : k = 0 := by omega
            subst this
            cases a0 with
            | none => simpa using Rep.slnil
            | some a1 => simpa using Rep.slz (Nat.le_refl _)
          | some bc =>
            obtain ⟨b, C⟩ := bc
            obtain ⟨h5, h6, h7⟩ := h4 b C ha
            obtain ⟨cs, e, hh, hC, hle, hbB, hcell⟩ := hs.read (hlook id cells hg) hd ha (by omega)
            cases hL : (r.drop off).take (k * sz) with
            | nil =>
              cases a0 with
              | none =>
                have hcap : cap = 0 := by
                  rcases Nat.eq_zero_or_pos cap with h | h
                  · exact h
                  · cases h5 h
                subst hcap
                have : k = 0 := by omega
                subst this
                exact .slnil
              | some a1 => exact .slz hk
            | cons x xs =>
              have hcap : 0 < cap := by
                rcases Nat.eq_zero_or_pos cap with h | h
                · have : k = 0 := by omega
                  rw [this] at hL; simp at hL
                · exact h
              rw [h5 hcap, ← hL]
              refine .sl (fun j => cs.getD (off + j) undef) hk (fun j hj => ?_) (fun _ => hG1 b hbB) (fun j q hq => ?_)
              · rw [List.length_take, List.length_drop] at hj
                have : off + j < cs.size := by omega
                rw [cell_of hh]; simp [this]
              · rw [List.getElem?_take] at hq
                split at hq
                · rw [List.getElem?_drop] at hq
                  obtain ⟨x, hx, hxq⟩ := h2 _ q hq
                  have hj : off + j < cs.size := by have := (List.getElem?_eq_some_iff.1 hx).1; omega
                  exact frz_rep hs hlook fr hG1 hG2 d x q _ hxq (fun e => by have := hfr e; simp only [freshA, hg] at this; exact all_get this hx) (hcell _ x _ hx (by simp [hj]))
                · cases hq
      · cases hf
    · cases hf
  | d + 1, .agg cs, p, v, hf, hfr, hr => by
    simp only [frz] at hf
    cases hm : cs.mapM (frz h d) with
    | none => simp [hm] at hf
    | some r =>
      simp only [hm, Option.map_some, Option.some.injEq] at hf; subst hf
      obtain ⟨h1, h2⟩ := mapM_some hm
      obtain ⟨vs, rfl, hl, hc⟩ := hr.agg_inv
      exact .agg (by omega) (fun j q u hq hu => by
        obtain ⟨x, hx, hxq⟩ := h2 j q hq
        exact frz_rep hs hlook fr hG1 hG2 d x q u hxq (fun e => by have := hfr e; simp only [freshA] at this; exact all_get this hx) (hc j x u hx hu))
  | d + 1, .tup cs, p, v, hf, hfr, hr => by
    simp only [frz] at hf
    cases hm : cs.mapM (frz h d) with
    | none => simp [hm] at hf
    | some r =>
      simp only [hm, Option.map_some, Option.some.injEq] at hf; subst hf
      obtain ⟨h1, h2⟩ := mapM_some hm
      obtain ⟨vs, rfl, hl, hc⟩ := hr.tup_inv
      exact .tup (by omega) (fun j q u hq hu => by
        obtain ⟨x, hx, hxq⟩ := h2 j q hq
        exact frz_rep hs hlook fr hG1 hG2 d x q u hxq (fun e => by have := hfr e; simp only [freshA] at this; exact all_get this hx) (hc j x u hx hu))
  | d + 1, .fn g cs, p, v, hf, hfr, hr => by
    simp only [frz] at hf
    cases hm : cs.mapM (frz h d) with
    | none => simp [hm] at hf
    | some r =>
      simp only [hm, Option.map_some, Option.some.injEq] at hf; subst hf
      obtain ⟨h1, h2⟩ := mapM_some hm
      cases hr with
      | fn hl hc =>
        exact .fn (by omega) (fun j q u hq hu => by
          obtain ⟨x, hx, hxq⟩ := h2 j q hq
          exact frz_rep hs hlook fr hG1 hG2 d x q u hxq (fun e => by have := hfr e; simp only [freshA] at this; exact all_get this hx) (hc j x u hx hu))
end
end Go.Fi

namespace Go.Fi
open Go Go.RowKit
variable [LaidW]

def frzL (h : Heap) : List AV → Option (List PV)
  | [] => some []
  | x :: r => match frz h 6 x with
    | some p => match frzL h r with
      | some q => some (p :: q)
      | none => none
    | none => none

/-- what bears a mark is not looked into by 'simp' (a later argument's type hangs on it) -/
inductive Mark {α : Type} (a : α) : Type where
  | it
/-- what comes back lies in new memory (plain values lie nowhere) -/
def ownOf (fr : Bool) (p : PV) : Bool := fr && !flat p
/-- the same value with its places' numbers greater -/
def AV.sh (n : Nat) : AV → AV
  | .w o f p => .w o f p
  | .ptr id v off => .ptr (id + n) v off
  | .msl id v sz off k => .msl (id + n) v sz off k
  | .mp id => .mp (id + n)
  | .agg cs => .agg (shL n cs)
  | .tup cs => .tup (shL n cs)
  | .fn f cs => .fn f (shL n cs)
where shL (n : Nat) : List AV → List AV
  | [] => []
  | x :: r => x.sh n :: shL n r
/-- its data lies in new memory -/
def AV.frs : AV → Bool
  | .w o _ p => o || flat p
  | .ptr _ _ _ => true
  | .msl _ _ _ _ _ => true
  | .mp _ => true
  | .agg cs => frsL cs
  | .tup cs => frsL cs
  | .fn _ cs => frsL cs
where frsL : List AV → Bool
  | [] => true
  | x :: r => x.frs && frsL r
omit [LaidW] in
theorem isMc_sh {n : Nat} {c : List AV} : isMc (AV.sh.shL n c) = isMc c := by
  match c with
  | [] => rfl
  | [x] => cases x <;> simp [AV.sh.shL, AV.sh, isMc]
  | x :: y :: r => simp [AV.sh.shL, isMc]
omit [LaidW] in
theorem mdec_sh {n : Nat} {c : List AV} {l : List (PV × PV)} (h : mdec (AV.sh.shL n c) = some l) : mdec c = some l := by
  match c with
  | [] => simp [AV.sh.shL, mdec] at h
  | [x] =>
    cases x with
    | w o f p => simpa [AV.sh.shL, AV.sh] using h
    | _ => simp [AV.sh.shL, AV.sh, mdec] at h
  | x :: y :: r => simp [AV.sh.shL, mdec] at h
def addE (h : Heap) (n : Nat) : List (List AV) → Heap
  | [] => h
  | c :: E => (n, c) :: addE h (n + 1) E
/-- a call whose result is places of its own: E are their cells, numbered from 0 on, v the result -/
def MkCall (P : Program) (f : FuncId) (args : List PV) (E : List (List AV)) (v : AV) : Prop :=
  Enterable P f ∧ v.frs = true ∧ (∀ c ∈ E, AV.frs.frsL c = true) ∧ ∀ (G : Nat → Prop) (w : World) (vs : Array Value), LaidW.ok w → args.length = vs.size → (∀ (j : Nat) (p : PV) (v : Value), args[j]? = some p → vs[j]? = some v → Rep G w p v) →
    Calls P f vs w fun e w' => ∃ u mm, e = .returned u ∧ Below w.heap.size w w' ∧ (∀ i, mm.dom i ↔ i < E.length) ∧ Sim0 ⟨w.heap.size, G⟩ (addE [] 0 E) mm w' ∧ RepA ⟨w.heap.size, G⟩ (LB mm (addE [] 0 E)) mm w' v u
/-- a call: some contract fits -/
def CW (P : Program) (g : FuncId) (args : List PV) (K : PV → Bool → Prop) (K2 : List (List AV) → AV → Prop) (_ : Mark (K, K2)) : Prop := (∃ res fr, RealCall P g args res fr ∧ K res fr) ∨ ∃ E v, MkCall P g args E v ∧ K2 E v

def callW (P : Program) (h : Heap) (n : Nat) (g : FuncId) (args : List AV) (K : AV → List (List AV) → Prop) : Prop :=
  match frzL h args with
  | some pvs => CW P g pvs (fun res fr => (fr = true ∨ pureL args = true) ∧ K (.w (ownOf fr res) false res) []) (fun E v => K (v.sh n) (E.map (AV.sh.shL n))) .it
  | none => False

def fnOf : AV → Option (FuncId × List AV)
  | .fn g caps => some (g, caps)
  | .w own _ (.fn g caps) => some (g, caps.map (AV.w own false))
  | _ => none

/-- one operation that turns nothing that was there -/
def QStep (P : Program) (env : Env) (h : Heap) (n : Nat) (op : Op) (K : AV → List (List AV) → Prop) : Prop :=
  match op with
  | .call { callee := .value f, args := args, argTypes := _ } =>
    match fnOf (ev env f) with
    | some (g, caps) => callW P h n g (args.toList.map (ev env) ++ caps) K
    | none => False
  | op => match aOp P h n (ev env) op with
    | some (c, v, E) => c ∧ K v E
    | none => False

def Post (B : Base) (H : Heap) (m : Mm) (w : World) (n k : Nat) (v : AV) (v' : Value) (w' : World) (m' : Mm) : Prop :=
  m.le m' ∧ (∀ i, m'.dom i ↔ m.dom i ∨ (n ≤ i ∧ i < n + k)) ∧ Below w.heap.size w w' ∧ Sim0 B H m' w' ∧ (∀ b, LB m' H b → LB m H b ∨ w.heap.size ≤ b) ∧ RepA B (LB m' H) m' w' v v'

omit [LaidW] in
theorem own_fr {fr : Bool} {p : PV} (h : ownOf fr p = true) : fr = true := by
  unfold ownOf at h; simp at h; exact h.1
section
variable {P : Program} {B : Base} {m : Mm} {w : World} {H h : Heap} {n : Nat} {env : Env} {a : Act} {L : Nat → Prop}

omit [LaidW] in
theorem frzL_spec : ∀ {l : List AV} {r : List PV}, frzL h l = some r → l.length = r.length ∧ ∀ (j : Nat) (p : PV), r[j]? = some p → ∃ x, l[j]? = some x ∧ frz h 6 x = some p
  | [], r, e => by simp [frzL] at e; subst e; exact ⟨rfl, fun j p h => by simp at h⟩
  | x :: l, r, e => by
    simp only [frzL] at e
    split at e
    · rename_i p hp
      split at e
      · rename_i q hq
        injection e with e; subst e
        obtain ⟨h1, h2⟩ := frzL_spec hq
        refine ⟨by simp [h1], fun j y hy => ?_⟩
        cases j with
        | zero => simp at hy; subst hy; exact ⟨x, rfl, hp⟩
        | succ j => exact h2 j y (by simpa using hy)
      · cases e
    · cases e

omit [LaidW] in
theorem pureL_spec : ∀ {l : List AV}, pureL l = true → ∀ (j : Nat) (x : AV), l[j]? = some x → pureA x = true
  | [], _, j, x, h => by simp at h
  | y :: l, hp, j, x, h => by
    simp only [pureL, Bool.and_eq_true] at hp
    cases j with
    | zero => simp at h; subst h; exact hp.1
    | succ j => exact pureL_spec hp.2 j x (by simpa using h)

omit [LaidW] in
theorem allW_spec : ∀ {l : List AV}, allW l = true → ∀ (j : Nat) (x : AV), l[j]? = some x → isW x = true
  | [], _, j, x, h => by simp at h
  | y :: l, hp, j, x, h => by
    simp only [allW, Bool.and_eq_true] at hp
    cases j with
    | zero => simp at h; subst h; exact hp.1
    | succ j => exact allW_spec hp.2 j x (by simpa using h)
omit [LaidW] in
theorem Sim0.below (hs : Sim0 B H m w) {w' : World} (hb : Below w.heap.size w w') : Sim0 B H m w' := by
  refine ⟨fun id cells hin hd => ?_, hs.inj⟩
  obtain ⟨ht, hen⟩ := hs.entry id cells hin hd
  refine ⟨ht, ?_⟩
  rcases hen with h | ⟨b, C, cs, e, h1, h2, h3, h4, h5, h6⟩ | ⟨b, es, clk, h1, h2, h3, h4, h5⟩
  · exact .inl h
  · exact .inr (.inl ⟨b, C, cs, e, h1, (hb.block b (LB_lt hs ⟨id, cells, C, hin, hd, h1⟩)).trans h2, h3, h4, h5, fun j p v hp hv => (h6 j p v hp hv).mono (Mm.le.refl m) (fun _ _ h => h) (fun b hb' _ => hb.block b hb')⟩)
  · exact .inr (.inr ⟨b, es, clk, h1, h2, (hb.block b (LB_lt hs ⟨id, cells, 0, hin, hd, h1⟩)).trans h3, h4, h5⟩)

theorem call_sound (hO : LaidW.ok w) (hs : Sim0 B H m w) (hB : B.n ≤ w.heap.size) (hlook : ∀ id cs, hget h id = some cs → (id, cs) ∈ H) (o : Oper) (f : Operand) (args : Array Operand) (tys : Array TypeId) (ho : o.op = .call { callee := .value f, args := args, argTypes := tys })
    (hx : ∀ x, x ∈ o.op.operands → RepA B (LB m H) m w (ev env x) (a.eval x)) {g : FuncId} {caps : List AV} (hf : fnOf (ev env f) = some (g, caps)) {pvs : List PV} (hp : frzL h (args.toList.map (ev env) ++ caps) = some pvs)
    {res : PV} {fr : Bool} (hc : RealCall P g pvs res fr) (hfr : fr = true ∨ pureL (args.toList.map (ev env) ++ caps) = true) (K : Act → World → Prop) (Q : Exit → Act → World → Prop)
    (hK : ∀ v' w' m', Post B H m w n 0 (.w (ownOf fr res) false res) v' w' m' → K (a.put o.dst v') w') : o.wp P a w K Q := by
  obtain ⟨⟨fn, hfn, hname, hbody⟩, hcall⟩ := hc
  have hxf : RepA B (LB m H) m w (ev env f) (a.eval f) := hx f (by rw [ho]; simp [Op.operands, Call.operands])
  have hxa : ∀ x ∈ args.toList, RepA B (LB m H) m w (ev env x) (a.eval x) := fun x hm => hx x (by rw [ho]; simp [Op.operands, Call.operands, Array.mem_toList_iff.1 hm])
  have hfv : ∃ cv : Array Value, a.eval f = .func (.func g) #[] cv ∧ caps.length = cv.size ∧ ∀ (j : Nat) (p : AV) (v : Value), caps[j]? = some p → cv[j]? = some v → RepA B (LB m H) m w p v := by
    unfold fnOf at hf
    split at hf
    · rename_i g' caps' e
      injection hf with hf; injection hf with h1 h2; subst h1; subst h2
      rw [e] at hxf
      generalize hv : a.eval f = vf at hxf
      cases hxf with | fn h1 h2 => exact ⟨_, rfl, h1, h2⟩
    · rename_i own f' g' caps' e
      injection hf with hf; injection hf with h1 h2; subst h1; subst h2
      rw [e] at hxf
      generalize hv : a.eval f = vf at hxf
      cases hxf with
      | w h1 _ =>
        cases h1 with
        | fn h1 h2 =>
          refine ⟨_, rfl, by simpa using h1, fun j p v hp hv => ?_⟩
          obtain ⟨q, hq, rfl⟩ := getElem?_map_some hp
          exact .w (h2 j q v hq hv) (fun h => by cases h)
    · cases hf
  obtain ⟨cv, hfe, hcl, hcr⟩ := hfv
  have hvs : ∀ (j : Nat) (x : AV) (v : Value), (args.toList.map (ev env) ++ caps)[j]? = some x → (args.map a.eval ++ cv)[j]? = some v → RepA B (LB m H) m w x v := by
    intro j x v hj hv
    by_cases hlt : j < args.size
    · rw [List.getElem?_append_left (by simpa using hlt)] at hj
      rw [Array.getElem?_append_left (by simpa using hlt)] at hv
      obtain ⟨y, hy, rfl⟩ := getElem?_map_some hj
      rw [Array.getElem?_map] at hv
      have : args[j]? = some y := by rw [← Array.getElem?_toList]; exact hy
      rw [this] at hv; injection hv with hv; subst hv
      exact hxa y (List.mem_of_getElem? hy)
    · rw [List.getElem?_append_right (by simp; omega)] at hj
      rw [Array.getElem?_append_right (by simp; omega)] at hv
      simp only [List.length_map, Array.length_toList, Array.size_map] at hj hv
      exact hcr _ x v hj hv
  obtain ⟨hl1, hl2⟩ := frzL_spec hp
  have hlen : pvs.length = (args.map a.eval ++ cv).size := by rw [← hl1]; simp [hcl]
  have hrun : (execOp a.eval o).run P w = .ok (.enter g (args.map a.eval ++ cv)) w := by
    have hn' : ¬ fn.name = "runtime.NumGoroutine" := by simpa using hname
    have hb' : ¬ fn.body = none := by intro h; simp [h] at hbody
    simp [execOp, ho, resolve, hfe, Deferred.ofValue, invoke, callFunc, hfn, hn', hb']
  unfold Oper.wp
  rw [hrun, Oper.upon_enter]
  rcases hfr with hfr | hpure
  · subst hfr
    refine (hcall (fun _ => True) w _ hO hlen (fun j p v hp hv => by
      obtain ⟨x, hx, hxp⟩ := hl2 j p hp
      exact frz_rep hs hlook false (fun _ _ => trivial) (fun _ _ _ => trivial) 6 x p v hxp (fun e => by cases e) (hvs j x v hx hv))).mono ?_
    rintro e w' ⟨v, rfl, hb, hr⟩
    refine hK v w' m ⟨Mm.le.refl m, fun i => ⟨.inl, fun h => h.elim id fun h => by omega⟩, hb, hs.below hb, fun b h => .inl h, .w (hr.imp fun b hg => ?_) (fun h => by cases h)⟩
    have hb' := hg.2 rfl
    exact ⟨fun hl => by have := LB_lt hs hl; omega, fun _ => by omega, fun h => by omega⟩
  · refine (hcall (Good B (LB m H) false) w _ hO hlen (fun j p v hp hv => by
      obtain ⟨x, hx, hxp⟩ := hl2 j p hp
      have hpa := pureL_spec hpure j x hx
      have hr := hvs j x v hx hv
      cases x with
      | w o f q =>
        have : q = p := by simpa [frz] using hxp
        subst this
        cases hr with | w hr _ => exact hr.imp fun b hg => ⟨hg.1, (fun h => by cases h), hg.2.2⟩
      | agg cs =>
        cases hm : cs.mapM (frz h 5) with
        | none => simp [frz, hm] at hxp
        | some r =>
          simp only [frz, hm, Option.map_some, Option.some.injEq] at hxp
          subst hxp
          obtain ⟨h1, h2⟩ := mapM_some hm
          cases hr with
          | agg hl hcell =>
            refine .agg (by omega) (fun i q u hq hu => ?_)
            obtain ⟨y, hy, hyq⟩ := h2 i q hq
            have hyw : isW y = true := allW_spec hpa i y hy
            have hyr := hcell i y u hy hu
            cases y with
            | w o f q' =>
              have : q' = q := by simpa [frz] using hyq
              subst this
              cases hyr with | w hr _ => exact hr.imp fun b hg => ⟨hg.1, (fun h => by cases h), hg.2.2⟩
            | _ => cases hyw
      | fn gg cs =>
        cases hm : cs.mapM (frz h 5) with
        | none => simp [frz, hm] at hxp
        | some r =>
          simp only [frz, hm, Option.map_some, Option.some.injEq] at hxp
          subst hxp
          obtain ⟨h1, h2⟩ := mapM_some hm
          cases hr with
          | fn hl hcell =>
            refine .fn (by omega) (fun i q u hq hu => ?_)
            obtain ⟨y, hy, hyq⟩ := h2 i q hq
            have hyw : isW y = true := allW_spec hpa i y hy
            have hyr := hcell i y u hy hu
            cases y with
            | w o f q' =>
              have : q' = q := by simpa [frz] using hyq
              subst this
              cases hyr with | w hr _ => exact hr.imp fun b hg => ⟨hg.1, (fun h => by cases h), hg.2.2⟩
            | _ => cases hyw
      | _ => cases hpa)).mono ?_
    rintro e w' ⟨v, rfl, hb, hr⟩
    refine hK v w' m ⟨Mm.le.refl m, fun i => ⟨.inl, fun h => h.elim id fun h => by omega⟩, hb, hs.below hb, fun b h => .inl h, .w (hr.imp fun b hg => ?_) (fun h => by cases h)⟩
    rcases Nat.lt_or_ge b w.heap.size with hlt | hge
    · have hg1 := hg.1 hlt
      exact ⟨hg1.1, fun h => by have := hg.2 (own_fr h); omega, hg1.2.2⟩
    · exact ⟨fun hl => by have := LB_lt hs hl; omega, fun _ => by omega, fun h => by omega⟩

omit [LaidW] in
theorem shL_eq (n : Nat) : ∀ cs : List AV, AV.sh.shL n cs = cs.map (AV.sh n)
  | [] => rfl
  | x :: r => by simp [AV.sh.shL, shL_eq n r]
omit [LaidW] in
theorem frsL_all : ∀ {cs : List AV}, AV.frs.frsL cs = true → ∀ (j : Nat) (x : AV), cs[j]? = some x → x.frs = true
  | [], _, j, x, h => by simp at h
  | y :: l, hp, j, x, h => by
    simp only [AV.frs.frsL, Bool.and_eq_true] at hp
    cases j with
    | zero => simp at h; subst h; exact hp.1
    | succ j => exact frsL_all hp.2 j x (by simpa using h)
omit [LaidW] in
theorem RepA.up {B1 : Base} {L1 L2 : Nat → Prop} {mm m' : Mm} {w' : World} {n : Nat} {x : AV} {v : Value} (h : RepA B1 L1 mm w' x v)
    (hd : ∀ i, mm.dom i → m'.dom (i + n)) (ht : ∀ i, mm.dom i → m'.top (i + n) = mm.top i) (ha : ∀ i ver, mm.dom i → m'.addr (i + n) ver = mm.addr i ver) (hG : ∀ b, B1.n ≤ b → ¬ L1 b → Good B L2 true b) (hfr : x.frs = true) : RepA B L2 m' w' (x.sh n) v := by
  induction h with
  | @w own full p v hr hf =>
    refine .w ?_ hf
    cases own with
    | true => exact hr.imp fun b hg => hG b (hg.2.1 rfl) hg.1
    | false => exact flat_rep (by simpa [AV.frs] using hfr) hr
  | ptr hd' ht' ha' hC => exact .ptr (hd _ hd') (by rw [ht _ hd']; exact ht') ((ha _ _ hd').trans ha') hC
  | mp hd' ht' ha' => exact .mp (hd _ hd') (by rw [ht _ hd']; exact ht') ((ha _ _ hd').trans ha')
  | msl hd' ht' hn h0 h1 => exact .msl (hd _ hd') (by rw [ht _ hd']; exact ht') hn (fun e => h0 ((ha _ _ hd').symm.trans e)) (fun b C e => h1 b C ((ha _ _ hd').symm.trans e))
  | @agg cs vs hl _ ih =>
    rw [AV.sh, shL_eq]
    refine .agg (by simpa using hl) (fun j p v hp hv => ?_)
    obtain ⟨q, hq, rfl⟩ := getElem?_map_some hp
    exact ih j q v hq hv (frsL_all hfr j q hq)
  | @tup cs vs hl _ ih =>
    rw [AV.sh, shL_eq]
    refine .tup (by simpa using hl) (fun j p v hp hv => ?_)
    obtain ⟨q, hq, rfl⟩ := getElem?_map_some hp
    exact ih j q v hq hv (frsL_all hfr j q hq)
  | @fn f cs vs hl _ ih =>
    rw [AV.sh, shL_eq]
    refine .fn (by simpa using hl) (fun j p v hp hv => ?_)
    obtain ⟨q, hq, rfl⟩ := getElem?_map_some hp
    exact ih j q v hq hv (frsL_all hfr j q hq)

/-- places of a callee become places of the caller -/
def Mm.glue (m mm : Mm) (n len : Nat) : Mm :=
  ⟨fun i ver => if n ≤ i ∧ i < n + len then mm.addr (i - n) ver else m.addr i ver, fun i => if n ≤ i ∧ i < n + len then mm.top (i - n) else m.top i, fun i => m.dom i ∨ (n ≤ i ∧ i < n + len)⟩

omit [LaidW] in
theorem addE_mem0 : ∀ (E : List (List AV)) (h : Heap) (n : Nat) (id : Nat) (c : List AV), (id, c) ∈ addE h n E ↔ (id, c) ∈ h ∨ ∃ k, E[k]? = some c ∧ id = n + k
  | [], h, n, id, c => by simp [addE]
  | x :: E, h, n, id, c => by
    simp only [addE, List.mem_cons, Prod.mk.injEq, addE_mem0 E h (n + 1) id c]
    constructor
    · rintro (⟨rfl, rfl⟩ | h1 | ⟨k, h1, rfl⟩)
      · exact .inr ⟨0, rfl, rfl⟩
      · exact .inl h1
      · exact .inr ⟨k + 1, by simpa using h1, by omega⟩
    · rintro (h1 | ⟨k, h1, rfl⟩)
      · exact .inr (.inl h1)
      · cases k with
        | zero => simp at h1; exact .inl ⟨rfl, h1.symm⟩
        | succ k => exact .inr (.inr ⟨k, by simpa using h1, by omega⟩)
omit [LaidW] in
theorem pairwise_at {α : Type} {R : α → α → Prop} {l : List α} (h : l.Pairwise R) (hs : ∀ a b, R a b → R b a) {x y : α} (hx : x ∈ l) (hy : y ∈ l) : x = y ∨ R x y := by
  rw [List.pairwise_iff_getElem] at h
  obtain ⟨p, hp, ep⟩ := List.getElem_of_mem hx
  obtain ⟨q, hq, eq⟩ := List.getElem_of_mem hy
  rcases Nat.lt_trichotomy p q with e | e | e
  · have := h p q hp hq e; rw [ep, eq] at this; exact .inr this
  · subst e; rw [ep] at eq; exact .inl eq
  · have := h q p hq hp e; rw [ep, eq] at this; exact .inr (hs _ _ this)

omit [LaidW] in
theorem glue_post (hs : Sim0 B H m w) (hB : B.n ≤ w.heap.size) {E : List (List AV)} {v : AV} (hv : v.frs = true) (hEf : ∀ c ∈ E, AV.frs.frsL c = true)
    (hE : ∀ k cs, (E.map (AV.sh.shL n))[k]? = some cs → (n + k, cs) ∈ H) (hnd : ∀ k, k < E.length → ¬ m.dom (n + k))
    {G : Nat → Prop} {w' : World} {u : Value} {mm : Mm} (hb : Below w.heap.size w w') (hdm : ∀ i, mm.dom i ↔ i < E.length) (hsm : Sim0 ⟨w.heap.size, G⟩ (addE [] 0 E) mm w') (hr : RepA ⟨w.heap.size, G⟩ (LB mm (addE [] 0 E)) mm w' v u) :
    Post B H m w n E.length (v.sh n) u w' (m.glue mm n E.length) := by
  have hold : ∀ i, m.dom i → ¬ (n ≤ i ∧ i < n + E.length) := fun i hd hi => by
    have := hnd (i - n) (by omega)
    rw [show n + (i - n) = i by omega] at this
    exact this hd
  have hle : m.le (m.glue mm n E.length) := ⟨fun i hd => .inl hd, fun i hd => by simp only [Mm.glue, if_neg (hold i hd)]; exact Nat.le_refl _, fun i ver hd _ => by simp only [Mm.glue, if_neg (hold i hd)]⟩
  have hnewm : ∀ k c, E[k]? = some c → (k, c) ∈ addE [] 0 E := fun k c hk => (addE_mem0 E [] 0 k c).2 (.inr ⟨k, hk, by omega⟩)
  -- an entry of the new places
  have hnew : ∀ k c, (n + k, c) ∈ H → k < E.length → ∃ c0, E[k]? = some c0 ∧ c = AV.sh.shL n c0 := fun k c hin hk => by
    have h1 := List.getElem?_eq_getElem hk
    refine ⟨E[k], h1, ?_⟩
    have h2 := hE k (AV.sh.shL n E[k]) (by rw [List.getElem?_map, h1]; rfl)
    exact hs.key hin h2
  have hLB : ∀ b, LB (m.glue mm n E.length) H b → LB m H b ∨ LB mm (addE [] 0 E) b := by
    rintro b ⟨id, c, C, hin, hd, ha⟩
    by_cases hi : n ≤ id ∧ id < n + E.length
    · obtain ⟨c0, h1, h2⟩ := hnew (id - n) c (by rw [show n + (id - n) = id by omega]; exact hin) (by omega)
      simp only [Mm.glue, if_pos hi] at ha
      rw [h2, shL_eq, List.length_map] at ha
      exact .inr ⟨id - n, c0, C, hnewm _ _ h1, (hdm _).2 (by omega), ha⟩
    · have hd' : m.dom id := by
        rcases hd with hd | hd
        · exact hd
        · exact absurd hd hi
      simp only [Mm.glue, if_neg hi] at ha
      exact .inl ⟨id, c, C, hin, hd', ha⟩
  have hmmB : ∀ b, LB mm (addE [] 0 E) b → w.heap.size ≤ b := by
    rintro b ⟨id, c, C, hin, hd, ha⟩
    exact (hsm.block hin hd ha).2
  have hG : ∀ b, w.heap.size ≤ b → ¬ LB mm (addE [] 0 E) b → Good B (LB (m.glue mm n E.length) H) true b := fun b hb1 hb2 => ⟨fun hl => by
    rcases hLB b hl with h1 | h1
    · have := LB_lt hs h1; omega
    · exact hb2 h1, fun _ => by omega, fun h => by omega⟩
  have hup : ∀ x u, RepA ⟨w.heap.size, G⟩ (LB mm (addE [] 0 E)) mm w' x u → x.frs = true → RepA B (LB (m.glue mm n E.length) H) (m.glue mm n E.length) w' (x.sh n) u := fun x u h hf =>
    h.up (fun i hd => .inr ⟨by omega, by have := (hdm i).1 hd; omega⟩) (fun i hd => by have := (hdm i).1 hd; simp only [Mm.glue]; rw [if_pos ⟨by omega, by omega⟩, Nat.add_sub_cancel])
      (fun i ver hd => by have := (hdm i).1 hd; simp only [Mm.glue]; rw [if_pos ⟨by omega, by omega⟩, Nat.add_sub_cancel]) hG hf
  have hmono : ∀ x u, RepA B (LB m H) m w x u → RepA B (LB (m.glue mm n E.length) H) (m.glue mm n E.length) w' x u := fun x u h =>
    h.mono hle (fun b hb1 hb2 hl => by
      rcases hLB b hl with h1 | h1
      · exact hb2 h1
      · have := hmmB b h1; omega) (fun b hb1 _ => hb.block b hb1)
  refine ⟨hle, fun i => Iff.rfl, hb, ⟨fun id c hin hd => ?_, ?_⟩, fun b hl => ?_, hup v u hr hv⟩
  · by_cases hi : n ≤ id ∧ id < n + E.length
    · obtain ⟨c0, h1, h2⟩ := hnew (id - n) c (by rw [show n + (id - n) = id by omega]; exact hin) (by omega)
      have hlen : c.length = c0.length := by rw [h2, shL_eq, List.length_map]
      obtain ⟨e1, e2⟩ := hsm.entry (id - n) c0 (hnewm _ _ h1) ((hdm _).2 (by omega))
      refine ⟨by simp only [Mm.glue, if_pos hi]; rw [e1, hlen], ?_⟩
      rcases e2 with ⟨e3, e4⟩ | ⟨b, C, cs, e, f1, f2, f3, f4, f5, f6⟩ | ⟨b, es, clk, f1, f2, f3, f4, f5⟩
      · exact .inl ⟨by simp only [Mm.glue, if_pos hi]; rw [hlen]; exact e3, by rw [h2, e4]; rfl⟩
      rotate_left
      · exact .inr (.inr ⟨b, es, clk, by simp only [Mm.glue, if_pos hi]; rw [hlen]; exact f1, by rw [h2, isMc_sh]; exact f2, f3, by simp only at f4; omega, fun l hl => f5 l (mdec_sh (by rw [← h2]; exact hl))⟩)
      · refine .inr (.inl ⟨b, C, cs, e, by simp only [Mm.glue, if_pos hi]; rw [hlen]; exact f1, f2, f3, by omega, by simp only at f5; omega, fun j p u hp hu => ?_⟩)
        rw [h2, shL_eq] at hp
        obtain ⟨q, hq, rfl⟩ := getElem?_map_some hp
        exact hup q u (f6 j q u hq hu) (frsL_all (hEf c0 (List.mem_of_getElem? h1)) j q hq)
    · have hd' : m.dom id := by
        rcases hd with hd | hd
        · exact hd
        · exact absurd hd hi
      obtain ⟨e1, e2⟩ := hs.entry id c hin hd'
      refine ⟨by simp only [Mm.glue, if_neg hi]; exact e1, ?_⟩
      rcases e2 with ⟨e3, e4⟩ | ⟨b, C, cs, e, f1, f2, f3, f4, f5, f6⟩ | ⟨b, es, clk, f1, f2, f3, f4, f5⟩
      · exact .inl ⟨by simp only [Mm.glue, if_neg hi]; exact e3, e4⟩
      rotate_left
      · have hblt : b < w.heap.size := LB_lt hs ⟨id, c, 0, hin, hd', f1⟩
        exact .inr (.inr ⟨b, es, clk, by simp only [Mm.glue, if_neg hi]; exact f1, f2, (hb.block b hblt).trans f3, f4, f5⟩)
      · have hblt : b < w.heap.size := LB_lt hs ⟨id, c, C, hin, hd', f1⟩
        exact .inr (.inl ⟨b, C, cs, e, by simp only [Mm.glue, if_neg hi]; exact f1, (hb.block b hblt).trans f2, f3, f4, f5, fun j p u hp hu => hmono p u (f6 j p u hp hu)⟩)
  · refine List.Pairwise.imp_of_mem ?_ hs.inj
    intro x y hx hy ⟨hne, hxy⟩
    refine ⟨hne, fun b C C' hdx hdy hax hay => ?_⟩
    have key : ∀ z : Nat × List AV, z ∈ H → (m.glue mm n E.length).dom z.1 → ∀ C, (m.glue mm n E.length).addr z.1 z.2.length = some (b, C) → (¬ (n ≤ z.1 ∧ z.1 < n + E.length) ∧ m.dom z.1 ∧ m.addr z.1 z.2.length = some (b, C)) ∨
        ((n ≤ z.1 ∧ z.1 < n + E.length) ∧ ∃ c0, (z.1 - n, c0) ∈ addE [] 0 E ∧ mm.addr (z.1 - n) c0.length = some (b, C)) := by
      intro z hz hdz C ha
      by_cases hi : n ≤ z.1 ∧ z.1 < n + E.length
      · obtain ⟨c0, h1, h2⟩ := hnew (z.1 - n) z.2 (by rw [show n + (z.1 - n) = z.1 by omega]; exact hz) (by omega)
        simp only [Mm.glue, if_pos hi] at ha
        rw [h2, shL_eq, List.length_map] at ha
        exact .inr ⟨hi, c0, hnewm _ _ h1, ha⟩
      · simp only [Mm.glue, if_neg hi] at ha
        rcases hdz with hdz | hdz
        · exact .inl ⟨hi, hdz, ha⟩
        · exact absurd hdz hi
    rcases key x hx hdx C hax with ⟨_, dx, ax⟩ | ⟨ix, cx, mx, ax⟩
    · rcases key y hy hdy C' hay with ⟨_, dy, ay⟩ | ⟨iy, cy, my, ay⟩
      · exact hxy b C C' dx dy ax ay
      · have h1 : b < w.heap.size := LB_lt hs ⟨x.1, x.2, C, hx, dx, ax⟩
        have h2 := hmmB b ⟨y.1 - n, cy, C', my, (hdm _).2 (by omega), ay⟩
        omega
    · rcases key y hy hdy C' hay with ⟨_, dy, ay⟩ | ⟨iy, cy, my, ay⟩
      · have h1 : b < w.heap.size := LB_lt hs ⟨y.1, y.2, C', hy, dy, ay⟩
        have h2 := hmmB b ⟨x.1 - n, cx, C, mx, (hdm _).2 (by omega), ax⟩
        omega
      · rcases pairwise_at hsm.inj (fun a c hac => ⟨fun e => hac.1 e.symm, fun b C C' d1 d2 a1 a2 => hac.2 b C' C d2 d1 a2 a1⟩) mx my with h1 | h1
        · injection h1 with h1 _
          exact hne (by omega)
        · exact h1.2 b C C' ((hdm _).2 (by omega)) ((hdm _).2 (by omega)) ax ay
  · rcases hLB b hl with h1 | h1
    · exact .inl h1
    · exact .inr (hmmB b h1)

theorem mk_sound (hO : LaidW.ok w) (hs : Sim0 B H m w) (hB : B.n ≤ w.heap.size) (hlook : ∀ id cs, hget h id = some cs → (id, cs) ∈ H) (o : Oper) (f : Operand) (args : Array Operand) (tys : Array TypeId) (ho : o.op = .call { callee := .value f, args := args, argTypes := tys })
    (hx : ∀ x, x ∈ o.op.operands → RepA B (LB m H) m w (ev env x) (a.eval x)) {g : FuncId} {caps : List AV} (hf : fnOf (ev env f) = some (g, caps)) {pvs : List PV} (hp : frzL h (args.toList.map (ev env) ++ caps) = some pvs)
    {E : List (List AV)} {v : AV} (hE : ∀ k cs, (E.map (AV.sh.shL n))[k]? = some cs → (n + k, cs) ∈ H) (hnd : ∀ k, k < E.length → ¬ m.dom (n + k)) (hc : MkCall P g pvs E v) (K : Act → World → Prop) (Q : Exit → Act → World → Prop)
    (hK : ∀ v' w' m', Post B H m w n E.length (v.sh n) v' w' m' → K (a.put o.dst v') w') : o.wp P a w K Q := by
  obtain ⟨⟨fn, hfn, hname, hbody⟩, hv, hEf, hcall⟩ := hc
  have hxf : RepA B (LB m H) m w (ev env f) (a.eval f) := hx f (by rw [ho]; simp [Op.operands, Call.operands])
  have hxa : ∀ x ∈ args.toList, RepA B (LB m H) m w (ev env x) (a.eval x) := fun x hm => hx x (by rw [ho]; simp [Op.operands, Call.operands, Array.mem_toList_iff.1 hm])
  have hfv : ∃ cv : Array Value, a.eval f = .func (.func g) #[] cv ∧ caps.length = cv.size ∧ ∀ (j : Nat) (p : AV) (v : Value), caps[j]? = some p → cv[j]? = some v → RepA B (LB m H) m w p v := by
    unfold fnOf at hf
    split at hf
    · rename_i g' caps' e
      injection hf with hf; injection hf with h1 h2; subst h1; subst h2
      rw [e] at hxf
      generalize hv : a.eval f = vf at hxf
      cases hxf with | fn h1 h2 => exact ⟨_, rfl, h1, h2⟩
    · rename_i own f' g' caps' e
      injection hf with hf; injection hf with h1 h2; subst h1; subst h2
      rw [e] at hxf
      generalize hv : a.eval f = vf at hxf
      cases hxf with
      | w h1 _ =>
        cases h1 with
        | fn h1 h2 =>
          refine ⟨_, rfl, by simpa using h1, fun j p v hp hv => ?_⟩
          obtain ⟨q, hq, rfl⟩ := getElem?_map_some hp
          exact .w (h2 j q v hq hv) (fun h => by cases h)
    · cases hf
  obtain ⟨cv, hfe, hcl, hcr⟩ := hfv
  have hvs : ∀ (j : Nat) (x : AV) (v : Value), (args.toList.map (ev env) ++ caps)[j]? = some x → (args.map a.eval ++ cv)[j]? = some v → RepA B (LB m H) m w x v := by
    intro j x v hj hv
    by_cases hlt : j < args.size
    · rw [List.getElem?_append_left (by simpa using hlt)] at hj
      rw [Array.getElem?_append_left (by simpa using hlt)] at hv
      obtain ⟨y, hy, rfl⟩ := getElem?_map_some hj
      rw [Array.getElem?_map] at hv
      have : args[j]? = some y := by rw [← Array.getElem?_toList]; exact hy
      rw [this] at hv; injection hv with hv; subst hv
      exact hxa y (List.mem_of_getElem? hy)
    · rw [List.getElem?_append_right (by simp; omega)] at hj
      rw [Array.getElem?_append_right (by simp; omega)] at hv
      simp only [List.length_map, Array.length_toList, Array.size_map] at hj hv
      exact hcr _ x v hj hv
  obtain ⟨hl1, hl2⟩ := frzL_spec hp
  have hlen : pvs.length = (args.map a.eval ++ cv).size := by rw [← hl1]; simp [hcl]
  have hrun : (execOp a.eval o).run P w = .ok (.enter g (args.map a.eval ++ cv)) w := by
    have hn' : ¬ fn.name = "runtime.NumGoroutine" := by simpa using hname
    have hb' : ¬ fn.body = none := by intro h; simp [h] at hbody
    simp [execOp, ho, resolve, hfe, Deferred.ofValue, invoke, callFunc, hfn, hn', hb']
  unfold Oper.wp
  rw [hrun, Oper.upon_enter]
  refine (hcall (fun _ => True) w _ hO hlen (fun j p v hp hv => by
    obtain ⟨x, hx, hxp⟩ := hl2 j p hp
    exact frz_rep hs hlook false (fun _ _ => trivial) (fun _ _ _ => trivial) 6 x p v hxp (fun e => by cases e) (hvs j x v hx hv))).mono ?_
  rintro e w' ⟨u, mm, rfl, hb, hdm, hsm, hr⟩
  exact hK u w' _ (glue_post hs hB hv hEf hE hnd hb hdm hsm hr)

/-- facts of one quiet step -/
def QF (P : Program) (env : Env) (h : Heap) (n : Nat) (op : Op) (v : AV) (E : List (List AV)) : Prop :=
  (∃ c, aOp P h n (ev env) op = some (c, v, E) ∧ c) ∨
  ∃ f args tys g caps pvs res fr, op = .call { callee := .value f, args := args, argTypes := tys } ∧ fnOf (ev env f) = some (g, caps) ∧ frzL h (args.toList.map (ev env) ++ caps) = some pvs ∧
    ((RealCall P g pvs res fr ∧ (fr = true ∨ pureL (args.toList.map (ev env) ++ caps) = true) ∧ v = .w (ownOf fr res) false res ∧ E = []) ∨
      ∃ E0 v0, MkCall P g pvs E0 v0 ∧ v = v0.sh n ∧ E = E0.map (AV.sh.shL n))

theorem QStep.qf {op : Op} {K : AV → List (List AV) → Prop} (hq : QStep P env h n op K) : ∃ v E, QF P env h n op v E ∧ K v E := by
  unfold QStep at hq
  split at hq
  · rename_i f args tys
    split at hq
    · rename_i g caps hf
      unfold callW at hq
      split at hq
      · rename_i pvs hp
        rcases hq with ⟨res, fr, hc, hfr, hk⟩ | ⟨E, v, hc, hk⟩
        · exact ⟨_, _, .inr ⟨f, args, tys, g, caps, pvs, res, fr, rfl, hf, hp, .inl ⟨hc, hfr, rfl, rfl⟩⟩, hk⟩
        · exact ⟨_, _, .inr ⟨f, args, tys, g, caps, pvs, .undef, true, rfl, hf, hp, .inr ⟨E, v, hc, rfl, rfl⟩⟩, hk⟩
      · exact hq.elim
    · exact hq.elim
  · split at hq
    · rename_i c v E he
      exact ⟨v, E, .inl ⟨c, he, hq.1⟩, hq.2⟩
    · exact hq.elim

theorem QF.sound (o : Oper) {v : AV} {E : List (List AV)} (hq : QF P env h n o.op v E) (hO : LaidW.ok w) (hs : Sim0 B H m w) (hB : B.n ≤ w.heap.size)
    (hlook : ∀ id cs, hget h id = some cs → (id, cs) ∈ H) (hE : ∀ k cs, E[k]? = some cs → (n + k, cs) ∈ H) (hnd : ∀ k, k < E.length → ¬ m.dom (n + k))
    (hx : ∀ x, x ∈ o.op.operands → RepA B (LB m H) m w (ev env x) (a.eval x)) (K : Act → World → Prop) (Q : Exit → Act → World → Prop)
    (hK : ∀ v' w' m', Post B H m w n E.length v v' w' m' → K (a.put o.dst v') w') : o.wp P a w K Q := by
  rcases hq with ⟨c, h0, hc⟩ | ⟨f, args, tys, g, caps, pvs, res, fr, ho, hf, hp, ⟨hc, hfr, rfl, rfl⟩ | ⟨E0, v0, hc, rfl, rfl⟩⟩
  · obtain ⟨v', w', m', hrun, h1, h2, h3, h4, h5, h6⟩ := quiet_op o h0 hc hs hB hlook hE hnd hx
    unfold Oper.wp
    rw [hrun, Oper.upon_value]
    exact hK v' w' m' ⟨h1, h2, h3, h4, h5, h6⟩
  · exact call_sound hO hs hB hlook o f args tys ho hx hf hp hc hfr K Q hK
  · rw [List.length_map] at hnd hK
    exact mk_sound hO hs hB hlook o f args tys ho hx hf hp hE hnd hc K Q hK
end
end Go.Fi

namespace Go.Fi
open Go Go.RowKit

/-- a block's cells are others now -/
def wset (w : World) (b : Nat) (cs : Array Value) (e : TypeId) : World := { w with heap := w.heap.setIfInBounds b (.cells cs e (0, 0)) }

theorem wset_size (w : World) (b : Nat) (cs : Array Value) (e : TypeId) : (wset w b cs e).heap.size = w.heap.size := by simp [wset]
theorem wset_other (w : World) (b : Nat) (cs : Array Value) (e : TypeId) {k : Nat} (h : k ≠ b) : (wset w b cs e).heap[k]? = w.heap[k]? := by
  simp only [wset]
  rw [Array.getElem?_setIfInBounds]
  simp [Ne.symm h]
theorem wset_same (w : World) (b : Nat) (cs : Array Value) (e : TypeId) (h : b < w.heap.size) : (wset w b cs e).heap[b]? = some (.cells cs e (0, 0)) := by
  simp only [wset]
  rw [Array.getElem?_setIfInBounds]
  simp [h]
theorem wset_wset (w : World) (b : Nat) (cs cs' : Array Value) (e : TypeId) : wset (wset w b cs e) b cs' e = wset w b cs' e := by
  simp [wset]
theorem wset_self (w : World) (b : Nat) (cs : Array Value) (e : TypeId) (h : w.heap[b]? = some (.cells cs e (0, 0))) : wset w b cs e = w := by
  have : w.heap.setIfInBounds b (.cells cs e (0, 0)) = w.heap := by
    apply Array.ext
    · simp
    · intro i h1 h2
      rw [Array.getElem_setIfInBounds]
      split
      · rename_i hi; subst hi
        rw [Array.getElem?_eq_getElem h2] at h
        injection h with h; exact h.symm
      · rfl
  unfold wset
  rw [this]

def setArr (cs : Array Value) (off : Nat) : List Value → Array Value
  | [] => cs
  | v :: r => setArr (cs.setIfInBounds off v) (off + 1) r

theorem setArr_size : ∀ (vs : List Value) (off : Nat) (cs : Array Value), (setArr cs off vs).size = cs.size
  | [], _, _ => rfl
  | v :: r, off, cs => by rw [setArr, setArr_size r]; simp

theorem setCell_wset {w : World} {b : Nat} {cs : Array Value} {e : TypeId} (h : w.heap[b]? = some (.cells cs e (0, 0))) (off : Nat) (v : Value) : w.setCell ⟨b, off, none⟩ v = wset w b (cs.setIfInBounds off v) e := by
  unfold World.setCell wset
  congr 1
  have hb : b < w.heap.size := by
    rcases Nat.lt_or_ge b w.heap.size with h' | h'
    · exact h'
    · rw [Array.getElem?_eq_none h'] at h; cases h
  have hg : w.heap[b] = .cells cs e (0, 0) := by rw [Array.getElem?_eq_getElem hb] at h; injection h
  apply Array.ext
  · simp
  · intro i h1 h2
    rw [Array.getElem_modify, Array.getElem_setIfInBounds]
    split
    · rename_i hi; subst hi; simp [hg]
    · rfl

section
variable {P : Program}

theorem run_storeCells_wset (b off : Nat) (e : TypeId) : ∀ (vs : List Value) (i : Nat) (w : World) (cs : Array Value), w.heap[b]? = some (.cells cs e (0, 0)) → off + i + vs.length ≤ cs.size → (∀ v ∈ vs, v.oneCell' = true) →
    (storeCells ⟨b, off, none⟩ vs i).run P w = .ok () (wset w b (setArr cs (off + i) vs) e)
  | [], i, w, cs, h, _, _ => by
    simp only [storeCells, setArr]
    rw [wset_self w b cs e h]; rfl
  | v :: r, i, w, cs, h, hle, h1 => by
    have hlt : off + i < cs.size := by simp at hle; omega
    have hb : b < w.heap.size := by
      rcases Nat.lt_or_ge b w.heap.size with h' | h'
      · exact h'
      · rw [Array.getElem?_eq_none h'] at h; cases h
    have hst : (store ((⟨b, off, none⟩ : Addr).add i) v).run P w = .ok () (wset w b (cs.setIfInBounds (off + i) v) e) := by
      rw [Addr.add_mk, run_store P w _ v _ (h1 v (by simp))]
      have hc : w.cell? ⟨b, off + i, none⟩ = some cs[off + i] := by rw [cell_of h]; simp [hlt]
      have hf : w.frozen? ⟨b, off + i, none⟩ = false := by simp [World.frozen?, h]
      simp [hc, hf, setCell_wset h]
    have ih := run_storeCells_wset b off e r (i + 1) (wset w b (cs.setIfInBounds (off + i) v) e) (cs.setIfInBounds (off + i) v) (wset_same w b _ e hb) (by simp at hle ⊢; omega) (fun x hx => h1 x (by simp [hx]))
    simp only [storeCells, Sem.run_bind, hst, Result.andThen_ok, ih, wset_wset, setArr]
    rw [show off + (i + 1) = off + i + 1 by omega]
end

section
variable {P : Program} {B : Base} {m : Mm} {w : World} {H h : Heap} {n : Nat} {env : Env} {a : Act} {L : Nat → Prop}

theorem ones_spec : ∀ {l : List AV}, ones l = true → ∀ (j : Nat) (x : AV), l[j]? = some x → x.one = true
  | [], _, j, x, h => by simp at h
  | y :: l, hp, j, x, h => by
    simp only [ones, Bool.and_eq_true] at hp
    cases j with
    | zero => simp at h; subst h; exact hp.1
    | succ j => exact ones_spec hp.2 j x (by simpa using h)

theorem one_rep {x : AV} {v : Value} (h1 : x.one = true) (h : RepA B L m w x v) : v.oneCell' = true := by
  cases h with
  | w hr _ => cases hr <;> first | rfl | (cases h1; done)
  | agg _ _ => cases h1
  | tup _ _ => cases h1
  | _ => rfl

/-- only the cells' own front of a block is spoken of -/
def RepF (B : Base) (L : Nat → Prop) (m : Mm) (w : World) (cs : List AV) (vs : Array Value) : Prop :=
  cs.length ≤ vs.size ∧ ∀ (j : Nat) (p : AV) (v : Value), cs[j]? = some p → vs[j]? = some v → RepA B L m w p v
theorem RepF.set {cs : List AV} {vs : Array Value} (h : RepF B L m w cs vs) (i : Nat) {p : AV} {v : Value} (hp : RepA B L m w p v) : RepF B L m w (cs.set i p) (vs.setIfInBounds i v) := by
  refine ⟨by simpa using h.1, fun j q u hq hu => ?_⟩
  rw [List.getElem?_set] at hq
  rw [Array.getElem?_setIfInBounds] at hu
  by_cases hij : i = j
  · subst hij
    simp only [if_true] at hq hu
    split at hq
    · split at hu
      · injection hq with hq; injection hu with hu; subst hq; subst hu; exact hp
      · cases hu
    · cases hq
  · simp only [hij, if_false] at hq hu
    exact h.2 j q u hq hu
theorem setArrF_rep : ∀ (ps : List AV) (us : List Value) (off : Nat) (cs : List AV) (vs : Array Value), RepF B L m w cs vs → ps.length = us.length → (∀ (j : Nat) (p : AV) (v : Value), ps[j]? = some p → us[j]? = some v → RepA B L m w p v) →
    RepF B L m w (setAt cs off ps) (setArr vs off us)
  | [], us, off, cs, vs, h, hl, _ => by
    cases us with
    | nil => exact h
    | cons u us => cases hl
  | p :: ps, us, off, cs, vs, h, hl, hr => by
    cases us with
    | nil => cases hl
    | cons u us =>
      simp only [setAt, setArr]
      exact setArrF_rep ps us (off + 1) _ _ (h.set off (hr 0 p u rfl rfl)) (by simpa using hl) (fun j q v hq hv => hr (j + 1) q v (by simpa using hq) (by simpa using hv))

theorem hset_map (h : Heap) (id : Nat) (x : List AV) (hn : h.Pairwise fun p q => p.1 ≠ q.1) : hset h id x = h.map fun p => if p.1 = id then (p.1, x) else p := by
  induction hn with
  | nil => rfl
  | @cons y r hy _ ih =>
    obtain ⟨k, v⟩ := y
    simp only [hset, List.map_cons]
    split
    · rename_i hk
      subst hk
      congr 1
      rw [List.map_congr_left (g := fun p => p)]
      · simp
      · intro p hp
        rw [if_neg (fun e => hy p hp e.symm)]
    · rw [ih]
end
end Go.Fi

namespace Go.Fi
open Go Go.RowKit

def Mm.up (m : Mm) (id len : Nat) (bc : Option (Nat × Nat)) : Mm :=
  { addr := fun i v => if i = id ∧ v = len then bc else m.addr i v, top := fun i => if i = id then len else m.top i, dom := m.dom }

def hmap (h : Heap) (id : Nat) (x : List AV) : Heap := h.map fun p => if p.1 = id then (p.1, x) else p

section
variable {P : Program} {B : Base} {m : Mm} {w w' : World} {H h : Heap} {n : Nat} {env : Env} {a : Act} {L : Nat → Prop}

theorem hmap_mem {id i : Nat} {x c : List AV} (hin : (i, c) ∈ hmap h id x) : (i ≠ id ∧ (i, c) ∈ h) ∨ (i = id ∧ c = x) := by
  unfold hmap at hin
  obtain ⟨p, hp, e⟩ := List.mem_map.1 hin
  split at e
  · rename_i hk; injection e with e1 e2; exact .inr ⟨by rw [← e1]; exact hk, e2.symm⟩
  · rename_i hk; subst e; exact .inl ⟨hk, hp⟩

theorem up_le {id len : Nat} {bc : Option (Nat × Nat)} (hle : m.top id ≤ len) (hsame : len ≤ m.top id → bc = m.addr id len) : m.le (m.up id len bc) := by
  refine ⟨fun i hi => hi, fun i hi => ?_, fun i v hi hv => ?_⟩
  · simp only [Mm.up]; split
    · rename_i e; subst e; exact hle
    · exact Nat.le_refl _
  · simp only [Mm.up]; split
    · rename_i e; obtain ⟨rfl, rfl⟩ := e; exact hsame hv
    · rfl

theorem upd_entryG (hs : Sim0 B h m w) {id : Nat} {cells cells' : List AV} (hin : (id, cells) ∈ h) (hd : m.dom id) (hlen : cells.length ≤ cells'.length) {b' C' : Nat}
    (hsame : cells'.length = cells.length → m.addr id cells.length = some (b', C')) (hb' : w.heap.size ≤ b' ∨ ∃ C, m.addr id cells.length = some (b', C))
    (hoth : ∀ k, k < w.heap.size → (∀ C, m.addr id cells.length ≠ some (k, C)) → w'.heap[k]? = w.heap[k]?)
    (hnew : (∃ cs e, w'.heap[b']? = some (.cells cs e (0, 0)) ∧ cs.size = C' ∧ cells'.length ≤ C' ∧ B.n ≤ b' ∧ ∀ (j : Nat) (p : AV) (v : Value), cells'[j]? = some p → cs[j]? = some v → RepA B (LB m h) m w p v) ∨ (C' = 0 ∧ ∃ es clk l, w'.heap[b']? = some (.map es clk) ∧ cells' = [mcell l] ∧ B.n ≤ b' ∧ MapIs es l)) :
    Sim0 B (hmap h id cells') (m.up id cells'.length (some (b', C'))) w' ∧ m.le (m.up id cells'.length (some (b', C'))) ∧ (∀ b, b < w.heap.size → ¬ LB m h b → ¬ LB (m.up id cells'.length (some (b', C'))) (hmap h id cells') b) ∧
      (∀ b, b < w.heap.size → ¬ LB m h b → w'.heap[b]? = w.heap[b]?) := by
  have htop : m.top id = cells.length := (hs.entry id cells hin hd).1
  have hle : m.le (m.up id cells'.length (some (b', C'))) := up_le (by rw [htop]; exact hlen) (fun hh => by
    have : cells'.length = cells.length := by omega
    rw [this]; exact (hsame this).symm)
  have hL0 : ∀ b, LB (m.up id cells'.length (some (b', C'))) (hmap h id cells') b → (∃ i c C, (i, c) ∈ h ∧ i ≠ id ∧ m.dom i ∧ m.addr i c.length = some (b, C)) ∨ b = b' := by
    rintro b ⟨i, c, C, h1, h2, h3⟩
    rcases hmap_mem h1 with ⟨hi, h4⟩ | ⟨rfl, rfl⟩
    · simp only [Mm.up, hi, false_and, if_false] at h3
      exact .inl ⟨i, c, C, h4, hi, h2, h3⟩
    · simp only [Mm.up, and_self, if_true] at h3
      injection h3 with h3; injection h3 with h3 _; exact .inr h3.symm
  have hL : ∀ b, b < w.heap.size → ¬ LB m h b → ¬ LB (m.up id cells'.length (some (b', C'))) (hmap h id cells') b := by
    intro b hb hn hl
    rcases hL0 b hl with ⟨i, c, C, h1, _, h2, h3⟩ | rfl
    · exact hn ⟨i, c, C, h1, h2, h3⟩
    · rcases hb' with h | ⟨C, h⟩
      · omega
      · exact hn ⟨id, cells, C, hin, hd, h⟩
  have hW : ∀ b, b < w.heap.size → ¬ LB m h b → w'.heap[b]? = w.heap[b]? := fun b hb hn => hoth b hb (fun C hC => hn ⟨id, cells, C, hin, hd, hC⟩)
  have hmono : ∀ p v, RepA B (LB m h) m w p v → RepA B (LB (m.up id cells'.length (some (b', C'))) (hmap h id cells')) (m.up id cells'.length (some (b', C'))) w' p v := fun p v hp => hp.mono hle hL hW
  refine ⟨⟨fun i c hic hdi => ?_, ?_⟩, hle, hL, hW⟩
  · rcases hmap_mem hic with ⟨hi, h4⟩ | ⟨rfl, rfl⟩
    · obtain ⟨ht, hen⟩ := hs.entry i c h4 hdi
      refine ⟨by simp [Mm.up, hi, ht], ?_⟩
      -- two places never share a block
      have hpw : ∀ (x y : Nat × List AV), x ∈ h → y ∈ h → x.1 ≠ y.1 → ∀ b C C', m.dom x.1 → m.dom y.1 → m.addr x.1 x.2.length = some (b, C) → m.addr y.1 y.2.length ≠ some (b, C') := by
        intro x y hx hy hne b C C' hdx hdy hax hay
        have := hs.inj
        rw [List.pairwise_iff_getElem] at this
        obtain ⟨p, hp, rfl⟩ := List.getElem_of_mem hx
        obtain ⟨q, hq, rfl⟩ := List.getElem_of_mem hy
        rcases Nat.lt_trichotomy p q with hpq | hpq | hpq
        · exact (this p q hp hq hpq).2 b C C' hdx hdy hax hay
        · subst hpq; exact hne rfl
        · exact (this q p hq hp hpq).2 b C' C hdy hdx hay hax
      rcases hen with ⟨h1, h2⟩ | ⟨b, C, cs, e, h1, h2, h3, h5, h6, h7⟩ | ⟨b, es, clk, h1, h2, h3, h5, h6⟩
      · exact .inl ⟨by simp [Mm.up, hi, h1], h2⟩
      · exact .inr (.inl ⟨b, C, cs, e, by simp [Mm.up, hi, h1], (hoth b (LB_lt hs ⟨i, c, C, h4, hdi, h1⟩) (fun C2 h8 => hpw (i, c) (id, cells) h4 hin hi b C C2 hdi hd h1 h8)).trans h2, h3, h5, h6, fun j p v hp hv => hmono p v (h7 j p v hp hv)⟩)
      · exact .inr (.inr ⟨b, es, clk, by simp [Mm.up, hi, h1], h2, (hoth b (LB_lt hs ⟨i, c, 0, h4, hdi, h1⟩) (fun C2 h8 => hpw (i, c) (id, cells) h4 hin hi b 0 C2 hdi hd h1 h8)).trans h3, h5, h6⟩)
    · refine ⟨by simp [Mm.up], .inr ?_⟩
      rcases hnew with ⟨cs, e, h1, h2, h3, h5, h6⟩ | ⟨rfl, es, clk, l, h1, rfl, h3, h5⟩
      · exact .inl ⟨b', C', cs, e, by simp [Mm.up], h1, h2, h3, h5, fun j p v hp hv => hmono p v (h6 j p v hp hv)⟩
      · exact .inr ⟨b', es, clk, by simp [Mm.up], rfl, h1, h3, mapIs_of h5⟩
  · unfold hmap
    rw [List.pairwise_map]
    refine List.Pairwise.imp_of_mem ?_ hs.inj
    intro x y hx hy ⟨hne, hxy⟩
    have hfst : ∀ p : Nat × List AV, (if p.1 = id then (p.1, cells') else p).1 = p.1 := by intro p; split <;> rfl
    refine ⟨by rw [hfst, hfst]; exact hne, fun b C D hdx hdy hax hay => ?_⟩
    rw [hfst] at hdx hdy
    have clash : ∀ z : Nat × List AV, z ∈ h → z.1 ≠ id → m.dom z.1 → ∀ C, m.addr z.1 z.2.length = some (b', C) → (z.1 ≠ id → ∀ b C C', m.dom z.1 → m.dom id → m.addr z.1 z.2.length = some (b, C) → m.addr id cells.length ≠ some (b, C')) → False := by
      intro z hz hzi hdz C hC hpw
      rcases hb' with h | ⟨C2, h⟩
      · have := LB_lt hs ⟨z.1, z.2, C, hz, hdz, hC⟩; omega
      · exact hpw hzi b' C C2 hdz hd hC h
    by_cases h1 : x.1 = id
    · have h2 : y.1 ≠ id := fun e => hne (h1.trans e.symm)
      have hxc : x.2 = cells := hs.key (id := id) (by rw [← h1]; exact hx) hin
      simp only [h1, if_true, Mm.up, and_self, Option.some.injEq, Prod.mk.injEq] at hax
      obtain ⟨rfl, rfl⟩ := hax
      simp only [h2, if_false, Mm.up, false_and] at hay
      refine clash y hy h2 hdy D hay (fun _ b C C' hdz hdi hC hC' => ?_)
      exact hxy b C' C hdx hdz (by rw [h1, hxc]; exact hC') hC
    · simp only [h1, if_false, Mm.up, false_and] at hax
      by_cases h2 : y.1 = id
      · have hyc : y.2 = cells := hs.key (id := id) (by rw [← h2]; exact hy) hin
        simp only [h2, if_true, Mm.up, and_self, Option.some.injEq, Prod.mk.injEq] at hay
        obtain ⟨rfl, rfl⟩ := hay
        refine clash x hx h1 hdx C hax (fun _ b C C' hdz hdi hC hC' => ?_)
        exact hxy b C C' hdz hdy hC (by rw [h2, hyc]; exact hC')
      · simp only [h2, if_false, Mm.up, false_and] at hay
        exact hxy b C D hdx hdy hax hay

theorem upd_entry (hs : Sim0 B h m w) {id : Nat} {cells cells' : List AV} (hin : (id, cells) ∈ h) (hd : m.dom id) (hlen : cells.length ≤ cells'.length) {b' C' : Nat}
    (hsame : cells'.length = cells.length → m.addr id cells.length = some (b', C')) (hb' : w.heap.size ≤ b' ∨ ∃ C, m.addr id cells.length = some (b', C))
    (hoth : ∀ k, k < w.heap.size → (∀ C, m.addr id cells.length ≠ some (k, C)) → w'.heap[k]? = w.heap[k]?)
    (hnew : ∃ cs e, w'.heap[b']? = some (.cells cs e (0, 0)) ∧ cs.size = C' ∧ cells'.length ≤ C' ∧ B.n ≤ b' ∧ ∀ (j : Nat) (p : AV) (v : Value), cells'[j]? = some p → cs[j]? = some v → RepA B (LB m h) m w p v) :
    Sim0 B (hmap h id cells') (m.up id cells'.length (some (b', C'))) w' ∧ m.le (m.up id cells'.length (some (b', C'))) ∧ (∀ b, b < w.heap.size → ¬ LB m h b → ¬ LB (m.up id cells'.length (some (b', C'))) (hmap h id cells') b) ∧
      (∀ b, b < w.heap.size → ¬ LB m h b → w'.heap[b]? = w.heap[b]?) :=
  upd_entryG hs hin hd hlen hsame hb' hoth (.inl hnew)
theorem keys_ne (hs : Sim0 B h m w) : h.Pairwise fun p q => p.1 ≠ q.1 := hs.inj.imp fun h => h.1
end
end Go.Fi

