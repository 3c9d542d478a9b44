/- A logic of abstract states for this claim (part Lf): lemmas alone. -/
import Derived.Test.YtfpamehamllndaaGreatDoorLe
set_option linter.unusedSimpArgs false
set_option linter.unusedVariables false

namespace Go.Fi
open Go Go.RowKit
variable [LaidW]
variable {fk : Fk}

/-- the places of a list alone -/
def keepH (D : List Nat) : Heap → Heap
  | [] => []
  | (k, v) :: r => if k ∈ D then (k, v) :: keepH D r else keepH D r
omit [LaidW] in
theorem keepH_get {D : List Nat} : ∀ {h : Heap} {id : Nat} {c : List AV}, hget (keepH D h) id = some c → (id, c) ∈ h ∧ id ∈ D
  | [], id, c, e => by cases e
  | (k, v) :: r, id, c, e => by
    simp only [keepH] at e
    split at e
    · rename_i hk
      simp only [hget] at e
      split at e
      · rename_i h; subst h; injection e with e; subst e
        exact ⟨List.mem_cons_self, hk⟩
      · obtain ⟨h1, h2⟩ := keepH_get e
        exact ⟨List.mem_cons_of_mem _ h1, h2⟩
    · obtain ⟨h1, h2⟩ := keepH_get e
      exact ⟨List.mem_cons_of_mem _ h1, h2⟩

/-- a value that is data from now on: the places that it leans on are given up -/
def AvF (h : Heap) (x y : AV) : Prop :=
  match y with
  | .w own false p => frz h 6 x = some p ∧ (own = true → freshA h 6 x = true)
  | _ => False
/-- a nil slice, as a place of its own that is empty -/
def NilF (n n' : Nat) (x y : AV) : Prop :=
  match x, y with
  | .w _ true (.sl 0 []), .msl id 0 _ 0 0 => n ≤ id ∧ id < n'
  | _, _ => False
def cellLe (D : List Nat) (h : Heap) (n n' : Nat) (x y : AV) : Prop := (avle x y ∧ y.lt n' = true) ∨ AvF (keepH D h) x y ∨ NilF n n' x y
def cellsLe (D : List Nat) (h : Heap) (n n' : Nat) : List AV → List AV → Prop
  | [], [] => True
  | x :: a, y :: b => cellLe D h n n' x y ∧ cellsLe D h n n' a b
  | _, _ => False
def envLeG (D : List Nat) (h : Heap) (n n' : Nat) (env : Env) : Env → Prop
  | [] => True
  | (t, v) :: r => cellLe D h n n' (get env t) v ∧ envLeG D h n n' env r
def entLe (D : List Nat) (h : Heap) (n n' : Nat) (i : Nat) (c : List AV) : Prop :=
  match hget h i with
  | some c0 => i < n' ∧ ¬ i ∈ D ∧ cellsLe D h n n' c0 c
  | none => n ≤ i ∧ i < n' ∧ c = []
def heapLeG (D : List Nat) (h : Heap) (n n' : Nat) : Heap → Prop
  | [] => True
  | (i, c) :: r => entLe D h n n' i c ∧ hget r i = none ∧ heapLeG D h n n' r

omit [LaidW] in
theorem cellsLe_spec {D : List Nat} {h : Heap} {n n' : Nat} : ∀ {a b : List AV}, cellsLe D h n n' a b → a.length = b.length ∧ ∀ (j : Nat) (y : AV), b[j]? = some y → ∃ x, a[j]? = some x ∧ cellLe D h n n' x y
  | [], [], _ => ⟨rfl, fun j y h => by simp at h⟩
  | x :: a, y :: b, hc => by
    obtain ⟨h1, h2⟩ := hc
    obtain ⟨h3, h4⟩ := cellsLe_spec h2
    refine ⟨by simp [h3], fun j z hz => ?_⟩
    cases j with
    | zero => simp at hz; subst hz; exact ⟨x, rfl, h1⟩
    | succ j => exact h4 j z (by simpa using hz)
  | [], _ :: _, hc => hc.elim
  | _ :: _, [], hc => hc.elim
omit [LaidW] in
theorem cellsLe_w {D : List Nat} {h : Heap} {n n' : Nat} (o f : Bool) : ∀ l : List PV, cellsLe D h n n' (l.map (.w o f)) (l.map (.w o f))
  | [] => trivial
  | p :: r => ⟨.inl ⟨⟨fun h => h, fun h => h, .inl rfl⟩, rfl⟩, cellsLe_w o f r⟩
omit [LaidW] in
theorem cellsLe_refl {D : List Nat} {h : Heap} {n n' : Nat} : ∀ {l : List AV}, AV.lt.ltL n' l = true → cellsLe D h n n' l l
  | [], _ => trivial
  | x :: r, hl => by
    simp only [AV.lt.ltL, Bool.and_eq_true] at hl
    refine ⟨.inl ⟨?_, hl.1⟩, cellsLe_refl hl.2⟩
    cases x with
    | w o f p => exact ⟨fun h => h, fun h => h, .inl rfl⟩
    | _ => rfl

omit [LaidW] in
theorem envLeG_get {D : List Nat} {h : Heap} {n n' : Nat} : ∀ {env' env : Env}, envLeG D h n n' env env' → ∀ t, cellLe D h n n' (get env t) (get env' t) ∨ get env' t = .w false false .undef
  | [], env, _, t => .inr rfl
  | (k, v) :: r, env, hh, t => by
    obtain ⟨h1, h2⟩ := hh
    simp only [get]
    split
    · rename_i e; subst e; exact .inl h1
    · exact envLeG_get h2 t
omit [LaidW] in
theorem heapLeG_mem {D : List Nat} {h : Heap} {n n' : Nat} : ∀ {h' : Heap}, heapLeG D h n n' h' → ∀ i c, (i, c) ∈ h' → entLe D h n n' i c
  | [], _, i, c, hin => by cases hin
  | (k, v) :: r, hh, i, c, hin => by
    obtain ⟨h1, h2, h3⟩ := hh
    rcases List.mem_cons.1 hin with e | e
    · injection e with e1 e2; subst e1; subst e2; exact h1
    · exact heapLeG_mem h3 i c e
omit [LaidW] in
theorem heapLeG_keys {D : List Nat} {h : Heap} {n n' : Nat} : ∀ {h' : Heap}, heapLeG D h n n' h' → h'.Pairwise fun p q => p.1 ≠ q.1
  | [], _ => List.Pairwise.nil
  | (k, v) :: r, hh => by
    obtain ⟨h1, h2, h3⟩ := hh
    exact List.pairwise_cons.2 ⟨fun q hq e => hget_none h2 q hq e.symm, heapLeG_keys h3⟩

omit [LaidW] in
theorem mdec_le {D : List Nat} {h : Heap} {n n' : Nat} {c0 c : List AV} (hc : cellsLe D h n n' c0 c) (hm : isMc c0 = true) : isMc c = true ∧ ∀ l, mdec c = some l → mdec c0 = some l := by
  obtain ⟨hl, hr⟩ := cellsLe_spec hc
  have h1 := isMc_len hm
  match c0, c, h1, hl with
  | [x], [y], _, _ =>
    obtain ⟨x', hx, hxy⟩ := hr 0 y rfl
    simp at hx; subst hx
    cases x with
    | w o f p =>
      rcases hxy with ⟨h2, _⟩ | h2 | h2
      · cases y with
        | w o' f' p' =>
          obtain ⟨_, _, h3⟩ := h2
          rcases h3 with rfl | ⟨rfl, _⟩
          · refine ⟨?_, fun l hl => ?_⟩
            · cases p' <;> simp_all [isMc]
            · cases p' <;> simp_all [mdec]
          · exact ⟨rfl, fun l hl => by simp [mdec] at hl⟩
        | _ => cases h2
      · cases y with
        | w o' f' p' =>
          cases f' with
          | true => cases h2
          | false =>
            obtain ⟨h3, _⟩ := h2
            simp only [frz, Option.some.injEq] at h3
            subst h3
            refine ⟨?_, fun l hl => ?_⟩
            · cases p <;> simp_all [isMc]
            · cases p <;> simp_all [mdec]
        | _ => cases h2
      · cases p <;> simp [isMc] at hm <;> (unfold NilF at h2; split at h2 <;> first | exact h2.elim | simp_all)
    | _ => simp [isMc] at hm
omit [LaidW] in
/-- what is data from now on -/
theorem frz_rep2 {B : Base} {m : Mm} {w : World} {H h : Heap} {G' : Nat → Prop} {L : Nat → Prop} (hs : Sim0 B H m w) (hL : L = LB m H) (hlook : ∀ id cs, hget h id = some cs → (id, cs) ∈ H) (own : Bool)
    (hG1 : ∀ id cs b C, hget h id = some cs → m.addr id cs.length = some (b, C) → B.n ≤ b → G' b) (hG2 : ∀ b, Good B L own b → G' b) (hG3 : own = true → ∀ b, Good B L true b → G' b) :
    ∀ (d : Nat) (x : AV) (p : PV) (v : Value), frz h d x = some p → (own = true → freshA h d x = true) → RepA B L m w x v → Rep G' w p v
  | d, .w o f q, p, v, hf, hfr, hr => by
    have : q = p := by cases d <;> (simp [frz] at hf; exact hf)
    subst this
    cases hr with
    | w hr _ =>
      cases hfv : own with
      | false => exact hr.imp fun b hg => hG2 b ⟨hg.1, (fun h => by rw [hfv] at h; cases h), hg.2.2⟩
      | true =>
        have h1 := hfr hfv
        have h2 : (o || flat q) = true := by cases d <;> exact h1
        cases o with
        | true => exact hr.imp fun b hg => hG3 hfv b hg
        | false => exact flat_rep (by simpa using h2) hr
  | 0, .ptr .., _, _, hf, _, _ => by simp [frz] at hf
  | 0, .msl .., _, _, hf, _, _ => by simp [frz] at hf
  | 0, .agg _, _, _, hf, _, _ => by simp [frz] at hf
  | 0, .tup _, _, _, hf, _, _ => by simp [frz] at hf
  | 0, .fn _ _, _, _, hf, _, _ => by simp [frz] at hf
  | 0, .mp _, _, _, hf, _, _ => by simp [frz] at hf
  | _ + 1, .mp _, _, _, hf, _, _ => by simp [frz] at hf
  | d + 1, .ptr id ver off, p, v, hf, hfr, hr => by
    simp only [frz] at hf
    split at hf
    · rename_i cells hg
      split at hf
      · rename_i hver
        cases hm : cells.mapM (frz h d) with
        | none => simp [hm] at hf
        | some r =>
          simp only [hm, Option.map_some, Option.some.injEq] at hf; subst hf
          obtain ⟨h1, h2⟩ := mapM_some hm
          obtain ⟨b, C, rfl, hd, hvC, ha⟩ := hr.ptr_inv
          rw [← hver] at ha hvC
          obtain ⟨cs, e, hh, hC, hle, hbB, hcell⟩ := hs.read (hlook id cells hg) hd ha hvC.2
          have := Rep.ip (G := G') (w := w) (o := off) (b := b) (off := 0) (cells := r) (fun j => cs.getD j undef) (fun j hj => by
            have : j < cs.size := by omega
            rw [Nat.zero_add, cell_of hh]; simp [this]) (fun _ => hG1 id cells b C hg ha hbB) (fun j q hq => by
            obtain ⟨x, hx, hxq⟩ := h2 j q hq
            have hj : j < cs.size := by have := (List.getElem?_eq_some_iff.1 hx).1; omega
            exact frz_rep2 hs hL hlook own hG1 hG2 hG3 d x q _ hxq (fun e => by have := hfr e; simp only [freshA, hg] at this; exact all_get this hx) (by rw [hL]; exact hcell j x _ hx (by simp [hj])))
          rw [Nat.zero_add] at this
          exact this
      · cases hf
    · cases hf
  | d + 1, .msl id ver sz off k, p, v, hf, hfr, hr => by
    simp only [frz] at hf
    split at hf
    · rename_i cells hg
      split at hf
      · rename_i hver
        cases hm : cells.mapM (frz h d) with
        | none => simp [hm] at hf
        | some r =>
          simp only [hm, Option.map_some, Option.some.injEq, cutW_eq] at hf; subst hf
          obtain ⟨h1, h2⟩ := mapM_some hm
          obtain ⟨a0, cap, rfl, hk, hd, _, h3, h4⟩ := hr.msl_inv
          rw [← hver] at h3 h4
          cases ha : m.addr id cells.length with
          | none =>
            obtain ⟨rfl, h5⟩ := h3 ha
            have hr0 : r = [] := List.eq_nil_of_length_eq_zero (by omega)
            subst hr0
            have : k = 0 := by omega
            subst this
            cases a0 with
            | none => simpa using Rep.slnil
            | some a1 => simpa using Rep.slz (Nat.le_refl _)
          | some bc =>
            obtain ⟨b, C⟩ := bc
            obtain ⟨h5, h6, h7⟩ := h4 b C ha
            obtain ⟨cs, e, hh, hC, hle, hbB, hcell⟩ := hs.read (hlook id cells hg) hd ha (by omega)
            cases hL2 : (r.drop off).take (k * sz) with
            | nil =>
              cases a0 with
              | none =>
                have hcap : cap = 0 := by
                  rcases Nat.eq_zero_or_pos cap with h | h
                  · exact h
                  · cases h5 h
                subst hcap
                have : k = 0 := by omega
                subst this
                exact .slnil
              | some a1 => exact .slz hk
            | cons y ys =>
              have hcap : 0 < cap := by
                rcases Nat.eq_zero_or_pos cap with h | h
                · have : k = 0 := by omega
                  rw [this] at hL2; simp at hL2
                · exact h
              rw [h5 hcap, ← hL2]
              have hlt : ∀ j, j < ((r.drop off).take (k * sz)).length → off + j < cs.size ∧ j < k * sz := by
                intro j hj
                simp only [List.length_take, List.length_drop] at hj
                omega
              refine .sl (fun j => cs.getD (off + j) undef) hk (fun j hj => ?_) (fun _ => hG1 id cells b C hg ha hbB) (fun j q hq => ?_)
              · rw [cell_of hh]; simp [(hlt j hj).1]
              · have hj := (List.getElem?_eq_some_iff.1 hq).1
                rw [List.getElem?_take, if_pos (hlt j hj).2, List.getElem?_drop] at hq
                obtain ⟨x, hx, hxq⟩ := h2 (off + j) q hq
                exact frz_rep2 hs hL hlook own hG1 hG2 hG3 d x q _ hxq (fun e => by have := hfr e; simp only [freshA, hg] at this; exact all_get this hx) (by rw [hL]; exact hcell (off + j) x _ hx (by simp [(hlt j hj).1]))
      · cases hf
    · cases hf
  | d + 1, .agg cs, p, v, hf, hfr, hr => by
    simp only [frz] at hf
    cases hm : cs.mapM (frz h d) with
    | none => simp [hm] at hf
    | some r =>
      simp only [hm, Option.map_some, Option.some.injEq] at hf; subst hf
      obtain ⟨h1, h2⟩ := mapM_some hm
      cases hr with
      | agg hl hcell => exact .agg (by omega) (fun j q u hq hu => by
          obtain ⟨x, hx, hxq⟩ := h2 j q hq
          exact frz_rep2 hs hL hlook own hG1 hG2 hG3 d x q u hxq (fun e => by have := hfr e; simp only [freshA] at this; exact all_get this hx) (hcell j x u hx hu))
  | d + 1, .tup cs, p, v, hf, hfr, hr => by
    simp only [frz] at hf
    cases hm : cs.mapM (frz h d) with
    | none => simp [hm] at hf
    | some r =>
      simp only [hm, Option.map_some, Option.some.injEq] at hf; subst hf
      obtain ⟨h1, h2⟩ := mapM_some hm
      cases hr with
      | tup hl hcell => exact .tup (by omega) (fun j q u hq hu => by
          obtain ⟨x, hx, hxq⟩ := h2 j q hq
          exact frz_rep2 hs hL hlook own hG1 hG2 hG3 d x q u hxq (fun e => by have := hfr e; simp only [freshA] at this; exact all_get this hx) (hcell j x u hx hu))
  | d + 1, .fn f cs, p, v, hf, hfr, hr => by
    simp only [frz] at hf
    cases hm : cs.mapM (frz h d) with
    | none => simp [hm] at hf
    | some r =>
      simp only [hm, Option.map_some, Option.some.injEq] at hf; subst hf
      obtain ⟨h1, h2⟩ := mapM_some hm
      cases hr with
      | fn hl hcell => exact .fn (by omega) (fun j q u hq hu => by
          obtain ⟨x, hx, hxq⟩ := h2 j q hq
          exact frz_rep2 hs hL hlook own hG1 hG2 hG3 d x q u hxq (fun e => by have := hfr e; simp only [freshA] at this; exact all_get this hx) (hcell j x u hx hu))

def Mm.cut (m : Mm) (n n' : Nat) : Mm := ⟨fun id ver => if n ≤ id then none else m.addr id ver, fun id => if n ≤ id then 0 else m.top id, fun i => i < n'⟩
omit [LaidW] in
theorem RepA.cut {B : Base} {L L' : Nat → Prop} {m : Mm} {w : World} {x : AV} {v : Value} (h : RepA B L m w x v) {n n' : Nat} (hn : ∀ i, m.dom i → i < n) (hl : x.lt n' = true) (hL : ∀ b, L' b → L b) : RepA B L' (m.cut n n') w x v := by
  induction h with
  | w hr hf => exact .w (hr.imp fun b hg => ⟨fun hb => hg.1 (hL b hb), hg.2⟩) hf
  | ptr hd ht ha hC =>
    have := hn _ hd
    exact .ptr (by simpa [AV.lt, Mm.cut] using hl) (by simp only [Mm.cut]; rw [if_neg (by omega)]; exact ht) (by simp only [Mm.cut]; rw [if_neg (by omega)]; exact ha) hC
  | mp hd ht ha =>
    have := hn _ hd
    exact .mp (by simpa [AV.lt, Mm.cut] using hl) (by simp only [Mm.cut]; rw [if_neg (by omega)]; exact ht) (by simp only [Mm.cut]; rw [if_neg (by omega)]; exact ha)
  | msl hd ht hk h0 h1 =>
    have := hn _ hd
    exact .msl (by simpa [AV.lt, Mm.cut] using hl) (by simp only [Mm.cut]; rw [if_neg (by omega)]; exact ht) hk (by simp only [Mm.cut]; rw [if_neg (by omega)]; exact h0) (by simp only [Mm.cut]; rw [if_neg (by omega)]; exact h1)
  | agg hlen _ ih => exact .agg hlen (fun j p v hp hv => ih j p v hp hv (ltL_spec (by simpa [AV.lt] using hl) j p hp))
  | tup hlen _ ih => exact .tup hlen (fun j p v hp hv => ih j p v hp hv (ltL_spec (by simpa [AV.lt] using hl) j p hp))
  | fn hlen _ ih => exact .fn hlen (fun j p v hp hv => ih j p v hp hv (ltL_spec (by simpa [AV.lt] using hl) j p hp))

/-- LESS IS KNOWN: slots and places are forgotten; what leans on places that are given up (D) is data from now on; nil slices are places of their own -/
theorem le_genV (D : List Nat) {env env' : Env} {h h' : Heap} {n n' nt : Nat} (h1 : envLeG D h n n' env env') (h2 : heapLeG D h n n' h') (hk : fk.k ≤ n') {B : Base} {w0 : Ctx fk} {a : Act} {w : World} {m : Mm} (hs : Sim B w0 ⟨env, h, n, nt⟩ a w m) :
    ∃ m', Sim B w0 ⟨env', h', n', nt⟩ a w m' ∧ ∀ x y v, cellLe D h n n' x y → RepA B (LB m h) m w x v → RepA B (LB m' h') m' w y v := by
  have hdn : ∀ i, m.dom i → i < n := fun i hd => (hs.dom i).1 hd
  have hkey : ∀ {i : Nat} {c c' : List AV}, (i, c) ∈ h → (i, c') ∈ h → c = c' := fun h1 h2 => hs.heap.key h1 h2
  have hold : ∀ i c c0, (i, c) ∈ h' → hget h i = some c0 → c0.length = c.length := fun i c c0 hin hg => by
    have := heapLeG_mem h2 i c hin
    simp only [entLe, hg] at this
    exact (cellsLe_spec this.2.2).1
  have hL : ∀ b, LB (m.cut n n') h' b → LB m h b := by
    rintro b ⟨id, c, C, hin, _, ha⟩
    have he := heapLeG_mem h2 id c hin
    cases hg : hget h id with
    | none => simp only [entLe, hg] at he; simp only [Mm.cut] at ha; rw [if_pos he.1] at ha; cases ha
    | some c0 =>
      have hm := hget_mem hg
      have hid := hs.ids id c0 hm
      simp only at hid
      simp only [Mm.cut] at ha
      rw [if_neg (by omega), ← hold id c c0 hin hg] at ha
      exact ⟨id, c0, C, hm, (hs.dom id).2 hid, ha⟩
  have hLD : ∀ id cs b C, hget (keepH D h) id = some cs → m.addr id cs.length = some (b, C) → ¬ LB (m.cut n n') h' b := by
    rintro id cs b C hg ha ⟨id2, c2, C2, hin2, _, ha2⟩
    obtain ⟨hm, hD⟩ := keepH_get hg
    have he := heapLeG_mem h2 id2 c2 hin2
    cases hg2 : hget h id2 with
    | none => simp only [entLe, hg2] at he; simp only [Mm.cut] at ha2; rw [if_pos he.1] at ha2; cases ha2
    | some c0 =>
      have hm2 := hget_mem hg2
      have hid2 := hs.ids id2 c0 hm2
      have hid := hs.ids id cs hm
      simp only at hid hid2
      simp only [Mm.cut] at ha2
      rw [if_neg (by omega), ← hold id2 c2 c0 hin2 hg2] at ha2
      simp only [entLe, hg2] at he
      have hne : id ≠ id2 := fun e => he.2.1 (e ▸ hD)
      have hinj := hs.heap.inj
      rw [List.pairwise_iff_getElem] at hinj
      obtain ⟨p, hp, ep⟩ := List.getElem_of_mem hm
      obtain ⟨q, hq, eq⟩ := List.getElem_of_mem hm2
      rcases Nat.lt_trichotomy p q with hpq | hpq | hpq
      · have := (hinj p q hp hq hpq).2 b C C2
        rw [ep, eq] at this
        exact this ((hs.dom _).2 hid) ((hs.dom _).2 hid2) ha ha2
      · subst hpq
        rw [ep] at eq
        injection eq with e1 _
        exact hne e1
      · have := (hinj q p hq hp hpq).2 b C2 C
        rw [ep, eq] at this
        exact this ((hs.dom _).2 hid2) ((hs.dom _).2 hid) ha2 ha
  have hcell : ∀ x y v, cellLe D h n n' x y → RepA B (LB m h) m w x v → RepA B (LB (m.cut n n') h') (m.cut n n') w y v := by
    intro x y v hc hr
    rcases hc with ⟨g1, g2⟩ | g | g
    · exact (avle_rep g1 hr).cut hdn g2 hL
    · unfold AvF at g
      split at g
      · rename_i own p
        refine .w (frz_rep2 hs.heap rfl (fun id cs e => (keepH_get e).1) own (fun id cs b C hg ha hb => ⟨hLD id cs b C hg ha, fun _ => hb, fun h => by omega⟩)
          (fun b hg => ⟨fun hl => hg.1 (hL b hl), hg.2⟩) (fun ho b hg => ⟨fun hl => hg.1 (hL b hl), fun _ => hg.2.1 rfl, hg.2.2⟩) 6 x p v g.1 g.2 hr) (fun h => by cases h)
      · exact g.elim
    · unfold NilF at g
      split at g
      · rename_i o id sz
        obtain ⟨a0, cap, hv, _, hf, _, _⟩ := hr.sl_inv
        rw [hv]
        have hc := hf rfl
        subst hc
        exact .msl g.2 (by simp only [Mm.cut]; rw [if_pos g.1]; exact Nat.le_refl _) (Nat.le_refl _) (fun _ => ⟨rfl, rfl⟩) (fun b C e => by simp only [Mm.cut] at e; rw [if_pos g.1] at e; cases e)
      · exact g.elim
  refine ⟨m.cut n n', ⟨hs.base, hs.below, hs.defers, hs.size, fun t => ?_, ⟨fun id c hin hd => ?_, ?_⟩, fun i => Iff.rfl, fun id c hin => ?_, hk, fun p hp => ⟨(hs.fr.2.1 p hp).1, (hs.fr.2.1 p hp).2.cut hdn (AV.lt_mono hk (hs.fr.2.1 p hp).1) hL⟩, fun q hq => let ⟨o1, o2, o3, o4⟩ := hs.fr.2.2 q hq; ⟨o1, o2, fun h => o3 (hL _ h), o4⟩⟩, hcell⟩
  · show RepA _ _ _ _ (get env' t) _
    rcases envLeG_get h1 t with g1 | g1
    · exact hcell _ _ _ g1 (hs.env t)
    · rw [g1]; exact .w (.undef _) (fun e => by cases e)
  · have he := heapLeG_mem h2 id c hin
    cases hg : hget h id with
    | none =>
      simp only [entLe, hg] at he
      obtain ⟨e1, _, rfl⟩ := he
      exact ⟨by simp only [Mm.cut]; rw [if_pos e1]; rfl, .inl ⟨by simp only [Mm.cut]; rw [if_pos e1], rfl⟩⟩
    | some c0 =>
      have hm := hget_mem hg
      have hid := hs.ids id c0 hm
      simp only at hid
      have hlen := hold id c c0 hin hg
      simp only [entLe, hg] at he
      obtain ⟨ht, hen⟩ := hs.heap.entry id c0 hm ((hs.dom id).2 hid)
      refine ⟨by simp only [Mm.cut]; rw [if_neg (by omega), ht, hlen], ?_⟩
      rcases hen with ⟨g1, g2⟩ | ⟨b, C, cs, e, e1, e2, e3, e4, e5, e6⟩ | ⟨b, es, clk, e1, e2, e3, e4, e5⟩
      · refine .inl ⟨by simp only [Mm.cut]; rw [if_neg (by omega), ← hlen]; exact g1, ?_⟩
        subst g2
        exact List.eq_nil_of_length_eq_zero hlen.symm
      · refine .inr (.inl ⟨b, C, cs, e, by simp only [Mm.cut]; rw [if_neg (by omega), ← hlen]; exact e1, e2, e3, by omega, e5, fun j p v hp hv => ?_⟩)
        obtain ⟨x, hx, hxc⟩ := (cellsLe_spec he.2.2).2 j p hp
        exact hcell x p v hxc (e6 j x v hx hv)
      · exact .inr (.inr ⟨b, es, clk, by simp only [Mm.cut]; rw [if_neg (by omega), ← hlen]; exact e1, (mdec_le he.2.2 e2).1, e3, e4, fun l hl => e5 l ((mdec_le he.2.2 e2).2 l hl)⟩)
  · have hk := heapLeG_keys h2
    refine List.Pairwise.imp_of_mem ?_ hk
    intro x y hx hy hne
    refine ⟨hne, fun b C C' _ _ hax hay => ?_⟩
    have ex := heapLeG_mem h2 x.1 x.2 hx
    have ey := heapLeG_mem h2 y.1 y.2 hy
    cases hgx : hget h x.1 with
    | none => simp only [entLe, hgx] at ex; simp only [Mm.cut] at hax; rw [if_pos ex.1] at hax; cases hax
    | some cx =>
      cases hgy : hget h y.1 with
      | none => simp only [entLe, hgy] at ey; simp only [Mm.cut] at hay; rw [if_pos ey.1] at hay; cases hay
      | some cy =>
        have mx := hget_mem hgx
        have my := hget_mem hgy
        have ix := hs.ids _ _ mx
        have iy := hs.ids _ _ my
        simp only at ix iy
        simp only [Mm.cut] at hax hay
        rw [if_neg (by omega), ← hold x.1 x.2 cx hx hgx] at hax
        rw [if_neg (by omega), ← hold y.1 y.2 cy hy hgy] at hay
        have := hs.heap.inj
        rw [List.pairwise_iff_getElem] at this
        obtain ⟨p, hp, ep⟩ := List.getElem_of_mem mx
        obtain ⟨q, hq, eq⟩ := List.getElem_of_mem my
        have dx : m.dom x.1 := (hs.dom _).2 ix
        have dy : m.dom y.1 := (hs.dom _).2 iy
        rcases Nat.lt_trichotomy p q with hpq | hpq | hpq
        · have := (this p q hp hq hpq).2 b C C'
          rw [ep, eq] at this
          exact this dx dy hax hay
        · subst hpq
          rw [ep] at eq
          injection eq with e1 _
          exact hne e1
        · have := (this q p hq hp hpq).2 b C' C
          rw [ep, eq] at this
          exact this dy dx hay hax
  · have he := heapLeG_mem h2 id c hin
    show id < n'
    cases hg : hget h id with
    | none => simp only [entLe, hg] at he; exact he.2.1
    | some c0 => simp only [entLe, hg] at he; exact he.1
theorem le_gen (D : List Nat) {env env' : Env} {h h' : Heap} {n n' nt : Nat} (h1 : envLeG D h n n' env env') (h2 : heapLeG D h n n' h') (hk : fk.k ≤ n' := by first | exact Nat.zero_le _ | omega | (simp; done)) : Lek fk ⟨env, h, n, nt⟩ ⟨env', h', n', nt⟩ := by
  intro B w0 a w m hs
  obtain ⟨m', hs', _⟩ := le_genV D h1 h2 hk hs
  exact ⟨m', hs'⟩
attribute [simp] AvF NilF cellLe cellsLe envLeG entLe heapLeG keepH
omit [LaidW] in
@[simp] theorem frz_w (h : Heap) (d : Nat) (o f : Bool) (p : PV) : frz h d (.w o f p) = some p := by cases d <;> rfl
omit [LaidW] in
@[simp] theorem freshA_w (h : Heap) (d : Nat) (o f : Bool) (p : PV) : freshA h d (.w o f p) = (o || flat p) := by cases d <;> rfl
omit [LaidW] in
@[simp high] theorem mapM_frz (h : Heap) (d : Nat) (o f : Bool) : ∀ l : List PV, (l.map (AV.w o f)).mapM (frz h d) = some l
  | [] => rfl
  | p :: r => by simp [List.mapM_cons, mapM_frz h d o f r]
omit [LaidW] in
@[simp high] theorem all_fresh (h : Heap) (d : Nat) (f : Bool) : ∀ l : List PV, (l.map (AV.w true f)).all (freshA h d) = true
  | [] => rfl
  | p :: r => by simp
omit [LaidW] in
@[simp high] theorem all_flat (h : Heap) (d : Nat) (o f : Bool) : ∀ l : List PV, flatL l = true → (l.map (AV.w o f)).all (freshA h d) = true
  | [], _ => rfl
  | p :: r, hl => by
    simp only [flatL, Bool.and_eq_true] at hl
    simp only [List.map_cons, List.all_cons, freshA_w, hl.1, Bool.or_true, Bool.true_and]
    exact all_flat h d o f r hl.2
def oneP : PV → Bool
  | .undef => false
  | .tup _ => false
  | .agg _ => false
  | _ => true
omit [LaidW] in
@[simp] theorem ones_map (o f : Bool) : ∀ l : List PV, l.all oneP = true → ones (l.map (AV.w o f)) = true
  | [], _ => rfl
  | p :: r, hl => by
    simp only [List.all_cons, Bool.and_eq_true] at hl
    simp only [List.map_cons, ones, ones_map o f r hl.2, Bool.and_true]
    cases p <;> first | rfl | (simp [oneP] at hl)
omit [LaidW] in
@[simp] theorem pvs_map (o f : Bool) : ∀ l : List PV, pvs (l.map (AV.w o f)) = some l
  | [] => rfl
  | p :: r => by simp [pvs, pvs_map o f r]
omit [LaidW] in
@[simp] theorem ltL_map (n : Nat) (o f : Bool) : ∀ l : List PV, AV.lt.ltL n (l.map (AV.w o f)) = true
  | [] => rfl
  | p :: r => by simp [AV.lt.ltL, AV.lt, ltL_map n o f r]
/-- A LOOP ahead of which nil slices become places, or places become data -/
theorem awp_for4 {P : Program} {K : Exit → St → Prop} {c : Code} {id : Nat} {env : Env} {h : Heap} {n nt : Nat} {α β : Type} (n' : Nat) (J : α → Prop) (ks : List Nat) (mods : α → Env) (hks : List Nat) (hm : α → Heap) (μ : α → Nat)
    (F : β → Prop) (fks : List Nat) (fmods : β → Env) (fhks : List Nat) (fhm : β → Heap) (x0 : α) (hJ : J x0)
    (h0 : Lek fk ⟨env, h, n, nt⟩ ⟨mods x0 ++ pickE env ks, hm x0 ++ pickH h hks, n', nt⟩)
    (round : ∀ x, J x → AWPk fk P c ⟨mods x ++ pickE env ks, hm x ++ pickH h hks, n', nt⟩ (loopK fk J (fun x => ⟨mods x ++ pickE env ks, hm x ++ pickH h hks, n', nt⟩) μ x (forB fk id F (fun y => ⟨fmods y ++ pickE env fks, fhm y ++ pickH h fhks, n', nt⟩) K)))
    (after : ∀ y, F y → K .normal ⟨fmods y ++ pickE env fks, fhm y ++ pickH h fhks, n', nt⟩) : AWPk fk P (.block id (.loop c)) ⟨env, h, n, nt⟩ K := by
  refine awp_block (awp_monoL (awp_loop J (fun x => ⟨mods x ++ pickE env ks, hm x ++ pickH h hks, n', nt⟩) μ x0 hJ h0 round) (fun e s hk => ?_))
  cases e <;> first
    | exact hk.elim
    | exact ⟨s, Lek.refl s, hk⟩
    | (simp only [forB] at hk
       simp only [blockK]
       split at hk
       · rename_i hid
         obtain ⟨y, hy, hle⟩ := hk
         exact ⟨_, hle, by rw [if_pos hid]; exact after y hy⟩
       · rename_i hid
         exact ⟨s, Lek.refl s, by rw [if_neg hid]; exact hk⟩)
omit [LaidW] in
@[simp] theorem repl_1 (z : List AV) : repl 1 z = z := by simp [repl]
omit [LaidW] in
@[simp] theorem repl_2 (z : List AV) : repl 2 z = z ++ z := by simp [repl, List.replicate_succ]
omit [LaidW] in
@[simp] theorem repl_3 (z : List AV) : repl 3 z = z ++ (z ++ z) := by simp [repl, List.replicate_succ]
omit [LaidW] in
@[simp] theorem cellsLe_app_self {D : List Nat} {h : Heap} {n n' : Nat} {x y : List AV} : ∀ a : List AV, cellsLe D h n n' (a ++ x) (a ++ y) = (cellsLe D h n n' a a ∧ cellsLe D h n n' x y)
  | [] => propext ⟨fun h => ⟨trivial, h⟩, fun h => h.2⟩
  | z :: a => by
    simp only [List.cons_append, cellsLe, cellsLe_app_self a, and_assoc]
omit [LaidW] in
@[simp] theorem cellsLe_map {D : List Nat} {h : Heap} {n n' : Nat} (o f : Bool) (l : List PV) : cellsLe D h n n' (l.map (AV.w o f)) (l.map (AV.w o f)) = True := eq_true (cellsLe_w o f l)
end Go.Fi

