/- A logic of abstract states for this claim (part Lq): lemmas alone. -/
import Derived.Test.YtfpamehamllndaaGreatDoorLo
import Derived.Test.YtfpamehamllndaaGreatDoorLm
set_option linter.unusedSimpArgs false
set_option linter.unusedVariables false

namespace Go.Fi
open Go Go.RowKit
variable [LaidW]
variable {fk : Fk}

/-! ### calls whose result is places of its own -/
/-- what comes back, as places from c0 on -/
def MkOk (P : Program) (rs : List ResultVar) (c0 : Nat) (E : List (List AV)) (v : AV) (D : List Nat) (st : St) : Prop :=
  match resL P st.env st.heap rs with
  | some (vs, c) => c ∧ cellLe D st.heap st.nxt (c0 + E.length) (oneOf vs) (v.sh c0) ∧ heapLeG D st.heap st.nxt (c0 + E.length) (addE [] c0 (E.map (AV.sh.shL c0)))
  | none => False
def mkK (P : Program) (rs : List ResultVar) (c0 : Nat) (E : List (List AV)) (v : AV) (D : List Nat) : Exit → St → Prop
  | .normal, s => MkOk P rs c0 E v D s
  | .ret, s => MkOk P rs c0 E v D s
  | _, _ => False
omit [LaidW] in
@[simp ↓] theorem mkK_normal (P : Program) (rs : List ResultVar) (c0 : Nat) (E : List (List AV)) (v : AV) (D : List Nat) (s : St) : mkK P rs c0 E v D .normal s = MkOk P rs c0 E v D s := rfl
omit [LaidW] in
@[simp ↓] theorem mkK_ret (P : Program) (rs : List ResultVar) (c0 : Nat) (E : List (List AV)) (v : AV) (D : List Nat) (s : St) : mkK P rs c0 E v D .ret s = MkOk P rs c0 E v D s := rfl

section
variable {B : Base} {L : Nat → Prop} {m mm : Mm} {w : World}
omit [LaidW] in
theorem RepA.down {c : Nat} (hd : ∀ i, m.dom (i + c) → mm.dom i) (ht : ∀ i, mm.top i = m.top (i + c)) (ha : ∀ i ver, mm.addr i ver = m.addr (i + c) ver) {y : AV} {u : Value} (h : RepA B L m w y u) : ∀ x : AV, x.sh c = y → RepA B L mm w x u := by
  induction h with
  | @w own full p v hr hf =>
    intro x e
    cases x with
    | w o f q => simp only [sh_w, AV.w.injEq] at e; obtain ⟨rfl, rfl, rfl⟩ := e; exact .w hr hf
    | _ => simp [AV.sh] at e
  | @ptr id ver off b C hd' ht' ha' hC' =>
    intro x e
    cases x with
    | ptr i v o => simp only [sh_ptr, AV.ptr.injEq] at e; obtain ⟨rfl, rfl, rfl⟩ := e; exact .ptr (hd _ hd') (by rw [ht]; exact ht') (by rw [ha]; exact ha') hC'
    | _ => simp [AV.sh] at e
  | @mp id b hd' ht' ha' =>
    intro x e
    cases x with
    | mp i => simp only [AV.sh, AV.mp.injEq] at e; subst e; exact .mp (hd _ hd') (by rw [ht]; exact ht') (by rw [ha]; exact ha')
    | _ => simp [AV.sh] at e
  | @msl id ver sz off n cap a hd' ht' hn h0 h1 =>
    intro x e
    cases x with
    | msl i v s o k => simp only [sh_msl, AV.msl.injEq] at e; obtain ⟨rfl, rfl, rfl, rfl, rfl⟩ := e; exact .msl (hd _ hd') (by rw [ht]; exact ht') hn (fun e => h0 (by rw [← ha]; exact e)) (fun b C e => h1 b C (by rw [← ha]; exact e))
    | _ => simp [AV.sh] at e
  | @agg cs vs hl _ ih =>
    intro x e
    cases x with
    | agg ds =>
      simp only [sh_agg, AV.agg.injEq, shL_eq] at e
      subst e
      exact .agg (by simpa using hl) (fun j p v hp hv => ih j (p.sh c) v (by rw [List.getElem?_map, hp]; rfl) hv p rfl)
    | _ => simp [AV.sh] at e
  | @tup cs vs hl _ ih =>
    intro x e
    cases x with
    | tup ds =>
      simp only [sh_tup, AV.tup.injEq, shL_eq] at e
      subst e
      exact .tup (by simpa using hl) (fun j p v hp hv => ih j (p.sh c) v (by rw [List.getElem?_map, hp]; rfl) hv p rfl)
    | _ => simp [AV.sh] at e
  | @fn f cs vs hl _ ih =>
    intro x e
    cases x with
    | fn g ds =>
      simp only [AV.sh, AV.fn.injEq, shL_eq] at e
      obtain ⟨rfl, rfl⟩ := e
      exact .fn (by simpa using hl) (fun j p v hp hv => ih j (p.sh c) v (by rw [List.getElem?_map, hp]; rfl) hv p rfl)
    | _ => simp [AV.sh] at e

end

omit [LaidW] in
@[simp ↓] theorem eK_many (h : Heap) (n : Nat) (K : AV → Heap → Nat → Prop) (v : AV) (c : List AV) (E : List (List AV)) : eK h n K v (c :: E) = K v ((n, c) :: addE h (n + 1) E) (n + (E.length + 1)) := by unfold eK; rfl
attribute [simp] MkOk AV.frs AV.frs.frsL
end Go.Fi

namespace Go.Fi
open Go Go.RowKit
variable [LaidW]
variable {fk : Fk}

/-! ### a family of places with numbers one behind the other -/
section
variable {D : List Nat} {h r s : Heap} {n n' b k t len : Nat} {c x : List AV} {L : List (List AV)}
omit [LaidW] in
@[simp] theorem addE_cons (h : Heap) (n : Nat) (c : List AV) (E : List (List AV)) : addE h n (c :: E) = (n, c) :: addE h (n + 1) E := rfl
omit [LaidW] in
@[simp] theorem addE_app : ∀ (L : List (List AV)) (r s : Heap) (b : Nat), addE r b L ++ s = addE (r ++ s) b L
  | [], r, s, b => rfl
  | c :: L, r, s, b => by simp [addE, addE_app L r s (b + 1)]
omit [LaidW] in
theorem hget_addE : ∀ (L : List (List AV)) (r : Heap) (b t : Nat), hget (addE r b L) t = if b ≤ t ∧ t < b + L.length then some (nth L (t - b)) else hget r t
  | [], r, b, t => by simp [addE]; intros; omega
  | c :: L, r, b, t => by
    simp only [addE, hget, List.length_cons]
    by_cases h : b = t
    · subst h; rw [if_pos rfl, if_pos ⟨Nat.le_refl _, by omega⟩, Nat.sub_self]; rfl
    · rw [if_neg h, hget_addE L r (b + 1) t]
      by_cases h2 : b + 1 ≤ t ∧ t < b + 1 + L.length
      · rw [if_pos h2, if_pos ⟨by omega, by omega⟩, show t - b = (t - (b + 1)) + 1 by omega]; rfl
      · rw [if_neg h2, if_neg (by omega)]
omit [LaidW] in
@[simp] theorem hget_fam {i : Nat} (h : i < L.length) : hget (addE r b L) (i + b) = some (nth L i) := by
  rw [hget_addE, if_pos ⟨by omega, by omega⟩, Nat.add_sub_cancel]
omit [LaidW] in
@[simp] theorem hget_fam_lt (h : t < b) : hget (addE r b L) t = hget r t := by rw [hget_addE, if_neg (by omega)]
omit [LaidW] in
@[simp] theorem hget_fam_ge (h : L.length + b ≤ t) : hget (addE r b L) t = hget r t := by rw [hget_addE, if_neg (by omega)]
omit [LaidW] in
@[simp] theorem hset_fam : ∀ {L : List (List AV)} {r : Heap} {b i : Nat} (_ : i < L.length), hset (addE r b L) (i + b) c = addE r b (L.set i c)
  | [], r, b, i, h => by simp at h
  | d :: L, r, b, i, h => by
    cases i with
    | zero => simp [addE, hset]
    | succ i =>
      simp only [addE, hset, List.set_cons_succ]
      rw [if_neg (by omega), show i + 1 + b = i + (b + 1) by omega, hset_fam (by simpa using h)]
omit [LaidW] in
@[simp] theorem hset_fam_lt : ∀ {L : List (List AV)} {r : Heap} {b t : Nat} (_ : t < b), hset (addE r b L) t c = addE (hset r t c) b L
  | [], r, b, t, h => rfl
  | d :: L, r, b, t, h => by
    simp only [addE, hset]
    rw [if_neg (by omega), hset_fam_lt (by omega)]
/-- the family lies in the memory -/
def famIn (h : Heap) (b : Nat) (L : List (List AV)) : Prop := ∀ i, i < L.length → hget h (i + b) = some (nth L i)
omit [LaidW] in
@[simp] theorem famIn_self : famIn (addE r b L) b L = True := eq_true fun i hi => hget_fam hi
omit [LaidW] in
@[simp] theorem famIn_lt (h : k < b) : famIn ((k, c) :: r) b L = famIn r b L := by
  unfold famIn
  refine propext ⟨fun hh i hi => ?_, fun hh i hi => ?_⟩
  · have := hh i hi; simp only [hget] at this; rwa [if_neg (by omega)] at this
  · simp only [hget]; rw [if_neg (by omega)]; exact hh i hi
omit [LaidW] in
@[simp] theorem famIn_ge (h : L.length + b ≤ k) : famIn ((k, c) :: r) b L = famIn r b L := by
  unfold famIn
  refine propext ⟨fun hh i hi => ?_, fun hh i hi => ?_⟩
  · have := hh i hi; simp only [hget] at this; rwa [if_neg (by omega)] at this
  · simp only [hget]; rw [if_neg (by omega)]; exact hh i hi
omit [LaidW] in
@[simp] theorem famIn_nil : famIn h b [] = True := eq_true fun i hi => by simp at hi
/-- no place of the memory has a number of the family -/
def famOut (h : Heap) (b len : Nat) : Prop := ∀ i, i < len → hget h (i + b) = none
omit [LaidW] in
@[simp] theorem famOut_nil : famOut [] b len = True := eq_true fun i hi => rfl
omit [LaidW] in
@[simp] theorem famOut_lt (h : k < b) : famOut ((k, c) :: r) b len = famOut r b len := by
  unfold famOut
  refine propext ⟨fun hh i hi => ?_, fun hh i hi => ?_⟩
  · have := hh i hi; simp only [hget] at this; rwa [if_neg (by omega)] at this
  · simp only [hget]; rw [if_neg (by omega)]; exact hh i hi
omit [LaidW] in
@[simp] theorem famOut_ge (h : len + b ≤ k) : famOut ((k, c) :: r) b len = famOut r b len := by
  unfold famOut
  refine propext ⟨fun hh i hi => ?_, fun hh i hi => ?_⟩
  · have := hh i hi; simp only [hget] at this; rwa [if_neg (by omega)] at this
  · simp only [hget]; rw [if_neg (by omega)]; exact hh i hi
def famEnt (D : List Nat) (h : Heap) (n n' b : Nat) (L : List (List AV)) : Prop := ∀ i, i < L.length → entLe D h n n' (i + b) (nth L i)
omit [LaidW] in
theorem heapLeG_addE : ∀ (L : List (List AV)) (r : Heap) (b : Nat), heapLeG D h n n' (addE r b L) = (famEnt D h n n' b L ∧ famOut r b L.length ∧ heapLeG D h n n' r)
  | [], r, b => by
    refine propext ⟨fun hh => ⟨fun i hi => by simp at hi, fun i hi => by simp at hi, hh⟩, fun hh => hh.2.2⟩
  | c :: L, r, b => by
    show (entLe D h n n' b c ∧ hget (addE r (b + 1) L) b = none ∧ heapLeG D h n n' (addE r (b + 1) L)) = _
    rw [heapLeG_addE L r (b + 1), hget_fam_lt (Nat.lt_succ_self b)]
    refine propext ⟨fun ⟨h1, h2, h3, h4, h5⟩ => ⟨fun i hi => ?_, fun i hi => ?_, h5⟩, fun ⟨h1, h2, h3⟩ => ⟨?_, ?_, fun i hi => ?_, fun i hi => ?_, h3⟩⟩
    · cases i with
      | zero => rw [Nat.zero_add]; exact h1
      | succ i =>
        have := h3 i (by simpa using hi)
        rw [show i + 1 + b = i + (b + 1) by omega]; exact this
    · cases i with
      | zero => rw [Nat.zero_add]; exact h2
      | succ i => rw [show i + 1 + b = i + (b + 1) by omega]; exact h4 i (by simpa using hi)
    · have := h1 0 (by simp); rwa [Nat.zero_add] at this
    · have := h2 0 (by simp); rwa [Nat.zero_add] at this
    · have := h1 (i + 1) (by simpa using hi)
      rw [show i + 1 + b = i + (b + 1) by omega] at this; exact this
    · have := h2 (i + 1) (by simpa using hi)
      rwa [show i + 1 + b = i + (b + 1) by omega] at this
attribute [simp] heapLeG_addE
/-- cells that are data stay as they are -/
def selfL (L : List (List AV)) : Prop := ∀ c ∈ L, ∀ D h n n', cellsLe D h n n' c c
omit [LaidW] in
@[simp] theorem selfL_nil : selfL [] = True := eq_true fun c hc => by cases hc
omit [LaidW] in
@[simp] theorem selfL_set {i : Nat} (h : selfL L) (h2 : ∀ D h n n', cellsLe D h n n' x x) : selfL (L.set i x) = True := eq_true fun c hc => by
  rcases List.mem_or_eq_of_mem_set hc with h1 | h1
  · exact h c h1
  · subst h1; exact h2
omit [LaidW] in
@[simp] theorem selfL_take {k : Nat} (h : selfL L) : selfL (L.take k) = True := eq_true fun c hc => h c (List.mem_of_mem_take hc)
omit [LaidW] in
@[simp] theorem famEnt_same (h1 : famIn h b L) (h2 : selfL L) (h3 : L.length + b ≤ n') (h4 : ∀ d ∈ D, d < b) : famEnt D h n n' b L = True := eq_true fun i hi => by
  simp only [entLe, h1 i hi]
  refine ⟨by omega, fun hd => by have := h4 _ hd; omega, h2 _ ?_ _ _ _ _⟩
  simp [nth, List.getD_eq_getElem?_getD, List.getElem?_eq_getElem hi]
end

/-! ### the slices of the rows -/
def ms1 (b : Nat) : List Nat → List AV
  | [] => []
  | k :: r => .msl b k 1 0 k :: ms1 (b + 1) r
omit [LaidW] in
@[simp] theorem ms1_nil (b : Nat) : ms1 b [] = [] := rfl
omit [LaidW] in
@[simp] theorem ms1_len : ∀ (ls : List Nat) (b : Nat), (ms1 b ls).length = ls.length
  | [], b => rfl
  | k :: r, b => by simp [ms1, ms1_len r]
omit [LaidW] in
theorem ms1_get? : ∀ (ls : List Nat) (b i : Nat), (ms1 b ls)[i]? = (ls[i]?).map fun k => AV.msl (i + b) k 1 0 k
  | [], b, i => by simp
  | a :: ls, b, i => by
    cases i with
    | zero => simp [ms1]
    | succ i =>
      simp only [ms1, List.getElem?_cons_succ]
      rw [ms1_get? ls (b + 1) i, show i + (b + 1) = i + 1 + b by omega]
omit [LaidW] in
@[simp] theorem ms1_get (ls : List Nat) (b i : Nat) (h : i < ls.length) : nthA (ms1 b ls) i = .msl (i + b) (nth ls i) 1 0 (nth ls i) := by
  simp [nthA, nth, List.getD_eq_getElem?_getD, ms1_get?, List.getElem?_eq_getElem h]
omit [LaidW] in
theorem ms1_ltL : ∀ (ls : List Nat) (b n : Nat), ls.length + b ≤ n → AV.lt.ltL n (ms1 b ls) = true
  | [], b, n, _ => rfl
  | k :: r, b, n, h => by
    simp only [List.length_cons] at h
    simp only [ms1, AV.lt.ltL, AV.lt, Bool.and_eq_true, decide_eq_true_eq]
    exact ⟨by omega, ms1_ltL r (b + 1) n (by omega)⟩
omit [LaidW] in
@[simp] theorem ms1_lt {ls : List Nat} {b n : Nat} (h : ls.length + b ≤ n) : AV.lt.ltL n (ms1 b ls) = true := ms1_ltL ls b n h
omit [LaidW] in
@[simp] theorem ms1_self {D : List Nat} {h : Heap} {n n' b : Nat} {ls : List Nat} (hl : ls.length + b ≤ n') : cellsLe D h n n' (ms1 b ls) (ms1 b ls) = True := eq_true (cellsLe_refl (ms1_ltL ls b n' hl))
omit [LaidW] in
@[simp] theorem ms1_sh : ∀ (ls : List Nat) (b n : Nat), AV.sh.shL n (ms1 b ls) = ms1 (b + n) ls
  | [], b, n => rfl
  | k :: r, b, n => by
    simp only [ms1, shL_cons, sh_msl, ms1_sh r (b + 1) n]
    rw [show b + 1 + n = b + n + 1 by omega]
omit [LaidW] in
@[simp] theorem ms1_frs : ∀ (ls : List Nat) (b : Nat), AV.frs.frsL (ms1 b ls) = true
  | [], b => rfl
  | k :: r, b => by simp [ms1, AV.frs.frsL, AV.frs, ms1_frs r]
omit [LaidW] in
@[simp] theorem nth_mapF {α β : Type} [Inhabited α] [Inhabited β] (f : α → β) (l : List α) (i : Nat) (h : i < l.length) : nth (l.map f) i = f (nth l i) := by
  simp [nth, List.getD_eq_getElem?_getD, List.getElem?_eq_getElem h]
omit [LaidW] in
@[simp] theorem nth_replicate {α : Type} [Inhabited α] (x : α) (k i : Nat) (h : i < k) : nth (List.replicate k x) i = x := by
  simp [nth, List.getD_eq_getElem?_getD, List.getElem?_replicate, h]

/-- A LOOP whose rounds have places of their own left over: the next place's number hangs on the round -/
theorem awp_for5 {P : Program} {K : Exit → St → Prop} {c : Code} {id : Nat} {env : Env} {h : Heap} {n nt : Nat} {α β : Type} (n' : α → Nat) (nf : β → Nat) (J : α → Prop) (ks : List Nat) (mods : α → Env) (hks : List Nat) (hm : α → Heap) (μ : α → Nat)
    (F : β → Prop) (fks : List Nat) (fmods : β → Env) (fhks : List Nat) (fhm : β → Heap) (x0 : α) (hJ : J x0)
    (h0 : Lek fk ⟨env, h, n, nt⟩ ⟨mods x0 ++ pickE env ks, hm x0 ++ pickH h hks, n' x0, nt⟩)
    (round : ∀ x, J x → AWPk fk P c ⟨mods x ++ pickE env ks, hm x ++ pickH h hks, n' x, nt⟩ (loopK fk J (fun x => ⟨mods x ++ pickE env ks, hm x ++ pickH h hks, n' x, nt⟩) μ x (forB fk id F (fun y => ⟨fmods y ++ pickE env fks, fhm y ++ pickH h fhks, nf y, nt⟩) K)))
    (after : ∀ y, F y → K .normal ⟨fmods y ++ pickE env fks, fhm y ++ pickH h fhks, nf y, nt⟩) : AWPk fk P (.block id (.loop c)) ⟨env, h, n, nt⟩ K := by
  refine awp_block (awp_monoL (awp_loop J (fun x => ⟨mods x ++ pickE env ks, hm x ++ pickH h hks, n' x, nt⟩) μ x0 hJ h0 round) (fun e s hk => ?_))
  cases e <;> first
    | exact hk.elim
    | exact ⟨s, Lek.refl s, hk⟩
    | (simp only [forB] at hk
       simp only [blockK]
       split at hk
       · rename_i hid
         obtain ⟨y, hy, hle⟩ := hk
         exact ⟨_, hle, by rw [if_pos hid]; exact after y hy⟩
       · rename_i hid
         exact ⟨s, Lek.refl s, by rw [if_neg hid]; exact hk⟩)
end Go.Fi

namespace Go.Fi
open Go Go.RowKit
variable [LaidW]
variable {fk : Fk}

/-! ### a family of places whose numbers are s apart -/
def addS (s : Nat) (h : Heap) (n : Nat) : List (List AV) → Heap
  | [] => h
  | c :: E => (n, c) :: addS s h (n + s) E
section
variable {D : List Nat} {h r q : Heap} {n n' b k t len s : Nat} {c x : List AV} {L : List (List AV)}
omit [LaidW] in
@[simp] theorem addS_nil (h : Heap) (n : Nat) : addS s h n [] = h := rfl
omit [LaidW] in
@[simp] theorem addS_app : ∀ (L : List (List AV)) (r q : Heap) (b : Nat), addS s r b L ++ q = addS s (r ++ q) b L
  | [], r, q, b => rfl
  | c :: L, r, q, b => by simp [addS, addS_app L r q (b + s)]
omit [LaidW] in
theorem hgetS_in (hs : 0 < s) : ∀ {L : List (List AV)} {r : Heap} {b i : Nat}, i < L.length → hget (addS s r b L) (i * s + b) = some (nth L i)
  | [], r, b, i, h => by simp at h
  | c :: L, r, b, 0, h => by simp [addS, hget, nth]
  | c :: L, r, b, i + 1, h => by
    have hp : 0 < (i + 1) * s := Nat.mul_pos (by omega) hs
    simp only [addS, hget]
    rw [if_neg (by omega), show (i + 1) * s + b = i * s + (b + s) by rw [Nat.add_mul]; omega, hgetS_in hs (by simpa using h)]
    rfl
omit [LaidW] in
@[simp] theorem hget_famS {i : Nat} (h : i < L.length) (hs : 0 < s) : hget (addS s r b L) (i * s + b) = some (nth L i) := hgetS_in hs h
omit [LaidW] in
@[simp] theorem hget_famS_lt : ∀ {L : List (List AV)} {r : Heap} {b : Nat}, t < b → hget (addS s r b L) t = hget r t
  | [], r, b, _ => rfl
  | c :: L, r, b, h => by
    simp only [addS, hget]
    rw [if_neg (by omega), hget_famS_lt (by omega)]
omit [LaidW] in
@[simp] theorem hget_famS_ge : ∀ {L : List (List AV)} {r : Heap} {b : Nat}, L.length * s + b < t + s → hget (addS s r b L) t = hget r t
  | [], r, b, _ => rfl
  | c :: L, r, b, h => by
    rw [List.length_cons, Nat.add_mul] at h
    simp only [addS, hget]
    have : 0 ≤ L.length * s := Nat.zero_le _
    rw [if_neg (by omega), hget_famS_ge (by omega)]
omit [LaidW] in
theorem hsetS_in (hs : 0 < s) : ∀ {L : List (List AV)} {r : Heap} {b i : Nat}, i < L.length → hset (addS s r b L) (i * s + b) c = addS s r b (L.set i c)
  | [], r, b, i, h => by simp at h
  | d :: L, r, b, 0, h => by simp [addS, hset]
  | d :: L, r, b, i + 1, h => by
    have hp : 0 < (i + 1) * s := Nat.mul_pos (by omega) hs
    simp only [addS, hset, List.set_cons_succ]
    rw [if_neg (by omega), show (i + 1) * s + b = i * s + (b + s) by rw [Nat.add_mul]; omega, hsetS_in hs (by simpa using h)]
omit [LaidW] in
@[simp] theorem hset_famS {i : Nat} (h : i < L.length) (hs : 0 < s) : hset (addS s r b L) (i * s + b) c = addS s r b (L.set i c) := hsetS_in hs h
omit [LaidW] in
@[simp] theorem hset_famS_lt : ∀ {L : List (List AV)} {r : Heap} {b : Nat}, t < b → hset (addS s r b L) t c = addS s (hset r t c) b L
  | [], r, b, _ => rfl
  | d :: L, r, b, h => by
    simp only [addS, hset]
    rw [if_neg (by omega), hset_famS_lt (by omega)]
/-- the family lies in the memory -/
def famInS (s : Nat) (h : Heap) (b : Nat) (L : List (List AV)) : Prop := ∀ i, i < L.length → hget h (i * s + b) = some (nth L i)
omit [LaidW] in
@[simp] theorem famInS_self (hs : 0 < s) : famInS s (addS s r b L) b L = True := eq_true fun i hi => hget_famS hi hs
omit [LaidW] in
@[simp] theorem famInS_lt (h : k < b) : famInS s ((k, c) :: r) b L = famInS s r b L := by
  unfold famInS
  refine propext ⟨fun hh i hi => ?_, fun hh i hi => ?_⟩
  · have := hh i hi; simp only [hget] at this; rwa [if_neg (by omega)] at this
  · simp only [hget]; rw [if_neg (by omega)]; exact hh i hi
omit [LaidW] in
theorem mulS_le {i len s : Nat} (h : i < len) : i * s + s ≤ len * s := by
  have : (i + 1) * s ≤ len * s := Nat.mul_le_mul_right s h
  rw [Nat.add_mul] at this; omega
omit [LaidW] in
@[simp] theorem famInS_ge (h : L.length * s + b < k + s) : famInS s ((k, c) :: r) b L = famInS s r b L := by
  unfold famInS
  refine propext ⟨fun hh i hi => ?_, fun hh i hi => ?_⟩
  · have := hh i hi; have h2 := mulS_le (s := s) hi; simp only [hget] at this; rwa [if_neg (by omega)] at this
  · have h2 := mulS_le (s := s) hi; simp only [hget]; rw [if_neg (by omega)]; exact hh i hi
/-- no place of the memory has a number of the family -/
def famOutS (s : Nat) (h : Heap) (b len : Nat) : Prop := ∀ i, i < len → hget h (i * s + b) = none
omit [LaidW] in
@[simp] theorem famOutS_nil : famOutS s [] b len = True := eq_true fun i hi => rfl
omit [LaidW] in
@[simp] theorem famOutS_lt (h : k < b) : famOutS s ((k, c) :: r) b len = famOutS s r b len := by
  unfold famOutS
  refine propext ⟨fun hh i hi => ?_, fun hh i hi => ?_⟩
  · have := hh i hi; simp only [hget] at this; rwa [if_neg (by omega)] at this
  · simp only [hget]; rw [if_neg (by omega)]; exact hh i hi
omit [LaidW] in
@[simp] theorem famOutS_ge (h : len * s + b < k + s) : famOutS s ((k, c) :: r) b len = famOutS s r b len := by
  unfold famOutS
  refine propext ⟨fun hh i hi => ?_, fun hh i hi => ?_⟩
  · have := hh i hi; have h2 := mulS_le (s := s) hi; simp only [hget] at this; rwa [if_neg (by omega)] at this
  · have h2 := mulS_le (s := s) hi; simp only [hget]; rw [if_neg (by omega)]; exact hh i hi
def famEntS (s : Nat) (D : List Nat) (h : Heap) (n n' b : Nat) (L : List (List AV)) : Prop := ∀ i, i < L.length → entLe D h n n' (i * s + b) (nth L i)
omit [LaidW] in
theorem heapLeG_addS (hs : 0 < s) : ∀ (L : List (List AV)) (r : Heap) (b : Nat), heapLeG D h n n' (addS s r b L) = (famEntS s D h n n' b L ∧ famOutS s r b L.length ∧ heapLeG D h n n' r)
  | [], r, b => by
    refine propext ⟨fun hh => ⟨fun i hi => by simp at hi, fun i hi => by simp at hi, hh⟩, fun hh => hh.2.2⟩
  | c :: L, r, b => by
    show (entLe D h n n' b c ∧ hget (addS s r (b + s) L) b = none ∧ heapLeG D h n n' (addS s r (b + s) L)) = _
    rw [heapLeG_addS hs L r (b + s), hget_famS_lt (by omega)]
    have e : ∀ i, (i + 1) * s + b = i * s + (b + s) := fun i => by rw [Nat.add_mul]; omega
    refine propext ⟨fun ⟨h1, h2, h3, h4, h5⟩ => ⟨fun i hi => ?_, fun i hi => ?_, h5⟩, fun ⟨h1, h2, h3⟩ => ⟨?_, ?_, fun i hi => ?_, fun i hi => ?_, h3⟩⟩
    · cases i with
      | zero => rw [Nat.zero_mul, Nat.zero_add]; exact h1
      | succ i =>
        have := h3 i (by simpa using hi)
        rw [e]; exact this
    · cases i with
      | zero => rw [Nat.zero_mul, Nat.zero_add]; exact h2
      | succ i => rw [e]; exact h4 i (by simpa using hi)
    · have := h1 0 (by simp); rwa [Nat.zero_mul, Nat.zero_add] at this
    · have := h2 0 (by simp); rwa [Nat.zero_mul, Nat.zero_add] at this
    · have := h1 (i + 1) (by simpa using hi)
      rw [e] at this; exact this
    · have := h2 (i + 1) (by simpa using hi)
      rwa [e] at this
omit [LaidW] in
@[simp] theorem heapLeG_addS' {s : Nat} : heapLeG D h n n' (addS (s + 1) r b L) = (famEntS (s + 1) D h n n' b L ∧ famOutS (s + 1) r b L.length ∧ heapLeG D h n n' r) := heapLeG_addS (Nat.succ_pos s) L r b
omit [LaidW] in
@[simp] theorem famEntS_same (h1 : famInS s h b L) (h2 : selfL L) (h3 : L.length * s + b < n' + s) (h4 : ∀ d ∈ D, d < b) : famEntS s D h n n' b L = True := eq_true fun i hi => by
  have h5 := mulS_le (s := s) hi
  simp only [entLe, h1 i hi]
  refine ⟨by omega, fun hd => by have := h4 _ hd; omega, h2 _ ?_ _ _ _ _⟩
  simp [nth, List.getD_eq_getElem?_getD, List.getElem?_eq_getElem hi]
end
/-! ### the slices of the rows -/
def msS (s b : Nat) : List Nat → List AV
  | [] => []
  | k :: r => .msl b k 1 0 k :: msS s (b + s) r
section
variable {s : Nat}
omit [LaidW] in
@[simp] theorem msS_nil (b : Nat) : msS s b [] = [] := rfl
omit [LaidW] in
@[simp] theorem msS_len : ∀ (ls : List Nat) (b : Nat), (msS s b ls).length = ls.length
  | [], b => rfl
  | k :: r, b => by simp [msS, msS_len r]
omit [LaidW] in
theorem msS_get? : ∀ (ls : List Nat) (b i : Nat), (msS s b ls)[i]? = (ls[i]?).map fun k => AV.msl (i * s + b) k 1 0 k
  | [], b, i => by simp
  | a :: ls, b, i => by
    cases i with
    | zero => simp [msS]
    | succ i =>
      simp only [msS, List.getElem?_cons_succ]
      rw [msS_get? ls (b + s) i, Nat.add_mul, show i * s + (b + s) = i * s + 1 * s + b by omega]
omit [LaidW] in
@[simp] theorem msS_get (ls : List Nat) (b i : Nat) (h : i < ls.length) : nthA (msS s b ls) i = .msl (i * s + b) (nth ls i) 1 0 (nth ls i) := by
  simp [nthA, nth, List.getD_eq_getElem?_getD, msS_get?, List.getElem?_eq_getElem h]
omit [LaidW] in
@[simp] theorem msS_set (ls : List Nat) (b i k : Nat) : (msS s b ls).set i (.msl (i * s + b) k 1 0 k) = msS s b (ls.set i k) := by
  induction ls generalizing b i with
  | nil => rfl
  | cons a ls ih =>
    cases i with
    | zero => simp [msS]
    | succ i =>
      simp only [msS, List.set_cons_succ]
      rw [Nat.add_mul, show i * s + 1 * s + b = i * s + (b + s) by omega, ih]
omit [LaidW] in
theorem msS_ltL : ∀ (ls : List Nat) (b n : Nat), ls.length * s + b < n + s → AV.lt.ltL n (msS s b ls) = true
  | [], b, n, _ => rfl
  | k :: r, b, n, h => by
    rw [List.length_cons, Nat.add_mul] at h
    have : 0 ≤ r.length * s := Nat.zero_le _
    simp only [msS, AV.lt.ltL, AV.lt, Bool.and_eq_true, decide_eq_true_eq]
    exact ⟨by omega, msS_ltL r (b + s) n (by omega)⟩
omit [LaidW] in
@[simp] theorem msS_lt {ls : List Nat} {b n : Nat} (h : ls.length * s + b < n + s) : AV.lt.ltL n (msS s b ls) = true := msS_ltL ls b n h
omit [LaidW] in
@[simp] theorem msS_self {D : List Nat} {h : Heap} {n n' b : Nat} {ls : List Nat} (hl : ls.length * s + b < n' + s) : cellsLe D h n n' (msS s b ls) (msS s b ls) = True := eq_true (cellsLe_refl (msS_ltL ls b n' hl))
end
end Go.Fi

