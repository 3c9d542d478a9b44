/- A logic of abstract states for this claim (part Lc): lemmas alone. -/
import Derived.Test.YtfpamehamllndaaGreatDoorLb
import Derived.Lib.ConvBytes
import Derived.TacticsIn
import Derived.OrdersIn
import Derived.RangeFuncRecord
import Derived.RangeFuncCalls
import Derived.Deep.LoopGhost
set_option linter.unusedSimpArgs false
set_option linter.unusedVariables false

namespace Go.Fi
open Go Go.RowKit

section
variable {P : Program} {B : Base} {m : Mm} {w w' : World} {H h : Heap} {n : Nat} {env : Env} {a : Act} {L : Nat → Prop}

theorem run_first (sz k : Nat) (a0 : Option Addr) (cap : Nat) (us : List Value) (hl : us.length = k * sz) (h0 : a0 = none → k * sz = 0) (hc : ∀ ad, a0 = some ad → ∀ j u, us[j]? = some u → w.cell? (ad.add j) = some u) :
    (Builtin.firstCells sz k (.slice a0 k cap)).run P w = .ok us.toArray w := by
  cases a0 with
  | none =>
    have : us = [] := List.eq_nil_of_length_eq_zero (by rw [hl, h0 rfl])
    subst this; rfl
  | some ad =>
    have := run_loadCells_list (P := P) w ad us (hc ad rfl)
    rw [hl] at this
    simpa [Builtin.firstCells] using this

theorem src_rep {sz k : Nat} {x : AV} {v : Value} {news : List AV} {c : Prop} (h0 : srcOf h sz x = some (k, news, c)) (hc : c) (hs : Sim0 B H m w) (hlook : ∀ id cs, hget h id = some cs → (id, cs) ∈ H) (hx : RepA B (LB m H) m w x v) :
    ∃ (ax : Option Addr) (cx : Nat) (us : List Value), v = .slice ax k cx ∧ us.length = k * sz ∧ news.length = k * sz ∧ (∀ w'', w''.heap = w.heap → (Builtin.firstCells sz k v).run P w'' = .ok us.toArray w'') ∧
      ∀ (j : Nat) (p : AV) (u : Value), news[j]? = some p → us[j]? = some u → RepA B (LB m H) m w p u := by
  unfold srcOf at h0
  split at h0
  · rename_i id ver z off k'
    split at h0
    · rename_i cells hg
      simp only [Option.some.injEq, Prod.mk.injEq] at h0; obtain ⟨rfl, rfl, rfl⟩ := h0
      obtain ⟨c1, c2, c3⟩ := hc
      subst c2
      obtain ⟨ax, cx, rfl, hk, hd, _, h3, h4⟩ := hx.msl_inv
      rw [cutW_eq]
      have hlen : ((cells.drop off).take (k' * z)).length = k' * z := by simp; omega
      rw [← c1] at h3 h4
      cases ha : m.addr id cells.length with
      | none =>
        obtain ⟨rfl, h5⟩ := h3 ha
        have hk0 : k' = 0 := by omega
        subst hk0
        exact ⟨ax, 0, [], rfl, by simp, hlen, fun w'' _ => run_first z 0 ax 0 [] (by simp) (fun _ => by simp) (fun _ _ j u hj => by simp at hj), fun j p u hp hu => by simp at hu⟩
      | some bc =>
        obtain ⟨b, C⟩ := bc
        obtain ⟨h5, h6, h7⟩ := h4 b C ha
        obtain ⟨cs, e, hh, hC, hle, _, hcell⟩ := hs.read (hlook id cells hg) hd ha (by omega)
        have hin : ∀ j, j < k' * z → off + j < cs.size := by intro j hj; omega
        refine ⟨ax, cx, (List.range (k' * z)).map (fun j => cs.getD (off + j) undef), rfl, by simp, hlen, fun w'' hw => ?_, fun j p u hp hu => ?_⟩
        · refine run_first z k' ax cx _ (by simp) (fun e => ?_) (fun ad e j u hj => ?_)
          · rcases Nat.eq_zero_or_pos cx with h | h
            · have : k' = 0 := by omega
              simp [this]
            · rw [h5 h] at e; cases e
          · obtain ⟨y, hy, rfl⟩ := getElem?_map_some hj
            obtain ⟨hlt, rfl⟩ := List.getElem?_eq_some_iff.1 hy
            simp only [List.length_range] at hlt
            simp only [List.getElem_range]
            have hcx : 0 < cx := by
              rcases Nat.eq_zero_or_pos cx with h | h
              · have : k' = 0 := by omega
                rw [this] at hlt; simp at hlt
              · exact h
            rw [h5 hcx] at e; injection e with e; subst e
            rw [Addr.add_mk, cell_of (by rw [hw]; exact hh)]
            simp [hin j hlt]
        · obtain ⟨y, hy, rfl⟩ := getElem?_map_some hu
          obtain ⟨hlt, rfl⟩ := List.getElem?_eq_some_iff.1 hy
          simp only [List.length_range] at hlt
          simp only [List.getElem_range]
          rw [List.getElem?_take] at hp
          rw [if_pos hlt, List.getElem?_drop] at hp
          exact hcell _ p _ hp (by simp [hin j hlt])
    · cases h0
  · rename_i own f k' cells
    simp only [Option.some.injEq, Prod.mk.injEq] at h0; obtain ⟨rfl, rfl, rfl⟩ := h0
    obtain ⟨ax, cx, rfl, hk, _, h1, h2⟩ := hx.sl_inv
    cases hcl : cells with
    | nil =>
      have hkz : k' * sz = 0 := by rw [← hc, hcl]; rfl
      exact ⟨ax, cx, [], rfl, hkz.symm, by simp [hkz], fun w'' _ => run_first sz k' ax cx [] hkz.symm (fun _ => hkz) (fun _ _ j u hj => by simp at hj), fun j p u hp hu => by simp at hu⟩
    | cons y ys =>
      obtain ⟨b, off, vals, rfl, h3, h4, h5⟩ := h2 (by rw [hcl]; simp)
      rw [← hcl]
      refine ⟨_, cx, (List.range cells.length).map vals, rfl, by simp [hc], by simp [hc], fun w'' hw => ?_, fun j p u hp hu => ?_⟩
      · refine run_first sz k' _ cx _ (by simp [hc]) (fun e => by cases e) (fun ad e j u hj => ?_)
        injection e with e; subst e
        obtain ⟨y', hy, rfl⟩ := getElem?_map_some hj
        obtain ⟨hlt, rfl⟩ := List.getElem?_eq_some_iff.1 hy
        simp only [List.length_range] at hlt
        simp only [List.getElem_range]
        rw [Addr.add_mk]
        have := h3 j hlt
        simpa [World.cell?, hw] using this
      · obtain ⟨q, hq, rfl⟩ := getElem?_map_some hp
        obtain ⟨y', hy, rfl⟩ := getElem?_map_some hu
        obtain ⟨hlt, rfl⟩ := List.getElem?_eq_some_iff.1 hy
        simp only [List.getElem_range]
        exact .w (h5 j q hq) (fun h => by cases h)
  · cases h0

theorem run_append_fits {t tx e ex sz : Nat} {i : TypeInfo} (ht : P.underlying t = some (.slice e)) (htx : P.underlying tx = some (.slice ex)) (hi : P.info? e = some i) (hz : i.size = sz) (ty : TypeId)
    (a0 : Option Addr) (k cap k2 : Nat) (x : Value) (ax : Option Addr) (cx : Nat) (hx : x = .slice ax k2 cx) (us : List Value) (hn : (Builtin.firstCells sz k2 x).run P w = .ok us.toArray w) (hfit : k + k2 ≤ cap)
    (w2 : World) (hst : ∀ ad, a0 = some ad → (storeCells (ad.add (k * sz)) us).run P w = .ok () w2) (hno : a0 = none → w2 = w) :
    (Builtin.append_ #[t, tx] ty #[.slice a0 k cap, x]).run P w = .ok (.slice a0 (k + k2) cap) w2 := by
  subst hx
  cases a0 with
  | none =>
    have := hno rfl
    subst this
    simp [Builtin.append_, run_underlying ht, run_underlying htx, sizeOf, typeInfo, hi, hz, Builtin.lenOf, hfit, hn]
  | some ad =>
    have := hst ad rfl
    simp [Builtin.append_, run_underlying ht, run_underlying htx, sizeOf, typeInfo, hi, hz, Builtin.lenOf, hfit, hn, this]

theorem run_append_grows {t tx e ex sz : Nat} {i : TypeInfo} {z : Value} (ht : P.underlying t = some (.slice e)) (htx : P.underlying tx = some (.slice ex)) (hi : P.info? e = some i) (hz : i.size = sz) (hzero : i.zero = some z) (ty : TypeId)
    (a0 : Option Addr) (k cap k2 : Nat) (x : Value) (ax : Option Addr) (cx : Nat) (hx : x = .slice ax k2 cx) (us os : List Value) (hn : (Builtin.firstCells sz k2 x).run P w.drew = .ok us.toArray w.drew)
    (ho : (Builtin.firstCells sz k (.slice a0 k cap)).run P w.drew = .ok os.toArray w.drew) (hfit : ¬ k + k2 ≤ cap) (h1 : k + k2 ≤ 1000000000) (hby : i.bytes ≤ 100000) :
    ∃ nc rest, k + k2 ≤ nc ∧ rest.size = (nc - (k + k2)) * z.cells.size ∧ (Builtin.append_ #[t, tx] ty #[.slice a0 k cap, x]).run P w = .ok (.slice (some ⟨w.heap.size, 0, none⟩) (k + k2) nc) (w.drew.alloc (.cells (os.toArray ++ us.toArray ++ rest) e)) := by
  subst hx
  have hb := growslice_fits (need := k + k2) (old := cap) (bytes := i.bytes) (by omega) (by
    have : (k + k2) * i.bytes ≤ 1000000000 * 100000 := Nat.mul_le_mul h1 hby
    omega)
  have h63' : ¬ (9223372036854775807 < ((k : Int) + (k2 : Int))) := by omega
  have h48' : ¬ (281474976710656 < Builtin.nextslicecap (k + k2) cap * i.bytes) := by omega
  refine ⟨grownCap w (k + k2) cap e, Builtin.zeroCells z.cells (grownCap w (k + k2) cap e - (k + k2)), grownCap_ge w _ _ e, size_zeroCells _ _, ?_⟩
  simp [Builtin.append_, run_underlying ht, run_underlying htx, sizeOf, typeInfo, zeroValue, hi, hz, hzero, Builtin.lenOf, hfit, h63', h48', Question.forced, hn, ho, newRow, grownCap]
  congr 2
  apply Array.ext'
  simp [List.append_assoc]
end
end Go.Fi

namespace Go.Fi
open Go Go.RowKit

def appendW (P : Program) (env : Env) (h : Heap) (n : Nat) (args : List Operand) (tys : List TypeId) (K : AV → Heap → Nat → Prop) : Prop :=
  match args, tys with
  | [s, x], [t, tx] =>
    match slE P t, slE P tx with
    | some (e, sz), some _ =>
      match byE P e, zcells P e, srcOf h sz (ev env x) with
      | some by_, some z, some (k2, news, c) =>
        match ev env s with
        | .msl id ver z' off k =>
          match hget h id with
          | some cells => (c ∧ off = 0 ∧ cells.length = ver ∧ z' = sz ∧ z.length = sz ∧ 0 < sz ∧ k * sz ≤ ver ∧ k + k2 ≤ 1000000000 ∧ by_ ≤ 100000 ∧ ones news = true) ∧
              K (.msl id (insW cells (k * sz) news).length sz 0 (k + k2)) (hset h id (insW cells (k * sz) news)) n
          | none => False
        | .w own true (.sl k cells) =>
          bif own && decide (k = 0) && cells.isEmpty then (c ∧ 0 < k2 ∧ z.length = sz ∧ 0 < sz ∧ k2 ≤ 1000000000 ∧ by_ ≤ 100000) ∧ K (.msl n news.length sz 0 k2) ((n, news) :: h) (n + 1)
          else match pvs news with
            | some q => (c ∧ cells.length = k * sz ∧ z.length = sz ∧ 0 < sz ∧ k + k2 ≤ 1000000000 ∧ by_ ≤ 100000) ∧ K (.w (flatL q && (own || cells.isEmpty)) false (.sl (k + k2) (cells ++ q))) h n
            | none => False
        | _ => False
      | _, _, _ => False
    | _, _ => False
  | _, _ => False

def storeW (P : Program) (env : Env) (h : Heap) (n : Nat) (t : TypeId) (ad x : Operand) (K : AV → Heap → Nat → Prop) : Prop :=
  match tyL P t, ev env ad with
  | some (sz, _), .ptr id ver off =>
    match hget h id with
    | some cells => (cells.length = ver ∧ (ev env x).ok = true ∧ (ev env x).cells.length = sz ∧ off + sz ≤ cells.length ∧ ones (ev env x).cells = true) ∧ K (.tup []) (hset h id (setAt cells off (ev env x).cells)) n
    | none => False
  | _, _ => False

theorem insW_get (c new : List AV) (p : Nat) (hp : p ≤ c.length) (j : Nat) : (insW c p new)[j]? = if p ≤ j ∧ j < p + new.length then new[j - p]? else c[j]? := by
  unfold insW
  split
  · rename_i e
    rw [List.getElem?_append]
    split
    · rename_i hj; rw [if_neg (by omega)]
    · rename_i hj
      rw [e]
      split
      · rfl
      · rename_i h2
        rw [List.getElem?_eq_none (by omega), List.getElem?_eq_none (by omega)]
  · rw [List.append_assoc, List.getElem?_append]
    simp only [List.length_take, Nat.min_eq_left hp]
    split
    · rename_i hj; rw [if_neg (by omega), List.getElem?_take, if_pos hj]
    · rename_i hj
      rw [List.getElem?_append]
      split
      · rename_i h2; rw [if_pos (by omega)]
      · rename_i h2
        rw [if_neg (by omega), List.getElem?_drop]
        congr 1; omega
theorem insW_len (c new : List AV) (p : Nat) (hp : p ≤ c.length) : (insW c p new).length = max c.length (p + new.length) := by
  unfold insW
  split
  · rename_i e; simp; omega
  · simp; omega
theorem setArr_get : ∀ (us : List Value) (off : Nat) (cs : Array Value), off + us.length ≤ cs.size → ∀ j, (setArr cs off us)[j]? = if off ≤ j ∧ j < off + us.length then us[j - off]? else cs[j]?
  | [], off, cs, _, j => by
    simp only [setArr, List.length_nil]
    rw [if_neg (by omega)]
  | v :: r, off, cs, h, j => by
    simp only [setArr]
    rw [setArr_get r (off + 1) _ (by simp at h ⊢; omega) j]
    simp only [List.length_cons] at h ⊢
    by_cases h1 : j = off
    · subst h1
      rw [if_neg (by omega), if_pos (by omega)]
      rw [Array.getElem?_setIfInBounds]
      simp
      omega
    · by_cases h2 : off + 1 ≤ j ∧ j < off + 1 + r.length
      · rw [if_pos h2, if_pos (by omega)]
        have : j - off = (j - (off + 1)) + 1 := by omega
        rw [this, List.getElem?_cons_succ]
      · rw [if_neg h2, if_neg (by omega), Array.getElem?_setIfInBounds]
        simp [Ne.symm h1]

section
variable {P : Program} {B : Base} {m : Mm} {w w' : World} {H h : Heap} {n : Nat} {env : Env} {a : Act} {L : Nat → Prop}

/-- behind an effect -/
def EPost (B : Base) (h : Heap) (m : Mm) (w : World) (n : Nat) (h' : Heap) (n' : Nat) (v : AV) (v' : Value) (w' : World) (m' : Mm) : Prop :=
  m.le m' ∧ (∀ i, m'.dom i ↔ m.dom i ∨ (n ≤ i ∧ i < n')) ∧ Below B.n w w' ∧ Sim0 B h' m' w' ∧ (∀ b, b < w.heap.size → ¬ LB m h b → ¬ LB m' h' b) ∧ (∀ b, b < w.heap.size → ¬ LB m h b → w'.heap[b]? = w.heap[b]?) ∧ RepA B (LB m' h') m' w' v v'

theorem same_dom {p : Nat → Prop} {n : Nat} : ∀ i, p i ↔ p i ∨ (n ≤ i ∧ i < n) := fun i => ⟨.inl, fun h => h.elim id fun h => by omega⟩
theorem hmap_self (hs : Sim0 B h m w) {id : Nat} {cells : List AV} (hin : (id, cells) ∈ h) : hmap h id cells = h := by
  unfold hmap
  conv => rhs; rw [← List.map_id h]
  refine List.map_congr_left fun p hp => ?_
  split
  · rename_i e
    have : p.2 = cells := hs.key (id := id) (by rw [← e]; exact hp) hin
    rw [← this]; rfl
  · rfl

theorem below_wset {b : Nat} (hb : B.n ≤ b) (w : World) (cs : Array Value) (e : TypeId) : Below B.n w (wset w b cs e) :=
  ⟨rfl, rfl, rfl, by rw [wset_size]; exact Nat.le_refl _, fun k hk => wset_other w b cs e (by omega)⟩
theorem below_drew_alloc (hB : B.n ≤ w.heap.size) (o : Obj) : Below B.n w (w.drew.alloc o) :=
  ⟨rfl, rfl, rfl, by rw [alloc_size]; exact Nat.le_succ _, fun k hk => heap_push_old w.drew o (show k < w.heap.size by omega)⟩

theorem list_rep {ps : List AV} {us : List Value} (hone : ones ps = true) (hl : us.length = ps.length) (hr : ∀ (j : Nat) (p : AV) (u : Value), ps[j]? = some p → us[j]? = some u → RepA B L m w p u) : ∀ v ∈ us, v.oneCell' = true := by
  intro v hv
  obtain ⟨j, hj, rfl⟩ := List.getElem_of_mem hv
  have hj' : j < ps.length := by omega
  exact one_rep (ones_spec hone j ps[j] (List.getElem?_eq_getElem hj')) (hr j ps[j] us[j] (List.getElem?_eq_getElem hj') (List.getElem?_eq_getElem hj))

theorem append_msl (hs : Sim0 B h m w) (hB : B.n ≤ w.heap.size) {t tx e sz : Nat} {ex : TypeId × Nat} {by_ : Nat} {z : List AV} (ht : slE P t = some (e, sz)) (htx : slE P tx = some ex) (hby : byE P e = some by_) (hz : zcells P e = some z)
    {x s : Value} {xa : AV} {k2 : Nat} {news : List AV} {c : Prop} (hsrc : srcOf h sz xa = some (k2, news, c)) (hc : c) (hx : RepA B (LB m h) m w xa x)
    {id ver k : Nat} {cells : List AV} (hsr : RepA B (LB m h) m w (.msl id ver sz 0 k) s) (hg : hget h id = some cells) (c1 : cells.length = ver) (c3 : z.length = sz) (c4 : 0 < sz) (c5 : k * sz ≤ ver) (c6 : k + k2 ≤ 1000000000) (c7 : by_ ≤ 100000) (c8 : ones news = true) (ty : TypeId) :
    ∃ v' w' m', (Builtin.append_ #[t, tx] ty #[s, x]).run P w = .ok v' w' ∧ EPost B h m w n (hset h id (insW cells (k * sz) news)) n (.msl id (insW cells (k * sz) news).length sz 0 (k + k2)) v' w' m' := by
  have hhs : hset h id (insW cells (k * sz) news) = hmap h id (insW cells (k * sz) news) := hset_map h id _ (keys_ne hs)
  rw [hhs]
  obtain ⟨ht', i, hi, hsz⟩ := slE_spec ht
  obtain ⟨htx', _⟩ := slE_spec (e := ex.1) (z := ex.2) htx
  obtain ⟨iz, vz, hiz, hzero, rfl⟩ := zcells_spec hz
  rw [hi] at hiz; injection hiz with hiz; subst hiz
  have hby' : i.bytes ≤ 100000 := by
    have : i.bytes = by_ := by simpa [byE, hi] using hby
    omega
  obtain ⟨ax, cx, us, rfl, hul, hnl, hfirst, hur⟩ := src_rep hsrc hc hs (fun id cs e => hget_mem e) hx
  obtain ⟨a0, cap, rfl, hk, hd, hver, h3, h4⟩ := hsr.msl_inv
  have hin := hget_mem hg
  subst c1
  have hlen' := insW_len cells news (k * sz) c5
  have hzc : vz.cells.size = sz := by rw [← c3]; simp
  by_cases hfit : k + k2 ≤ cap
  · cases ha : m.addr id cells.length with
    | none =>
      obtain ⟨rfl, h5⟩ := h3 ha
      have hk2 : k2 = 0 := by omega
      have hk0 : k = 0 := by omega
      subst hk2; subst hk0
      have hn0 : news = [] := List.eq_nil_of_length_eq_zero (by simpa using hnl)
      have hu0 : us = [] := List.eq_nil_of_length_eq_zero (by simpa using hul)
      subst hn0; subst hu0
      have hc0 : cells = [] := List.eq_nil_of_length_eq_zero h5
      have hins : insW cells (0 * sz) [] = cells := by subst hc0; simp [insW]
      rw [hins, hmap_self hs hin]
      refine ⟨_, w, m, run_append_fits ht' htx' hi hsz ty a0 0 0 0 _ ax cx rfl [] (hfirst w rfl) (by omega) w (fun ad _ => rfl) (fun _ => rfl), Mm.le.refl m, same_dom, Below.refl _ _, hs, fun b _ h => h, fun b _ _ => rfl, ?_⟩
      exact .msl hd hver (by omega) (fun _ => ⟨rfl, h5⟩) (fun b C e => by rw [ha] at e; cases e)
    | some bc =>
      obtain ⟨b, C⟩ := bc
      obtain ⟨h5, h6, h7⟩ := h4 b C ha
      simp only [Nat.zero_add] at h6 h7
      obtain ⟨cs, e', hh, hC, hle, hbB, hcell⟩ := hs.read hin hd ha (by omega)
      have hkz : (k + k2) * sz ≤ cap * sz := Nat.mul_le_mul_right _ hfit
      have hkk : (k + k2) * sz = k * sz + k2 * sz := Nat.add_mul _ _ _
      have hst : ∀ ad, a0 = some ad → (storeCells (ad.add (k * sz)) us).run P w = .ok () (wset w b (setArr cs (k * sz) us) e') := by
        intro ad e
        rcases Nat.eq_zero_or_pos cap with h0 | h0
        · have hus : us = [] := List.eq_nil_of_length_eq_zero (by rw [hul]; have : k2 = 0 := by omega
                                                                  simp [this])
          subst hus
          simp only [setArr, storeCells]
          rw [wset_self w b cs e' hh]; rfl
        · rw [h5 h0] at e; injection e with e; subst e
          rw [Addr.add_mk]
          have := run_storeCells_wset (P := P) b (0 + k * sz) e' us 0 w cs hh (by omega) (list_rep c8 (by omega) hur)
          simpa using this
      have hno : a0 = none → wset w b (setArr cs (k * sz) us) e' = w := by
        intro e
        rcases Nat.eq_zero_or_pos cap with h0 | h0
        · have hus : us = [] := List.eq_nil_of_length_eq_zero (by rw [hul]; have : k2 = 0 := by omega
                                                                  simp [this])
          subst hus
          exact wset_self w b cs e' hh
        · rw [h5 h0] at e; cases e
      have hrun := run_append_fits ht' htx' hi hsz ty a0 k cap k2 _ ax cx rfl us (hfirst w rfl) hfit _ hst hno
      obtain ⟨u1, u2, u3, u4⟩ := upd_entry (w' := wset w b (setArr cs (k * sz) us) e') hs hin hd (cells' := insW cells (k * sz) news) (by omega) (b' := b) (C' := C) (fun _ => ha) (.inr ⟨C, ha⟩)
        (fun q hq hne => wset_other w b _ _ (fun e => hne C (e ▸ ha)))
        ⟨setArr cs (k * sz) us, e', wset_same w b _ _ (LB_lt hs ⟨id, cells, C, hin, hd, ha⟩), by rw [setArr_size, hC], by omega, hbB, fun j p v hp hv => by
          rw [insW_get cells news (k * sz) c5] at hp
          rw [setArr_get us (k * sz) cs (by omega)] at hv
          rw [hul, ← hnl] at hv
          split at hp
          · rename_i hj
            rw [if_pos hj] at hv
            exact hur _ p v hp hv
          · rename_i hj
            rw [if_neg hj] at hv
            exact hcell j p v hp hv⟩
      refine ⟨_, _, _, hrun, u2, same_dom, below_wset hbB w _ _, u1, u3, u4, ?_⟩
      refine .msl hd (by simp [Mm.up]) hfit (fun e => ?_) (fun b' C' e => ?_)
      · simp [Mm.up] at e
      · simp only [Mm.up, and_self, if_true, Option.some.injEq, Prod.mk.injEq] at e
        obtain ⟨rfl, rfl⟩ := e
        exact ⟨h5, by omega, by omega⟩
  · have hold : ∃ os : List Value, os.length = k * sz ∧ (Builtin.firstCells sz k (.slice a0 k cap)).run P w.drew = .ok os.toArray w.drew ∧ ∀ (j : Nat) (p : AV) (v : Value), j < k * sz → cells[j]? = some p → os[j]? = some v → RepA B (LB m h) m w p v := by
      cases ha : m.addr id cells.length with
      | none =>
        obtain ⟨rfl, h5⟩ := h3 ha
        have hk0 : k = 0 := by omega
        subst hk0
        exact ⟨[], by simp, run_first sz 0 a0 0 [] (by simp) (fun _ => by simp) (fun _ _ j u hj => by simp at hj), fun j p v hj => by simp at hj⟩
      | some bc =>
        obtain ⟨b, C⟩ := bc
        obtain ⟨h5, h6, h7⟩ := h4 b C ha
        obtain ⟨cs, e', hh, hC, hle, hbB, hcell⟩ := hs.read hin hd ha (by omega)
        refine ⟨(List.range (k * sz)).map (fun j => cs.getD j undef), by simp, run_first sz k a0 cap _ (by simp) (fun e => ?_) (fun ad e j u hj => ?_), fun j p v hj hp hv => ?_⟩
        · rcases Nat.eq_zero_or_pos cap with h0 | h0
          · have : k = 0 := by omega
            simp [this]
          · rw [h5 h0] at e; cases e
        · obtain ⟨y, hy, rfl⟩ := getElem?_map_some hj
          obtain ⟨hlt, rfl⟩ := List.getElem?_eq_some_iff.1 hy
          simp only [List.length_range] at hlt
          simp only [List.getElem_range]
          have hcx : 0 < cap := by
            rcases Nat.eq_zero_or_pos cap with h | h
            · have : k = 0 := by omega
              rw [this] at hlt; simp at hlt
            · exact h
          rw [h5 hcx] at e; injection e with e; subst e
          have hj' : j < cs.size := by omega
          rw [Addr.add_mk, Nat.zero_add]
          show w.cell? _ = _
          rw [cell_of hh]; simp [hj']
        · have hj' : j < cs.size := by omega
          simp only [List.getElem?_map, List.getElem?_range hj, Option.map_some, Option.some.injEq] at hv
          exact hcell j p v hp (by rw [← hv]; simp [hj'])
    obtain ⟨os, hol, hofirst, hor⟩ := hold
    obtain ⟨nc, rest, hnc, hrest, hrun⟩ := run_append_grows ht' htx' hi hsz hzero ty a0 k cap k2 _ ax cx rfl us os (hfirst w.drew rfl) hofirst hfit c6 hby'
    have hkz : cap * sz < (k + k2) * sz := Nat.mul_lt_mul_of_pos_right (by omega) c4
    have hkk : (k + k2) * sz = k * sz + k2 * sz := Nat.add_mul _ _ _
    have hlt : cells.length < k * sz + news.length := by
      cases ha : m.addr id cells.length with
      | none => obtain ⟨_, h5⟩ := h3 ha; omega
      | some bc => obtain ⟨_, _, h7⟩ := h4 bc.1 bc.2 ha; omega
    have hsize : (os.toArray ++ us.toArray ++ rest).size = nc * sz := by
      have : (nc - (k + k2)) * sz = nc * sz - (k + k2) * sz := Nat.sub_mul _ _ _
      have h9 : (k + k2) * sz ≤ nc * sz := Nat.mul_le_mul_right _ hnc
      simp only [Array.size_append, List.size_toArray, hrest, hzc]
      omega
    have hncz : (k + k2) * sz ≤ nc * sz := Nat.mul_le_mul_right _ hnc
    obtain ⟨u1, u2, u3, u4⟩ := upd_entry (w' := w.drew.alloc (.cells (os.toArray ++ us.toArray ++ rest) e)) hs hin hd (cells' := insW cells (k * sz) news) (by omega) (b' := w.heap.size) (C' := nc * sz) (fun e => by omega) (.inl (Nat.le_refl _))
      (fun q hq hne => heap_push_old w.drew _ hq)
      ⟨_, e, heap_push_new w.drew _, hsize, by omega, hB, fun j p v hp hv => by
        rw [insW_get cells news (k * sz) c5] at hp
        rw [Array.append_assoc, Array.getElem?_append] at hv
        simp only [List.size_toArray] at hv
        split at hp
        · rename_i hj
          rw [if_neg (by omega), Array.getElem?_append, List.size_toArray, if_pos (by omega), List.getElem?_toArray, hol] at hv
          exact hur _ p v hp hv
        · rename_i hj
          have hjc : j < cells.length := (List.getElem?_eq_some_iff.1 hp).1
          rw [if_pos (by omega), List.getElem?_toArray] at hv
          exact hor j p v (by omega) hp hv⟩
    refine ⟨_, _, _, hrun, u2, same_dom, below_drew_alloc hB _, u1, u3, u4, ?_⟩
    refine .msl hd (by simp [Mm.up]) hnc (fun e => ?_) (fun b' C' e => ?_)
    · simp [Mm.up] at e
    · simp only [Mm.up, and_self, if_true, Option.some.injEq, Prod.mk.injEq] at e
      obtain ⟨rfl, rfl⟩ := e
      exact ⟨fun _ => rfl, by omega, by omega⟩
end
end Go.Fi

namespace Go.Fi
open Go Go.RowKit
variable [LaidW]

section
variable {P : Program} {B : Base} {m : Mm} {w w' : World} {H h : Heap} {n : Nat} {env : Env} {a : Act} {L : Nat → Prop}

omit [LaidW] in
theorem LB_cons {c : List AV} (hnd : ¬ m.dom n) (b : Nat) : LB m ((n, c) :: h) b ↔ LB m h b := by
  constructor
  · rintro ⟨id, cs, C, hin, hd, ha⟩
    rcases List.mem_cons.1 hin with e | e
    · injection e with e1 e2; subst e1; exact absurd hd hnd
    · exact ⟨id, cs, C, e, hd, ha⟩
  · rintro ⟨id, cs, C, hin, hd, ha⟩
    exact ⟨id, cs, C, List.mem_cons_of_mem _ hin, hd, ha⟩

omit [LaidW] in
theorem sim0_cons (hs : Sim0 B h m w) {c : List AV} (hnd : ¬ m.dom n) (hne : ∀ id cs, (id, cs) ∈ h → id ≠ n) : Sim0 B ((n, c) :: h) m w := by
  have hL : LB m ((n, c) :: h) = LB m h := funext fun b => propext (LB_cons hnd b)
  refine ⟨fun id cells hin hd => ?_, ?_⟩
  · rw [hL]
    rcases List.mem_cons.1 hin with e | e
    · injection e with e1 e2; subst e1; exact absurd hd hnd
    · exact hs.entry id cells e hd
  · refine List.pairwise_cons.2 ⟨fun y hy => ⟨fun e => hne y.1 y.2 hy e.symm, fun b C C' hd => absurd hd hnd⟩, hs.inj⟩

omit [LaidW] in
theorem append_nil' (hs : Sim0 B h m w) (hnd : ¬ m.dom n) (hne : ∀ id cs, (id, cs) ∈ h → id < n) (hB : B.n ≤ w.heap.size) {t tx e sz : Nat} {ex : TypeId × Nat} {by_ : Nat} {z : List AV} (ht : slE P t = some (e, sz)) (htx : slE P tx = some ex) (hby : byE P e = some by_) (hz : zcells P e = some z)
    {x s : Value} {xa : AV} {k2 : Nat} {news : List AV} {c : Prop} (hsrc : srcOf h sz xa = some (k2, news, c)) (hc : c) (hx : RepA B (LB m h) m w xa x)
    {own : Bool} (hsr : RepA B (LB m h) m w (.w own true (.sl 0 [])) s) (c1 : 0 < k2) (c3 : z.length = sz) (c6 : k2 ≤ 1000000000) (c7 : by_ ≤ 100000) (ty : TypeId) :
    ∃ v' w' m', (Builtin.append_ #[t, tx] ty #[s, x]).run P w = .ok v' w' ∧ EPost B h m w n ((n, news) :: h) (n + 1) (.msl n news.length sz 0 k2) v' w' m' := by
  have hs' := sim0_cons (c := news) hs hnd (fun id cs hin => by have := hne id cs hin; omega)
  have hL : LB m ((n, news) :: h) = LB m h := funext fun b => propext (LB_cons hnd b)
  obtain ⟨ht', i, hi, hsz⟩ := slE_spec ht
  obtain ⟨htx', _⟩ := slE_spec (e := ex.1) (z := ex.2) htx
  obtain ⟨iz, vz, hiz, hzero, rfl⟩ := zcells_spec hz
  rw [hi] at hiz; injection hiz with hiz; subst hiz
  have hby' : i.bytes ≤ 100000 := by
    have : i.bytes = by_ := by simpa [byE, hi] using hby
    omega
  obtain ⟨ax, cx, us, rfl, hul, hnl, hfirst, hur⟩ := src_rep hsrc hc hs (fun id cs e => hget_mem e) hx
  obtain ⟨a0, cap, rfl, _, hfull, _, _⟩ := hsr.sl_inv
  have hcap := hfull rfl
  subst hcap
  have hzc : vz.cells.size = sz := by rw [← c3]; simp
  obtain ⟨nc, rest, hnc, hrest, hrun⟩ := run_append_grows ht' htx' hi hsz hzero ty a0 0 0 k2 _ ax cx rfl us [] (hfirst w.drew rfl)
    (run_first sz 0 a0 0 [] (by simp) (fun _ => by simp) (fun _ _ j u hj => by simp at hj)) (by omega) (by omega) hby'
  simp only [Nat.zero_add] at hnc hrest hrun
  have hncz : k2 * sz ≤ nc * sz := Nat.mul_le_mul_right _ hnc
  have hsize : (#[] ++ us.toArray ++ rest).size = nc * sz := by
    have : (nc - k2) * sz = nc * sz - k2 * sz := Nat.sub_mul _ _ _
    simp only [Array.size_append, List.size_toArray, hrest, hzc, List.length_nil]
    omega
  have hne' : Sim0 B ((n, news) :: h) (m.new n news.length (some (w.heap.size, nc * sz))) (w.drew.alloc (.cells (#[] ++ us.toArray ++ rest) e)) := by
    rw [← hsize]
    exact new_entry (w := w.drew) (hs'.below (w' := w.drew) (Below.refl _ _).drew) hB (id := n) (cells := news) (List.mem_cons_self) hnd (#[] ++ us.toArray ++ rest) e (by rw [hsize]; omega) (fun j p v hp hv => by
    have hj := (List.getElem?_eq_some_iff.1 hp).1
    rw [Array.empty_append, Array.getElem?_append, List.size_toArray, if_pos (by omega), List.getElem?_toArray] at hv
    rw [hL]
    exact (hur j p v hp hv).mono (Mm.le.refl m) (fun _ _ h => h) (fun _ _ _ => rfl))
  refine ⟨_, _, m.new n news.length (some (w.heap.size, nc * sz)), hrun, Mm.new_le hnd, fun i => ?_, below_drew_alloc hB _, hne', fun b hb hn hl => ?_, fun b hb _ => heap_push_old w.drew _ hb, ?_⟩
  · simp only [Mm.new]
    constructor
    · rintro (h1 | h1)
      · exact .inl h1
      · exact .inr (by omega)
    · rintro (h1 | h1)
      · exact .inl h1
      · exact .inr (by omega)
  · rcases LB_new (w := w) hs' (List.mem_cons_self) hl with h1 | ⟨C, h1⟩
    · rw [hL] at h1; exact hn h1
    · injection h1 with h1; injection h1 with h1 _; omega
  · refine .msl (Or.inr rfl) (by simp [Mm.new]) hnc (fun e => ?_) (fun b' C' e => ?_)
    · simp [Mm.new] at e
    · simp only [Mm.new, and_self, if_true, Option.some.injEq, Prod.mk.injEq] at e
      obtain ⟨rfl, rfl⟩ := e
      exact ⟨fun _ => rfl, by omega, by omega⟩

omit [LaidW] in
theorem flatL_spec : ∀ {l : List PV}, flatL l = true → ∀ (j : Nat) (x : PV), l[j]? = some x → flat x = true
  | [], _, j, x, h => by simp at h
  | y :: l, hp, j, x, h => by
    simp only [flatL, Bool.and_eq_true] at hp
    cases j with
    | zero => simp at h; subst h; exact hp.1
    | succ j => exact flatL_spec hp.2 j x (by simpa using h)
omit [LaidW] in
theorem pvs_spec : ∀ {l : List AV} {q : List PV}, pvs l = some q → l.length = q.length ∧ ∀ (j : Nat) (p : PV), q[j]? = some p → ∃ o f, l[j]? = some (.w o f p)
  | [], q, h => by injection h with h; subst h; exact ⟨rfl, fun j p h => by simp at h⟩
  | x :: l, q, h => by
    cases x with
    | w o f p =>
      simp only [pvs] at h
      split at h
      · rename_i q' hq
        injection h with h; subst h
        obtain ⟨h1, h2⟩ := pvs_spec hq
        refine ⟨by simp [h1], fun j y hy => ?_⟩
        cases j with
        | zero => simp at hy; subst hy; exact ⟨o, f, rfl⟩
        | succ j => exact h2 j y (by simpa using hy)
      · cases h
    | _ => simp [pvs] at h

omit [LaidW] in
theorem append_full (hs : Sim0 B h m w) (hB : B.n ≤ w.heap.size) {t tx e sz : Nat} {ex : TypeId × Nat} {by_ : Nat} {z : List AV} (ht : slE P t = some (e, sz)) (htx : slE P tx = some ex) (hby : byE P e = some by_) (hz : zcells P e = some z)
    {x s : Value} {xa : AV} {k2 : Nat} {news : List AV} {c : Prop} (hsrc : srcOf h sz xa = some (k2, news, c)) (hc : c) (hx : RepA B (LB m h) m w xa x) {q : List PV} (hq : pvs news = some q)
    {own : Bool} {k : Nat} {cells : List PV} (hsr : RepA B (LB m h) m w (.w own true (.sl k cells)) s) (c1 : cells.length = k * sz) (c3 : z.length = sz) (c6 : k + k2 ≤ 1000000000) (c7 : by_ ≤ 100000) (ty : TypeId) :
    ∃ v' w' m', (Builtin.append_ #[t, tx] ty #[s, x]).run P w = .ok v' w' ∧ EPost B h m w n h n (.w (flatL q && (own || cells.isEmpty)) false (.sl (k + k2) (cells ++ q))) v' w' m' := by
  obtain ⟨ht', i, hi, hsz⟩ := slE_spec ht
  obtain ⟨htx', _⟩ := slE_spec (e := ex.1) (z := ex.2) htx
  obtain ⟨iz, vz, hiz, hzero, rfl⟩ := zcells_spec hz
  rw [hi] at hiz; injection hiz with hiz; subst hiz
  have hby' : i.bytes ≤ 100000 := by
    have : i.bytes = by_ := by simpa [byE, hi] using hby
    omega
  obtain ⟨ax, cx, us, rfl, hul, hnl, hfirst, hur⟩ := src_rep hsrc hc hs (fun id cs e => hget_mem e) hx
  obtain ⟨a0, cap, rfl, hk, hfull, hnone, hcells⟩ := hsr.sl_inv
  have hcap := hfull rfl
  subst hcap
  obtain ⟨hq1, hq2⟩ := pvs_spec hq
  have hzc : vz.cells.size = sz := by rw [← c3]; simp
  -- what was there, and what comes, with a block that is good
  have hgood : ∀ (w2 : World) (j : Nat) (p : PV) (u : Value), q[j]? = some p → us[j]? = some u → (∀ b, b < w.heap.size → ¬ LB m h b → w2.heap[b]? = w.heap[b]?) → Rep (Good B (LB m h) (flatL q && (own || cells.isEmpty))) w2 p u := by
    intro w2 j p u hp hu hw2
    obtain ⟨o, f, hn⟩ := hq2 j p hp
    have := hur j _ u hn hu
    cases this with
    | w hr _ =>
      cases hfl : flatL q with
      | true => exact flat_rep (flatL_spec hfl j p hp) hr
      | false => exact hr.mono (fun b _ hg => ⟨hg.1, (fun h => by simp at h), hg.2.2⟩) (fun b hb hg => hw2 b hb hg.1)
  by_cases hk2 : k2 = 0
  · subst hk2
    have hus : us = [] := List.eq_nil_of_length_eq_zero (by simpa using hul)
    have hqe : q = [] := List.eq_nil_of_length_eq_zero (by rw [← hq1, hnl]; simp)
    subst hus; subst hqe
    refine ⟨_, w, m, run_append_fits ht' htx' hi hsz ty a0 k k 0 _ ax cx rfl [] (hfirst w rfl) (by omega) w (fun ad _ => rfl) (fun _ => rfl), Mm.le.refl m, same_dom, Below.refl _ _, hs, fun b _ h => h, fun b _ _ => rfl, ?_⟩
    simp only [List.append_nil, Nat.add_zero, flatL, Bool.true_and]
    refine .w ?_ (fun h => by cases h)
    cases hsr with
    | w hr _ =>
      cases hce : cells with
      | nil =>
        rw [hce] at hr
        cases hr with
        | slnil => exact .slnil
        | sl vals h1 h2 h3 h4 => exact .slz h1
        | slz h1 => exact .slz h1
      | cons y ys =>
        rw [hce] at hr
        simpa using hr
  · obtain ⟨os, hol, hofirst, hor⟩ : ∃ os : List Value, os.length = k * sz ∧ (Builtin.firstCells sz k (.slice a0 k k)).run P w.drew = .ok os.toArray w.drew ∧ ∀ (j : Nat) (p : PV) (v : Value), cells[j]? = some p → os[j]? = some v → Rep (Good B (LB m h) own) w p v := by
      cases hce : cells with
      | nil =>
        have hkz : k * sz = 0 := by rw [← c1, hce]; rfl
        exact ⟨[], hkz.symm, run_first sz k a0 k [] hkz.symm (fun _ => hkz) (fun _ _ j u hj => by simp at hj), fun j p v hp => by simp at hp⟩
      | cons y ys =>
        obtain ⟨b, off, vals, rfl, h3, h4, h5⟩ := hcells (by rw [hce]; simp)
        rw [← hce]
        refine ⟨(List.range cells.length).map vals, by simp [c1], run_first sz k _ k _ (by simp [c1]) (fun e => by cases e) (fun ad e j u hj => ?_), fun j p v hp hv => ?_⟩
        · injection e with e; subst e
          obtain ⟨y', hy, rfl⟩ := getElem?_map_some hj
          obtain ⟨hlt, rfl⟩ := List.getElem?_eq_some_iff.1 hy
          simp only [List.length_range] at hlt
          simp only [List.getElem_range]
          rw [Addr.add_mk]
          exact h3 j hlt
        · obtain ⟨y', hy, rfl⟩ := getElem?_map_some hv
          obtain ⟨hlt, rfl⟩ := List.getElem?_eq_some_iff.1 hy
          simp only [List.getElem_range]
          exact h5 j p hp
    obtain ⟨nc, rest, hnc, hrest, hrun⟩ := run_append_grows ht' htx' hi hsz hzero ty a0 k k k2 _ ax cx rfl us os (hfirst w.drew rfl) hofirst (by omega) c6 hby'
    have hkk : (k + k2) * sz = k * sz + k2 * sz := Nat.add_mul _ _ _
    refine ⟨_, _, m, hrun, Mm.le.refl m, same_dom, below_drew_alloc hB _, hs.below ⟨rfl, rfl, rfl, by rw [alloc_size]; exact Nat.le_succ _, fun b hb => heap_push_old w.drew _ hb⟩, fun b _ h => h, fun b hb _ => heap_push_old w.drew _ hb, .w ?_ (fun h => by cases h)⟩
    have hnew := heap_push_new w.drew (.cells (os.toArray ++ us.toArray ++ rest) e)
    have hcell : ∀ j, j < os.length + us.length → (w.drew.alloc (.cells (os.toArray ++ us.toArray ++ rest) e)).cell? ⟨w.heap.size, 0 + j, none⟩ = some ((os ++ us).getD j undef) := by
      intro j hj
      rw [Nat.zero_add, cell_of (b := w.heap.size) hnew]
      rw [Array.getElem?_append, if_pos (by simpa using hj)]
      simp only [List.append_toArray, List.getElem?_toArray]
      exact getD_some (by simpa using hj)
    refine .sl (b := w.heap.size) (off := 0) (fun j => (os ++ us).getD j undef) hnc (fun j hj => hcell j ?_) (fun _ => ⟨fun hl => ?_, fun _ => hB, fun hl => ?_⟩) (fun j p hp => ?_)
    · have hql : q.length = us.length := by rw [← hq1, hnl, hul]
      have : j < cells.length + q.length := by simpa using hj
      omega
    · have := LB_lt hs hl; omega
    · omega
    · rw [List.getElem?_append] at hp
      split at hp
      · rename_i hj
        have hj' : j < os.length := by omega
        have hv : (os ++ us).getD j undef = os[j] := by simp [List.getD, List.getElem?_append_left hj', List.getElem?_eq_getElem hj']
        rw [hv]
        have hr := hor j p _ hp (List.getElem?_eq_getElem hj')
        refine hr.mono (fun b _ hg => ⟨hg.1, fun hf => ?_, hg.2.2⟩) (fun b hb hg => heap_push_old w.drew _ hb)
        cases own with
        | true => exact hg.2.1 rfl
        | false =>
          have hne : cells ≠ [] := by rintro rfl; simp at hj
          have : cells.isEmpty = false := by cases cells <;> simp_all
          simp [this] at hf
      · rename_i hj
        have hjq : j - cells.length < q.length := (List.getElem?_eq_some_iff.1 hp).1
        have hju : j - os.length < us.length := by
          have hql : q.length = us.length := by rw [← hq1, hnl, hul]
          omega
        have hv : (os ++ us).getD j undef = us[j - os.length] := by simp [List.getD, List.getElem?_append_right (show os.length ≤ j by omega), List.getElem?_eq_getElem hju]
        rw [hv]
        have e1 : j - cells.length = j - os.length := by omega
        rw [e1] at hp
        exact hgood _ (j - os.length) p _ hp (List.getElem?_eq_getElem hju) (fun b hb _ => heap_push_old w.drew _ hb)
end
end Go.Fi

namespace Go.Fi
open Go Go.RowKit
variable [LaidW]

structure St where
  env : Env
  heap : Heap
  nxt : Nat
  nt : Nat

def AV.lt (n : Nat) : AV → Bool
  | .w _ _ _ => true
  | .ptr id _ _ => decide (id < n)
  | .msl id _ _ _ _ => decide (id < n)
  | .mp id => decide (id < n)
  | .agg cs => ltL n cs
  | .tup cs => ltL n cs
  | .fn _ cs => ltL n cs
where ltL (n : Nat) : List AV → Bool
  | [] => true
  | x :: r => x.lt n && ltL n r

omit [LaidW] in
theorem ltL_spec {n : Nat} : ∀ {l : List AV}, AV.lt.ltL n l = true → ∀ (j : Nat) (x : AV), l[j]? = some x → x.lt n = true
  | [], _, j, x, h => by simp at h
  | y :: l, hp, j, x, h => by
    simp only [AV.lt.ltL, Bool.and_eq_true] at hp
    cases j with
    | zero => simp at h; subst h; exact hp.1
    | succ j => exact ltL_spec hp.2 j x (by simpa using h)

omit [LaidW] in
theorem RepA.relt {B : Base} {L L' : Nat → Prop} {m : Mm} {w : World} {x : AV} {v : Value} (h : RepA B L m w x v) {n : Nat} (hl : x.lt n = true) (hL : ∀ b, L' b → L b) : RepA B L' { m with dom := fun i => i < n } w x v := by
  induction h with
  | w hr hf => exact .w (hr.imp fun b hg => ⟨fun hb => hg.1 (hL b hb), hg.2⟩) hf
  | ptr hd ht ha hC => exact .ptr (by simpa [AV.lt] using hl) ht ha hC
  | mp hd ht ha => exact .mp (by simpa [AV.lt] using hl) ht ha
  | msl hd ht hn h0 h1 => exact .msl (by simpa [AV.lt] using hl) ht hn h0 h1
  | agg hlen _ ih => exact .agg hlen (fun j p v hp hv => ih j p v hp hv (ltL_spec (by simpa [AV.lt] using hl) j p hp))
  | tup hlen _ ih => exact .tup hlen (fun j p v hp hv => ih j p v hp hv (ltL_spec (by simpa [AV.lt] using hl) j p hp))
  | fn hlen _ ih => exact .fn hlen (fun j p v hp hv => ih j p v hp hv (ltL_spec (by simpa [AV.lt] using hl) j p hp))

omit [LaidW] in
theorem AV.lt_mono {n n' : Nat} (hn : n ≤ n') : ∀ {x : AV}, x.lt n = true → x.lt n' = true
  | .w _ _ _, _ => rfl
  | .ptr _ _ _, h => by simp only [AV.lt, decide_eq_true_eq] at h ⊢; omega
  | .msl _ _ _ _ _, h => by simp only [AV.lt, decide_eq_true_eq] at h ⊢; omega
  | .mp _, h => by simp only [AV.lt, decide_eq_true_eq] at h ⊢; omega
  | .agg cs, h => ltL_mono hn (cs := cs) h
  | .tup cs, h => ltL_mono hn (cs := cs) h
  | .fn _ cs, h => ltL_mono hn (cs := cs) h
where ltL_mono {n n' : Nat} (hn : n ≤ n') : ∀ {cs : List AV}, AV.lt.ltL n cs = true → AV.lt.ltL n' cs = true
  | [], _ => rfl
  | x :: r, h => by
    simp only [AV.lt.ltL, Bool.and_eq_true] at h ⊢
    exact ⟨AV.lt_mono hn h.1, ltL_mono hn h.2⟩
/-- the fence: everything is let in; in a round of loop l, or in none -/
def Fe (r : Option Nat) : Fence := { Fence.wide with round := r }

/-- the loop under way over a function that is being walked: its record's number, what its function's frame held, and its code -/
structure RI where
  l : Nat
  env : Env
  nt : Nat
  ps : Array Tmp
  assign : Code
  body : Code
/-- the frames beneath: the places with numbers below k are the callers'; the loop whose iterator is walked -/
structure Fk where
  k : Nat
  ri : Option RI
abbrev fk0 : Fk := ⟨0, none⟩
def marks (ds : List Nat) : List Deferred := ds.map fun D => { target := .collected D, args := #[] }
def rec_ (ri : RI) (fn : FuncId) (T : Array Value) (D : Nat) (s : LoopState) (p : Option Code) : Obj := .loop { state := s, pending := p, fn := fn, tmps := T, params := ri.ps, assign := ri.assign, body := ri.body, defers := D }
def RecIn (ri : RI) (F : List (AV × Value)) (obs : List (Nat × Obj)) : Prop :=
  ∃ fn T D, (ri.l, rec_ ri fn T D .ready none) ∈ obs ∧ T.size = ri.nt ∧ ∀ t v, (t, v) ∈ ri.env → (get ri.env t, T.getD t undef) ∈ F
def RecOf (fk : Fk) (F : List (AV × Value)) (obs : List (Nat × Obj)) : Prop := ∀ ri, fk.ri = some ri → RecIn ri F obs
/-- the world as the call began; what the frames of callers hold meanwhile; in which round; blocks that are no cells; the marks of loops -/
structure Ctx (fk : Fk) where
  w : World
  F : List (AV × Value)
  r : Option Nat
  obs : List (Nat × Obj)
  ds : List Nat
  rec_ : RecOf fk F obs
  ok : LaidW.ok w

def FrOk (B : Base) {fk : Fk} (w0 : Ctx fk) (L : Nat → Prop) (m : Mm) (w : World) (n : Nat) : Prop :=
  fk.k ≤ n ∧ (∀ p ∈ w0.F, p.1.lt fk.k = true ∧ RepA B L m w p.1 p.2) ∧ ∀ q ∈ w0.obs, B.n ≤ q.1 ∧ q.1 < w.heap.size ∧ ¬ L q.1 ∧ w.heap[q.1]? = some q.2
theorem FrOk.mono {B : Base} {fk : Fk} {w0 : Ctx fk} {L L' : Nat → Prop} {m m' : Mm} {w w' : World} {n n' : Nat} (h : FrOk B w0 L m w n) (hm : m.le m')
    (hL : ∀ b, b < w.heap.size → ¬ L b → ¬ L' b) (hw : ∀ b, b < w.heap.size → ¬ L b → w'.heap[b]? = w.heap[b]?) (hn : n ≤ n') : FrOk B w0 L' m' w' n' :=
  ⟨Nat.le_trans h.1 hn, fun p hp => ⟨(h.2.1 p hp).1, (h.2.1 p hp).2.mono hm hL hw⟩, fun q hq => by
    obtain ⟨h1, h2, h3, h4⟩ := h.2.2 q hq
    have h5 := (hw q.1 h2 h3).trans h4
    exact ⟨h1, (Array.getElem?_eq_some_iff.1 h5).1, hL q.1 h2 h3, h5⟩⟩

structure Sim {fk : Fk} (B : Base) (w0 : Ctx fk) (st : St) (a : Act) (w : World) (m : Mm) : Prop where
  base : B.n = w0.w.heap.size
  below : Below B.n w0.w w
  defers : a.defers = marks w0.ds
  size : a.tmps.size = st.nt
  env : ∀ t, RepA B (LB m st.heap) m w (get st.env t) (a.tmps.getD t undef)
  heap : Sim0 B st.heap m w
  dom : ∀ i, m.dom i ↔ i < st.nxt
  ids : ∀ id c, (id, c) ∈ st.heap → id < st.nxt
  fr : FrOk B w0 (LB m st.heap) m w st.nxt

theorem Sim.ok {fk : Fk} {B : Base} {w0 : Ctx fk} {st : St} {a : Act} {w : World} {m : Mm} (h : Sim B w0 st a w m) : LaidW.ok w :=
  LaidW.keep w0.ok (by have := h.below; rw [h.base] at this; exact this)
theorem Sim.room {fk : Fk} {B : Base} {w0 : Ctx fk} {st : St} {a : Act} {w : World} {m : Mm} (h : Sim B w0 st a w m) : B.n ≤ w.heap.size := by
  have := h.below.size
  have := h.base
  omega

def dOk (nt : Nat) : Option Nat → Prop
  | some d => d < nt
  | none => True

section
variable {P : Program} {B : Base} {m : Mm} {w w' : World} {H h : Heap} {n : Nat} {env : Env} {a : Act} {L : Nat → Prop}

omit [LaidW] in
theorem store_ok (hs : Sim0 B h m w) {t sz : Nat} {g : Bool} (ht : tyL P t = some (sz, g)) {id ver off : Nat} {ad xv : Value} {x : AV} {cells : List AV} (had : RepA B (LB m h) m w (.ptr id ver off) ad) (hx : RepA B (LB m h) m w x xv)
    (hg : hget h id = some cells) (c1 : cells.length = ver) (c2 : x.ok = true) (c3 : x.cells.length = sz) (c4 : off + sz ≤ cells.length) (c5 : ones x.cells = true) :
    ∃ w' m', (Instr.storeAt t ad xv).run P w = .ok () w' ∧ EPost B h m w n (hset h id (setAt cells off x.cells)) n (.tup []) undef w' m' := by
  rw [hset_map h id _ (keys_ne hs)]
  obtain ⟨b, C, rfl, hd, hvC, ha⟩ := had.ptr_inv
  rw [← c1] at ha hvC
  have hin := hget_mem hg
  obtain ⟨cs, e', hh, hC, hle, hbB, hcell⟩ := hs.read hin hd ha hvC.2
  obtain ⟨h1, h2⟩ := cells_rep hx c2
  obtain ⟨i, d, hi, hsz, _, _⟩ := tyL_spec (w := w) ht
  have hlen : (setAt cells off x.cells).length = cells.length := setAt_len _ _ _
  have hur : ∀ (j : Nat) (p : AV) (u : Value), x.cells[j]? = some p → xv.cells.toList[j]? = some u → RepA B (LB m h) m w p u := fun j p u hp hu => h2 j p u hp (by rw [← Array.getElem?_toList]; exact hu)
  have hst := run_storeCells_wset (P := P) b off e' xv.cells.toList 0 w cs hh (by simp; omega) (list_rep c5 (by simp; omega) hur)
  simp only [Nat.add_zero] at hst
  have hrun : (Instr.storeAt t (.pointer (some ⟨b, off, none⟩)) xv).run P w = .ok () (wset w b (setArr cs off xv.cells.toList) e') := by
    have hsz' : xv.cells.size = i.size := by omega
    simp [Instr.storeAt, Instr.sureAddr, storeVar, sizeOf, typeInfo, hi, hsz', hst]
  obtain ⟨u1, u2, u3, u4⟩ := upd_entry (w' := wset w b (setArr cs off xv.cells.toList) e') hs hin hd (cells' := setAt cells off x.cells) (by omega) (b' := b) (C' := C) (fun _ => ha) (.inr ⟨C, ha⟩)
    (fun q hq hne => wset_other w b _ _ (fun e => hne C (e ▸ ha)))
    ⟨setArr cs off xv.cells.toList, e', wset_same w b _ _ (LB_lt hs ⟨id, cells, C, hin, hd, ha⟩), by rw [setArr_size, hC], by omega, hbB,
      (setArrF_rep x.cells xv.cells.toList off cells cs ⟨by omega, hcell⟩ (by simpa using h1) hur).2⟩
  exact ⟨_, _, hrun, u2, same_dom, below_wset hbB w _ _, u1, u3, u4, .tup rfl (fun j p v hp => by simp at hp)⟩

omit [LaidW] in
theorem get_put (env : Env) (a : Act) (d : Option Nat) (v : AV) (v' : Value) (hd : dOk a.tmps.size d) (hv : RepA B L m w v v') (he : ∀ t, RepA B L m w (get env t) (a.tmps.getD t undef)) : ∀ t, RepA B L m w (get (put env d v) t) ((a.put d v').tmps.getD t undef) := by
  intro t
  cases d with
  | none => exact he t
  | some d =>
    simp only [put, get, Act.put]
    by_cases hdt : d = t
    · subst hdt
      simp only [if_true]
      rw [Array.getD_eq_getD_getElem?, Array.getElem?_setIfInBounds]
      simp only [if_true]
      rw [if_pos (show d < a.tmps.size from hd)]
      exact hv
    · simp only [hdt, if_false]
      rw [Array.getD_eq_getD_getElem?, Array.getElem?_setIfInBounds]
      simp only [hdt, if_false]
      rw [← Array.getD_eq_getD_getElem?]
      exact he t

omit [LaidW] in
theorem put_size (a : Act) (d : Option Nat) (v : Value) : (a.put d v).tmps.size = a.tmps.size := by cases d <;> simp [Act.put]
omit [LaidW] in
theorem put_defers (a : Act) (d : Option Nat) (v : Value) : (a.put d v).defers = a.defers := by cases d <;> rfl

omit [LaidW] in
theorem addE_mem : ∀ (E : List (List AV)) (h : Heap) (n : Nat) (id : Nat) (c : List AV), (id, c) ∈ addE h n E ↔ (id, c) ∈ h ∨ ∃ k, E[k]? = some c ∧ id = n + k
  | [], h, n, id, c => by simp [addE]
  | x :: E, h, n, id, c => by
    simp only [addE, List.mem_cons, Prod.mk.injEq, addE_mem E h (n + 1) id c]
    constructor
    · rintro (⟨rfl, rfl⟩ | h1 | ⟨k, h1, rfl⟩)
      · exact .inr ⟨0, rfl, rfl⟩
      · exact .inl h1
      · exact .inr ⟨k + 1, by simpa using h1, by omega⟩
    · rintro (h1 | ⟨k, h1, rfl⟩)
      · exact .inr (.inl h1)
      · cases k with
        | zero => simp at h1; exact .inl ⟨rfl, h1.symm⟩
        | succ k => exact .inr (.inr ⟨k, by simpa using h1, by omega⟩)

omit [LaidW] in
theorem sim0_addE : ∀ (E : List (List AV)) (h : Heap) (n : Nat), Sim0 B h m w → (∀ i, n ≤ i → ¬ m.dom i) → (∀ id c, (id, c) ∈ h → id < n) → Sim0 B (addE h n E) m w ∧ LB m (addE h n E) = LB m h
  | [], h, n, hs, _, _ => ⟨hs, rfl⟩
  | x :: E, h, n, hs, hd, hi => by
    have hnd := hd n (Nat.le_refl _)
    obtain ⟨h1, h2⟩ := sim0_addE E h (n + 1) hs (fun i hi => hd i (by omega)) (fun id c hin => by have := hi id c hin; omega)
    have := sim0_cons (c := x) h1 hnd (fun id c hin => by
      rcases (addE_mem E h (n + 1) id c).1 hin with h3 | ⟨k, _, rfl⟩
      · have := hi id c h3; omega
      · omega)
    refine ⟨this, ?_⟩
    show LB m ((n, x) :: addE h (n + 1) E) = _
    rw [show LB m ((n, x) :: addE h (n + 1) E) = LB m (addE h (n + 1) E) from funext fun b => propext (LB_cons hnd b), h2]

/-- a string as its bytes -/
def bytesP (s : ByteArray) : List PV := s.data.toList.map fun b => PV.int .u8 b.toNat
def byteSl (P : Program) (src dst : TypeId) : Bool :=
  match P.underlying src, P.underlying dst with
  | some _, some (.slice e) => match P.underlying e with
    | some (.int .u8) => true
    | _ => false
  | _, _ => false
omit [LaidW] in
theorem conv_ok (hs : Sim0 B h m w) (hB : B.n ≤ w.heap.size) {src dst : TypeId} (hb : byteSl P src dst = true) (s : ByteArray) :
    ∃ v' w', (convert src dst (.string s)).run P w = .ok v' w' ∧ EPost B h m w n h n (.w true false (.sl s.size (bytesP s))) v' w' m := by
  unfold byteSl at hb
  split at hb
  · rename_i u e hu hd
    split at hb
    · rename_i he
      refine ⟨_, _, Lib.run_convert_string_bytes w src dst e s hu hd he, Mm.le.refl m, same_dom, ⟨rfl, rfl, rfl, by rw [Lib.bytesWorld_size]; exact Nat.le_succ _, fun k hk => Lib.bytesWorld_at_old w e s k (by omega)⟩,
        hs.below ⟨rfl, rfl, rfl, by rw [Lib.bytesWorld_size]; exact Nat.le_succ _, fun b hb => Lib.bytesWorld_at_old w e s b hb⟩, fun b _ h => h, fun b hb _ => Lib.bytesWorld_at_old w e s b hb, .w ?_ (fun h => by cases h)⟩
      have hlen : (bytesP s).length = s.size := by simp [bytesP]
      have hcap : s.size ≤ grownCap w s.size 0 e := grownCap_ge w _ _ e
      refine .sl (b := w.heap.size) (off := 0) (fun j => .int .u8 (s.data.toList.getD j 0).toNat) hcap (fun j hj => ?_) (fun _ => ⟨fun hl => ?_, fun _ => hB, fun hl => ?_⟩) (fun j p hp => ?_)
      · rw [Nat.zero_add]; exact Lib.bytesWorld_cell w e s j (by omega)
      · have := LB_lt hs hl; omega
      · omega
      · unfold bytesP at hp
        rw [List.getElem?_map] at hp
        obtain ⟨b, hb1, rfl⟩ := Option.map_eq_some_iff.1 hp
        have : s.data.toList.getD j 0 = b := by rw [List.getD_eq_getElem?_getD, hb1]; rfl
        rw [this]
        exact .int _ _
    · cases hb
  · cases hb
/-- one operation's effect on the state -/
def convW (P : Program) (env : Env) (h : Heap) (n : Nat) (src dst : TypeId) (x : Operand) (K : AV → Heap → Nat → Prop) : Prop :=
  match ev env x with
  | .w _ _ (.str s) => byteSl P src dst = true ∧ K (.w true false (.sl s.size (bytesP s))) h n
  | _ => QStep P env h n (.convert src dst x) fun v E => K v (addE h n E) (n + E.length)
/-- a map is made -/
def mkMapW (P : Program) (h : Heap) (n : Nat) (t : TypeId) (K : AV → Heap → Nat → Prop) : Prop := (mapT P t).isSome = true ∧ K (.mp n) ((n, [mcell []]) :: h) (n + 1)
/-- a map's entry is set -/
def setMW (P : Program) (env : Env) (h : Heap) (n : Nat) (t : TypeId) (m k v : Operand) (K : AV → Heap → Nat → Prop) : Prop :=
  match ev env m with
  | .mp id => match (hget h id).bind mdec, ev env k, ev env v, mapT P t with
    | some l, .w _ _ kp, .w _ _ vp, some (d, _) => (okM d kp l = true ∧ isLit vp = true) ∧ K (.tup []) (hset h id [mcell (mset l kp vp)]) n
    | _, _, _, _ => False
  | _ => False
def EStep (P : Program) (env : Env) (h : Heap) (n : Nat) (op : Op) (K : AV → Heap → Nat → Prop) : Prop :=
  match op with
  | .store t ad x => storeW P env h n t ad x K
  | .call { callee := .builtin .append, args := args, argTypes := tys } => appendW P env h n args.toList tys.toList K
  | .convert src dst x => convW P env h n src dst x K
  | .makeMap t none => mkMapW P h n t K
  | .mapUpdate t m k v => setMW P env h n t m k v K
  | op => QStep P env h n op fun v E => K v (addE h n E) (n + E.length)

omit [LaidW] in
theorem mset_abs {d : TypeDesc} {k v : PV} (hk : okK d k = true) {es : Array MapEntry} {l : List (PV × PV)} (hes : MapIs es l) (hl : ∀ p ∈ l, okK d p.1 = true) :
    (∀ i q, mfind l k 0 = some (i, q) → MapIs (es.modify i fun e => { e with key := litV k, val := litV v }) (mset l k v)) ∧ (mfind l k 0 = none → ∀ clk, MapIs (es.push { key := litV k, val := litV v, born := clk }) (mset l k v)) := by
  have gen : ∀ (l : List (PV × PV)) (s : Nat) (q : PV) (i : Nat), mfind l k s = some (i, q) → s ≤ i ∧ i - s < l.length ∧ mset l k v = l.set (i - s) (k, v) := by
    intro l
    induction l with
    | nil => intro s q i h; cases h
    | cons p r ih =>
      intro s q i h
      unfold mfind at h
      unfold mset
      split at h
      · rename_i hp
        injection h with h; injection h with h1 _; subst h1
        rw [if_pos hp]
        simp
      · rename_i hp
        rw [if_neg hp]
        obtain ⟨h1, h2, h3⟩ := ih (s + 1) q i h
        refine ⟨by omega, by simp only [List.length_cons]; omega, ?_⟩
        rw [h3, show i - s = (i - (s + 1)) + 1 by omega]; rfl
  have gen2 : ∀ (l : List (PV × PV)) (s : Nat), mfind l k s = none → mset l k v = l ++ [(k, v)] := by
    intro l
    induction l with
    | nil => intro s _; rfl
    | cons p r ih =>
      intro s h
      unfold mfind at h
      unfold mset
      split at h
      · cases h
      · rename_i hp; rw [if_neg hp, ih (s + 1) h]; rfl
  refine ⟨fun i q h => ?_, fun h clk => ?_⟩
  · obtain ⟨_, h2, h3⟩ := gen l 0 q i h
    rw [Nat.sub_zero] at h2 h3
    rw [h3]
    refine ⟨by simp [hes.1], fun j p e hp he => ?_⟩
    rw [List.getElem?_set] at hp
    rw [Array.getElem?_modify] at he
    by_cases hij : i = j
    · subst hij
      simp only [h2, if_true, Option.some.injEq] at hp
      subst hp
      simp only [if_true] at he
      cases hx : es[i]? with
      | none => rw [hx] at he; cases he
      | some y => rw [hx] at he; simp at he; subst he; exact ⟨rfl, rfl⟩
    · simp only [hij, if_false] at hp he
      exact hes.2 j p e hp he
  · rw [gen2 l 0 h]
    refine ⟨by simp [hes.1], fun j p e hp he => ?_⟩
    rcases Nat.lt_or_ge j l.length with hj | hj
    · rw [List.getElem?_append_left hj] at hp
      rw [Array.getElem?_push, if_neg (by have := hes.1; omega)] at he
      exact hes.2 j p e hp he
    · have hjl : j = l.length := by
        have := (List.getElem?_eq_some_iff.1 hp).1
        simp at this; omega
      subst hjl
      simp at hp; subst hp
      rw [Array.getElem?_push, if_pos hes.1] at he
      injection he with he; subst he
      exact ⟨rfl, rfl⟩
omit [LaidW] in
theorem mfind_at : ∀ (l : List (PV × PV)) (k : PV) (s i : Nat) (q : PV), mfind l k s = some (i, q) → ∃ p, l[i - s]? = some p ∧ eqK k p.1 = true
  | [], k, s, i, q, h => by cases h
  | p :: r, k, s, i, q, h => by
    unfold mfind at h
    split at h
    · rename_i hp
      injection h with h; injection h with h1 _; subst h1
      exact ⟨p, by simp, hp⟩
    · obtain ⟨p', h1, h2⟩ := mfind_at r k (s + 1) i q h
      have hi : s + 1 ≤ i := by
        have : ∀ (r : List (PV × PV)) (s : Nat), mfind r k s = some (i, q) → s ≤ i := by
          intro r
          induction r with
          | nil => intro s h; cases h
          | cons y r ih =>
            intro s h
            unfold mfind at h
            split at h
            · injection h with h; injection h with h1 _; omega
            · have := ih (s + 1) h; omega
        exact this r (s + 1) h
      refine ⟨p', ?_, h2⟩
      rw [show i - s = (i - (s + 1)) + 1 by omega, List.getElem?_cons_succ]; exact h1
omit [LaidW] in
theorem eqK_lit {a b : PV} (h : eqK a b = true) : litV a = litV b := by
  cases a <;> cases b <;> simp [eqK] at h
  · obtain ⟨rfl, rfl⟩ := h; rfl
  · subst h; rfl
omit [LaidW] in
theorem setM_ok (hs : Sim0 B h m w) {t : TypeId} {id : Nat} {cells : List AV} {l : List (PV × PV)} {mv kv vv : Value} {ok fk ov fv : Bool} {kp vp : PV} {d : TypeDesc} {z : PV} (hm : RepA B (LB m h) m w (.mp id) mv) (hk : RepA B (LB m h) m w (.w ok fk kp) kv) (hv : RepA B (LB m h) m w (.w ov fv vp) vv)
    (hg : hget h id = some cells) (hd : mdec cells = some l) (ht : mapT P t = some (d, z)) (hc : okM d kp l = true) (hvl : isLit vp = true) :
    ∃ w' m', (Instr.mapUpdate t mv kv vv).run P w = .ok () w' ∧ EPost B h m w n (hset h id [mcell (mset l kp vp)]) n (.tup []) undef w' m' := by
  rw [hset_map h id _ (keys_ne hs)]
  have hin := hget_mem hg
  obtain ⟨b, es, clk, rfl, hdm, hcl, ha, hb, hB, hes⟩ := hs.mapAt hin hm hd
  obtain ⟨kt, et, hu, hd2, _⟩ := mapT_spec ht
  unfold okM at hc
  rw [Bool.and_eq_true, List.all_eq_true] at hc
  obtain ⟨hc1, hc2⟩ := hc
  have hl : ∀ p ∈ l, okK d p.1 = true := fun p hp => by have := hc2 p hp; rw [Bool.and_eq_true] at this; exact this.1
  have hkv : kv = litV kp := by cases hk with | w hr _ => exact lit_of (okK_lit hc1) hr
  have hvv : vv = litV vp := by cases hv with | w hr _ => exact lit_of hvl hr
  subst hkv; subst hvv
  have hf := find_abs hc1 l es.toList 0 (by rw [Array.length_toList]; exact hes.1) (fun j p e hp he => hes.2 j p e hp (by rw [← Array.getElem?_toList]; exact he)) hl
  obtain ⟨q1, q2⟩ := mset_abs (v := vp) hc1 hes hl
  have hrun : ∀ o, (match mfind l kp 0 with
      | some x => o = Obj.map (es.modify x.1 fun e => { e with key := litV kp, val := litV vp }) clk
      | none => o = Obj.map (es.push { key := litV kp, val := litV vp, born := clk }) (clk + 1)) → (Instr.mapUpdate t (.map (some b)) (litV kp) (litV vp)).run P w = .ok () { w with heap := w.heap.setIfInBounds b o } := by
    intro o ho
    unfold Instr.mapUpdate
    simp only [Sem.run_bind, run_underlying hu, Result.andThen_ok, MapKept.run_getObj_map hb]
    rw [show (10000 : Nat) = 9999 + 1 from rfl, MapKept.run_checkKey hd2 (isKey_lit hc1)]
    simp only [Result.andThen_ok]
    rw [MapKept.run_findKey hd2 hf]
    simp only [Result.andThen_ok]
    cases hq : mfind l kp 0 with
    | none =>
      rw [hq] at ho
      simp only [Option.map_none]
      rw [MapKept.run_setObj_map _ hb, ho]
    | some x =>
      rw [hq] at ho
      obtain ⟨i, q⟩ := x
      simp only [Option.map_some]
      have hold : ((es[i]?).map (·.key)).getD (litV kp) = litV kp := by
        obtain ⟨p, hp, hpe⟩ := mfind_at l kp 0 i q hq
        rw [Nat.sub_zero] at hp
        have hil : i < es.size := by rw [← hes.1]; exact (List.getElem?_eq_some_iff.1 hp).1
        have := (hes.2 i p _ hp (Array.getElem?_eq_getElem hil)).1
        rw [Array.getElem?_eq_getElem hil]
        simp only [Option.map_some, Option.getD_some]
        rw [this]; exact (eqK_lit hpe).symm
      simp only [Sem.run_bind, hold, MapKept.run_keyThatStays (isKey_lit hc1), Result.andThen_ok]
      rw [MapKept.run_setObj_map _ hb, ho]
  have hbs : b < w.heap.size := LB_lt hs ⟨id, cells, 0, hin, hdm, ha⟩
  have fin : ∀ es' clk', MapIs es' (mset l kp vp) → (Instr.mapUpdate t (.map (some b)) (litV kp) (litV vp)).run P w = .ok () { w with heap := w.heap.setIfInBounds b (.map es' clk') } →
      ∃ w' m', (Instr.mapUpdate t (.map (some b)) (litV kp) (litV vp)).run P w = .ok () w' ∧ EPost B h m w n (hmap h id [mcell (mset l kp vp)]) n (.tup []) undef w' m' := by
    intro es' clk' hm' hr
    have hlen : cells.length = 1 := isMc_len hcl
    obtain ⟨u1, u2, u3, u4⟩ := upd_entryG (w' := { w with heap := w.heap.setIfInBounds b (.map es' clk') }) hs hin hdm (cells' := [mcell (mset l kp vp)]) (by simp [hlen]) (b' := b) (C' := 0) (fun _ => ha) (.inr ⟨0, ha⟩)
      (fun q hq hne => by
        have : q ≠ b := fun e => hne 0 (by rw [e]; exact ha)
        show (w.heap.setIfInBounds b (.map es' clk'))[q]? = w.heap[q]?
        rw [Array.getElem?_setIfInBounds, if_neg (fun e => this e.symm)])
      (.inr ⟨rfl, es', clk', _, by show (w.heap.setIfInBounds b (.map es' clk'))[b]? = _; rw [Array.getElem?_setIfInBounds, if_pos rfl, if_pos hbs], rfl, hB, hm'⟩)
    refine ⟨_, _, hr, u2, same_dom, ⟨rfl, rfl, rfl, by simp, fun k hk => ?_⟩, u1, u3, u4, .tup rfl (fun j p v hp => by simp at hp)⟩
    show (w.heap.setIfInBounds b (.map es' clk'))[k]? = w.heap[k]?
    rw [Array.getElem?_setIfInBounds, if_neg (by omega)]
  cases hq : mfind l kp 0 with
  | none => exact fin _ _ (q2 hq clk) (hrun _ (by rw [hq]))
  | some x => exact fin _ _ (q1 x.1 x.2 hq) (hrun _ (by rw [hq]))
omit [LaidW] in
theorem mkM_ok (hs : Sim0 B h m w) (hB : B.n ≤ w.heap.size) (hnd : ¬ m.dom n) (hne : ∀ id cs, (id, cs) ∈ h → id < n) (t : TypeId) :
    ∃ v' w' m', (Instr.makeMap t none).run P w = .ok v' w' ∧ EPost B h m w n ((n, [mcell []]) :: h) (n + 1) (.mp n) v' w' m' := by
  have hs1 : Sim0 B ((n, [mcell []]) :: h) m w := sim0_cons hs hnd (fun id cs hin => Nat.ne_of_lt (hne id cs hin))
  have hL : LB m ((n, [mcell []]) :: h) = LB m h := funext fun b => propext (LB_cons hnd b)
  have hin : (n, [mcell []]) ∈ (n, [mcell []]) :: h := by simp
  have hn := new_mapE hs1 hB hin rfl hnd
  refine ⟨.map (some w.heap.size), w.alloc (.map #[] 0), m.new n 1 (some (w.heap.size, 0)), ?_, Mm.new_le hnd, fun i => ?_, (Below.refl _ _).alloc hB _, hn, fun b hb hnl hl => ?_, fun b hb _ => heap_push_old w _ hb, ?_⟩
  · rfl
  · show m.dom i ∨ i = n ↔ m.dom i ∨ n ≤ i ∧ i < n + 1
    constructor
    · rintro (h | h)
      · exact .inl h
      · exact .inr (by omega)
    · rintro (h | h)
      · exact .inl h
      · exact .inr (by omega)
  · rcases LB_new hs1 hin hl with h1 | ⟨C, h1⟩
    · rw [hL] at h1; exact hnl h1
    · injection h1 with h1; injection h1 with h1 _; omega
  · exact .mp (.inr rfl) (by simp [Mm.new]) (by simp [Mm.new])

theorem estep_core (o : Oper) {K : AV → Heap → Nat → Prop} (hk : EStep P env h n o.op K) (hO : LaidW.ok w) (hs : Sim0 B h m w) (hB : B.n ≤ w.heap.size) (hnd : ∀ i, n ≤ i → ¬ m.dom i) (hids : ∀ id c, (id, c) ∈ h → id < n)
    (hxs : ∀ x, x ∈ o.op.operands → RepA B (LB m h) m w (ev env x) (a.eval x)) (Q : Exit → Act → World → Prop) (K' : Act → World → Prop)
    (hK : ∀ v v' h' n' w' m', K v h' n' → EPost B h m w n h' n' v v' w' m' → n ≤ n' → (∀ id c, (id, c) ∈ h' → id < n') → K' (a.put o.dst v') w') : o.wp P a w K' Q := by
  -- from an effect to the new state
  have fin : ∀ (v : AV) (v' : Value) (h' : Heap) (n' : Nat) (w' : World) (m' : Mm), K v h' n' → EPost B h m w n h' n' v v' w' m' → n ≤ n' → (∀ id c, (id, c) ∈ h' → id < n') → K' (a.put o.dst v') w' :=
    fun v v' h' n' w' m' hkk he hn hid => hK v v' h' n' w' m' hkk he hn hid
  have hset_id : ∀ id x, ∀ i c, (i, c) ∈ hset h id x → i < n := by
    intro id x i c hin
    rw [hset_map h id x (keys_ne hs)] at hin
    obtain ⟨p, hp, e⟩ := List.mem_map.1 hin
    have := hids p.1 p.2 hp
    split at e
    · injection e with e1 _; rw [← e1]; exact this
    · have e1 : p.1 = i := by rw [e]
      rw [← e1]; exact this
  have quietly : QStep P env h n o.op (fun v E => K v (addE h n E) (n + E.length)) → o.wp P a w K' Q := by
    intro hk
    obtain ⟨v, E, hq, hkk⟩ := hk.qf
    obtain ⟨s1, s2⟩ := sim0_addE E h n hs hnd hids
    refine hq.sound o hO s1 hB (fun id cs e => (addE_mem E h n id cs).2 (.inl (hget_mem e))) (fun k cs e => (addE_mem E h n _ cs).2 (.inr ⟨k, e, rfl⟩)) (fun k hk => hnd _ (by omega)) (fun x hx => by rw [s2]; exact hxs x hx) K' Q ?_
    rintro v' w' m' ⟨p1, p2, p3, p4, p5, p6⟩
    refine fin v v' _ _ w' m' hkk ⟨p1, fun i => ?_, p3.mono hB, p4, fun b hb hn hl => ?_, fun b hb _ => p3.block b hb, p6⟩ (by omega) (fun i c hin => ?_)
    · rw [p2]
    · rcases p5 b hl with h1 | h1
      · rw [s2] at h1; exact hn h1
      · omega
    · rcases (addE_mem E h n i c).1 hin with h1 | ⟨k, h1, rfl⟩
      · have := hids i c h1
        omega
      · have := (List.getElem?_eq_some_iff.1 h1).1
        omega
  unfold EStep at hk
  split at hk
  · rename_i t ad x ho
    unfold storeW at hk
    split at hk
    · rename_i sz g id ver off ht had
      split at hk
      · rename_i cells hg
        obtain ⟨⟨c1, c2, c3, c4, c5⟩, hkk⟩ := hk
        obtain ⟨w', m', hrun, hpost⟩ := store_ok hs ht (by rw [← had]; exact hxs ad (by rw [ho]; simp [Op.operands])) (hxs x (by rw [ho]; simp [Op.operands])) hg c1 c2 c3 c4 c5
        unfold Oper.wp
        have : (execOp a.eval o).run P w = .ok .skip w' := by simp [execOp, ho, hrun]
        rw [this, Oper.upon_skip]
        exact fin _ _ _ _ _ _ hkk hpost (Nat.le_refl _) (hset_id _ _)
      · exact hk.elim
    · exact hk.elim
  · rename_i args tys ho
    unfold appendW at hk
    split at hk
    · rename_i s x t tx hargs htys
      have ha : args = #[s, x] := by rw [← Array.toArray_toList (xs := args), hargs]
      have hty : tys = #[t, tx] := by rw [← Array.toArray_toList (xs := tys), htys]
      subst ha; subst hty
      have hop : ∀ v' w', (Builtin.append_ #[t, tx] o.type #[a.eval s, a.eval x]).run P w = .ok v' w' → (execOp a.eval o).run P w = .ok (.value v') w' := by
        intro v' w' hr
        simp [execOp, ho, resolve, invoke, builtin, hr]
      split at hk
      · rename_i e sz ex ht htx
        split at hk
        · rename_i by_ z k2 news c hby hz hsrc
          split at hk
          · rename_i id ver z' off k es
            split at hk
            · rename_i cells hg
              obtain ⟨⟨c0, coff, c1, c2, c3, c4, c5, c6, c7, c8⟩, hkk⟩ := hk
              subst coff; subst c2
              obtain ⟨v', w', m', hrun, hpost⟩ := append_msl hs hB ht htx hby hz hsrc c0 (hxs x (by rw [ho]; simp [Op.operands, Call.operands])) (by rw [← es]; exact hxs s (by rw [ho]; simp [Op.operands, Call.operands])) hg c1 c3 c4 c5 c6 c7 c8 o.type
              unfold Oper.wp
              rw [hop _ _ hrun, Oper.upon_value]
              exact fin _ _ _ _ _ _ hkk hpost (Nat.le_refl _) (hset_id _ _)
            · exact hk.elim
          · rename_i own k cells es
            cases hcond : (own && decide (k = 0) && cells.isEmpty) with
            | true =>
              rw [hcond] at hk
              simp only [cond_true] at hk
              obtain ⟨⟨c0, c1, c3, _, c6, c7⟩, hkk⟩ := hk
              simp only [Bool.and_eq_true, decide_eq_true_eq] at hcond
              obtain ⟨⟨h1, h2⟩, h3⟩ := hcond
              have h3' : cells = [] := by simpa using h3
              subst h2; subst h3'
              obtain ⟨v', w', m', hrun, hpost⟩ := append_nil' hs (hnd n (Nat.le_refl _)) hids hB ht htx hby hz hsrc c0 (hxs x (by rw [ho]; simp [Op.operands, Call.operands])) (by rw [← es]; exact hxs s (by rw [ho]; simp [Op.operands, Call.operands])) c1 c3 c6 c7 o.type
              unfold Oper.wp
              rw [hop _ _ hrun, Oper.upon_value]
              refine fin _ _ _ _ _ _ hkk hpost (by omega) (fun i c hin => ?_)
              rcases List.mem_cons.1 hin with e | e
              · injection e with e1 _; omega
              · have := hids i c e
                omega
            | false =>
              rw [hcond] at hk
              simp only [cond_false] at hk
              split at hk
              · rename_i q hq
                obtain ⟨⟨c0, c1, c3, _, c6, c7⟩, hkk⟩ := hk
                obtain ⟨v', w', m', hrun, hpost⟩ := append_full hs hB ht htx hby hz hsrc c0 (hxs x (by rw [ho]; simp [Op.operands, Call.operands])) hq (by rw [← es]; exact hxs s (by rw [ho]; simp [Op.operands, Call.operands])) c1 c3 c6 c7 o.type
                unfold Oper.wp
                rw [hop _ _ hrun, Oper.upon_value]
                exact fin _ _ _ _ _ _ hkk hpost (Nat.le_refl _) hids
              · exact hk.elim
          · exact hk.elim
        · exact hk.elim
      · exact hk.elim
    · exact hk.elim
  · rename_i src dst x ho
    have quiet : QStep P env h n (.convert src dst x) (fun v E => K v (addE h n E) (n + E.length)) → o.wp P a w K' Q := by
      intro hk
      rw [← ho] at hk
      exact quietly hk
    unfold convW at hk
    split at hk
    · rename_i o' f' s es
      obtain ⟨hb, hkk⟩ := hk
      have hx := hxs x (by rw [ho]; simp [Op.operands])
      rw [es] at hx
      obtain ⟨v', w', hrun, hpost⟩ := conv_ok hs hB hb s
      unfold Oper.wp
      have : (execOp a.eval o).run P w = .ok (.value v') w' := by simp [execOp, ho, hx.str_inv, hrun]
      rw [this, Oper.upon_value]
      exact fin _ _ _ _ _ _ hkk hpost (Nat.le_refl _) hids
    · exact quiet hk
  · rename_i t ho
    obtain ⟨_, hkk⟩ := hk
    obtain ⟨v', w', m', hrun, hpost⟩ := mkM_ok (P := P) hs hB (hnd n (Nat.le_refl _)) hids t
    unfold Oper.wp
    have : (execOp a.eval o).run P w = .ok (.value v') w' := by simp [execOp, ho, hrun]
    rw [this, Oper.upon_value]
    refine fin _ _ _ _ _ _ hkk hpost (by omega) (fun i c hin => ?_)
    rcases List.mem_cons.1 hin with e | e
    · injection e with e1 _; omega
    · have := hids i c e
      omega
  · rename_i t mo ko vo ho
    unfold setMW at hk
    split at hk
    · rename_i id hm
      split at hk
      · rename_i l ok fk kp ov fv vp d z hl hke hve hmt
        obtain ⟨⟨c1, c2⟩, hkk⟩ := hk
        obtain ⟨cells, hg, hd⟩ : ∃ cells, hget h id = some cells ∧ mdec cells = some l := by
          cases hg : hget h id with
          | none => rw [hg] at hl; cases hl
          | some cells => rw [hg] at hl; exact ⟨cells, rfl, hl⟩
        obtain ⟨w', m', hrun, hpost⟩ := setM_ok (n := n) hs (by rw [← hm]; exact hxs mo (by rw [ho]; simp [Op.operands])) (by rw [← hke]; exact hxs ko (by rw [ho]; simp [Op.operands])) (by rw [← hve]; exact hxs vo (by rw [ho]; simp [Op.operands])) hg hd hmt c1 c2
        unfold Oper.wp
        have : (execOp a.eval o).run P w = .ok .skip w' := by simp [execOp, ho, hrun]
        rw [this, Oper.upon_skip]
        exact fin _ _ _ _ _ _ hkk hpost (Nat.le_refl _) (hset_id _ _)
      · exact hk.elim
    · exact hk.elim
  · exact quietly hk

theorem estep_nd {o : Op} {K : AV → Heap → Nat → Prop} (hk : EStep P env h n o K) : ∀ c, o ≠ .defer c := by
  intro c e
  subst e
  simp [EStep, QStep, aOp] at hk
theorem qf_nd {o : Op} {v : AV} {E : List (List AV)} (hk : QF P env h n o v E) : ∀ c, o ≠ .defer c := by
  intro c e
  subst e
  rcases hk with ⟨c, h1, _⟩ | ⟨f, args, tys, g, caps, pvs, res, fr, h1, _⟩
  · simp [aOp] at h1
  · cases h1
omit [LaidW] in
theorem wpIn_of_wp {o : Oper} {r : Option Nat} {a : Act} {w : World} {K : Act → World → Prop} {Q : Exit → Act → World → Prop} (hd : ∀ c, o.op ≠ .defer c) (h : o.wp P a w K Q) : o.wpIn (Fe r) 0 P a w K Q := by
  refine ⟨fun _ _ => trivial, ?_⟩
  rw [show o.semAt (Fe r).round a.eval = execOp a.eval o from Oper.semAt_eq _ _ _ hd]
  unfold Oper.wp at h
  generalize (execOp a.eval o).run P w = R at *
  cases R with
  | ok x w' =>
    cases x with
    | value v => exact h
    | skip => exact h
    | defer d => exact h
    | enter f args =>
      have hc : Calls P f args w' fun
        | .returned v, w'' => K (a.put o.dst v) w''
        | .panicked chain, w'' => Q (.panic chain) a w''
        | .outgrown, _ => LetsOut Q := h
      exact ⟨fun e => absurd e (by simp [Fe, Fence.wide]), (callsIn_wide (n := 0 - 1)).2 hc⟩
    | row row args =>
      have hc : Rows P row args w' fun v w'' => K (a.put o.dst v) w'' := h
      exact ⟨fun e => absurd e (by simp [Fe, Fence.wide]), fun c cs _ => let ⟨v, w', r', s⟩ := hc c cs; ⟨v, w', r', stepsIn_wide.2 s⟩⟩
    | _ => exact h.elim
  | halt x w' =>
    cases x with
    | panic v => exact h
    | _ => exact h.elim

theorem estep_sound {fk : Fk} (w0 : Ctx fk) (o : Oper) {nt : Nat} {K : AV → Heap → Nat → Prop} (hk : EStep P env h n o.op K) (hs : Sim B w0 ⟨env, h, n, nt⟩ a w m) (hdk : dOk nt o.dst) (Q : Exit → Act → World → Prop) (K' : Act → World → Prop)
    (hK : ∀ v h' n' a' w' m', K v h' n' → Sim B w0 ⟨put env o.dst v, h', n', nt⟩ a' w' m' → K' a' w') : o.wp P a w K' Q := by
  refine estep_core o hk hs.ok hs.heap hs.room (fun i hi hd => by have := (hs.dom i).1 hd; simp only at this; omega) hs.ids (fun x _ => ev_rep x (fun t _ => hs.env t)) Q K' ?_
  rintro v v' h' n' w' m' hkk ⟨e1, e2, e3, e4, e5, e6, e7⟩ hn hid
  refine hK v h' n' _ w' m' hkk ⟨hs.base, hs.below.trans e3, by rw [put_defers]; exact hs.defers, by rw [put_size]; exact hs.size, ?_, e4, fun i => ?_, hid, hs.fr.mono e1 e5 e6 hn⟩
  · exact get_put env a o.dst v v' (by rw [hs.size]; exact hdk) e7 (fun t => (hs.env t).mono e1 e5 e6)
  · rw [e2, hs.dom]
    show i < n ∨ _ ↔ i < n'
    omega
end
end Go.Fi

namespace Go.Fi
open Go Go.RowKit
variable [LaidW]

/-- is an operation run? -/
def wantedA (ops : Array Oper) (env : Env) (o : Oper) : Option Bool :=
  match o.guard with
  | none => some true
  | some (j, want) =>
    match (ops[j]?).bind (·.dst) with
    | none => some false
    | some t =>
      match get env t with
      | .w _ _ (.bool b) => some (b == want)
      | .tup [] => some false
      | _ => none

def aOps (P : Program) (ops : Array Oper) (nt : Nat) : List Oper → Env → Heap → Nat → (Env → Heap → Nat → Prop) → Prop
  | [], e, h, n, K => K e h n
  | o :: os, e, h, n, K =>
    match wantedA ops e o with
    | some g => dOk nt o.dst ∧ (g = true → EStep P e h n o.op fun v h' n' => aOps P ops nt os (put e o.dst v) h' n' K) ∧
        (g = false → aOps P ops nt os (put e o.dst (.tup [])) h n K)
    | none => False

/-- from a state the code comes to one of which K holds -/
def AWPk (fk : Fk) (P : Program) (c : Code) (st : St) (K : Exit → St → Prop) : Prop :=
  ∀ (B : Base) (w0 : Ctx fk) (a : Act) (w : World) (m : Mm), Sim B w0 st a w m → c.wpIn (Fe w0.r) 0 P (fun e a' w' => ∃ st' m', K e st' ∧ Sim B w0 st' a' w' m') a w

/-- weakening -/
def Lek (fk : Fk) (st st' : St) : Prop := ∀ (B : Base) (w0 : Ctx fk) (a : Act) (w : World) (m : Mm), Sim B w0 st a w m → ∃ m', Sim B w0 st' a w m'

section
variable {fk : Fk} {P : Program} {K : Exit → St → Prop} {st st' : St}

theorem wanted_sound {ops : Array Oper} {env : Env} {o : Oper} {g : Bool} {B : Base} {w0 : Ctx fk} {h : Heap} {n nt : Nat} {a : Act} {w : World} {m : Mm} (hg : wantedA ops env o = some g) (hs : Sim B w0 ⟨env, h, n, nt⟩ a w m) : Region.wanted o (yielded ops a.tmps) = g := by
  unfold wantedA at hg
  unfold Region.wanted
  split at hg
  · rename_i e; rw [e]; injection hg
  · rename_i j want e
    rw [e]
    simp only
    split at hg
    · rename_i ed
      injection hg with hg; subst hg
      simp [yielded, ed]
    · rename_i t ed
      have ht := hs.env t
      split at hg
      · rename_i ow f b eg
        injection hg with hg; subst hg
        rw [show get (St.env ⟨env, h, n, nt⟩) t = get env t from rfl, eg] at ht
        have hv := ht.bool_inv
        have hlt : t < a.tmps.size := by
          rcases Nat.lt_or_ge t a.tmps.size with h | h
          · exact h
          · rw [Array.getD_eq_getD_getElem?, Array.getElem?_eq_none h] at hv
            cases hv
        have hq : a.tmps[t]? = some (.bool b) := by
          rw [Array.getD_eq_getD_getElem?, Array.getElem?_eq_getElem hlt] at hv
          rw [Array.getElem?_eq_getElem hlt]
          simpa using hv
        simp only [yielded, ed, Option.bind_some, hq]
        cases b <;> cases want <;> rfl
      · rename_i eg
        injection hg with hg; subst hg
        rw [show get (St.env ⟨env, h, n, nt⟩) t = get env t from rfl, eg] at ht
        obtain ⟨vs, hv, hl, _⟩ := ht.tup_inv
        have hvs : vs = #[] := by simpa using hl.symm
        subst hvs
        have : yielded ops a.tmps j = none := by
          simp only [yielded, ed, Option.bind_some]
          rw [Array.getD_eq_getD_getElem?] at hv
          cases hq : a.tmps[t]? with
          | none => rfl
          | some x => rw [hq] at hv; simp at hv; subst hv; rfl
        rw [this]; rfl
      · cases hg

theorem aOps_sound {ops : Array Oper} {nt : Nat} {B : Base} {w0 : Ctx fk} {Kr : Env → Heap → Nat → Prop} {Q : Exit → Act → World → Prop} (hQ : ∀ e h n a w m, Kr e h n → Sim B w0 ⟨e, h, n, nt⟩ a w m → Q .normal a w) :
    ∀ (os : List Oper) (e : Env) (h : Heap) (n : Nat) (a : Act) (w : World) (m : Mm), aOps P ops nt os e h n Kr → Sim B w0 ⟨e, h, n, nt⟩ a w m → wpListIn (Fe w0.r) 0 P ops Q os a w
  | [], e, h, n, a, w, m, hk, hs => hQ e h n a w m hk hs
  | o :: os, e, h, n, a, w, m, hk, hs => by
    simp only [aOps] at hk
    split at hk
    · rename_i g hg
      have hw := wanted_sound hg hs
      simp only [wpListIn, hw]
      cases g with
      | true =>
        simp only [if_true]
        exact wpIn_of_wp (estep_nd (hk.2.1 rfl)) (estep_sound w0 o (K := fun v h' n' => aOps P ops nt os (put e o.dst v) h' n' Kr) (hk.2.1 rfl) hs hk.1 Q _ (fun v h' n' a' w' m' hk' hs' => aOps_sound hQ os _ _ _ _ _ m' hk' hs'))
      | false =>
        simp only [Bool.false_eq_true, if_false]
        refine ⟨fun _ _ => trivial, aOps_sound hQ os _ _ _ _ _ m (hk.2.2 rfl) ⟨hs.base, hs.below, by rw [put_defers]; exact hs.defers, by rw [put_size]; exact hs.size, ?_, hs.heap, hs.dom, hs.ids, hs.fr⟩⟩
        exact get_put e a o.dst _ _ (by rw [hs.size]; exact hk.1) (.tup rfl (fun j p v hp => by simp at hp)) hs.env
    · exact hk.elim

theorem awp_region {id : Nat} {ops : Array Oper} {env : Env} {h : Heap} {n nt : Nat} (hk : aOps P ops nt ops.toList env h n fun e' h' n' => K .normal ⟨e', h', n', nt⟩) : AWPk fk P (.region id ops false) ⟨env, h, n, nt⟩ K :=
  fun _ _ _ _ _ hs => wpIn_region_list (aOps_sound (fun _ _ _ _ _ m hk' hs' => ⟨_, m, hk', hs'⟩) ops.toList _ _ _ _ _ _ hk hs)

def thenK (fk : Fk) (P : Program) (b : Code) (K : Exit → St → Prop) : Exit → St → Prop
  | .normal, s => AWPk fk P b s K
  | e, s => K e s
theorem awp_seq {x y : Code} (h : AWPk fk P x st (thenK fk P y K)) : AWPk fk P (.seq x y) st K :=
  fun B w0 a w m hs => wpIn_seq (wpIn_mono (h B w0 a w m hs) (fun e a' w' ⟨st', m', h1, h2⟩ => by
    cases e <;> first | exact h1 B w0 a' w' m' h2 | exact ⟨st', m', h1, h2⟩))
theorem awp_skip (h : K .normal st) : AWPk fk P .skip st K := fun _ _ _ _ m hs => wpIn_skip ⟨st, m, h, hs⟩
theorem awp_ret (h : K .ret st) : AWPk fk P .ret st K := fun _ _ _ _ m hs => wpIn_ret ⟨st, m, h, hs⟩
theorem awp_exit {id : Nat} (h : K (.exit id) st) : AWPk fk P (.exit id) st K := fun _ _ _ _ m hs => wpIn_exit ⟨st, m, h, hs⟩
def blockK (id : Nat) (K : Exit → St → Prop) : Exit → St → Prop
  | .exit id', s => if id' = id then K .normal s else K (.exit id') s
  | e, s => K e s
theorem awp_block {id : Nat} {c : Code} (h : AWPk fk P c st (blockK id K)) : AWPk fk P (.block id c) st K :=
  fun B w0 a w m hs => wpIn_block (wpIn_mono (h B w0 a w m hs) (fun e a' w' ⟨st', m', h1, h2⟩ => by
    cases e <;> first
      | exact ⟨st', m', h1, h2⟩
      | (simp only [Exit.inBlock]; simp only [blockK] at h1; split <;> (rename_i hid; simp only [hid, if_true, if_false] at h1; exact ⟨st', m', h1, h2⟩))))

/-- a test -/
def condW (v : AV) (X Y : Prop) : Prop :=
  match v with
  | .w _ _ (.bool b) => (b = true → X) ∧ (b = false → Y)
  | .w _ _ .anyb => X ∧ Y
  | _ => False
theorem awp_cond {c : Operand} {x y : Code} (h : condW (ev st.env c) (AWPk fk P x st K) (AWPk fk P y st K)) : AWPk fk P (.cond c x y) st K := by
  intro B w0 a w m hs
  have hc : RepA B (LB m st.heap) m w (ev st.env c) (a.eval c) := ev_rep c (fun t _ => hs.env t)
  unfold condW at h
  split at h
  · rename_i o f b e
    rw [e] at hc
    refine wpIn_cond hc.bool_inv ?_
    cases b
    · exact h.2 rfl B w0 a w m hs
    · exact h.1 rfl B w0 a w m hs
  · rename_i o f e
    rw [e] at hc
    have : ∃ b, a.eval c = .bool b := by
      generalize hv : a.eval c = v at hc
      cases hc with | w h _ => cases h with | anyb b => exact ⟨b, rfl⟩
    obtain ⟨b, hb⟩ := this
    refine wpIn_cond hb ?_
    cases b
    · exact h.2 B w0 a w m hs
    · exact h.1 B w0 a w m hs
  · exact h.elim

theorem awp_fr {c : Code} (h : fk.k ≤ st.nxt → AWPk fk P c st K) : AWPk fk P c st K := fun B w0 a w m hs => h hs.fr.1 B w0 a w m hs
theorem awp_le {c : Code} (hle : Lek fk st st') (h : AWPk fk P c st' K) : AWPk fk P c st K :=
  fun B w0 a w m hs => let ⟨m', hs'⟩ := hle B w0 a w m hs; h B w0 a w m' hs'

omit [LaidW] in
theorem wpIn_loop_ghost {F : Fence} {n : Nat} {Q : Exit → Act → World → Prop} {a : Act} {w : World} {c : Code} (I : Nat → Act → World → Prop) (n₀ : Nat) (h₀ : I n₀ a w)
    (round : ∀ k a w, I k a w → c.wpIn F n P (Exit.then (fun a' w' => ∃ n', n' < k ∧ I n' a' w') Q) a w) : (Code.loop c).wpIn F n P Q a w := by
  refine wpIn_loop (fun a w => ∃ n, I n a w) (fun a w => leastOf (fun n => I n a w)) ⟨n₀, h₀⟩ ?_
  intro a w hI
  refine wpIn_mono (round _ a w (leastOf_spec hI).1) ?_
  intro e a' w' hq
  cases e with
  | normal =>
    obtain ⟨n', hlt, hI'⟩ := hq
    exact show (∃ n, I n a' w') ∧ leastOf (fun n => I n a' w') < leastOf (fun n => I n a w) from ⟨⟨n', hI'⟩, Nat.lt_of_le_of_lt ((leastOf_spec ⟨n', hI'⟩).2 n' hI') hlt⟩
  | _ => exact hq

def loopK (fk : Fk) {α : Type} (J : α → Prop) (I : α → St) (μ : α → Nat) (x : α) (K : Exit → St → Prop) : Exit → St → Prop
  | .normal, s => ∃ y, J y ∧ μ y < μ x ∧ Lek fk s (I y)
  | e, s => K e s
theorem awp_loop {c : Code} {α : Type} (J : α → Prop) (I : α → St) (μ : α → Nat) (x0 : α) (hJ : J x0) (h0 : Lek fk st (I x0)) (round : ∀ x, J x → AWPk fk P c (I x) (loopK fk J I μ x K)) : AWPk fk P (.loop c) st K := by
  intro B w0 a w m hs
  refine wpIn_loop_ghost (fun k a w => ∃ x m, J x ∧ μ x = k ∧ Sim B w0 (I x) a w m) (μ x0) (by obtain ⟨m', h⟩ := h0 B w0 a w m hs; exact ⟨x0, m', hJ, rfl, h⟩) ?_
  rintro k a w ⟨x, m, hx, rfl, hsx⟩
  refine wpIn_mono (round x hx B w0 a w m hsx) (fun e a' w' ⟨st', m', h2, h3⟩ => ?_)
  cases e <;> first
    | exact ⟨st', m', h2, h3⟩
    | (obtain ⟨y, hy, hlt, hle⟩ := h2
       obtain ⟨m'', h4⟩ := hle B w0 a' w' m' h3
       exact ⟨μ y, hlt, y, m'', hy, rfl, h4⟩)

/-- what a loop in its block comes to: it is left, or the function is -/
def forK (fk : Fk) {β : Type} (id : Nat) (F : β → Prop) (fin : β → St) (R : St → Prop) : Exit → St → Prop
  | .exit i, s => i = id ∧ ∃ y, F y ∧ Lek fk s (fin y)
  | .ret, s => R s
  | _, _ => False
end
end Go.Fi

namespace Go.Fi
open Go Go.RowKit
variable [LaidW]

/-- is operation j surely run before i? -/
def reach (ops : Array Oper) : Nat → Nat → Nat → Bool
  | 0, _, _ => false
  | f + 1, i, j =>
    match ops[i]? with
    | some o => o.after.toList.any fun e => Region.binds .any e && (e.on == j || reach ops f e.on j)
    | none => false

def dstOf (ops : Array Oper) (i : Nat) : Option Nat := (ops[i]?).bind (·.dst)
def opTmps (ops : Array Oper) (o : Oper) : List Nat :=
  (o.op.operands.toList.filterMap fun x => match x with | .tmp t => some t | _ => none) ++ (match o.guard with | some (j, _) => (dstOf ops j).toList | none => [])

/-- the first k operations may be run in any order; each later one waits for all ahead of it -/
def chkP (ops : Array Oper) (k : Nat) : Bool :=
  decide (k ≤ ops.size) &&
  ((List.range ops.size).all fun i => match ops[i]? with
    | some o => o.after.toList.all fun e => !Region.binds .any e || decide (e.on < i)
    | none => true) &&
  ((List.range k).all fun i => match ops[i]? with
    | some o => ((opTmps ops o).all fun t => (List.range k).all fun j => if dstOf ops j = some t then decide (j < i) && reach ops 4 i j else true) &&
        ((List.range k).all fun j => decide (j = i) || o.dst.isNone || decide (dstOf ops j ≠ o.dst))
    | none => false) &&
  ((List.range ops.size).all fun i => decide (i < k) || (List.range i).all fun j => reach ops 8 i j)

/-- quiet operations in the order of the text -/
def aPre (P : Program) (ops : Array Oper) (nt : Nat) : List Oper → Env → Heap → Nat → (Env → Heap → Nat → Prop) → Prop
  | [], e, h, n, K => K e h n
  | o :: os, e, h, n, K =>
    match wantedA ops e o with
    | some g => dOk nt o.dst ∧ (g = true → QStep P e h n o.op fun v E => aPre P ops nt os (put e o.dst v) (addE h n E) (n + E.length) K) ∧
        (g = false → aPre P ops nt os (put e o.dst (.tup [])) h n K)
    | none => False

/-- what the quiet operations come to -/
structure Tr (P : Program) (ops : Array Oper) (nt : Nat) (os : List Oper) (e : Env) (h : Heap) (n : Nat) where
  es : Nat → Env
  hs : Nat → Heap
  ns : Nat → Nat
  vs : Nat → AV
  Es : Nat → List (List AV)
  gs : Nat → Bool
  e0 : es 0 = e
  h0 : hs 0 = h
  n0 : ns 0 = n
  step : ∀ i o, os[i]? = some o → dOk nt o.dst ∧ wantedA ops (es i) o = some (gs i) ∧ es (i + 1) = put (es i) o.dst (vs i) ∧ hs (i + 1) = addE (hs i) (ns i) (Es i) ∧ ns (i + 1) = ns i + (Es i).length ∧
    (gs i = true → QF P (es i) (hs i) (ns i) o.op (vs i) (Es i)) ∧ (gs i = false → vs i = .tup [] ∧ Es i = [])

theorem aPre_tr {P : Program} {ops : Array Oper} {nt : Nat} {K : Env → Heap → Nat → Prop} : ∀ (os : List Oper) (e : Env) (h : Heap) (n : Nat), aPre P ops nt os e h n K → ∃ T : Tr P ops nt os e h n, K (T.es os.length) (T.hs os.length) (T.ns os.length)
  | [], e, h, n, hk => ⟨⟨fun _ => e, fun _ => h, fun _ => n, fun _ => .tup [], fun _ => [], fun _ => true, rfl, rfl, rfl, fun i o hi => by simp at hi⟩, hk⟩
  | o :: os, e, h, n, hk => by
    simp only [aPre] at hk
    split at hk
    · rename_i g hg
      obtain ⟨hd, h1, h2⟩ := hk
      have main : ∀ (v : AV) (E : List (List AV)), (g = true → QF P e h n o.op v E) → (g = false → v = .tup [] ∧ E = []) → aPre P ops nt os (put e o.dst v) (addE h n E) (n + E.length) K →
          ∃ T : Tr P ops nt (o :: os) e h n, K (T.es (o :: os).length) (T.hs (o :: os).length) (T.ns (o :: os).length) := by
        intro v E q1 q2 hr
        obtain ⟨T, hK⟩ := aPre_tr os _ _ _ hr
        refine ⟨⟨fun i => match i with | 0 => e | i + 1 => T.es i, fun i => match i with | 0 => h | i + 1 => T.hs i, fun i => match i with | 0 => n | i + 1 => T.ns i,
          fun i => match i with | 0 => v | i + 1 => T.vs i, fun i => match i with | 0 => E | i + 1 => T.Es i, fun i => match i with | 0 => g | i + 1 => T.gs i, rfl, rfl, rfl, fun i o' hi => ?_⟩, hK⟩
        cases i with
        | zero =>
          simp at hi; subst hi
          exact ⟨hd, hg, T.e0, T.h0, T.n0, q1, q2⟩
        | succ i => exact T.step i o' (by simpa using hi)
      cases g with
      | true =>
        obtain ⟨v, E, q, hr⟩ := (h1 rfl).qf
        exact main v E (fun _ => q) (fun h => by cases h) hr
      | false => exact main (.tup []) [] (fun h => by cases h) (fun _ => ⟨rfl, rfl⟩) (h2 rfl)
    · exact hk.elim

section
variable {P : Program} {ops : Array Oper} {nt : Nat} {os : List Oper} {e : Env} {h : Heap} {n : Nat}

theorem Tr.ns_mono (T : Tr P ops nt os e h n) {i j : Nat} (hij : i ≤ j) (hj : j ≤ os.length) : T.ns i ≤ T.ns j := by
  induction j with
  | zero => have : i = 0 := by omega
            subst this; exact Nat.le_refl _
  | succ j ih =>
    by_cases hi : i = j + 1
    · subst hi; exact Nat.le_refl _
    · have := ih (by omega) (by omega)
      have hs := (T.step j os[j] (List.getElem?_eq_getElem (by omega))).2.2.2.2.1
      omega

theorem Tr.hs_sub (T : Tr P ops nt os e h n) {i j : Nat} (hij : i ≤ j) (hj : j ≤ os.length) {p : Nat × List AV} (hp : p ∈ T.hs i) : p ∈ T.hs j := by
  induction j with
  | zero => have : i = 0 := by omega
            subst this; exact hp
  | succ j ih =>
    by_cases hi : i = j + 1
    · subst hi; exact hp
    · have := ih (by omega) (by omega)
      have hs := (T.step j os[j] (List.getElem?_eq_getElem (by omega))).2.2.2.1
      rw [hs]
      exact (addE_mem (T.Es j) (T.hs j) (T.ns j) p.1 p.2).2 (.inl this)

/-- the environment ahead of operation i: the last one that wrote the slot -/
theorem Tr.get_es (T : Tr P ops nt os e h n) (i : Nat) (hi : i ≤ os.length) (t : Nat) :
    (∃ (j : Nat) (o : Oper), j < i ∧ os[j]? = some o ∧ o.dst = some t ∧ get (T.es i) t = T.vs j) ∨ ((∀ (j : Nat) (o : Oper), j < i → os[j]? = some o → o.dst ≠ some t) ∧ get (T.es i) t = get e t) := by
  induction i with
  | zero => rw [T.e0]; exact .inr ⟨fun j o hj => by omega, rfl⟩
  | succ i ih =>
    have hgi : os[i]? = some os[i] := List.getElem?_eq_getElem (by omega)
    have hs := (T.step i os[i] hgi).2.2.1
    rw [hs]
    cases hd : os[i].dst with
    | none =>
      simp only [put]
      rcases ih (by omega) with ⟨j, o, h1, h2, h3, h4⟩ | ⟨h1, h2⟩
      · exact .inl ⟨j, o, by omega, h2, h3, h4⟩
      · refine .inr ⟨fun j o hj ho => ?_, h2⟩
        by_cases hji : j = i
        · subst hji; rw [hgi] at ho; injection ho with ho; subst ho; rw [hd]; simp
        · exact h1 j o (by omega) ho
    | some d =>
      simp only [put, get]
      by_cases hdt : d = t
      · subst hdt
        simp only [if_true]
        exact .inl ⟨i, os[i], by omega, hgi, hd, rfl⟩
      · simp only [hdt, if_false]
        rcases ih (by omega) with ⟨j, o, h1, h2, h3, h4⟩ | ⟨h1, h2⟩
        · exact .inl ⟨j, o, by omega, h2, h3, h4⟩
        · refine .inr ⟨fun j o hj ho => ?_, h2⟩
          by_cases hji : j = i
          · subst hji; rw [hgi] at ho; injection ho with ho; subst ho; rw [hd]; simpa using hdt
          · exact h1 j o (by omega) ho
end
end Go.Fi

namespace Go.Fi
open Go Go.RowKit
variable [LaidW]
variable {fk : Fk}

section
variable {P : Program} {ops : Array Oper} {nt : Nat} {k : Nat}

def Closed (ops : Array Oper) (listed : Array Bool) : Prop :=
  ∀ (i : Nat) (o : Oper), ops[i]? = some o → listed.getD i false = true → ∀ e ∈ o.after, Region.binds .any e = true → listed.getD e.on false = true

omit [LaidW] in
theorem reach_listed {listed : Array Bool} (hc : Closed ops listed) : ∀ (f i j : Nat) (o : Oper), ops[i]? = some o → (∀ e ∈ o.after, Region.binds .any e = true → listed.getD e.on false = true) → reach ops f i j = true → listed.getD j false = true
  | 0, _, _, _, _, _, h => by simp [reach] at h
  | f + 1, i, j, o, ho, he, h => by
    simp only [reach, ho, List.any_eq_true, Bool.and_eq_true, Bool.or_eq_true] at h
    obtain ⟨e, hin, hb, h1⟩ := h
    have hl := he e (Array.mem_toList_iff.1 hin) hb
    rcases h1 with h1 | h1
    · have : e.on = j := by simpa using h1
      rw [← this]; exact hl
    · cases ho' : ops[e.on]? with
      | none => cases f <;> simp [reach, ho'] at h1
      | some o' => exact reach_listed hc f e.on j o' ho' (hc e.on o' ho' hl) h1

omit [LaidW] in
theorem Closed.set {listed : Array Bool} (hc : Closed ops listed) {i : Nat} {o : Oper} (ho : ops[i]? = some o) (he : ∀ e ∈ o.after, Region.binds .any e = true → listed.getD e.on false = true) : Closed ops (listed.setIfInBounds i true) := by
  intro j o' ho' hl e hin hb
  by_cases hij : i = j
  · subst hij
    rw [ho] at ho'; injection ho' with ho'; subst ho'
    exact getD_set_true (he e hin hb)
  · rw [getD_set_ne false hij] at hl
    exact getD_set_true (hc j o' ho' hl e hin hb)

/-- the number of operations still to be run -/
def open_ (listed : Array Bool) : Nat := listed.toList.countP (fun b => !b)
omit [LaidW] in
theorem open_set {listed : Array Bool} {i : Nat} (hi : listed[i]? = some false) : open_ (listed.setIfInBounds i true) + 1 = open_ listed := by
  unfold open_
  obtain ⟨l⟩ := listed
  simp only [List.getElem?_toArray] at hi
  simp only [List.setIfInBounds_toArray]
  induction l generalizing i with
  | nil => simp at hi
  | cons x l ih =>
    cases i with
    | zero => simp at hi; subst hi; simp
    | succ i =>
      simp only [List.set_cons_succ, List.countP_cons]
      have := ih (i := i) (by simpa using hi)
      omega
omit [LaidW] in
theorem open_zero {listed : Array Bool} (h : open_ listed = 0) {i : Nat} (hi : i < listed.size) : listed.getD i false = true := by
  unfold open_ at h
  rw [List.countP_eq_zero] at h
  have := h listed[i] (by simp)
  rw [Array.getD_eq_getD_getElem?, Array.getElem?_eq_getElem hi]
  simpa using this

omit [LaidW] in
/-- an operation that may come next -/
theorem some_ready {listed : Array Bool} (hsz : listed.size = ops.size) (hdown : ∀ (i : Nat) (o : Oper), ops[i]? = some o → ∀ e ∈ o.after, Region.binds .any e = true → e.on < i) :
    ∀ i, i < ops.size → listed.getD i false = false → Region.ready .any ops listed ≠ [] := by
  intro i
  induction i using Nat.strongRecOn with
  | _ i ih =>
    intro hi hl
    by_cases hex : ∃ e ∈ ops[i].after, Region.binds .any e = true ∧ listed.getD e.on false = false
    · obtain ⟨e, hin, hb, hle⟩ := hex
      have hlt := hdown i ops[i] (Array.getElem?_eq_getElem hi) e hin hb
      exact ih e.on hlt (by omega) hle
    · intro hnil
      have : i ∈ Region.ready .any ops listed := mem_ready.2 ⟨by
        rw [Array.getD_eq_getD_getElem?, Array.getElem?_eq_getElem (by omega)] at hl ⊢
        exact hl, ops[i], Array.getElem?_eq_getElem hi, fun e hin hb => by
        cases hq : listed.getD e.on false with
        | true => rfl
        | false => exact absurd ⟨e, hin, hb, hq⟩ hex⟩
      rw [hnil] at this
      cases this

omit [LaidW] in
theorem ready_false {listed : Array Bool} (hsz : listed.size = ops.size) {i : Nat} (hr : i ∈ Region.ready .any ops listed) : ∃ o, ops[i]? = some o ∧ listed[i]? = some false ∧ ∀ e ∈ o.after, Region.binds .any e = true → listed.getD e.on false = true := by
  obtain ⟨h0, o, ho, he⟩ := mem_ready.1 hr
  have hlt : i < listed.size := by rw [hsz]; exact (Array.getElem?_eq_some_iff.1 ho).1
  refine ⟨o, ho, ?_, he⟩
  rw [Array.getD_eq_getD_getElem?, Array.getElem?_eq_getElem hlt] at h0
  rw [Array.getElem?_eq_getElem hlt]
  simpa using h0

/-- the later operations come in their order -/
theorem tail_sound {B : Base} {w0 : Ctx fk} {Kr : Env → Heap → Nat → Prop} {Q : Exit → Act → World → Prop} (hQ : ∀ e h n a w m, Kr e h n → Sim B w0 ⟨e, h, n, nt⟩ a w m → Q .normal a w)
    (hdown : ∀ (i : Nat) (o : Oper), ops[i]? = some o → ∀ e ∈ o.after, Region.binds .any e = true → e.on < i) (hseq : ∀ i, k ≤ i → i < ops.size → ∀ j, j < i → reach ops 8 i j = true) :
    ∀ (f i : Nat) (listed : Array Bool) (e : Env) (h : Heap) (n : Nat) (a : Act) (w : World) (m : Mm), k ≤ i → i ≤ ops.size → listed.size = ops.size → Closed ops listed → (∀ j, j < ops.size → (listed.getD j false = true ↔ j < i)) → open_ listed ≤ f →
      aOps P ops nt (ops.toList.drop i) e h n Kr → Sim B w0 ⟨e, h, n, nt⟩ a w m → wpAnyIn (Fe w0.r) 0 P .any ops Q f listed a w := by
  intro f
  induction f with
  | zero =>
    intro i listed e h n a w m hki hi hsz hc hl hop hk hs
    have hall : i = ops.size := by
      rcases Nat.lt_or_ge i ops.size with hlt | hge
      · have := open_zero (Nat.le_zero.1 hop) (i := i) (by omega)
        have := (hl i hlt).1 this
        omega
      · omega
    subst hall
    rw [List.drop_of_length_le (by simp)] at hk
    refine ⟨?_, hQ _ _ _ _ _ _ hk hs⟩
    cases hr : Region.ready .any ops listed with
    | nil => rfl
    | cons x xs =>
      obtain ⟨o, ho, hf, _⟩ := ready_false hsz (i := x) (by rw [hr]; simp)
      have hx := (Array.getElem?_eq_some_iff.1 ho).1
      have := (hl x hx).2 hx
      rw [Array.getD_eq_getD_getElem?, hf] at this
      cases this
  | succ f ih =>
    intro i listed e h n a w m hki hi hsz hc hl hop hk hs
    by_cases hlt : i < ops.size
    · have hne := some_ready hsz hdown i hlt (by
        cases hq : listed.getD i false with
        | true => have := (hl i hlt).1 hq; omega
        | false => rfl)
      refine ⟨fun hnil => absurd hnil hne, fun x hx => ?_⟩
      obtain ⟨o, ho, hf, he⟩ := ready_false hsz hx
      have hxs := (Array.getElem?_eq_some_iff.1 ho).1
      have hxi : x = i := by
        have h1 : ¬ x < i := fun hxl => by
          have := (hl x hxs).2 hxl
          rw [Array.getD_eq_getD_getElem?, hf] at this
          cases this
        rcases Nat.lt_or_ge i x with h2 | h2
        · have := reach_listed hc 8 x i o ho he (hseq x (by omega) hxs i h2)
          have := (hl i hlt).1 this
          omega
        · omega
      subst hxi
      have hdrop : ops.toList.drop x = o :: ops.toList.drop (x + 1) := by
        rw [List.drop_eq_getElem_cons (by simpa using hlt)]
        congr 1
        have : ops.toList[x]? = some o := by rw [Array.getElem?_toList]; exact ho
        rw [List.getElem?_eq_getElem (by simpa using hlt)] at this
        injection this
      rw [hdrop] at hk
      simp only [aOps] at hk
      have hnext : ∀ e' h' n' a' w' m', aOps P ops nt (ops.toList.drop (x + 1)) e' h' n' Kr → Sim B w0 ⟨e', h', n', nt⟩ a' w' m' → wpAnyIn (Fe w0.r) 0 P .any ops Q f (listed.setIfInBounds x true) a' w' := by
        intro e' h' n' a' w' m' hk' hs'
        refine ih (x + 1) _ e' h' n' a' w' m' (by omega) (by omega) (by simpa using hsz) (hc.set ho he) (fun j hj => ?_) (by have := open_set hf; omega) hk' hs'
        by_cases hxj : x = j
        · subst hxj
          rw [Array.getD_eq_getD_getElem?, Array.getElem?_setIfInBounds]
          simp [hsz, hj]
        · rw [getD_set_ne false hxj, hl j hj]
          omega
      split at hk
      · rename_i g hg
        unfold wpOpIn
        rw [ho]
        simp only [wanted_sound hg hs]
        cases g with
        | true =>
          simp only [if_true]
          exact wpIn_of_wp (estep_nd (hk.2.1 rfl)) (estep_sound w0 o (K := fun v h' n' => aOps P ops nt (ops.toList.drop (x + 1)) (put e o.dst v) h' n' Kr) (hk.2.1 rfl) hs hk.1 Q _ (fun v h' n' a' w' m' hk' hs' => hnext _ _ _ _ _ m' hk' hs'))
        | false =>
          simp only [Bool.false_eq_true, if_false]
          exact ⟨fun _ _ => trivial, hnext _ _ _ _ _ m (hk.2.2 rfl) ⟨hs.base, hs.below, by rw [put_defers]; exact hs.defers, by rw [put_size]; exact hs.size, get_put e a o.dst _ _ (by rw [hs.size]; exact hk.1) (.tup rfl (fun j p v hp => by simp at hp)) hs.env, hs.heap, hs.dom, hs.ids, hs.fr⟩⟩
      · exact hk.elim
    · have hall : i = ops.size := by omega
      subst hall
      rw [List.drop_of_length_le (by simp)] at hk
      have hr : Region.ready .any ops listed = [] := by
        cases hr : Region.ready .any ops listed with
        | nil => rfl
        | cons x xs =>
          obtain ⟨o, ho, hf, _⟩ := ready_false hsz (i := x) (by rw [hr]; simp)
          have hx := (Array.getElem?_eq_some_iff.1 ho).1
          have := (hl x hx).2 hx
          rw [Array.getD_eq_getD_getElem?, hf] at this
          cases this
      refine ⟨fun _ => hQ _ _ _ _ _ _ hk hs, fun x hx => ?_⟩
      rw [hr] at hx; cases hx
end
end Go.Fi

namespace Go.Fi
open Go Go.RowKit
variable [LaidW]
variable {fk : Fk}

section
variable {P : Program} {ops : Array Oper} {nt : Nat} {k : Nat}

structure Chk (ops : Array Oper) (k : Nat) : Prop where
  le : k ≤ ops.size
  down : ∀ (i : Nat) (o : Oper), ops[i]? = some o → ∀ e ∈ o.after, Region.binds .any e = true → e.on < i
  use : ∀ (i : Nat) (o : Oper), i < k → ops[i]? = some o → ∀ t ∈ opTmps ops o, ∀ j, j < k → dstOf ops j = some t → j < i ∧ reach ops 4 i j = true
  once : ∀ (i : Nat) (o : Oper), i < k → ops[i]? = some o → ∀ j, j < k → j ≠ i → ∀ t, o.dst = some t → dstOf ops j ≠ some t
  wait : ∀ i, k ≤ i → i < ops.size → ∀ j, j < k → reach ops 8 i j = true

omit [LaidW] in
theorem chk_of (h : chkP ops k = true) : Chk ops k ∧ (∀ i, k ≤ i → i < ops.size → ∀ j, j < i → reach ops 8 i j = true) := by
  simp only [chkP, Bool.and_eq_true, decide_eq_true_eq, List.all_eq_true, List.mem_range] at h
  obtain ⟨⟨⟨h1, h2⟩, h3⟩, h4⟩ := h
  have hseq : ∀ i, k ≤ i → i < ops.size → ∀ j, j < i → reach ops 8 i j = true := by
    intro i hk hi j hj
    have := h4 i hi
    simp only [Bool.or_eq_true, decide_eq_true_eq, List.all_eq_true, List.mem_range] at this
    rcases this with h | h
    · omega
    · exact h j hj
  refine ⟨⟨h1, fun i o ho e hin hb => ?_, fun i o hi ho t ht j hj hd => ?_, fun i o hi ho j hj hne t ht hd => ?_, fun i hk hi j hj => hseq i hk hi j (by omega)⟩, hseq⟩
  · have hlt := (Array.getElem?_eq_some_iff.1 ho).1
    have := h2 i hlt
    simp only [ho, List.all_eq_true] at this
    have := this e (Array.mem_toList_iff.2 hin)
    simpa [hb] using this
  · have := h3 i hi
    simp only [ho, Bool.and_eq_true, List.all_eq_true, List.mem_range] at this
    have := this.1 t ht j hj
    simpa [hd] using this
  · have := h3 i hi
    simp only [ho, Bool.and_eq_true, List.all_eq_true, List.mem_range] at this
    have := this.2 j hj
    simp [hne, ht, hd] at this

omit [LaidW] in
theorem mem_opTmps {o : Oper} {t : Nat} (h : (.tmp t : Operand) ∈ o.op.operands) : t ∈ opTmps ops o := by
  unfold opTmps
  refine List.mem_append.2 (.inl (List.mem_filterMap.2 ⟨.tmp t, Array.mem_toList_iff.2 h, rfl⟩))

variable {e : Env} {h : Heap} {n : Nat}

/-- some of the first k operations have been run -/
structure PInv (P : Program) (ops : Array Oper) (nt k : Nat) (e : Env) (h : Heap) (n : Nat) (T : Tr P ops nt (ops.toList.take k) e h n) (B : Base) (w0 : Ctx fk) (listed : Array Bool) (a : Act) (w : World) (m : Mm) : Prop where
  base : B.n = w0.w.heap.size
  below : Below B.n w0.w w
  defers : a.defers = marks w0.ds
  size : a.tmps.size = nt
  heap : Sim0 B (T.hs k) m w
  dom : ∀ id, m.dom id ↔ id < n ∨ ∃ i, i < k ∧ listed.getD i false = true ∧ T.ns i ≤ id ∧ id < T.ns i + (T.Es i).length
  done : ∀ i t, i < k → listed.getD i false = true → dstOf ops i = some t → RepA B (LB m (T.hs k)) m w (T.vs i) (a.tmps.getD t undef)
  old : ∀ t, (∀ i, i < k → listed.getD i false = true → dstOf ops i ≠ some t) → RepA B (LB m (T.hs k)) m w (get e t) (a.tmps.getD t undef)
  fr : FrOk B w0 (LB m (T.hs k)) m w n

omit [LaidW] in
theorem take_get {i : Nat} {o : Oper} (hi : i < k) (ho : ops[i]? = some o) : (ops.toList.take k)[i]? = some o := by
  rw [List.getElem?_take, if_pos hi, Array.getElem?_toList]; exact ho
omit [LaidW] in
theorem take_get' {i : Nat} {o : Oper} (ho : (ops.toList.take k)[i]? = some o) : i < k ∧ ops[i]? = some o := by
  rw [List.getElem?_take] at ho
  split at ho
  · rename_i hi; exact ⟨hi, by rw [← Array.getElem?_toList]; exact ho⟩
  · cases ho

/-- a slot that operation i reads -/
theorem PInv.slot {T : Tr P ops nt (ops.toList.take k) e h n} {B : Base} {w0 : Ctx fk} {listed : Array Bool} {a : Act} {w : World} {m : Mm} (hp : PInv P ops nt k e h n T B w0 listed a w m) (hc : Chk ops k) (hcl : Closed ops listed)
    {i : Nat} {o : Oper} (hi : i < k) (ho : ops[i]? = some o) (he : ∀ e ∈ o.after, Region.binds .any e = true → listed.getD e.on false = true) {t : Nat} (ht : t ∈ opTmps ops o) : RepA B (LB m (T.hs k)) m w (get (T.es i) t) (a.tmps.getD t undef) := by
  have hlen : (ops.toList.take k).length = k := by simp [hc.le]
  rcases T.get_es i (by omega) t with ⟨j, oj, h1, h2, h3, h4⟩ | ⟨h1, h2⟩
  · obtain ⟨hj, hoj⟩ := take_get' h2
    have hd : dstOf ops j = some t := by simp [dstOf, hoj, h3]
    obtain ⟨_, hr⟩ := hc.use i o hi ho t ht j hj hd
    rw [h4]
    exact hp.done j t hj (reach_listed hcl 4 i j o ho he hr) hd
  · rw [h2]
    refine hp.old t (fun j hj hl hd => ?_)
    obtain ⟨hji, _⟩ := hc.use i o hi ho t ht j hj hd
    cases hoj : ops[j]? with
    | none => simp [dstOf, hoj] at hd
    | some oj => exact h1 j oj hji (take_get hj hoj) (by simpa [dstOf, hoj] using hd)

omit [LaidW] in
theorem wanted_slot {o : Oper} {env : Env} {g : Bool} (hg : wantedA ops env o = some g) {a : Act} {B : Base} {L : Nat → Prop} {m : Mm} {w : World}
    (hs : ∀ t, t ∈ opTmps ops o → RepA B L m w (get env t) (a.tmps.getD t undef)) : Region.wanted o (yielded ops a.tmps) = g := by
  unfold wantedA at hg
  unfold Region.wanted
  split at hg
  · rename_i e; rw [e]; injection hg
  · rename_i j want e
    rw [e]
    simp only
    split at hg
    · rename_i ed
      injection hg with hg; subst hg
      simp [yielded, ed]
    · rename_i t ed
      have ht := hs t (by
        unfold opTmps
        refine List.mem_append.2 (.inr ?_)
        rw [e]
        simp [dstOf, ed])
      split at hg
      · rename_i ow f b eg
        injection hg with hg; subst hg
        rw [eg] at ht
        have hv := ht.bool_inv
        have hlt : t < a.tmps.size := by
          rcases Nat.lt_or_ge t a.tmps.size with h | h
          · exact h
          · rw [Array.getD_eq_getD_getElem?, Array.getElem?_eq_none h] at hv
            cases hv
        have hq : a.tmps[t]? = some (.bool b) := by
          rw [Array.getD_eq_getD_getElem?, Array.getElem?_eq_getElem hlt] at hv
          rw [Array.getElem?_eq_getElem hlt]
          simpa using hv
        simp only [yielded, ed, Option.bind_some, hq]
        cases b <;> cases want <;> rfl
      · rename_i eg
        injection hg with hg; subst hg
        rw [eg] at ht
        obtain ⟨vs, hv, hl, _⟩ := ht.tup_inv
        have hvs : vs = #[] := by simpa using hl.symm
        subst hvs
        have : yielded ops a.tmps j = none := by
          simp only [yielded, ed, Option.bind_some]
          rw [Array.getD_eq_getD_getElem?] at hv
          cases hq : a.tmps[t]? with
          | none => rfl
          | some x => rw [hq] at hv; simp at hv; subst hv; rfl
        rw [this]; rfl
      · cases hg

omit [LaidW] in
theorem get_put_val {a : Act} {d : Option Nat} {v : Value} {t : Nat} (hd : dOk a.tmps.size d) : (a.put d v).tmps.getD t undef = if d = some t then v else a.tmps.getD t undef := by
  cases d with
  | none => simp [Act.put]
  | some d =>
    simp only [Act.put, Option.some.injEq]
    rw [Array.getD_eq_getD_getElem?, Array.getElem?_setIfInBounds]
    by_cases h : d = t
    · subst h
      simp only [if_true]
      rw [if_pos (show d < a.tmps.size from hd)]
      rfl
    · simp only [h, if_false]
      rw [← Array.getD_eq_getD_getElem?]

/-- one step of them -/
theorem PInv.next {T : Tr P ops nt (ops.toList.take k) e h n} {B : Base} {w0 : Ctx fk} {listed : Array Bool} {a : Act} {w : World} {m : Mm} (hp : PInv P ops nt k e h n T B w0 listed a w m) (hc : Chk ops k) {i : Nat} {o : Oper} (hi : i < k) (ho : ops[i]? = some o) (hf : listed[i]? = some false)
    {v' : Value} {w' : World} {m' : Mm} (hdk : dOk nt o.dst) (p : Post B (T.hs k) m w (T.ns i) (T.Es i).length (T.vs i) v' w' m') : PInv P ops nt k e h n T B w0 (listed.setIfInBounds i true) (a.put o.dst v') w' m' := by
  obtain ⟨p1, p2, p3, p4, p5, p6⟩ := p
  have hB : B.n ≤ w.heap.size := by have := hp.below.size; have := hp.base; omega
  have hO : LaidW.ok w := LaidW.keep w0.ok (by have := hp.below; rw [hp.base] at this; exact this)
  have hmono : ∀ p v, RepA B (LB m (T.hs k)) m w p v → RepA B (LB m' (T.hs k)) m' w' p v := fun p v hr => hr.mono p1 (fun b hb hn hl => by
    rcases p5 b hl with h1 | h1
    · exact hn h1
    · omega) (fun b hb _ => p3.block b hb)
  have hdi : dstOf ops i = o.dst := by simp [dstOf, ho]
  have hsd : dOk a.tmps.size o.dst := by rw [hp.size]; exact hdk
  have hli : (listed.setIfInBounds i true).getD i false = true := by
    have := (Array.getElem?_eq_some_iff.1 hf).1
    rw [Array.getD_eq_getD_getElem?, Array.getElem?_setIfInBounds]
    simp [this]
  have hlj : ∀ j, j ≠ i → (listed.setIfInBounds i true).getD j false = listed.getD j false := fun j hj => getD_set_ne false (Ne.symm hj)
  have hlf : listed.getD i false = false := by rw [Array.getD_eq_getD_getElem?, hf]; rfl
  refine ⟨hp.base, hp.below.trans (p3.mono hB), by rw [put_defers]; exact hp.defers, by rw [put_size]; exact hp.size, p4, fun id => ?_, fun j t hj hl hd => ?_, fun t ht => ?_, hp.fr.mono p1 (fun b hb hn hl => by
    rcases p5 b hl with h1 | h1
    · exact hn h1
    · omega) (fun b hb _ => p3.block b hb) (Nat.le_refl _)⟩
  · rw [p2, hp.dom]
    constructor
    · rintro ((h1 | ⟨j, h2, h3, h4⟩) | h1)
      · exact .inl h1
      · have hji : j ≠ i := by rintro rfl; rw [hlf] at h3; cases h3
        exact .inr ⟨j, h2, by rw [hlj j hji]; exact h3, h4⟩
      · exact .inr ⟨i, hi, hli, h1⟩
    · rintro (h1 | ⟨j, h2, h3, h4⟩)
      · exact .inl (.inl h1)
      · by_cases hji : j = i
        · subst hji; exact .inr h4
        · exact .inl (.inr ⟨j, h2, by rw [hlj j hji] at h3; exact h3, h4⟩)
  · rw [get_put_val hsd]
    by_cases hji : j = i
    · subst hji
      rw [hdi] at hd
      rw [if_pos hd]
      exact p6
    · rw [hlj j hji] at hl
      have : o.dst ≠ some t := fun hot => hc.once i o hi ho j hj hji t hot hd
      rw [if_neg this]
      exact hmono _ _ (hp.done j t hj hl hd)
  · rw [get_put_val hsd]
    have h1 := ht i hi hli
    rw [hdi] at h1
    rw [if_neg h1]
    refine hmono _ _ (hp.old t (fun j hj hl => ht j hj ?_))
    by_cases hji : j = i
    · subst hji; exact hli
    · rw [hlj j hji]; exact hl

theorem sim0_hs {T : Tr P ops nt (ops.toList.take k) e h n} (hk : k ≤ ops.size) {B : Base} {m : Mm} {w : World} (hs : Sim0 B h m w) (hd : ∀ i, m.dom i ↔ i < n) (hid : ∀ id c, (id, c) ∈ h → id < n) :
    ∀ i, i ≤ k → Sim0 B (T.hs i) m w ∧ LB m (T.hs i) = LB m h ∧ (∀ id c, (id, c) ∈ T.hs i → id < T.ns i) := by
  have hlen : (ops.toList.take k).length = k := by simp [hk]
  intro i
  induction i with
  | zero => intro _; rw [T.h0, T.n0]; exact ⟨hs, rfl, hid⟩
  | succ i ih =>
    intro hi
    obtain ⟨h1, h2, h3⟩ := ih (by omega)
    have hst := T.step i _ (List.getElem?_eq_getElem (by omega))
    have hn : n ≤ T.ns i := by have := T.ns_mono (i := 0) (j := i) (by omega) (by omega); rw [T.n0] at this; exact this
    obtain ⟨h4, h5⟩ := sim0_addE (T.Es i) (T.hs i) (T.ns i) h1 (fun j hj hdj => by have := (hd j).1 hdj; omega) h3
    rw [hst.2.2.2.1]
    refine ⟨h4, h5.trans h2, fun id c hin => ?_⟩
    rw [hst.2.2.2.2.1]
    rcases (addE_mem _ _ _ _ _).1 hin with h6 | ⟨q, h6, rfl⟩
    · have := h3 id c h6; omega
    · have := (List.getElem?_eq_some_iff.1 h6).1; omega

theorem pre_sound {T : Tr P ops nt (ops.toList.take k) e h n} (hc : Chk ops k) {B : Base} {w0 : Ctx fk} {Q : Exit → Act → World → Prop}
    (hid : ∀ id c, (id, c) ∈ T.hs k → id < T.ns k) (hlast : ∀ (f : Nat) (listed : Array Bool) (a : Act) (w : World) (m : Mm), listed.size = ops.size → Closed ops listed → (∀ j, j < ops.size → (listed.getD j false = true ↔ j < k)) → open_ listed ≤ f → Sim B w0 ⟨T.es k, T.hs k, T.ns k, nt⟩ a w m → wpAnyIn (Fe w0.r) 0 P .any ops Q f listed a w) :
    ∀ (f : Nat) (listed : Array Bool) (a : Act) (w : World) (m : Mm), listed.size = ops.size → Closed ops listed → open_ listed ≤ f → (∀ i, k ≤ i → i < ops.size → listed.getD i false = false) → PInv P ops nt k e h n T B w0 listed a w m → wpAnyIn (Fe w0.r) 0 P .any ops Q f listed a w := by
  have hlen : (ops.toList.take k).length = k := by simp [hc.le]
  -- all of the first k are done: the rest comes in its order
  have last : ∀ (f : Nat) (listed : Array Bool) (a : Act) (w : World) (m : Mm), listed.size = ops.size → Closed ops listed → open_ listed ≤ f → PInv P ops nt k e h n T B w0 listed a w m → (∀ i, i < k → listed.getD i false = true) →
      (∀ i, k ≤ i → i < ops.size → listed.getD i false = false) → wpAnyIn (Fe w0.r) 0 P .any ops Q f listed a w := by
    intro f listed a w m hsz hcl hop hp hall hnone
    refine hlast f listed a w m hsz hcl (fun j hj => ⟨fun h1 => ?_, fun h1 => hall j h1⟩) hop ⟨hp.base, hp.below, hp.defers, hp.size, fun t => ?_, hp.heap, fun id => ?_, hid, hp.fr.mono (Mm.le.refl m) (fun _ _ h => h) (fun _ _ _ => rfl) (by have := T.ns_mono (i := 0) (j := k) (by omega) (by omega); rw [T.n0] at this; exact this)⟩
    · rcases Nat.lt_or_ge j k with h2 | h2
      · exact h2
      · rw [hnone j h2 hj] at h1; cases h1
    · rcases T.get_es k (by omega) t with ⟨j, oj, h1, h2, h3, h4⟩ | ⟨h1, h2⟩
      · obtain ⟨hj, hoj⟩ := take_get' h2
        show RepA _ _ _ _ (get (T.es k) t) _
        rw [h4]
        exact hp.done j t hj (hall j hj) (by simp [dstOf, hoj, h3])
      · show RepA _ _ _ _ (get (T.es k) t) _
        rw [h2]
        refine hp.old t (fun j hj _ hd => ?_)
        cases hoj : ops[j]? with
        | none => simp [dstOf, hoj] at hd
        | some oj => exact h1 j oj hj (take_get hj hoj) (by simpa [dstOf, hoj] using hd)
    · rw [hp.dom]
      show _ ↔ id < T.ns k
      have hsteps : ∀ i, i ≤ k → (id < T.ns i ↔ id < n ∨ ∃ j, j < i ∧ T.ns j ≤ id ∧ id < T.ns j + (T.Es j).length) := by
        intro i
        induction i with
        | zero => intro _; rw [T.n0]; constructor
                  · exact .inl
                  · rintro (h | ⟨j, h, _⟩)
                    · exact h
                    · omega
        | succ i ih =>
          intro hi
          have hst := (T.step i _ (List.getElem?_eq_getElem (by omega))).2.2.2.2.1
          rw [hst]
          constructor
          · intro h1
            rcases Nat.lt_or_ge id (T.ns i) with h2 | h2
            · rcases (ih (by omega)).1 h2 with h3 | ⟨j, h3, h4⟩
              · exact .inl h3
              · exact .inr ⟨j, by omega, h4⟩
            · exact .inr ⟨i, by omega, h2, h1⟩
          · rintro (h1 | ⟨j, h1, h2, h3⟩)
            · have := (ih (by omega)).2 (.inl h1); omega
            · by_cases hji : j = i
              · subst hji; exact h3
              · have := (ih (by omega)).2 (.inr ⟨j, by omega, h2, h3⟩); omega
      rw [hsteps k (Nat.le_refl _)]
      constructor
      · rintro (h1 | ⟨j, h1, _, h3⟩)
        · exact .inl h1
        · exact .inr ⟨j, h1, h3⟩
      · rintro (h1 | ⟨j, h1, h3⟩)
        · exact .inl h1
        · exact .inr ⟨j, h1, hall j h1, h3⟩
  intro f
  induction f with
  | zero =>
    intro listed a w m hsz hcl hop htail hp
    have hz := Nat.le_zero.1 hop
    have hks : k = ops.size := by
      rcases Nat.lt_or_ge k ops.size with h1 | h1
      · have h2 := open_zero hz (i := k) (by omega)
        rw [htail k (Nat.le_refl _) h1] at h2; cases h2
      · have := hc.le; omega
    exact last 0 listed a w m hsz hcl hop hp (fun i hi => open_zero hz (by omega)) htail
  | succ f ih =>
    intro listed a w m hsz hcl hop htail hp
    by_cases hall : ∀ i, i < k → listed.getD i false = true
    · exact last (f + 1) listed a w m hsz hcl hop hp hall htail
    · obtain ⟨i0, hi0⟩ := Classical.not_forall.1 hall
      obtain ⟨hi0k, hi0l⟩ := Classical.not_imp.1 hi0
      have hi0f : listed.getD i0 false = false := by simpa using hi0l
      have hne := some_ready hsz hc.down i0 (by have := hc.le; omega) hi0f
      refine ⟨fun hnil => absurd hnil hne, fun x hx => ?_⟩
      obtain ⟨o, ho, hf, he⟩ := ready_false hsz hx
      have hxs := (Array.getElem?_eq_some_iff.1 ho).1
      have hxk : x < k := by
        rcases Nat.lt_or_ge x k with h1 | h1
        · exact h1
        · have := reach_listed hcl 8 x i0 o ho he (hc.wait x h1 hxs i0 hi0k)
          rw [hi0f] at this; cases this
      obtain ⟨hdk, hw, _, _, _, hq1, hq2⟩ := T.step x o (take_get hxk ho)
      have hB : B.n ≤ w.heap.size := by have := hp.below.size; have := hp.base; omega
      have hO : LaidW.ok w := LaidW.keep w0.ok (by have := hp.below; rw [hp.base] at this; exact this)
      have hnext : ∀ v' w' m', Post B (T.hs k) m w (T.ns x) (T.Es x).length (T.vs x) v' w' m' → wpAnyIn (Fe w0.r) 0 P .any ops Q f (listed.setIfInBounds x true) (a.put o.dst v') w' := by
        intro v' w' m' hpost
        refine ih _ _ w' m' (by simpa using hsz) (hcl.set ho he) (by have := open_set hf; omega) (fun j hj hjs => ?_) (hp.next hc hxk ho hf hdk hpost)
        rw [getD_set_ne false (by omega)]
        exact htail j hj hjs
      unfold wpOpIn
      rw [ho]
      simp only [wanted_slot hw (fun t ht => hp.slot hc hcl hxk ho he ht)]
      cases hg : T.gs x with
      | true =>
        simp only [if_true]
        refine wpIn_of_wp (qf_nd (hq1 hg)) ((hq1 hg).sound o hO hp.heap hB (fun id cs hl => T.hs_sub (i := x) (by omega) (by omega) (hget_mem hl)) (fun q cs hl => ?_) (fun q hq hd => ?_) (fun y hy => ?_) _ Q (fun v' w' m' hpost => hnext v' w' m' hpost))
        · refine T.hs_sub (i := x + 1) (by omega) (by omega) ?_
          rw [(T.step x o (take_get hxk ho)).2.2.2.1]
          exact (addE_mem _ _ _ _ _).2 (.inr ⟨q, hl, rfl⟩)
        · have hnx : n ≤ T.ns x := by have := T.ns_mono (i := 0) (j := x) (by omega) (by omega); rw [T.n0] at this; exact this
          rcases (hp.dom _).1 hd with h1 | ⟨j, hj, hl, h2, h3⟩
          · omega
          · have hjx : j ≠ x := by
              rintro rfl
              rw [Array.getD_eq_getD_getElem?, hf] at hl; cases hl
            have hsj := (T.step j _ (List.getElem?_eq_getElem (by omega))).2.2.2.2.1
            have hsx := (T.step x _ (List.getElem?_eq_getElem (by omega))).2.2.2.2.1
            rcases Nat.lt_or_ge j x with h4 | h4
            · have := T.ns_mono (i := j + 1) (j := x) (by omega) (by omega)
              omega
            · have := T.ns_mono (i := x + 1) (j := j) (by omega) (by omega)
              omega
        · refine ev_rep y (fun t e => ?_)
          subst e
          exact hp.slot hc hcl hxk ho he (mem_opTmps hy)
      | false =>
        simp only [Bool.false_eq_true, if_false]
        obtain ⟨h1, h2⟩ := hq2 hg
        refine ⟨fun _ _ => trivial, hnext undef w m ?_⟩
        rw [h1, h2]
        exact ⟨Mm.le.refl m, fun i => ⟨.inl, fun h => h.elim id fun h => by simp at h; omega⟩, Below.refl _ _, hp.heap, fun b hb => .inl hb, .tup rfl (fun j p v hp => by simp at hp)⟩

/-- A REGION THAT DRAWS ITS ORDER, whatever comes behind the first k operations -/
theorem awp_regionG {K : Exit → St → Prop} (k : Nat) {id : Nat} {Kp : Env → Heap → Nat → Prop} (hm : P.follows .mixedOrders = true) (hc : Chk ops k) (hk : aPre P ops nt (ops.toList.take k) e h n Kp)
    (hlast : ∀ (B : Base) (w0 : Ctx fk) (e' : Env) (h' : Heap) (n' : Nat), Kp e' h' n' → ∀ (f : Nat) (listed : Array Bool) (a : Act) (w : World) (m : Mm), listed.size = ops.size → Closed ops listed → (∀ j, j < ops.size → (listed.getD j false = true ↔ j < k)) → open_ listed ≤ f → Sim B w0 ⟨e', h', n', nt⟩ a w m → wpAnyIn (Fe w0.r) 0 P .any ops (fun e a w => ∃ st' m', K e st' ∧ Sim B w0 st' a w m') f listed a w) :
    AWPk fk P (.region id ops true) ⟨e, h, n, nt⟩ K := by
  intro B w0 a w m hs
  obtain ⟨T, hK⟩ := aPre_tr _ _ _ _ hk
  have hlen : (ops.toList.take k).length = k := by simp [hc.le]
  rw [hlen] at hK
  refine wpIn_region_any hm ?_
  have hs' : Sim B w0 ⟨e, h, n, nt⟩ a { w with drawn := w.drawn + 1 } m := by
    have hb : Below w.heap.size w { w with drawn := w.drawn + 1 } := (Below.refl _ _).drew
    have hB := hs.room
    exact ⟨hs.base, hs.below.trans (hb.mono hB), hs.defers, hs.size, fun t => (hs.env t).mono (Mm.le.refl m) (fun _ _ h => h) (fun b hb' _ => hb.block b hb'), hs.heap.below hb, hs.dom, hs.ids, hs.fr.mono (Mm.le.refl m) (fun _ _ h => h) (fun b hb' _ => hb.block b hb') (Nat.le_refl _)⟩
  obtain ⟨h1, h2, h3⟩ := sim0_hs (T := T) hc.le hs'.heap hs'.dom hs'.ids k (Nat.le_refl _)
  have hf : ∀ i, (Array.replicate ops.size false).getD i false = false := by
    intro i
    rw [Array.getD_eq_getD_getElem?, Array.getElem?_replicate]
    split <;> rfl
  refine pre_sound (T := T) hc h3 (fun f listed a w m => hlast B w0 _ _ _ hK f listed a w m) ops.size _ a _ m (by simp) (fun i o ho hl => by rw [hf] at hl; cases hl) ?_ (fun i _ _ => hf i) ⟨hs'.base, hs'.below, hs'.defers, hs'.size, h1, fun id => ?_, (fun i t hi hl => by rw [hf] at hl; cases hl), fun t _ => ?_, by rw [h2]; exact hs'.fr⟩
  · unfold open_
    refine Nat.le_trans List.countP_le_length ?_
    simp
  · rw [hs'.dom]
    constructor
    · exact .inl
    · rintro (h | ⟨i, _, hl, _⟩)
      · exact h
      · rw [hf] at hl; cases hl
  · rw [h2]
    exact hs'.env t

/-- A REGION THAT DRAWS ITS ORDER: the first k operations turn nothing that was there, the others come in their order -/
theorem awp_regionD {K : Exit → St → Prop} (k : Nat) {id : Nat} (hm : P.follows .mixedOrders = true) (hchk : chkP ops k = true) (hk : aPre P ops nt (ops.toList.take k) e h n fun e' h' n' => aOps P ops nt (ops.toList.drop k) e' h' n' fun e'' h'' n'' => K .normal ⟨e'', h'', n'', nt⟩) :
    AWPk fk P (.region id ops true) ⟨e, h, n, nt⟩ K := by
  obtain ⟨hc, hseq⟩ := chk_of hchk
  refine awp_regionG k hm hc hk (fun B w0 e' h' n' hK f listed a w m hsz hcl hl hop hs => ?_)
  exact tail_sound (Kr := fun e'' h'' n'' => K .normal ⟨e'', h'', n'', nt⟩) (fun e' h' n' a' w' m' hk' hsim => ⟨_, m', hk', hsim⟩) hc.down hseq f k listed _ _ _ a w m (Nat.le_refl _) hc.le hsz hcl hl hop hK hs
end
end Go.Fi

