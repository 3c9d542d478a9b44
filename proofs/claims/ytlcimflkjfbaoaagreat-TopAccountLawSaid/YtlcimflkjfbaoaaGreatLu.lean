/- A logic of abstract states for this claim (part Lu): lemmas alone. -/
import Derived.Test.YtlcimflkjfbaoaaGreatLo
import Derived.Test.YtlcimflkjfbaoaaGreatLt
set_option linter.unusedSimpArgs false
set_option linter.unusedVariables false

namespace Go.Fi
open Go Go.RowKit
variable [LaidW]
variable {fk : Fk}

/-- a call that turns one place of the caller's, told by what it does to the memory -/
def ECall (P : Program) (f : FuncId) (args : List AV) (h : Heap) (n : Nat) (id : Nat) (c : List AV) (v : AV) : Prop :=
  Enterable P f ∧ ∀ (B : Base) (m : Mm) (w : World) (vs : Array Value), B.n ≤ w.heap.size → Sim0 B h m w → (∀ i c, (i, c) ∈ h → m.dom i) → args.length = vs.size → (∀ (j : Nat) (p : AV) (u : Value), args[j]? = some p → vs[j]? = some u → RepA B (LB m h) m w p u) →
    Calls P f vs w fun e w' => ∃ u m', e = .returned u ∧ EPost B h m w n (hset h id c) n v u w' m'

section
variable {P : Program} {B : Base} {env : Env} {h : Heap} {n nt : Nat} {a : Act} {w : World} {m : Mm}

theorem ecall_sound (w0 : Ctx fk) (o : Oper) {g : FuncId} {args : Array Operand} {tys : Array TypeId} (ho : o.op = .call { callee := .value (.func g), args := args, argTypes := tys })
    {id : Nat} {c : List AV} {v : AV} (hx : ECall P g (args.toList.map (ev env)) h n id c v) (hs : Sim B w0 ⟨env, h, n, nt⟩ a w m) (hdk : dOk nt o.dst) (Q : Exit → Act → World → Prop) (K' : Act → World → Prop)
    (hK : ∀ a' w' m', Sim B w0 ⟨put env o.dst v, hset h id c, n, nt⟩ a' w' m' → K' a' w') : o.wp P a w K' Q := by
  obtain ⟨⟨fn, hfn, hname, hbody⟩, hcall⟩ := hx
  have hxa : ∀ x : Operand, RepA B (LB m h) m w (ev env x) (a.eval x) := fun x => ev_rep x (fun t _ => hs.env t)
  have hrun : (execOp a.eval o).run P w = .ok (.enter g (args.map a.eval)) w := by
    have hn' : ¬ fn.name = "runtime.NumGoroutine" := by simpa using hname
    have hb'' : ¬ fn.body = none := by intro h; simp [h] at hbody
    have hev : a.eval (.func g) = .func (.func g) #[] #[] := rfl
    simp [execOp, ho, resolve, hev, Deferred.ofValue, invoke, callFunc, hfn, hn', hb'']
  unfold Oper.wp
  rw [hrun, Oper.upon_enter]
  refine (hcall B m w (args.map a.eval) hs.room hs.heap (fun i c hin => (hs.dom i).2 (hs.ids i c hin)) (by simp) (fun j p u hp hu => ?_)).mono ?_
  · obtain ⟨y, hy, rfl⟩ := getElem?_map_some hp
    rw [Array.getElem?_map] at hu
    have : args[j]? = some y := by rw [← Array.getElem?_toList]; exact hy
    rw [this] at hu; injection hu with hu; subst hu
    exact hxa y
  · rintro e w' ⟨u, m', rfl, e1, e2, e3, e4, e5, e6, e7⟩
    refine hK _ w' m' ⟨hs.base, hs.below.trans e3, by rw [put_defers]; exact hs.defers, by rw [put_size]; exact hs.size, ?_, e4, fun i => ?_, fun i c' hic => ?_, hs.fr.mono e1 e5 e6 (Nat.le_refl _)⟩
    · exact get_put env a o.dst v u (by rw [hs.size]; exact hdk) e7 (fun t => (hs.env t).mono e1 e5 e6)
    · rw [e2, hs.dom]
      show i < n ∨ _ ↔ i < n
      omega
    · rw [hset_map h id _ (keys_ne hs.heap)] at hic
      obtain ⟨p, hp, e⟩ := List.mem_map.1 hic
      have := hs.ids p.1 p.2 hp
      split at e
      · injection e with e1 _; rw [← e1]; exact this
      · have e1 : p.1 = i := by rw [e]
        rw [← e1]; exact this

/-- in the middle of a region: such a call -/
def ECallM (P : Program) (ops : Array Oper) (nt : Nat) (o : Oper) (post : List Oper) (g : FuncId) (args : Array Operand) (e : Env) (h : Heap) (n : Nat) (K : Env → Heap → Nat → Prop) (_ : Mark (o, post, K)) : Prop :=
  dOk nt o.dst ∧ o.guard = none ∧ ∃ id c v, ECall P g (args.toList.map (ev e)) h n id c v ∧ aOps P ops nt post (put e o.dst v) (hset h id c) n K
omit [LaidW] in
@[congr] theorem ECallM_congr [LaidW] {ops : Array Oper} {nt : Nat} {o : Oper} {post : List Oper} {g : FuncId} {args : Array Operand} {e e' : Env} {h h' : Heap} {n n' : Nat} {K : Env → Heap → Nat → Prop} {mk : Mark (o, post, K)} (h1 : e = e') (h2 : h = h') (h3 : n = n') :
    ECallM P ops nt o post g args e h n K mk = ECallM P ops nt o post g args e' h' n' K mk := by rw [h1, h2, h3]
theorem ecallM_intro {ops : Array Oper} {nt : Nat} {o : Oper} {post : List Oper} {g : FuncId} {args : Array Operand} {e : Env} {h : Heap} {n : Nat} {K : Env → Heap → Nat → Prop} {mk : Mark (o, post, K)} {id : Nat} {c : List AV} {v : AV} (hd : dOk nt o.dst) (hg : o.guard = none)
    (hx : ECall P g (args.toList.map (ev e)) h n id c v) (hk : aOps P ops nt post (put e o.dst v) (hset h id c) n K) : ECallM P ops nt o post g args e h n K mk := ⟨hd, hg, id, c, v, hx, hk⟩

theorem awp_regionDE {K : Exit → St → Prop} {id : Nat} {ops : Array Oper} (k : Nat) (hm : P.follows .mixedOrders = true) (hchk : chkP ops k = true) (hkl : k < ops.size) {g : FuncId} {args : Array Operand} {tys : Array TypeId}
    (ho : (ops.toList.getD k default).op = .call { callee := .value (.func g), args := args, argTypes := tys })
    (hk : aPre P ops nt (ops.toList.take k) env h n fun e' h' n' => ECallM P ops nt (ops.toList.getD k default) (ops.toList.drop (k + 1)) g args e' h' n' (fun e3 h3 n3 => K .normal ⟨e3, h3, n3, nt⟩) .it) :
    AWPk fk P (.region id ops true) ⟨env, h, n, nt⟩ K := by
  obtain ⟨hc, hseq⟩ := chk_of hchk
  refine awp_regionG k hm hc hk (fun B w0 e' h' n' hK f listed a w m hsz hcl hl hop hs => ?_)
  obtain ⟨hdk, hgu, id', c, v, hx, hk2⟩ := hK
  cases f with
  | zero =>
    exfalso
    have := open_zero (Nat.le_zero.1 hop) (i := k) (by omega)
    have := (hl k hkl).1 this
    omega
  | succ f =>
    have hne := some_ready hsz hc.down k hkl (by
      cases hq : listed.getD k false with
      | true => have := (hl k hkl).1 hq; omega
      | false => rfl)
    refine ⟨fun hnil => absurd hnil hne, fun x hx2 => ?_⟩
    obtain ⟨o, ho2, hf, he⟩ := ready_false hsz hx2
    have hxs := (Array.getElem?_eq_some_iff.1 ho2).1
    have hxi : x = k := by
      have h1 : ¬ x < k := fun hxl => by
        have := (hl x hxs).2 hxl
        rw [Array.getD_eq_getD_getElem?, hf] at this
        cases this
      rcases Nat.lt_or_ge k x with h2 | h2
      · have := reach_listed hcl 8 x k o ho2 he (hseq x (by omega) hxs k h2)
        have := (hl k hkl).1 this
        omega
      · omega
    subst hxi
    have hoo : ops.toList.getD x default = o := by
      rw [List.getD_eq_getElem?_getD, Array.getElem?_toList, ho2]; rfl
    rw [hoo] at ho hgu hdk hk2
    unfold wpOpIn
    rw [ho2]
    simp only [Region.wanted, hgu, if_true]
    refine wpIn_of_wp (fun c e => by rw [ho] at e; cases e) (ecall_sound w0 o ho hx hs hdk _ _ (fun a' w' m' hs' => ?_))
    refine tail_sound (Kr := fun e'' h'' n'' => K .normal ⟨e'', h'', n'', nt⟩) (fun e' h' n' a' w' m' hk' hsim => ⟨_, m', hk', hsim⟩) hc.down hseq f (x + 1) (listed.setIfInBounds x true) _ _ _ a' w' m' (by omega) (by omega) (by simpa using hsz) (hcl.set ho2 he) (fun j hj => ?_) (by have := open_set hf; omega) hk2 hs'
    by_cases hxj : x = j
    · subst hxj
      rw [Array.getD_eq_getD_getElem?, Array.getElem?_setIfInBounds]
      simp [hsz, hj]
    · rw [getD_set_ne false hxj, hl j hj]
      omega
end
end Go.Fi

namespace Go.Fi
open Go Go.RowKit
variable [LaidW]
variable {fk : Fk}

/-- a row put into a list -/
def insAt {α : Type} (L : List α) (p : Nat) (new : List α) : List α := L.take p ++ new ++ L.drop p
omit [LaidW] in
theorem insAt_len {α : Type} (L : List α) (p : Nat) (new : List α) (h : p ≤ L.length) : (insAt L p new).length = L.length + new.length := by
  simp [insAt]; omega
omit [LaidW] in
theorem insAt_get {α : Type} (L : List α) (p : Nat) (new : List α) (h : p ≤ L.length) (j : Nat) : (insAt L p new)[j]? = if j < p then L[j]? else if j < p + new.length then new[j - p]? else L[j - new.length]? := by
  unfold insAt
  rw [List.append_assoc, List.getElem?_append]
  simp only [List.length_take, Nat.min_eq_left h]
  split
  · rename_i hj; rw [List.getElem?_take, if_pos hj]
  · rename_i hj
    rw [List.getElem?_append]
    split
    · rename_i h2; rw [if_pos (by omega)]
    · rename_i h2
      rw [if_neg (by omega), List.getElem?_drop]
      congr 1
      omega

/-- 'slices.Insert' of one element, by its contract: sz cells an element -/
structure InsC (P : Program) (f : FuncId) (t : TypeId) (ty0 : TypeId) (sz by_ : Nat) : Prop where
  ent : Enterable P f
  shift : ∀ (b n cap i vb vc : Nat) (cs vs : Array Value) (ty tv : TypeId) (cl vl : List Value) (w : World), i < n → n < 100000 → n + 1 ≤ cap → cap * sz ≤ cs.size → vl.length = sz → sz ≤ vs.size → cl.length = n * sz → vb ≠ b → w.heap[b]? = some (.cells cs ty (0, 0)) → w.heap[vb]? = some (.cells vs tv (0, 0)) →
    (∀ (j : Nat) (v : Value), cl[j]? = some v → cs[j]? = some v) → (∀ (j : Nat) (v : Value), vl[j]? = some v → vs[j]? = some v) → (∀ v ∈ cl, v.oneCell' = true) → (∀ v ∈ vl, v.oneCell' = true) →
    Calls P f #[.slice (some ⟨b, 0, none⟩) n cap, .int .i64 i, .slice (some ⟨vb, 0, none⟩) 1 vc] w fun e w' => e = .returned (.slice (some ⟨b, 0, none⟩) (n + 1) cap) ∧ Below b w w' ∧ (∀ k, k ≠ b → w'.heap[k]? = w.heap[k]?) ∧
      ∃ row : Array Value, w'.heap[b]? = some (.cells row ty (0, 0)) ∧ row.size = cs.size ∧ ∀ j, j < (n + 1) * sz → row[j]? = (insAt cl (i * sz) vl)[j]?
  grow : ∀ (b n cap i vb vc : Nat) (cs vs : Array Value) (ty tv : TypeId) (cl vl : List Value) (w : World), i < n → n ≤ cap → cap < n + 1 → n + 1 ≤ 1000000000 → by_ ≤ 100000 → cap * sz ≤ cs.size → vl.length = sz → sz ≤ vs.size → cl.length = n * sz → vb ≠ b → w.heap[b]? = some (.cells cs ty (0, 0)) → w.heap[vb]? = some (.cells vs tv (0, 0)) →
    (∀ (j : Nat) (v : Value), cl[j]? = some v → cs[j]? = some v) → (∀ (j : Nat) (v : Value), vl[j]? = some v → vs[j]? = some v) → (∀ v ∈ cl, v.oneCell' = true) → (∀ v ∈ vl, v.oneCell' = true) →
    Calls P f #[.slice (some ⟨b, 0, none⟩) n cap, .int .i64 i, .slice (some ⟨vb, 0, none⟩) 1 vc] w fun e w' => ∃ G : Nat, e = .returned (.slice (some ⟨w.heap.size, 0, none⟩) (n + 1) G) ∧ n + 1 ≤ G ∧ Below w.heap.size w w' ∧
      ∃ (row : Array Value) (ty' : TypeId), w'.heap[w.heap.size]? = some (.cells row ty' (0, 0)) ∧ row.size = G * sz ∧ ∀ j, j < (n + 1) * sz → row[j]? = (insAt cl (i * sz) vl)[j]?
  endc : ∀ (a0 : Option Addr) (n cap vb vc : Nat) (w : World) (v' : Value) (w' : World), n < 1000000000 → n ≤ cap → (a0 = none → cap = 0) → (Builtin.append_ #[t, t] ty0 #[.slice a0 n cap, .slice (some ⟨vb, 0, none⟩) 1 vc]).run P w = .ok v' w' →
    Calls P f #[.slice a0 n cap, .int .i64 n, .slice (some ⟨vb, 0, none⟩) 1 vc] w fun e w1 => e = .returned v' ∧ w1 = w'

omit [LaidW] in
theorem insert_ecall {P : Program} {f : FuncId} {t ty0 e : TypeId} {sz by_ : Nat} {z : List AV} (C : InsC P f t ty0 sz by_) (ht : slE P t = some (e, sz)) (hby : byE P e = some by_) (hz : zcells P e = some z) (hzl : z.length = sz) (hszp : 0 < sz) (hby2 : by_ ≤ 100000)
    {h : Heap} {nn id id2 n i : Nat} {o1 f1 : Bool} {cells news : List AV} (hg : hget h id = some cells) (hl : cells.length = n * sz) (hg2 : hget h id2 = some news) (hl2 : news.length = sz) (hne : id ≠ id2) (hi : i ≤ n) (hn : n < 100000) (h1 : ones cells = true) (h2 : ones news = true) :
    ECall P f [.msl id (n * sz) sz 0 n, .w o1 f1 (.int .i64 (i : Int)), .msl id2 sz sz 0 1] h nn id (insAt cells (i * sz) news) (.msl id ((n + 1) * sz) sz 0 (n + 1)) := by
  refine ⟨C.ent, fun B m w vs hB hs hdom hlen hrep => ?_⟩
  obtain ⟨s, iv, x, rfl⟩ : ∃ s iv x, vs = #[s, iv, x] := by
    obtain ⟨l⟩ := vs
    match l, hlen with
    | [s, iv, x], _ => exact ⟨s, iv, x, rfl⟩
  have hsr := hrep 0 _ s rfl rfl
  have hir := hrep 1 _ iv rfl rfl
  have hxr := hrep 2 _ x rfl rfl
  obtain rfl := hir.int_inv
  have hin := hget_mem hg
  have hin2 := hget_mem hg2
  have hd := hdom _ _ hin
  have hd2 := hdom _ _ hin2
  obtain ⟨x0, vc, rfl, k1, _, _, x3, x4⟩ := hxr.msl_inv
  have hlen1 := insAt_len cells (i * sz) news (by rw [hl]; exact Nat.mul_le_mul_right _ hi)
  have hn1 : (n + 1) * sz = n * sz + sz := by rw [Nat.add_mul, Nat.one_mul]
  have hlen2 : (insAt cells (i * sz) news).length = (n + 1) * sz := by rw [hlen1, hl, hl2, hn1]
  obtain ⟨vb, VC, ha2⟩ : ∃ vb VC, m.addr id2 sz = some (vb, VC) := by
    cases hq : m.addr id2 sz with
    | none => have := (x3 hq).2; omega
    | some bc => exact ⟨bc.1, bc.2, rfl⟩
  obtain ⟨x5, x6, x7⟩ := x4 vb VC ha2
  have hvc : 0 < vc := by omega
  have hx0 := x5 hvc
  subst hx0
  obtain ⟨vsr, tv, hvh, hVC, hvle, hvB, hvcell⟩ := hs.read hin2 hd2 (by rw [hl2]; exact ha2) (by omega)
  by_cases hend : i = n
  · subst hend
    have hins : insAt cells (i * sz) news = insW cells (i * sz) news := by
      unfold insAt insW
      rw [if_pos hl.symm, List.take_of_length_le (by omega), List.drop_of_length_le (by omega), List.append_nil]
    have hsrc : srcOf h sz (.msl id2 sz sz 0 1) = some (1, cutW news 0 (1 * sz), news.length = sz ∧ sz = sz ∧ 0 + 1 * sz ≤ sz) := by
      simp only [srcOf, hg2]
    have hcut : cutW news 0 (1 * sz) = news := by
      unfold cutW; simp [hl2]
    rw [hcut] at hsrc
    obtain ⟨v', w', m', hrun, hpost⟩ := append_msl (n := nn) hs hB ht ht hby hz hsrc ⟨hl2, rfl, by omega⟩ hxr hsr hg hl hzl hszp (Nat.le_refl _) (by omega) hby2 h2 ty0
    obtain ⟨a0, cap, rfl, hk, _, _, h3, h4⟩ := hsr.msl_inv
    have ha0 : a0 = none → cap = 0 := fun e => by
      rcases Nat.eq_zero_or_pos cap with h | h
      · exact h
      · cases hq : m.addr id (i * sz) with
        | none => exact (h3 hq).1
        | some bc => rw [(h4 bc.1 bc.2 hq).1 h] at e; cases e
    refine (C.endc a0 i cap vb vc w v' w' (by omega) hk ha0 hrun).mono ?_
    rintro e w1 ⟨rfl, rfl⟩
    refine ⟨v', m', rfl, ?_⟩
    rw [hins]
    rw [hins] at hlen2
    rw [hlen2] at hpost
    exact hpost
  · have hlt : i < n := by omega
    obtain ⟨a0, cap, rfl, hk, _, _, h3, h4⟩ := hsr.msl_inv
    have hnp : 0 < n * sz := Nat.mul_pos (by omega) hszp
    obtain ⟨b, CC, ha⟩ : ∃ b CC, m.addr id (n * sz) = some (b, CC) := by
      cases hq : m.addr id (n * sz) with
      | none => have := (h3 hq).2; omega
      | some bc => exact ⟨bc.1, bc.2, rfl⟩
    obtain ⟨h5, h6, h7⟩ := h4 b CC ha
    have ha0 := h5 (by omega)
    subst ha0
    obtain ⟨cs, ty, hh, hC, hle, hbB, hcell⟩ := hs.read hin hd (by rw [hl]; exact ha) (by omega)
    have hbv : vb ≠ b := by
      have := hs.apart hin hin2 hne hd hd2 (by rw [hl]; exact ha) (by rw [hl2]; exact ha2)
      exact fun e => this e.symm
    have hltb : b < w.heap.size := LB_lt hs ⟨id, cells, CC, hin, hd, by rw [hl]; exact ha⟩
    have hcs : n * sz ≤ cs.size := by omega
    have hvss : sz ≤ vsr.size := by omega
    obtain ⟨cl, hcl, hclv⟩ : ∃ cl : List Value, cl.length = n * sz ∧ ∀ (j : Nat) (v : Value), cl[j]? = some v → cs[j]? = some v := by
      refine ⟨cs.toList.take (n * sz), by simp; omega, fun j v hj => ?_⟩
      rw [List.getElem?_take] at hj
      split at hj
      · rwa [Array.getElem?_toList] at hj
      · cases hj
    obtain ⟨vl, hvl, hvlv⟩ : ∃ vl : List Value, vl.length = sz ∧ ∀ (j : Nat) (v : Value), vl[j]? = some v → vsr[j]? = some v := by
      refine ⟨vsr.toList.take sz, by simp; omega, fun j v hj => ?_⟩
      rw [List.getElem?_take] at hj
      split at hj
      · rwa [Array.getElem?_toList] at hj
      · cases hj
    have rc : ∀ (j : Nat) (p : AV) (v : Value), cells[j]? = some p → cl[j]? = some v → RepA B (LB m h) m w p v := fun j p v hp hv => hcell j p v hp (hclv j v hv)
    have rv : ∀ (j : Nat) (p : AV) (v : Value), news[j]? = some p → vl[j]? = some v → RepA B (LB m h) m w p v := fun j p v hp hv => hvcell j p v hp (hvlv j v hv)
    have oc := list_rep h1 (by omega) rc
    have ov := list_rep h2 (by omega) rv
    have hisz : i * sz ≤ n * sz := Nat.mul_le_mul_right _ hi
    have rins : ∀ (row : Array Value), (∀ j, j < (n + 1) * sz → row[j]? = (insAt cl (i * sz) vl)[j]?) → ∀ (j : Nat) (p : AV) (v : Value), (insAt cells (i * sz) news)[j]? = some p → row[j]? = some v → RepA B (LB m h) m w p v := by
      intro row hrow j p v hp hv
      have hj : j < (n + 1) * sz := by
        have := (List.getElem?_eq_some_iff.1 hp).1
        omega
      rw [hrow j hj, insAt_get cl (i * sz) vl (by omega)] at hv
      rw [insAt_get cells (i * sz) news (by omega)] at hp
      rw [hvl] at hv
      rw [hl2] at hp
      split at hp
      · rename_i q; rw [if_pos q] at hv; exact rc _ p v hp hv
      · rename_i q
        rw [if_neg q] at hv
        split at hp
        · rename_i q2; rw [if_pos q2] at hv; exact rv _ p v hp hv
        · rename_i q2; rw [if_neg q2] at hv; exact rc _ p v hp hv
    have hhs : hset h id (insAt cells (i * sz) news) = hmap h id (insAt cells (i * sz) news) := hset_map h id _ (keys_ne hs)
    by_cases hfit : n + 1 ≤ cap
    · have hcapz : (n + 1) * sz ≤ cap * sz := Nat.mul_le_mul_right _ hfit
      refine (C.shift b n cap i vb vc cs vsr ty tv cl vl w hlt hn hfit (by omega) hvl hvss hcl hbv hh hvh hclv hvlv oc ov).mono ?_
      rintro e w' ⟨rfl, hbel, hoth, row, hrow, hrs, hrg⟩
      obtain ⟨u1, u2, u3, u4⟩ := upd_entry (w' := w') hs hin hd (cells' := insAt cells (i * sz) news) (by omega) (b' := b) (C' := CC) (fun e => by omega) (.inr ⟨CC, by rw [hl]; exact ha⟩)
        (fun q hq hne2 => hoth q (fun e => hne2 CC (by rw [hl, e]; exact ha)))
        ⟨row, ty, hrow, by omega, by omega, hbB, rins row hrg⟩
      refine ⟨_, _, rfl, u2, same_dom, hbel.mono hbB, by rw [hhs]; exact u1, by rw [hhs]; exact u3, u4, ?_⟩
      rw [hhs, ← hlen2]
      refine .msl hd (by simp [Mm.up]) hfit (fun e => ?_) (fun b' C' e => ?_)
      · simp [Mm.up] at e
      · simp only [Mm.up, and_self, if_true, Option.some.injEq, Prod.mk.injEq] at e
        obtain ⟨rfl, rfl⟩ := e
        exact ⟨fun _ => rfl, by omega, by omega⟩
    · refine (C.grow b n cap i vb vc cs vsr ty tv cl vl w hlt hk (by omega) (by omega) hby2 (by omega) hvl hvss hcl hbv hh hvh hclv hvlv oc ov).mono ?_
      rintro e w' ⟨G, rfl, hG, hbel, row, ty', hrow, hrs, hrg⟩
      have hGz : (n + 1) * sz ≤ G * sz := Nat.mul_le_mul_right _ hG
      obtain ⟨u1, u2, u3, u4⟩ := upd_entry (w' := w') hs hin hd (cells' := insAt cells (i * sz) news) (by omega) (b' := w.heap.size) (C' := G * sz) (fun e => by omega) (.inl (Nat.le_refl _))
        (fun q hq hne2 => hbel.block q hq)
        ⟨row, ty', hrow, hrs, by omega, hB, rins row hrg⟩
      refine ⟨_, _, rfl, u2, same_dom, hbel.mono hB, by rw [hhs]; exact u1, by rw [hhs]; exact u3, u4, ?_⟩
      rw [hhs, ← hlen2]
      refine .msl hd (by simp [Mm.up]) hG (fun e => ?_) (fun b' C' e => ?_)
      · simp [Mm.up] at e
      · simp only [Mm.up, and_self, if_true, Option.some.injEq, Prod.mk.injEq] at e
        obtain ⟨rfl, rfl⟩ := e
        exact ⟨fun _ => rfl, by omega, by omega⟩
end Go.Fi

