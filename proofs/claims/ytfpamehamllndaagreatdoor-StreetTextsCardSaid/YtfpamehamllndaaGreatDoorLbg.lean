/- A logic of abstract states for this claim (part Lbg): lemmas alone. -/
import Derived.Test.YtfpamehamllndaaGreatDoorLbd
import Derived.Shelf.Strings.Builder1
set_option linter.unusedSimpArgs false
set_option linter.unusedVariables false

namespace Go.Fi
open Go Go.RowKit Go.Proofs Go.Shelf
section
variable {P : Program} {w w' : World}
/-- where the appended lies: in the old row, or in a new block -/
theorem app_where {base t u ty e : Nat} {i : TypeInfo} (ht : P.underlying t = some (.slice e)) (hu : P.underlying u = some .string) (hi : P.info? e = some i) (hz : i.zero = some (.int .u8 0)) (hsize : i.size = 1) (hby : i.bytes = 1)
    {v v' : Value} {n : Nat} {xs : List Value} (hown : w.ownsRow base e 1 v n xs) (s : ByteArray) (h63 : n + s.size ≤ 1000000000) (hr : (Builtin.append_ #[t, u] ty #[v, .string s]).run P w = .ok v' w') :
    ∀ g, v'.ownBlock = some g → v.ownBlock = some g ∨ w.heap.size ≤ g := by
  have hxl : xs.length = n := by simpa using hown.1
  intro g hg
  rcases hown.2 with ⟨rfl, rfl⟩ | ⟨g0, cap, cur, rfl, hbg, hg0, hnc, hcm, hcs, htake⟩
  · by_cases hm : s.size = 0
    · have hf := Lib.run_firstCells_string (P := P) w 1 s
      rw [hm] at hf
      simp [Builtin.append_, run_underlying ht, run_underlying hu, sizeOf, typeInfo, hi, hsize, Builtin.lenOf, hm, hf] at hr
      rw [← hr.1] at hg
      simp [Value.ownBlock] at hg
    · have h := run_append_nil_string (P := P) w t u ty e i (.int .u8 0) ht hu hi hz s (by omega) (by omega) (by rw [hby]; omega)
      rw [h] at hr; injection hr with h1 h2; subst h1
      simp [Value.ownBlock] at hg
      exact .inr (by omega)
  · by_cases hroom : n + s.size ≤ cap
    · have hcs' : cur.size = cap := by simpa using hcs
      have h := Lib.run_append_room_string (P := P) w t u ty e i ht hu hi hsize g0 n cap cur hg0 s hroom (by omega)
      rw [h] at hr; injection hr with h1 h2; subst h1
      exact .inl hg
    · have holds : ∀ j u, xs[j]? = some u → w.cell? ((⟨g0, 0, none⟩ : Addr).add j) = some u := hown.cells (g := g0) rfl
      have h := Lib.run_append_grow_string (P := P) w t u ty e i (.int .u8 0) ht hu hi hz ⟨g0, 0, none⟩ n cap xs (by rw [hsize]; simpa using hxl) holds s (by omega) (by omega) (by rw [hby]; exact growslice_fits (by omega) (by omega))
      rw [h] at hr; injection hr with h1 h2; subst h1
      simp [Value.ownBlock] at hg
      exact .inr (by omega)

theorem wpList_app_where {ops : Array Oper} {rest : List Oper} {o : Oper} {a : Act} {Q : Exit → Act → World → Prop} (hgd : o.guard = none) (sl x : Operand) (t u : TypeId)
    (ho : o.op = .call { callee := .builtin .append, args := #[sl, x], argTypes := #[t, u] })
    (base : Nat) (e : TypeId) (i : TypeInfo) (ht : P.underlying t = some (.slice e)) (hu : P.underlying u = some .string) (hi : P.info? e = some i) (hz : i.zero = some (.int .u8 0))
    (hsize : i.size = 1) (hby : i.bytes = 1)
    (v : Value) (n : Nat) (xs : List Value) (hs : a.eval sl = v) (hown : w.ownsRow base e 1 v n xs) (s : ByteArray) (hx : a.eval x = .string s)
    (h63 : n + s.size ≤ 1000000000) (hbase : base ≤ w.heap.size)
    (h : ∀ v' w', w'.ownsRow base e 1 v' (n + s.size) (xs ++ Lib.strCells s) → w.grownBy w' v.ownBlock → (∀ g, v'.ownBlock = some g → v.ownBlock = some g ∨ w.heap.size ≤ g) → wpList P ops Q rest (a.put o.dst v') w') : wpList P ops Q (o :: rest) a w := by
  refine wpList_plain hgd fun K hK => ?_
  obtain ⟨v', w', hr, h2, h3, _⟩ := Lib.run_append_own_string (P := P) w base t u o.type e i ht hu hi hz hsize hby v n xs hown s (by unfold maxLen; omega) (by omega) hbase
  have h4 := app_where ht hu hi hz hsize hby hown s h63 hr
  unfold Oper.wp execOp
  simp only [ho, resolve, invoke, builtin, Sem.run_bind, Sem.run_pure, Result.andThen_ok, List.map_toArray, List.map_cons, List.map_nil, hs, hx, hr]
  exact hK _ _ (h v' w' h2 h3 h4)
end

section
variable {P : Program} {ρ : Ren}
/-- copyCheck, to the block -/
theorem copyCheckX (L : Lays.n240 P ρ) (X : Builder.X72 P ρ) (e : TypeId) (n0 b : Nat) (t : ByteArray) (w : World) (p v : Value) (hb : n0 ≤ b) (h : BV (ρ.t 72) e n0 b t w p v) :
    Calls P (ρ.f 240) #[.pointer (some ⟨b, 0, none⟩)] w fun ex w1 => ex = .returned (.tuple #[]) ∧ Below n0 w w1 ∧ w1.heap.size = w.heap.size ∧ (∀ j, j ≠ b → w1.heap[j]? = w.heap[j]?) ∧ BV (ρ.t 72) e n0 b t w1 (.pointer (some ⟨b, 0, none⟩)) v := by
  obtain ⟨h1, h2, h3, h4⟩ := h
  have c0 : w.cell? ⟨b, 0, none⟩ = some p := by rw [Lib.cell_of_heap h1]; rfl
  have key : ∀ j, j ≠ b → (w.setCell ⟨b, 0, none⟩ (.pointer (some ⟨b, 0, none⟩))).heap[j]? = w.heap[j]? := fun j hj => by simp [World.setCell, Array.getElem?_modify, Ne.symm hj]
  rcases h2 with rfl | rfl
  · refine (Any.Builder_copyCheck_fresh L X b w c0 (by simp [World.shape?, h1]) (Lib.frozen_of_heap h1 0)).mono ?_
    rintro ex w1 ⟨rfl, rfl⟩
    have hself : BV (ρ.t 72) e n0 b t (w.setCell ⟨b, 0, none⟩ (.pointer (some ⟨b, 0, none⟩))) (.pointer (some ⟨b, 0, none⟩)) v := by
      refine ⟨by simp [World.setCell, Array.getElem?_modify, h1], .inr rfl, ⟨h3.1, ?_⟩, h4⟩
      rcases h3.2 with h | ⟨g, cap, cur, rfl, h5, h6, h7⟩
      · exact .inl h
      · refine .inr ⟨g, cap, cur, rfl, h5, ?_, h7⟩
        rw [key g (fun e => h4 (by simp [Value.ownBlock, e]))]; exact h6
    exact ⟨rfl, (Below.refl n0 w).setCell (p := ⟨b, 0, none⟩) hb _, by simp [World.setCell], key, hself⟩
  · refine (Any.Builder_copyCheck_used L X b w c0).mono ?_
    rintro ex w1 ⟨rfl, rfl⟩
    exact ⟨rfl, Below.refl n0 _, rfl, fun _ _ => rfl, h1, .inr rfl, h3, h4⟩

theorem strCells_app (t s : ByteArray) : Lib.strCells (t ++ s) = Lib.strCells t ++ Lib.strCells s := by
  simp [Lib.strCells]

set_option maxHeartbeats 1000000 in
set_option maxRecDepth 100000 in
theorem writeC (L : Lays.n166 P ρ) (X : Builder.Extra P ρ) : WriteC P (ρ.t 72) (ρ.t 5) (ρ.f 166) := by
  refine ⟨⟨_, L.f166, by kernel_rfl, by kernel_rfl⟩, fun n0 b t s w p v hb hw h hsz => ?_⟩
  obtain ⟨i0, hi, hz0, hz1, hz2⟩ := info_parts X.infoByte
  have mixed := L.mixed
  have t72 := L.t72; have a72 := L.a72; have z72 := L.z72; have v72 := L.v72; have u72 := run_underlying L.t72
  have t70 := L.t70; have a70 := L.a70; have z70 := L.z70; have v70 := L.v70; have u70 := run_underlying L.t70
  have t37 := L.t37; have a37 := L.a37; have z37 := L.z37; have v37 := L.v37; have u37 := run_underlying L.t37
  have t3 := L.t3; have a3 := L.a3; have z3 := L.z3; have v3 := L.v3; have u3 := run_underlying L.t3
  have t9 := L.t9; have a9 := L.a9; have z9 := L.z9; have v9 := L.v9; have u9 := run_underlying L.t9
  have t4 := L.t4; have a4 := L.a4; have z4 := L.z4; have v4 := L.v4; have u4 := run_underlying L.t4
  have t164 := L.t164; have a164 := L.a164; have z164 := L.z164; have v164 := L.v164; have u164 := run_underlying L.t164
  have t5 := X.t5; have a5 := X.a5; have z5 := X.z5; have v5 := X.v5; have u5 := run_underlying X.t5
  have e240 : ∀ args w, (callFunc (ρ.f 240) args).run P w = .ok (.enter (ρ.f 240) args) w := enters_of L.f240 (by kernel_rfl) rfl
  go_enter L.f166, Body.n166_ntmps ρ
  go_wp2_with (go_at_fn (ρ.f 240); refine (copyCheckX { L with } X.toX72 (ρ.t 5) n0 b t _ p v hb h).mono ?_)
  rintro ex w1 ⟨rfl, b1, s1, k1, h1, _, h3, h4⟩
  have c0 : w1.cell? ⟨b, 0, none⟩ = some (.pointer (some ⟨b, 0, none⟩)) := by rw [Lib.cell_of_heap h1]; rfl
  have c1 : w1.cell? ⟨b, 1, none⟩ = some v := by rw [Lib.cell_of_heap h1]; rfl
  go_wp2_with (at_builtin; refine wpList_app_where rfl _ _ (ρ.t 37) (ρ.t 9) rfl n0 (ρ.t 5) i0 L.t37 L.t9 hi hz0 hz1 hz2 _ _ _ rfl h3 s rfl ?c3 ?c4 ?_)
  case c3 => exact hsz
  case c4 => rw [s1]; exact hw
  intro v' w2 hown' hgrow hwhere
  have hlt : b < w1.heap.size := (Array.getElem?_eq_some_iff.1 h1).1
  have hb2 : w2.heap[b]? = some (.cells #[.pointer (some ⟨b, 0, none⟩), v] (ρ.t 72) (0, 0)) := by
    rw [hgrow.block b hlt (fun e => h4 e.symm)]
    exact h1
  have d0 : w2.cell? ⟨b, 0, none⟩ = some (.pointer (some ⟨b, 0, none⟩)) := by rw [Lib.cell_of_heap hb2]; rfl
  have d1 : w2.cell? ⟨b, 1, none⟩ = some v := by rw [Lib.cell_of_heap hb2]; rfl
  have f1 : w2.frozen? ⟨b, 1, none⟩ = false := Lib.frozen_of_heap hb2 1
  obtain ⟨ao, n', cap, rfl⟩ : ∃ ao n' cap, v' = .slice ao n' cap := by
    rcases hown'.2 with ⟨hv, _⟩ | ⟨g, cap, cur, hv, _⟩
    · exact ⟨_, _, _, hv⟩
    · exact ⟨_, _, _, hv⟩
  go_wp2
  go_ret2
  have hput := Lib.BuilderAt.put (T := (ρ.t 72)) (e := (ρ.t 5)) hb hb2 (bs' := Lib.strCells t ++ Lib.strCells s) (by simpa [Lib.strCells_length] using hown') X.neB5
  obtain ⟨_, v2, q1, q2, q3⟩ := hput
  refine ⟨rfl, (b1.grown hgrow (by rw [s1]; exact hw) (fun k hk => (h3.lt k hk).1)).setCell (p := ⟨b, 1, none⟩) hb _, fun j hj hjb hjv => ?_, .pointer (some ⟨b, 0, none⟩), v2, ⟨q1, .inr rfl, by rw [strCells_app]; simpa [Lib.strCells_length, ByteArray.size_append] using q2, q3⟩, fun g hg => ?_⟩
  · have e1 : (w2.setCell ⟨b, 1, none⟩ (.slice ao n' cap)).heap[j]? = w2.heap[j]? := by simp [World.setCell, Array.getElem?_modify, Ne.symm hjb]
    rw [e1, hgrow.block j (by rw [s1]; exact hj) (fun e => hjv e.symm), k1 j hjb]
  · have e2 : v2 = .slice ao n' cap := by
      have : (w2.setCell ⟨b, 1, none⟩ (.slice ao n' cap)).heap[b]? = some (.cells #[.pointer (some ⟨b, 0, none⟩), .slice ao n' cap] (ρ.t 72) (0, 0)) := by simp [World.setCell, Array.getElem?_modify, hb2]
      rw [q1] at this
      simpa using this
    subst e2
    rcases hwhere g hg with h | h
    · exact .inl h
    · exact .inr (by omega)

theorem textC (L : Lays.n169 P ρ) (X : Builder.Extra P ρ) : TextC P (ρ.t 72) (ρ.t 5) (ρ.f 169) := by
  refine ⟨⟨_, L.f169, by kernel_rfl, by kernel_rfl⟩, fun n0 b t w p v hb hw h => ?_⟩
  obtain ⟨h1, h2, h3, h4⟩ := h
  have he : Lib.byteCells t.data.toList = Lib.strCells t := by
    rfl
  have hbld : Lib.IsBuilder (ρ.t 72) (ρ.t 5) n0 b (Lib.byteCells t.data.toList) w := by
    have : Lib.BuilderAt (ρ.t 72) (ρ.t 5) n0 b p (Lib.byteCells t.data.toList) w := by
      rw [he]
      exact ⟨hb, v, h1, by rw [Lib.strCells_length]; exact h3, h4⟩
    rcases h2 with rfl | rfl
    · exact .inl this
    · exact .inr this
  refine (Any.Builder_String_any L X n0 b t.data.toList w hbld hw).mono ?_
  rintro ex w' ⟨rfl, hbl⟩
  exact ⟨by congr, hbl⟩
end
end Go.Fi

namespace Go.Fi
open Go Go.RowKit
variable [LaidW]
section
variable {P : Program} {T e : TypeId} {tB nt : Nat} {env : DEnv} {t : Option ByteArray} {K : Exit → DEnv → Option ByteArray → Prop}

/-- a fact out of reach -/
structure Kept (p : Prop) : Prop where
  out : p
/-- what a piece ends with -/
def DK (nt tB : Nat) (t : Option ByteArray) (K : Exit → DEnv → Option ByteArray → Prop) (ex : Exit) (st' : St) : Prop := st'.nt = nt ∧ Keeps tB st'.env t ∧ ∃ env', FzL st'.env st'.heap env' ∧ K ex env' t
omit [LaidW] in
theorem dk_intro {ex : Exit} {st' : St} (env' : DEnv) (h1 : st'.nt = nt) (h2 : Keeps tB st'.env t) (h3 : FzL st'.env st'.heap env') (h4 : K ex env' t) : DK nt tB t K ex st' := ⟨h1, h2, env', h3, h4⟩
theorem awpd_dk {c : Code} (h : AWPk ⟨1, none⟩ P c ⟨sEnv tB t env, [], 1, nt⟩ (DK nt tB t K)) : AWPD P T e tB nt c env t K := awpd_of h
theorem awpd_seqH {x y : Code} (env' : DEnv) (t' : Option ByteArray) (h : ∀ K2 : Exit → DEnv → Option ByteArray → Prop, Kept (K2 .normal env' t') → AWPD P T e tB nt x env t K2) (hn : AWPD P T e tB nt y env' t' K) : AWPD P T e tB nt (.seq x y) env t K :=
  awpd_seq (h _ ⟨hn⟩)
theorem awpd_hide {x : Code} (env' : DEnv) (t' : Option ByteArray) (h : ∀ K2 : Exit → DEnv → Option ByteArray → Prop, Kept (K2 .normal env' t') → AWPD P T e tB nt x env t K2) (hk : K .normal env' t') : AWPD P T e tB nt x env t K := h K ⟨hk⟩
theorem awpd_blockH {id : Nat} {c : Code} (env' : DEnv) (t' : Option ByteArray) (h : ∀ K2 : Exit → DEnv → Option ByteArray → Prop, Kept (K2 .normal env' t') → AWPD P T e tB nt c env t K2) (hk : K .normal env' t') : AWPD P T e tB nt (.block id c) env t K :=
  awpd_block (h _ ⟨show blockD id K .normal env' t' from hk⟩)
theorem awpd_for {id : Nat} {c : Code} {α : Type} (J : α → Prop) (I : α → DEnv) (tx : α → Option ByteArray) (μ : α → Nat) (x0 : α) (fin : DEnv) (tf : Option ByteArray) (hJ : J x0) (h0 : ∀ p ∈ I x0, p ∈ env) (ht : t = tx x0)
    (round : ∀ x, J x → ∀ K2 : Exit → DEnv → Option ByteArray → Prop, Kept (∀ z, J z → μ z < μ x → K2 .normal (I z) (tx z)) → Kept (K2 (.exit id) fin tf) → AWPD P T e tB nt c (I x) (tx x) K2) (hk : K .normal fin tf) : AWPD P T e tB nt (.block id (.loop c)) env t K := by
  refine awpd_block (awpd_loop J I tx μ x0 hJ h0 ht fun x hx => round x hx _ ⟨fun z hz hlt => ⟨z, hz, hlt, fun _ h => h, rfl⟩⟩ ⟨?_⟩)
  show blockD id K (.exit id) fin tf
  simp only [blockD, if_true]
  exact hk

variable {ops : Array Oper} {e0 : Env} {h : Heap} {n : Nat} {rest : List Oper}
theorem mls_split (i : Nat) (hk : ALs ⟨1, none⟩ P ops nt (rest.take i) e0 h n fun e' h' n' => MLs P T e tB nt ops (rest.drop i) t e' h' n' K) : MLs P T e tB nt ops rest t e0 h n K := by
  have := mls_als (T := T) (e := e) (tB := tB) (t := t) (K := K) hk
  rwa [List.take_append_drop] at this
theorem mls_ops (i : Nat) (hk : aOps P ops nt (rest.take i) e0 h n fun e' h' n' => MLs P T e tB nt ops (rest.drop i) t e' h' n' K) : MLs P T e tB nt ops rest t e0 h n K := mls_split i (als_ops hk)
theorem mls_inl {o : Oper} {g : FuncId} {args : Array Operand} {tys : Array TypeId} (ho : o.op = .call { callee := .value (.func g), args := args, argTypes := tys }) {fn : Func} {c : Code}
    (hfn : P.funcs[g]? = some fn) (hname : (fn.name == "runtime.NumGoroutine") = false) (hb : fn.body = some c) (hl : args.toList.length ≤ fn.ntmps) (hd : dOk nt o.dst) (hg : o.guard = none)
    (hk : AWPk ⟨n, none⟩ P c ⟨envA 0 (args.toList.map (ev e0)), h, n, fn.ntmps⟩ (inlK P fn.results.toList fun v h' n' => MLs P T e tB nt ops rest t (put e0 o.dst v) h' n' K)) : MLs P T e tB nt ops (o :: rest) t e0 h n K :=
  mls_als (p1 := [o]) (als_inl ho hfn hname hb hl hd hg hk)
omit [LaidW] in
@[simp] theorem dEnv_nil : dEnv [] = [] := rfl
omit [LaidW] in
@[simp] theorem dEnv_cons (p : Nat × PV) (r : DEnv) : dEnv (p :: r) = (p.1, .w false false p.2) :: dEnv r := rfl
omit [LaidW] in
@[simp] theorem sEnv_none (env : DEnv) : sEnv tB none env = dEnv env := rfl
omit [LaidW] in
@[simp] theorem sEnv_some (u : ByteArray) (env : DEnv) : sEnv tB (some u) env = (tB, .ptr 0 0 0) :: dEnv env := rfl
omit [LaidW] in
@[simp] theorem FzL_nil (env : Env) (h : Heap) : FzL env h [] = True := rfl
omit [LaidW] in
@[simp] theorem FzL_cons (env : Env) (h : Heap) (p : Nat × PV) (r : DEnv) : FzL env h (p :: r) = (frz h 9 (get env p.1) = some p.2 ∧ FzL env h r) := rfl
end
end Go.Fi

