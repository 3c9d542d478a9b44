/- A logic of abstract states for this claim (part Lm): lemmas alone. -/
import Derived.Test.YtfpamehamllndaaGreatDoorLl
set_option linter.unusedSimpArgs false
set_option linter.unusedVariables false

namespace Go.Fi
open Go Go.RowKit
variable [LaidW]
variable {fk : Fk}

section
variable {P : Program} {K : Exit → St → Prop}

theorem aOps_app {ops : Array Oper} {nt : Nat} {B : Base} {w0 : Ctx fk} {Kr : Env → Heap → Nat → Prop} {Q : Exit → Act → World → Prop} (rest : List Oper)
    (hQ : ∀ e h n a w m, Kr e h n → Sim B w0 ⟨e, h, n, nt⟩ a w m → wpListIn (Fe w0.r) 0 P ops Q rest a w) :
    ∀ (os : List Oper) (e : Env) (h : Heap) (n : Nat) (a : Act) (w : World) (m : Mm), aOps P ops nt os e h n Kr → Sim B w0 ⟨e, h, n, nt⟩ a w m → wpListIn (Fe w0.r) 0 P ops Q (os ++ rest) a w
  | [], e, h, n, a, w, m, hk, hs => hQ e h n a w m hk hs
  | o :: os, e, h, n, a, w, m, hk, hs => by
    simp only [aOps] at hk
    split at hk
    · rename_i g hg
      have hw := wanted_sound hg hs
      simp only [List.cons_append, wpListIn, hw]
      cases g with
      | true =>
        simp only [if_true]
        exact wpIn_of_wp (estep_nd (hk.2.1 rfl)) (estep_sound w0 o (K := fun v h' n' => aOps P ops nt os (put e o.dst v) h' n' Kr) (hk.2.1 rfl) hs hk.1 Q _ (fun v h' n' a' w' m' hk' hs' => aOps_app rest hQ os _ _ _ _ _ m' hk' hs'))
      | false =>
        simp only [Bool.false_eq_true, if_false]
        refine ⟨fun _ _ => trivial, aOps_app rest hQ os _ _ _ _ _ m (hk.2.2 rfl) ⟨hs.base, hs.below, by rw [put_defers]; exact hs.defers, by rw [put_size]; exact hs.size, ?_, hs.heap, hs.dom, hs.ids, hs.fr⟩⟩
        exact get_put e a o.dst _ _ (by rw [hs.size]; exact hk.1) (.tup rfl (fun j p v hp => by simp at hp)) hs.env
    · exact hk.elim

/-- a call of yield as an operation -/
def YW (P : Program) (ri : RI) (nt : Nat) (e : Env) (h : Heap) (n : Nat) (o : Oper) (K : Env → Heap → Nat → Prop) : Prop :=
  match o.op with
  | .call { callee := .value f, args := args, argTypes := _ } => dOk nt o.dst ∧ (∃ ow fl, ev e f = .w ow fl (.yl ri.l)) ∧
      Round P ri (args.toList.map (ev e)) h n (fun h' n' => K (put e o.dst (.w false false (.bool true))) h' n')
  | _ => False
def gYW (P : Program) (ri : RI) (ops : Array Oper) (nt : Nat) (e : Env) (h : Heap) (n : Nat) (o : Oper) (K : Env → Heap → Nat → Prop) : Prop :=
  match wantedA ops e o with
  | some g => dOk nt o.dst ∧ (g = true → YW P ri nt e h n o K) ∧ (g = false → K (put e o.dst (.tup [])) h n)
  | none => False

/-- a call walked in the caller's memory, as an operation -/
def IW (P : Program) (nt : Nat) (e : Env) (h : Heap) (n : Nat) (o : Oper) (g : FuncId) (caps : List AV) (fn : Func) (c : Code) (args : List AV) (K : Env → Heap → Nat → Prop) : Prop :=
  dOk nt o.dst ∧ o.guard = none ∧ AWPk ⟨n, none⟩ P c ⟨envA 0 (args ++ caps), h, n, fn.ntmps⟩ (inlK P fn.results.toList fun v h' n' => K (put e o.dst v) h' n')
/-- AN ORDERED REGION WITH A CALL THAT IS WALKED IN PLACE -/
theorem awp_regionI {id : Nat} {ops : Array Oper} {env : Env} {h : Heap} {n nt : Nat} (pre : List Oper) (o : Oper) (post : List Oper) (hops : ops.toList = pre ++ o :: post) {f : Operand} {args : Array Operand} {tys : Array TypeId}
    (ho : o.op = .call { callee := .value f, args := args, argTypes := tys }) {g : FuncId} {fn : Func} {c : Code} (hfn : P.funcs[g]? = some fn) (hname : (fn.name == "runtime.NumGoroutine") = false) (hb : fn.body = some c)
    (hk : aOps P ops nt pre env h n fun e' h' n' => ∃ caps, fnOf (ev e' f) = some (g, caps) ∧ (args.toList.map (ev e') ++ caps).length ≤ fn.ntmps ∧ IW P nt e' h' n' o g caps fn c (args.toList.map (ev e')) fun e'' h'' n'' => aOps P ops nt post e'' h'' n'' fun e3 h3 n3 => K .normal ⟨e3, h3, n3, nt⟩) :
    AWPk fk P (.region id ops false) ⟨env, h, n, nt⟩ K := by
  intro B w0 a w m hs
  refine wpIn_region_list ?_
  rw [hops]
  refine aOps_app (o :: post) ?_ pre env h n a w m hk hs
  rintro e h n a w m ⟨caps, hf, hnt, hdk, hgu, hw⟩ hs
  have hrest : ∀ e'' h'' n'' a'' w'' m'', (aOps P ops nt post e'' h'' n'' fun e3 h3 n3 => K .normal ⟨e3, h3, n3, nt⟩) → Sim B w0 ⟨e'', h'', n'', nt⟩ a'' w'' m'' → wpListIn (Fe w0.r) 0 P ops (fun e a' w' => ∃ st' m', K e st' ∧ Sim B w0 st' a' w' m') post a'' w'' :=
    fun e'' h'' n'' a'' w'' m'' hk' hs' => aOps_sound (fun _ _ _ _ _ m hk' hs' => ⟨_, m, hk', hs'⟩) post _ _ _ _ _ m'' hk' hs'
  simp only [wpListIn, Region.wanted, hgu, if_true]
  exact wpIn_of_wp (fun c e => by rw [ho] at e; cases e) (inline_sound o f args tys ho hf hfn hname hb hnt hw hs hdk _ _ (fun v h' n' a' w' m' hkv hs' => hrest _ _ _ _ _ m' hkv hs'))
end
end Go.Fi

namespace Go.Fi
open Go Go.RowKit
variable [LaidW]
variable {fk : Fk}

/-- the value that is looked for -/
def EqV (x : AV) (E : List (List AV)) (v : AV) : Prop := x = v ∧ E = []
def EqE (x : AV) (h' : Heap) (n' : Nat) (v : AV) (h : Heap) (n : Nat) : Prop := x = v ∧ h' = h ∧ n' = n
omit [LaidW] in
@[congr] theorem EqV_congr {x x' v : AV} {E E' : List (List AV)} (h : x = x') (h2 : E = E') : EqV x E v = EqV x' E' v := by rw [h, h2]
omit [LaidW] in
@[congr] theorem EqE_congr {x x' v : AV} {h h' h0 : Heap} {n n' n0 : Nat} (e1 : x = x') (e2 : h = h') (e3 : n = n') : EqE x h n v h0 n0 = EqE x' h' n' v h0 n0 := by rw [e1, e2, e3]
omit [LaidW] in
theorem EqV_w {o f : Bool} {p : PV} : EqV (.w o f p) [] (.w o f p) := ⟨rfl, rfl⟩
omit [LaidW] in
theorem EqV_ptr {a b c : Nat} : EqV (.ptr a b c) [] (.ptr a b c) := ⟨rfl, rfl⟩
omit [LaidW] in
theorem EqV_msl {a b c d e : Nat} : EqV (.msl a b c d e) [] (.msl a b c d e) := ⟨rfl, rfl⟩
omit [LaidW] in
theorem EqV_agg {c : List AV} : EqV (.agg c) [] (.agg c) := ⟨rfl, rfl⟩
omit [LaidW] in
theorem EqV_fn {g : FuncId} {c : List AV} : EqV (.fn g c) [] (.fn g c) := ⟨rfl, rfl⟩
omit [LaidW] in
theorem EqV_gd {b : Bool} {c : AV} : EqV (gdV b c) [] (gdV b c) := ⟨rfl, rfl⟩
omit [LaidW] in
theorem EqE_w {o f : Bool} {p : PV} {h : Heap} {n : Nat} : EqE (.w o f p) h n (.w o f p) h n := ⟨rfl, rfl, rfl⟩
omit [LaidW] in
theorem EqE_ptr {a b c : Nat} {h : Heap} {n : Nat} : EqE (.ptr a b c) h n (.ptr a b c) h n := ⟨rfl, rfl, rfl⟩
omit [LaidW] in
theorem EqE_msl {a b c d e : Nat} {h : Heap} {n : Nat} : EqE (.msl a b c d e) h n (.msl a b c d e) h n := ⟨rfl, rfl, rfl⟩
omit [LaidW] in
theorem EqE_agg {c : List AV} {h : Heap} {n : Nat} : EqE (.agg c) h n (.agg c) h n := ⟨rfl, rfl, rfl⟩
omit [LaidW] in
theorem EqE_fn {g : FuncId} {c : List AV} {h : Heap} {n : Nat} : EqE (.fn g c) h n (.fn g c) h n := ⟨rfl, rfl, rfl⟩
omit [LaidW] in
theorem EqE_gd {b : Bool} {c : AV} {h : Heap} {n : Nat} : EqE (gdV b c) h n (gdV b c) h n := ⟨rfl, rfl, rfl⟩

section
variable {P : Program} {ops : Array Oper} {nt : Nat} {env : Env} {h : Heap} {n : Nat}
theorem qstep_mono {op : Op} {K K' : AV → List (List AV) → Prop} (hq : QStep P env h n op K) (hk : ∀ v E, K v E → K' v E) : QStep P env h n op K' := by
  unfold QStep at *
  split
  · rename_i f args tys
    simp only at hq
    split at hq
    · rename_i g caps e
      unfold callW at *
      split at hq
      · rename_i pvs e2
        rcases hq with ⟨res, fr, h1, h2, h3⟩ | ⟨E, v, h1, h3⟩
        · exact .inl ⟨res, fr, h1, h2, hk _ _ h3⟩
        · exact .inr ⟨E, v, h1, hk _ _ h3⟩
      · exact hq.elim
    · exact hq.elim
  · rename_i hne
    split at hq
    · rename_i f args tys
      exact (hne f args tys rfl).elim
    · split at hq
      · exact ⟨hq.1, hk _ _ hq.2⟩
      · exact hq.elim
omit [LaidW] in
theorem storeW_mono {t : TypeId} {ad x : Operand} {K K' : AV → Heap → Nat → Prop} (hq : storeW P env h n t ad x K) (hk : ∀ v h' n', K v h' n' → K' v h' n') : storeW P env h n t ad x K' := by
  unfold storeW at *
  split at hq
  · split at hq
    · exact ⟨hq.1, hk _ _ _ hq.2⟩
    · exact hq.elim
  · exact hq.elim
omit [LaidW] in
theorem appendW_mono {args : List Operand} {tys : List TypeId} {K K' : AV → Heap → Nat → Prop} (hq : appendW P env h n args tys K) (hk : ∀ v h' n', K v h' n' → K' v h' n') : appendW P env h n args tys K' := by
  unfold appendW at *
  split at hq
  · split at hq
    · split at hq
      · split at hq
        · split at hq
          · exact ⟨hq.1, hk _ _ _ hq.2⟩
          · exact hq.elim
        · rename_i own k cells e
          generalize hb : (own && decide (k = 0) && cells.isEmpty) = bb at hq ⊢
          cases bb
          · simp only [cond_false] at hq ⊢
            split at hq
            · exact ⟨hq.1, hk _ _ _ hq.2⟩
            · exact hq.elim
          · exact ⟨hq.1, hk _ _ _ hq.2⟩
        · exact hq.elim
      · exact hq.elim
    · exact hq.elim
  · exact hq.elim
theorem convW_mono {src dst : TypeId} {x : Operand} {K K' : AV → Heap → Nat → Prop} (hq : convW P env h n src dst x K) (hk : ∀ v h' n', K v h' n' → K' v h' n') : convW P env h n src dst x K' := by
  unfold convW at *
  split at hq
  · exact ⟨hq.1, hk _ _ _ hq.2⟩
  · exact qstep_mono hq fun v E hK => hk _ _ _ hK
omit [LaidW] in
theorem setMW_mono {t : TypeId} {x k v : Operand} {K K' : AV → Heap → Nat → Prop} (hq : setMW P env h n t x k v K) (hk : ∀ v h' n', K v h' n' → K' v h' n') : setMW P env h n t x k v K' := by
  unfold setMW at *
  split at hq
  · split at hq
    · exact ⟨hq.1, hk _ _ _ hq.2⟩
    · exact hq.elim
  · exact hq.elim
theorem estep_mono {op : Op} {K K' : AV → Heap → Nat → Prop} (hq : EStep P env h n op K) (hk : ∀ v h' n', K v h' n' → K' v h' n') : EStep P env h n op K' := by
  unfold EStep at *
  split
  · exact storeW_mono hq hk
  · exact appendW_mono hq hk
  · exact convW_mono hq hk
  · exact ⟨hq.1, hk _ _ _ hq.2⟩
  · exact setMW_mono hq hk
  · rename_i h1 h2 h3 h4 h5
    split at hq
    · exact (h1 _ _ _ rfl).elim
    · exact (h2 _ _ rfl).elim
    · exact (h3 _ _ _ rfl).elim
    · exact (h4 _ rfl).elim
    · exact (h5 _ _ _ _ rfl).elim
    · exact qstep_mono hq fun v E hK => hk _ _ _ hK

section
variable {op : Op} {b : Bool} {v : AV}
/-- a guarded operation with one value: both ways go on as one -/
theorem gQ_merge {K : AV → List (List AV) → Prop} {mk : Mark K} (hx : b = true → QStep P env h n op fun v' E => EqV v' E v) (hk : K (gdV b v) []) : gQ (some b) P env h n op K mk := by
  refine ⟨fun hb => ?_, fun hb => ?_⟩
  · refine qstep_mono (hx hb) ?_
    rintro v' E ⟨rfl, rfl⟩
    rw [hb, gdV_true] at hk
    exact hk
  · rw [hb, gdV_false] at hk
    exact hk
theorem gE_merge {K : AV → Heap → Nat → Prop} {mk : Mark K} (hx : b = true → EStep P env h n op fun v' h' n' => EqE v' h' n' v h n) (hk : K (gdV b v) h n) : gE (some b) P env h n op K mk := by
  refine ⟨fun hb => ?_, fun hb => ?_⟩
  · refine estep_mono (hx hb) ?_
    rintro v' h' n' ⟨rfl, rfl, rfl⟩
    rw [hb, gdV_true] at hk
    exact hk
  · rw [hb, gdV_false] at hk
    exact hk
end
omit [LaidW] in
@[simp] theorem gVal_gd (b : Bool) (o f c want : Bool) : gVal (gdV b (.w o f (.bool c))) want = some (b && (c == want)) := by cases b <;> rfl

end
theorem cw_eq {P : Program} {g : FuncId} {args args' : List PV} {K : PV → Bool → Prop} {K2 : List (List AV) → AV → Prop} {res : PV} {fr : Bool} {mk : Mark (K, K2)} (h : RealCall P g args res fr) (e : args' = args) (hk : K res fr) : CW P g args' K K2 mk := .inl ⟨res, fr, e ▸ h, hk⟩
end Go.Fi

