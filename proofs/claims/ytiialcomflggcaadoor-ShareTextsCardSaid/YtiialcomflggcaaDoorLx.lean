/- A logic of abstract states for this claim (part Lx): lemmas alone. -/
import Derived.Test.YtiialcomflggcaaDoorLe
import Derived.Test.YtiialcomflggcaaDoorLf
set_option linter.unusedSimpArgs false
set_option linter.unusedVariables false

namespace Go.Fi
open Go Go.RowKit
variable [LaidW]
variable {fk : Fk}

/-! ### maps from texts to numbers: what the steps come to -/
/-- a map's entries, in the order of their coming -/
def pS (M : List (ByteArray × Int)) : List (PV × PV) := M.map fun p => (.str p.1, .int .i64 p.2)
def mS (M : List (ByteArray × Int)) : List AV := [mcell (pS M)]
def lookM : List (ByteArray × Int) → ByteArray → Option Int
  | [], _ => none
  | p :: r, k => if k = p.1 then some p.2 else lookM r k
def putM : List (ByteArray × Int) → ByteArray → Int → List (ByteArray × Int)
  | [], k, v => [(k, v)]
  | p :: r, k, v => if k = p.1 then (k, v) :: r else p :: putM r k v
omit [LaidW] in
theorem mcell_S : [mcell []] = mS [] := rfl
omit [LaidW] in
theorem cellLe_mp {D : List Nat} {h : Heap} {n n' : Nat} (o f : Bool) (p : PV) : cellLe D h n n' (.w o f p) (.w false false p) := .inl ⟨⟨(fun h => by cases h), (fun h => by cases h), .inl rfl⟩, rfl⟩
omit [LaidW] in
theorem cellsLe_prM {D : List Nat} {h : Heap} {n n' : Nat} : ∀ (l : List PV) {X Y : List AV}, cellsLe D h n n' X Y → cellsLe D h n n' (l.map (.w false false) ++ X) (l.map (.w false false) ++ Y)
  | [], _, _, e => e
  | p :: l, _, _, e => ⟨cellLe_mp _ _ _, cellsLe_prM l e⟩
omit [LaidW] in
@[simp] theorem mS_len (M : List (ByteArray × Int)) : (mS M).length = 1 := rfl
omit [LaidW] in
@[simp] theorem mS_lt (M : List (ByteArray × Int)) (n : Nat) : AV.lt.ltL n (mS M) = true := rfl
omit [LaidW] in
@[simp] theorem mS_self {D : List Nat} {h : Heap} {n n' : Nat} (M : List (ByteArray × Int)) : cellsLe D h n n' (mS M) (mS M) = True := eq_true ⟨cellLe_mp _ _ _, trivial⟩
omit [LaidW] in
theorem mdec_mS (M : List (ByteArray × Int)) : mdec (mS M) = some (pS M) := mdec_mcell _
omit [LaidW] in
theorem okM_S (M : List (ByteArray × Int)) (k : ByteArray) : okM .string (.str k) (pS M) = true := by
  simp [okM, okK, isLit, pS, List.all_eq_true]
omit [LaidW] in
theorem mlook_S (M : List (ByteArray × Int)) (k : ByteArray) : mlook (pS M) (.str k) = (lookM M k).map (PV.int .i64) := by
  induction M with
  | nil => rfl
  | cons p r ih =>
    simp only [pS, List.map_cons, mlook, lookM, eqK, decide_eq_true_eq]
    split
    · rfl
    · exact ih
omit [LaidW] in
theorem mset_S (M : List (ByteArray × Int)) (k : ByteArray) (v : Int) : mset (pS M) (.str k) (.int .i64 v) = pS (putM M k v) := by
  induction M with
  | nil => rfl
  | cons p r ih =>
    simp only [pS, List.map_cons, mset, putM, eqK, decide_eq_true_eq]
    split
    · rfl
    · simp only [List.map_cons]; congr 1
def lookV (c : Bool) (r : Option Int) : AV :=
  match c, r with
  | true, some v => .w false false (.tup [.int .i64 v, .bool true])
  | true, none => .w false false (.tup [.int .i64 0, .bool false])
  | false, some v => .w false false (.int .i64 v)
  | false, none => .w false false (.int .i64 0)
omit [LaidW] in
@[simp] theorem lookV_yes (v : Int) : lookV true (some v) = .w false false (.tup [.int .i64 v, .bool true]) := rfl
omit [LaidW] in
@[simp] theorem lookV_no : lookV true none = .w false false (.tup [.int .i64 0, .bool false]) := rfl
omit [LaidW] in
@[simp] theorem lookV_one (r : Option Int) : lookV false r = .w false false (.int .i64 (r.getD 0)) := by cases r <;> rfl
omit [LaidW] in
@[simp] theorem mpC_mp (h : Heap) (id : Nat) : mpC h (.mp id) = hget h id := rfl
omit [LaidW] in
theorem lkV_S {P : Program} {t : TypeId} (hm : mapT P t = some (.string, .int .i64 0)) (M : List (ByteArray × Int)) (o f : Bool) (k : ByteArray) (c : Bool) : lkV P t (some (mS M)) (.w o f (.str k)) c = some (True, lookV c (lookM M k), []) := by
  unfold lkV
  simp only [Option.bind_some, mdec_mS, hm, okM_S, mlook_S]
  cases c <;> cases lookM M k <;> rfl
def setQ (h : Heap) (id : Nat) (cells : Option (List AV)) (r : Option (TypeDesc × PV)) (k v : AV) : Option (Prop × Heap) :=
  match cells.bind mdec, k, v, r with
  | some l, .w _ _ kp, .w _ _ vp, some (d, _) => some ((okM d kp l = true ∧ isLit vp = true), hset h id [mcell (mset l kp vp)])
  | _, _, _, _ => none
def setR (h : Heap) (r : Option (TypeDesc × PV)) (m k v : AV) : Option (Prop × Heap) :=
  match m with
  | .mp id => setQ h id (hget h id) r k v
  | _ => none
omit [LaidW] in
@[simp] theorem setR_mp (h : Heap) (r : Option (TypeDesc × PV)) (id : Nat) (k v : AV) : setR h r (.mp id) k v = setQ h id (hget h id) r k v := rfl
omit [LaidW] in
@[simp] theorem setQ_S (h : Heap) (id : Nat) (M : List (ByteArray × Int)) (z : PV) (o f o' f' : Bool) (k : ByteArray) (v : Int) : setQ h id (some (mS M)) (some (.string, z)) (.w o f (.str k)) (.w o' f' (.int .i64 v)) = some (True, hset h id (mS (putM M k v))) := by
  unfold setQ
  simp only [Option.bind_some, mdec_mS, okM_S, isLit, and_self, mset_S]
  rfl
@[simp ↓] theorem E_lookup {P : Program} {env : Env} {h : Heap} {n : Nat} (t : TypeId) (x k : Operand) (c : Bool) (K : AV → Heap → Nat → Prop) : EStep P env h n (.lookup t x k c) K = aW (aOp P h n (ev env) (.lookup t x k c)) (eK h n K) .it := rfl
@[simp ↓] theorem Q_lookup {P : Program} {env : Env} {h : Heap} {n : Nat} (t : TypeId) (x k : Operand) (c : Bool) (K : AV → List (List AV) → Prop) : QStep P env h n (.lookup t x k c) K = aW (aOp P h n (ev env) (.lookup t x k c)) K .it := rfl
@[simp ↓] theorem E_makeMap {P : Program} {env : Env} {h : Heap} {n : Nat} (t : TypeId) (K : AV → Heap → Nat → Prop) : EStep P env h n (.makeMap t none) K = pM (some ((mapT P t).isSome = true, .mp n, (n, [mcell []]) :: h, n + 1)) K .it := rfl
@[simp ↓] theorem E_mapUpdate {P : Program} {env : Env} {h : Heap} {n : Nat} (t : TypeId) (m k v : Operand) (K : AV → Heap → Nat → Prop) : EStep P env h n (.mapUpdate t m k v) K = sM (setR h (mapT P t) (ev env m) (ev env k) (ev env v)) n K .it := by
  show setMW P env h n t m k v K = _
  unfold setMW setR setQ
  cases ev env m with
  | mp id =>
    dsimp only
    cases (hget h id).bind mdec <;> first
      | rfl
      | (cases ev env k <;> first
          | rfl
          | (cases ev env v <;> first
              | rfl
              | (cases mapT P t <;> rfl)))
  | _ => rfl
omit [LaidW] in
@[simp] theorem idOf_mp (a : Nat) : idOf (.mp a) = a := rfl
omit [LaidW] in
@[simp] theorem touchMp_mp (a : Nat) (D : List Nat) : touchMp (.mp a) D = (a ∈ D) := rfl
omit [LaidW] in
@[simp] theorem touch_lookup (env : Env) (t : TypeId) (x k : Operand) (c : Bool) (D : List Nat) : touch env (.lookup t x k c) D = True := rfl
omit [LaidW] in
@[simp] theorem touch_mapUpdate (env : Env) (t : TypeId) (m k v : Operand) (D : List Nat) : touch env (.mapUpdate t m k v) D = touchMp (ev env m) D := rfl
/-- a list of texts in cells of its own -/
def nA (l : List ByteArray) : List AV := (l.map PV.str).map (AV.w false false)
omit [LaidW] in
@[simp] theorem nA_len (l : List ByteArray) : (nA l).length = l.length := by simp [nA]
omit [LaidW] in
@[simp] theorem nA_nil : nA [] = [] := rfl
omit [LaidW] in
@[simp] theorem nA_snoc (a : List ByteArray) (x : ByteArray) : nA a ++ [.w false false (.str x)] = nA (a ++ [x]) := by simp [nA]
omit [LaidW] in
@[simp] theorem nA_lt (l : List ByteArray) (n : Nat) : AV.lt.ltL n (nA l) = true := ltL_map n false false _
omit [LaidW] in
@[simp] theorem nA_self {D : List Nat} {h : Heap} {n n' : Nat} (l : List ByteArray) : cellsLe D h n n' (nA l) (nA l) = True := eq_true (cellsLe_w false false _)
omit [LaidW] in
@[simp] theorem nA_own {D : List Nat} {h : Heap} {n n' : Nat} (a : List ByteArray) (x : ByteArray) (o0 f0 : Bool) : cellsLe D h n n' (nA a ++ [.w o0 f0 (.str x)]) (nA (a ++ [x])) = True := eq_true (by rw [← nA_snoc]; exact cellsLe_prM _ ⟨cellLe_mp _ _ _, trivial⟩)

/-! ### what a map of sums is, in plain words -/
omit [LaidW] in
theorem lookM_put {k : ByteArray} {v : Int} : ∀ {M : List (ByteArray × Int)} {q : ByteArray}, lookM (putM M k v) q = if q = k then some v else lookM M q
  | [], q => by simp [putM, lookM]
  | p :: r, q => by
    by_cases hk : k = p.1
    · subst hk
      simp only [putM, if_true, lookM]
      split <;> rfl
    · simp only [putM, if_neg hk, lookM, lookM_put]
      by_cases hq : q = p.1
      · subst hq
        simp only [if_true]
        rw [if_neg (fun e => hk e.symm)]
      · simp only [if_neg hq]
end Go.Fi

