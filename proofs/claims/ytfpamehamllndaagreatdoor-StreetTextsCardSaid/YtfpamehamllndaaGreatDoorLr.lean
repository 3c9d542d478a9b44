/- A logic of abstract states for this claim (part Lr): lemmas alone. -/
import Derived.Test.YtfpamehamllndaaGreatDoorLp
import Derived.Shelf.Strconv.Itoa3
import Derived.Shelf.Strings.Split
import Derived.Shelf.Strings.Cut
import Derived.Shelf.Strings.Count
import Derived.Shelf.Strings.Prefix
import Derived.Shelf.Slices.Turned
import Derived.Shelf.Strconv.AtoiAll
import Derived.Test.YtfpamehamllndaaGreatDoorLf
set_option linter.unusedSimpArgs false
set_option linter.unusedVariables false

namespace Go.Fi
open Go Go.RowKit Go.Shelf Go.Proofs Go.Sort
variable [LaidW]

omit [LaidW] in
theorem below_grow' (w : World) (k : Nat) (os : Array Obj) : Below w.heap.size w (grow (w.drewN k) os) :=
  ⟨rfl, rfl, rfl, by show w.heap.size ≤ (w.heap ++ os).size; rw [Array.size_append]; exact Nat.le_add_right _ _, fun b hb => Array.getElem?_append_left hb⟩
omit [LaidW] in
theorem vs1 {vs : Array Value} (h : 1 = vs.size) : ∃ a, vs = #[a] := by
  obtain ⟨l⟩ := vs
  match l, h with
  | [a], _ => exact ⟨a, rfl⟩
omit [LaidW] in
theorem vs2 {vs : Array Value} (h : 2 = vs.size) : ∃ a b, vs = #[a, b] := by
  obtain ⟨l⟩ := vs
  match l, h with
  | [a, b], _ => exact ⟨a, b, rfl⟩
def dec (n : Int) : ByteArray := ⟨(Lib.itoa n).toArray⟩
/-- strconv.Itoa -/
theorem itoa_real {P : Program} {ρ : Ren} (L : LaysM.n171 P ρ) (ent : Enterable P (ρ.f 171)) (ht : ∀ w, LaidW.ok w → Lib.TabIs P w "internal/strconv.uint64pow10" .u64 Lib.pow10Tab) (n : Int) (h0 : -9223372036854775808 ≤ n) (h1 : n ≤ 9223372036854775807) :
    RealCall P (ρ.f 171) [.int .i64 n] (.str (dec n)) true := by
  refine ⟨ent, fun G w vs hok hl hrep => ?_⟩
  obtain ⟨v0, rfl⟩ := vs1 hl
  have r0 := hrep 0 _ v0 rfl rfl
  cases r0
  refine (Any.strconv_Itoa L n h0 h1 w (ht w hok)).mono ?_
  rintro e w' ⟨rfl, k, os, rfl⟩
  exact ⟨_, rfl, below_grow' w k os, .str _⟩
/-- strings.TrimPrefix -/
theorem trim_real {P : Program} {ρ : Ren} (L : Lays.n101 P ρ) (ent : Enterable P (ρ.f 101)) (s p : ByteArray) :
    RealCall P (ρ.f 101) [.str s, .str p] (.str ⟨(Lib.trimPrefix s.data.toList p.data.toList).toArray⟩) true := by
  refine ⟨ent, fun G w vs hok hl hrep => ?_⟩
  obtain ⟨v0, v1, rfl⟩ := vs2 hl
  have r0 := hrep 0 _ v0 rfl rfl
  have r1 := hrep 1 _ v1 rfl rfl
  cases r0
  cases r1
  refine (Any.strings_TrimPrefix L s p w).mono ?_
  rintro e w' ⟨rfl, rfl⟩
  exact ⟨_, rfl, Below.refl _ _, .str _⟩
def pieces (s sep : ByteArray) : List ByteArray := Lib.splitB sep 0 (Lib.countB s sep) s
/-- strings.Split -/
theorem split_real {P : Program} {ρ : Ren} (L : Lays.n146 P ρ) (ent : Enterable P (ρ.f 146)) (hi9 : (P.info? (ρ.t 9)).map (fun i => (i.zero, i.size, i.bytes)) = some (some (.string ByteArray.empty), 1, 16)) (hm : ∀ w, LaidW.ok w → ∃ m, w.cell? ⟨(ρ.g 1), 0, none⟩ = some (.int .i64 m))
    (s sep : ByteArray) (hs : s.size < 4294967281) (h1 : 1 ≤ sep.size) : RealCall P (ρ.f 146) [.str s, .str sep] (.sl (pieces s sep).length (strP (pieces s sep))) true := by
  refine ⟨ent, fun G w vs hok hl hrep => ?_⟩
  obtain ⟨v0, v1, rfl⟩ := vs2 hl
  have r0 := hrep 0 _ v0 rfl rfl
  have r1 := hrep 1 _ v1 rfl rfl
  cases r0
  cases r1
  obtain ⟨m, hm⟩ := hm w hok
  refine (Any.strings_Split L hi9 s sep m w hs hm h1).mono ?_
  rintro e w' ⟨rfl, rfl⟩
  have hlen : (pieces s sep).length = Lib.countB s sep + 1 := by
    unfold pieces; rw [Lib.splitB_all sep h1 0 _ s rfl]
  refine ⟨_, rfl, (Below.refl _ _).alloc (Nat.le_refl _) _, ?_⟩
  rw [hlen]
  refine .sl (fun j => ((pieces s sep).map Value.string).getD j undef) (Nat.le_refl _) (fun j hj => ?_) (fun _ => ⟨fun h => absurd h (Nat.lt_irrefl _), fun _ => Nat.le_refl _⟩) (fun j p hp => ?_)
  · have hj' : j < (pieces s sep).length := by simpa [strP] using hj
    rw [Nat.zero_add]
    simp only [World.cell?, heap_push_new w _]
    show ((Lib.splitB sep 0 (Lib.countB s sep) s).map Value.string).toArray[j]? = _
    rw [List.getElem?_toArray, List.getD_eq_getElem?_getD]
    have : j < ((pieces s sep).map Value.string).length := by simpa using hj'
    show ((pieces s sep).map Value.string)[j]? = _
    rw [List.getElem?_eq_getElem this]; rfl
  · obtain ⟨x, hx, rfl⟩ := getElem?_map_some hp
    simp only [List.getD_eq_getElem?_getD, List.getElem?_map, hx]
    exact .str _
/-- slices.Contains at []string -/
theorem cont_real {P : Program} {ρ : Ren} (L : Lays.n110 P ρ) (ent : Enterable P (ρ.f 110)) (xs : List ByteArray) (x : ByteArray) (hl : xs.length ≤ 1000000000) :
    RealCall P (ρ.f 110) [.sl xs.length (strP xs), .str x] (.bool (Lib.containsS xs x)) true := by
  refine ⟨ent, fun G w vs hok hlen hrep => ?_⟩
  obtain ⟨v0, v1, rfl⟩ := vs2 hlen
  have h0 := hrep 0 _ v0 rfl rfl
  have r1 := hrep 1 _ v1 rfl rfl
  cases r1
  have fin : ∀ (e : Ending) (w' : World), (e = .returned (.bool (Lib.containsS xs x)) ∧ w' = w) → ∃ v, e = .returned v ∧ Below w.heap.size w w' ∧ Rep (fun b => (b < w.heap.size → G b) ∧ (true = true → w.heap.size ≤ b)) w' (.bool (Lib.containsS xs x)) v := by
    rintro e w' ⟨rfl, rfl⟩
    exact ⟨_, rfl, Below.refl _ _, .bool _⟩
  have none_ : ∀ (a : Option Addr) (c : Nat), xs = [] → Calls P (ρ.f 110) #[.slice a 0 c, .string x] w fun e w' => ∃ v, e = .returned v ∧ Below w.heap.size w w' ∧ Rep (fun b => (b < w.heap.size → G b) ∧ (true = true → w.heap.size ≤ b)) w' (.bool (Lib.containsS xs x)) v := by
    intro a c hx
    subst hx
    refine (Any.slices_Contains_string_empty L a c x w).mono ?_
    rintro e w' ⟨rfl, rfl⟩
    exact fin _ _ ⟨rfl, rfl⟩
  generalize hn : xs.length = n at h0
  generalize hc : strP xs = cs at h0
  cases h0 with
  | slnil => exact none_ none 0 (List.eq_nil_of_length_eq_zero hn)
  | slz hle =>
    have : xs = [] := by unfold strP at hc; simpa using hc
    subst this
    have : n = 0 := hn.symm
    subst this
    exact none_ _ _ rfl
  | @sl n cap b off cells vals hle hcell hg hr =>
    subst hc
    subst hn
    have hlen2 : (strP xs).length = xs.length := by simp [strP]
    have hv : ∀ (j : Nat) y, xs[j]? = some y → vals j = .string y := by
      intro j y hj
      have := hr j (.str y) (by simp [strP, hj])
      generalize vals j = v at this
      cases this
      rfl
    refine (Any.slices_Contains_string L b off xs.length cap xs x w (Nat.le_refl _) (by omega) (fun j hj => ?_)).mono ?_
    · rw [hcell j (by omega), hv j (xs.getD j ByteArray.empty) (by rw [List.getD_eq_getElem?_getD, List.getElem?_eq_getElem hj]; rfl)]
    · rw [List.take_length]; exact fin
/-- strconv.Atoi of a number -/
theorem atoi_real {P : Program} {ρ : Ren} (L : LaysC.n172 P ρ) (ent : Enterable P (ρ.f 172)) (s : ByteArray) (hmax : s.size ≤ 9223372036854775806) (v : Int) (h : Lib.atoiAll s.data.toList = .ok v) :
    RealCall P (ρ.f 172) [.str s] (.tup [.int .i64 v, .nili]) true := by
  refine ⟨ent, fun G w vs hok hl hrep => ?_⟩
  obtain ⟨v0, rfl⟩ := vs1 hl
  have r0 := hrep 0 _ v0 rfl rfl
  cases r0
  refine (Any.strconv_Atoi_ok L s hmax v h w).mono ?_
  rintro e w' ⟨rfl, hw⟩
  refine ⟨_, rfl, ?_, .tup rfl (fun j p u hp hv => ?_)⟩
  · rcases hw with rfl | ⟨t, rfl⟩
    · exact Below.refl _ _
    · refine ⟨rfl, rfl, rfl, ?_, fun b hb => Lib.bytesWorld_at_old w _ t b hb⟩
      simp [Lib.bytesWorld, World.freeze, World.alloc, World.drew, -World.alloc_eq, -World.drew_eq]
  · match j, hp, hv with
    | 0, hp, hv => simp at hp hv; subst hp; subst hv; exact .int _ _
    | 1, hp, hv => simp at hp hv; subst hp; subst hv; exact .nili
end Go.Fi

namespace Go.Fi
open Go Go.RowKit
variable [LaidW]
variable {fk : Fk}

omit [LaidW] in
@[simp] theorem flat_nili : flat .nili = true := rfl
omit [LaidW] in
@[simp] theorem flat_ifc (t : TypeId) (p : PV) : flat (.ifc t p) = false := rfl
omit [LaidW] in
@[simp] theorem flat_tup (l : List PV) : flat (.tup l) = false := rfl

def nilOp : BinOp → Bool → Option Bool
  | .eql, b => some b
  | .neq, b => some (!b)
  | _, _ => none
def isNili : PV → Option Bool
  | .nili => some true
  | .ifc _ _ => some false
  | _ => none
/-- an interface value compared with the literal nil -/
theorem awp_nili {P : Program} {K : Exit → St → Prop} {rid d1 d2 t ty1 ty2 : Nat} {p1 p2 : String} {a1 a2 : Array Edge} {st tt : TypeId} {env : Env} {h : Heap} {n nt : Nat} {ow fl : Bool} {p : PV} {op : BinOp} {ms : Array (String × TypeId)} {b r : Bool} {ops : Array Oper} {rest : List Oper}
    (hops : ops.toList = ⟨some d1, .move (.tmp t), ty1, p1, a1, none⟩ :: ⟨some d2, .binOp op st (.tmp d1) (.const .nilIface) tt, ty2, p2, a2, none⟩ :: rest)
    (hu : P.underlying st = some (.interface ms)) (hg : get env t = .w ow fl p) (hp : isNili p = some b) (hr : nilOp op b = some r) (hd1 : d1 < nt) (hd2 : d2 < nt)
    (hk : aOps P ops nt rest ((d2, .w false false (.bool r)) :: (d1, .w ow fl p) :: env) h n fun e' h' n' => K .normal ⟨e', h', n', nt⟩) :
    AWPk fk P (.region rid ops false) ⟨env, h, n, nt⟩ K := by
  intro B w0 a w m hs
  refine wpIn_region_list ?_
  rw [hops]
  simp only [wpListIn, Region.wanted, if_true]
  refine wpIn_of_wp (fun c e => by cases e) (estep_sound w0 (⟨some d1, .move (.tmp t), ty1, p1, a1, none⟩ : Oper) (K := fun v h' n' => v = get env t ∧ h' = h ∧ n' = n) (by simp) hs hd1 _ _ ?_)
  rintro v h' n' a w m ⟨rfl, rfl, rfl⟩ hs
  refine wpIn_of_wp (fun c e => by cases e) ?_
  rw [hg] at hs
  have hx : RepA B (LB m h') m w (.w ow fl p) (a.eval (.tmp d1)) := by
    have := hs.env d1
    rw [show get (St.env ⟨put env (some d1) (.w ow fl p), h', n', nt⟩) d1 = .w ow fl p from by simp [put, get]] at this
    exact this
  have he' : ∀ d x b', (x = .nilIface ∧ b' = true ∨ (∃ t v, x = .iface t v) ∧ b' = false) → (Op.equalIn (d + 1) st x .nilIface).run P w = .ok b' w := fun d x b' hx => by
    rw [Op.equalIn, Sem.run_bind, run_underlying hu]
    simp only [Result.andThen_ok]
    rcases hx with ⟨rfl, rfl⟩ | ⟨⟨t, v, rfl⟩, rfl⟩ <;> rfl
  have hrun : (execOp a.eval ⟨some d2, .binOp op st (.tmp d1) (.const .nilIface) tt, ty2, p2, a2, none⟩).run P w = .ok (.value (.bool r)) w := by
    have hc : a.eval (.const .nilIface) = .nilIface := rfl
    generalize hv : a.eval (.tmp d1) = v at hx
    have hvv : v = .nilIface ∧ b = true ∨ (∃ t v', v = .iface t v') ∧ b = false := by
      cases hx with
      | w hrep _ =>
        cases p with
        | nili => cases hrep; exact .inl ⟨rfl, by simpa [isNili] using hp.symm⟩
        | ifc t q => cases hrep; exact .inr ⟨⟨_, _, rfl⟩, by simpa [isNili] using hp.symm⟩
        | _ => simp [isNili] at hp
    have he : (Op.equal st v .nilIface).run P w = .ok b w := he' 9999 v b hvv
    have hgd : (eqGuard op st (.tmp d1) (.const .nilIface) v .nilIface).run P w = .ok () w := by
      unfold eqGuard
      rcases hvv with ⟨rfl, rfl⟩ | ⟨⟨t, v', rfl⟩, rfl⟩ <;> cases op <;> rfl
    cases op <;> simp [nilOp] at hr <;> subst hr <;> simp [execOp, hv, hc, hgd, binOp, he]
    all_goals (rcases hvv with ⟨rfl, rfl⟩ | ⟨⟨t, v', rfl⟩, rfl⟩ <;> simp [binOp, he])
  unfold Oper.wp
  rw [hrun, Oper.upon_value]
  have hs2 : Sim B w0 ⟨(d2, .w false false (.bool r)) :: (d1, .w ow fl p) :: env, h', n', nt⟩ (a.put (some d2) (.bool r)) w m := by
    refine ⟨hs.base, hs.below, by rw [put_defers]; exact hs.defers, by rw [put_size]; exact hs.size, ?_, hs.heap, hs.dom, hs.ids, hs.fr⟩
    exact get_put _ a (some d2) _ _ (by show d2 < a.tmps.size; rw [hs.size]; exact hd2) (rep_bool _) hs.env
  exact aOps_sound (fun _ _ _ _ _ m hk' hs' => ⟨_, m, hk', hs'⟩) rest _ _ _ _ _ m hk hs2
end Go.Fi

