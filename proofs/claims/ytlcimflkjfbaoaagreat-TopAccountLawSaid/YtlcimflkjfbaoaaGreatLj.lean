/- A logic of abstract states for this claim (part Lj): lemmas alone. -/
import Derived.Test.YtlcimflkjfbaoaaGreatLf
set_option linter.unusedSimpArgs false
set_option linter.unusedVariables false

namespace Go.Fi
open Go Go.RowKit
variable [LaidW]
variable {fk : Fk}

/-- a slice compared with nil: one that has something is not nil; an empty one may be -/
theorem awp_nil {P : Program} {K : Exit → St → Prop} {rid d1 d2 t ty1 ty2 e : Nat} {p1 p2 : String} {a1 a2 : Array Edge} {st tt : TypeId} {env : Env} {h : Heap} {n nt : Nat} {ow fl : Bool} {k : Nat} {cells : List PV}
    (hu : P.underlying st = some (.slice e)) (hg : get env t = .w ow fl (.sl k cells)) (hd1 : d1 < nt) (hd2 : d2 < nt)
    (hk : ∀ b : Bool, (b = true → k = 0 ∧ cells = []) → K .normal ⟨(d2, .w false false (.bool b)) :: (d1, .w ow fl (.sl k cells)) :: env, h, n, nt⟩) :
    AWPk fk P (.region rid #[⟨some d1, .move (.tmp t), ty1, p1, a1, none⟩, ⟨some d2, .binOp .eql st (.tmp d1) (.const (.slice none 0 0)) tt, ty2, p2, a2, none⟩] false) ⟨env, h, n, nt⟩ K := by
  intro B w0 a w m hs
  refine wpIn_region_list ?_
  simp only [wpListIn, Region.wanted, if_true]
  refine wpIn_of_wp (fun c e => by cases e) (estep_sound w0 (⟨some d1, .move (.tmp t), ty1, p1, a1, none⟩ : Oper) (K := fun v h' n' => v = get env t ∧ h' = h ∧ n' = n) (by simp) hs hd1 _ _ ?_)
  rintro v h' n' a w m ⟨rfl, rfl, rfl⟩ hs
  refine wpIn_of_wp (fun c e => by cases e) ?_
  rw [hg] at hs
  have hx : RepA B (LB m h') m w (.w ow fl (.sl k cells)) (a.eval (.tmp d1)) := by
    have := hs.env d1
    rw [show get (St.env ⟨put env (some d1) (.w ow fl (.sl k cells)), h', n', nt⟩) d1 = .w ow fl (.sl k cells) from by simp [put, get]] at this
    exact this
  obtain ⟨a0, cap, hv, _, _, hnone, hne⟩ := hx.sl_inv
  have hrun : (execOp a.eval ⟨some d2, .binOp .eql st (.tmp d1) (.const (.slice none 0 0)) tt, ty2, p2, a2, none⟩).run P w = .ok (.value (.bool a0.isNone)) w := by
    have hv' : a.eval (.tmp d1) = .slice a0 k cap := hv
    have hc : a.eval (.const (.slice none 0 0)) = .slice none 0 0 := rfl
    have he' : ∀ d, (Op.equalIn (d + 1) st (.slice a0 k cap) (.slice none 0 0)).run P w = .ok a0.isNone w := fun d => by
      rw [Op.equalIn, Sem.run_bind, run_underlying hu]
      simp only [Result.andThen_ok]
      cases a0 <;> rfl
    have he : (Op.equal st (.slice a0 k cap) (.slice none 0 0)).run P w = .ok a0.isNone w := he' 9999
    have hg : (eqGuard .eql st (.tmp d1) (.const (.slice none 0 0)) (.slice a0 k cap) (.slice none 0 0)).run P w = .ok () w := rfl
    simp [execOp, hv', hc, hg, binOp, he]
  unfold Oper.wp
  rw [hrun, Oper.upon_value]
  refine ⟨_, m, hk a0.isNone (fun hb => ?_), hs.base, hs.below, by rw [put_defers]; exact hs.defers, by rw [put_size]; exact hs.size, ?_, hs.heap, hs.dom, hs.ids, hs.fr⟩
  · have : a0 = none := by cases a0 with
      | none => rfl
      | some x => cases hb
    refine ⟨(hnone this).1, ?_⟩
    cases hcs : cells with
    | nil => rfl
    | cons c r =>
      obtain ⟨b, off, vals, h0, _⟩ := hne (by rw [hcs]; simp)
      rw [this] at h0; cases h0
  · exact get_put _ a (some d2) _ _ (by show d2 < a.tmps.size; rw [hs.size]; exact hd2) (rep_bool _) hs.env
end Go.Fi

namespace Go.Fi
open Go Go.RowKit
variable [LaidW]
variable {fk : Fk}

/-- an element of an array of one-cell things, by a number that varies; and what follows in the region -/
theorem awp_idx {P : Program} {K : Exit → St → Prop} {rid d1 d2 t x i ty1 ty2 k e : Nat} {p1 p2 : String} {a1 a2 : Array Edge} {st : TypeId} {env : Env} {h : Heap} {n nt : Nat} {rest : List Oper} {ops : Array Oper} {cs : List AV} {j : Nat} {ow fl : Bool}
    (hops : ops.toList = ⟨some d1, .move (.tmp t), ty1, p1, a1, none⟩ :: ⟨some d2, .index st (.tmp x) (.tmp i), ty2, p2, a2, none⟩ :: rest)
    (hu : P.underlying st = some (.array k e)) (hA : arE P st = some (k, 1)) (hg : tyL P e = some (1, false))
    (hx : get env x = .agg cs) (hi : get env i = .w ow fl (.int .i64 j)) (hxd : d1 ≠ x) (hid : d1 ≠ i) (hj : j < k) (hjc : j < cs.length) (hd1 : d1 < nt) (hd2 : d2 < nt)
    (hk : aOps P ops nt rest ((d2, nthA cs j) :: (d1, get env t) :: env) h n fun e' h' n' => K .normal ⟨e', h', n', nt⟩) :
    AWPk fk P (.region rid ops false) ⟨env, h, n, nt⟩ K := by
  intro B w0 a w m hs
  obtain ⟨e', hu', it, hs1, hz⟩ := arE_spec hA
  obtain rfl : e = e' := by rw [hu] at hu'; injection hu' with q; injection q
  refine wpIn_region_list ?_
  rw [hops]
  simp only [wpListIn, Region.wanted, if_true]
  refine wpIn_of_wp (fun c e => by cases e) (estep_sound w0 (⟨some d1, .move (.tmp t), ty1, p1, a1, none⟩ : Oper) (K := fun v h' n' => v = get env t ∧ h' = h ∧ n' = n) (by simp) hs hd1 _ _ ?_)
  rintro v h' n' a w m ⟨rfl, rfl, rfl⟩ hs
  refine wpIn_of_wp (fun c e => by cases e) ?_
  have gx : get (St.env ⟨put env (some d1) (get env t), h', n', nt⟩) x = .agg cs := by simp [put, get, hxd, hx]
  have gi : get (St.env ⟨put env (some d1) (get env t), h', n', nt⟩) i = .w ow fl (.int .i64 j) := by simp [put, get, hid, hi]
  have rx := hs.env x
  have ri := hs.env i
  rw [gx] at rx
  rw [gi] at ri
  obtain ⟨vs, hv, hl, hr⟩ := rx.agg_inv
  have hiv := ri.int_inv
  have hlt : j < vs.size := by omega
  obtain ⟨i', d', hi', hz', hd', hagg⟩ := tyL_spec (w := w) hg
  have hrun : (execOp a.eval ⟨some d2, .index st (.tmp x) (.tmp i), ty2, p2, a2, none⟩).run P w = .ok (.value vs[j]) w := by
    have hxv : a.eval (.tmp x) = .agg vs := hv
    have hivv : a.eval (.tmp i) = .int .i64 j := hiv
    have hpart : (part e vs j).run P w = .ok vs[j] w := by
      simp only [part, Sem.run_bind, hagg, Result.andThen_ok]
      simp [hlt]
    have hix : (Instr.index st (.agg vs) (.int .i64 (j : Int))).run P w = .ok vs[j] w := by
      have h0 : (0 : Int) ≤ (j : Int) ∧ (j : Int) < (k : Int) := by omega
      simp only [Instr.index, asIntOf, Sem.run_bind, Sem.run_pure, run_underlying hu, Result.andThen_ok, h0, and_self, if_true]
      simp [sizeOf, typeInfo, hs1, hz, hpart]
    simp [execOp, hxv, hivv, hix]
  unfold Oper.wp
  rw [hrun, Oper.upon_value]
  have hs2 : Sim B w0 ⟨(d2, nthA cs j) :: (d1, get env t) :: env, h', n', nt⟩ (a.put (some d2) vs[j]) w m := by
    refine ⟨hs.base, hs.below, by rw [put_defers]; exact hs.defers, by rw [put_size]; exact hs.size, ?_, hs.heap, hs.dom, hs.ids, hs.fr⟩
    exact get_put _ a (some d2) _ _ (by show d2 < a.tmps.size; rw [hs.size]; exact hd2) (hr _ _ _ (getD_some hjc) (by simp [hlt])) hs.env
  exact aOps_sound (fun _ _ _ _ _ m hk' hs' => ⟨_, m, hk', hs'⟩) rest _ _ _ _ _ m hk hs2
end Go.Fi

namespace Go.Fi
open Go Go.RowKit
variable [LaidW]
variable {fk : Fk}

/-- an element of an array of one-cell things, by a number that varies, as a region's first operation -/
theorem awp_idx1 {P : Program} {K : Exit → St → Prop} {rid d2 x i ty2 k e : Nat} {p2 : String} {a2 : Array Edge} {st : TypeId} {env : Env} {h : Heap} {n nt : Nat} {rest : List Oper} {ops : Array Oper} {cs : List AV} {j : Nat} {ow fl : Bool}
    (hops : ops.toList = ⟨some d2, .index st (.tmp x) (.tmp i), ty2, p2, a2, none⟩ :: rest)
    (hu : P.underlying st = some (.array k e)) (hA : arE P st = some (k, 1)) (hg : tyL P e = some (1, false))
    (hx : get env x = .agg cs) (hi : get env i = .w ow fl (.int .i64 j)) (hj : j < k) (hjc : j < cs.length) (hd2 : d2 < nt)
    (hk : aOps P ops nt rest ((d2, nthA cs j) :: env) h n fun e' h' n' => K .normal ⟨e', h', n', nt⟩) :
    AWPk fk P (.region rid ops false) ⟨env, h, n, nt⟩ K := by
  intro B w0 a w m hs
  obtain ⟨e', hu', it, hs1, hz⟩ := arE_spec hA
  obtain rfl : e = e' := by rw [hu] at hu'; injection hu' with q; injection q
  refine wpIn_region_list ?_
  rw [hops]
  simp only [wpListIn, Region.wanted, if_true]
  refine wpIn_of_wp (fun c e => by cases e) ?_
  have rx := hs.env x
  have ri := hs.env i
  rw [hx] at rx
  rw [hi] at ri
  obtain ⟨vs, hv, hl, hr⟩ := rx.agg_inv
  have hiv := ri.int_inv
  have hlt : j < vs.size := by omega
  obtain ⟨i', d', hi', hz', hd', hagg⟩ := tyL_spec (w := w) hg
  have hrun : (execOp a.eval ⟨some d2, .index st (.tmp x) (.tmp i), ty2, p2, a2, none⟩).run P w = .ok (.value vs[j]) w := by
    have hxv : a.eval (.tmp x) = .agg vs := hv
    have hivv : a.eval (.tmp i) = .int .i64 j := hiv
    have hpart : (part e vs j).run P w = .ok vs[j] w := by
      simp only [part, Sem.run_bind, hagg, Result.andThen_ok]
      simp [hlt]
    have hix : (Instr.index st (.agg vs) (.int .i64 (j : Int))).run P w = .ok vs[j] w := by
      have h0 : (0 : Int) ≤ (j : Int) ∧ (j : Int) < (k : Int) := by omega
      simp only [Instr.index, asIntOf, Sem.run_bind, Sem.run_pure, run_underlying hu, Result.andThen_ok, h0, and_self, if_true]
      simp [sizeOf, typeInfo, hs1, hz, hpart]
    simp [execOp, hxv, hivv, hix]
  unfold Oper.wp
  rw [hrun, Oper.upon_value]
  have hs2 : Sim B w0 ⟨(d2, nthA cs j) :: env, h, n, nt⟩ (a.put (some d2) vs[j]) w m := by
    refine ⟨hs.base, hs.below, by rw [put_defers]; exact hs.defers, by rw [put_size]; exact hs.size, ?_, hs.heap, hs.dom, hs.ids, hs.fr⟩
    exact get_put _ a (some d2) _ _ (by show d2 < a.tmps.size; rw [hs.size]; exact hd2) (hr _ _ _ (getD_some hjc) (by simp [hlt])) hs.env
  exact aOps_sound (fun _ _ _ _ _ m hk' hs' => ⟨_, m, hk', hs'⟩) rest _ _ _ _ _ m hk hs2
end Go.Fi

namespace Go.Fi
open Go Go.RowKit
variable [LaidW]
variable {fk : Fk}

/-- an element of an array of structs, by a number that varies, as a region's first operation -/
theorem awp_idxS {P : Program} {K : Exit → St → Prop} {rid d2 x i ty2 k e s : Nat} {p2 : String} {a2 : Array Edge} {st : TypeId} {env : Env} {h : Heap} {n nt : Nat} {rest : List Oper} {ops : Array Oper} {cs : List AV} {j : Nat} {ow fl : Bool}
    (hops : ops.toList = ⟨some d2, .index st (.tmp x) (.tmp i), ty2, p2, a2, none⟩ :: rest)
    (hu : P.underlying st = some (.array k e)) (hA : arE P st = some (k, s)) (hg : tyL P e = some (s, true))
    (hx : get env x = .agg cs) (hi : get env i = .w ow fl (.int .i64 j)) (hj : j < k) (hjc : j * s + s ≤ cs.length) (hd2 : d2 < nt)
    (hk : aOps P ops nt rest ((d2, .agg ((cs.drop (j * s)).take s)) :: env) h n fun e' h' n' => K .normal ⟨e', h', n', nt⟩) :
    AWPk fk P (.region rid ops false) ⟨env, h, n, nt⟩ K := by
  intro B w0 a w m hs
  obtain ⟨e', hu', it, hs1, hz⟩ := arE_spec hA
  obtain rfl : e = e' := by rw [hu] at hu'; injection hu' with q; injection q
  refine wpIn_region_list ?_
  rw [hops]
  simp only [wpListIn, Region.wanted, if_true]
  refine wpIn_of_wp (fun c e => by cases e) ?_
  have rx := hs.env x
  have ri := hs.env i
  rw [hx] at rx
  rw [hi] at ri
  obtain ⟨vs, hv, hl, hr⟩ := rx.agg_inv
  have hiv := ri.int_inv
  obtain ⟨i', d', hi', hz', hd', hagg⟩ := tyL_spec (w := w) hg
  have hrun : (execOp a.eval ⟨some d2, .index st (.tmp x) (.tmp i), ty2, p2, a2, none⟩).run P w = .ok (.value (.agg (vs.extract (j * s) (j * s + s)))) w := by
    have hxv : a.eval (.tmp x) = .agg vs := hv
    have hivv : a.eval (.tmp i) = .int .i64 j := hiv
    have hpart : (part e vs (j * s)).run P w = .ok (.agg (vs.extract (j * s) (j * s + s))) w := by
      simp only [part, Sem.run_bind, hagg, Result.andThen_ok]
      simp [sizeOf, typeInfo, hs1, hz]
    have hix : (Instr.index st (.agg vs) (.int .i64 (j : Int))).run P w = .ok (.agg (vs.extract (j * s) (j * s + s))) w := by
      have h0 : (0 : Int) ≤ (j : Int) ∧ (j : Int) < (k : Int) := by omega
      simp only [Instr.index, asIntOf, Sem.run_bind, Sem.run_pure, run_underlying hu, Result.andThen_ok, h0, and_self, if_true]
      simp [sizeOf, typeInfo, hs1, hz, hpart]
    simp [execOp, hxv, hivv, hix]
  unfold Oper.wp
  rw [hrun, Oper.upon_value]
  have hs2 : Sim B w0 ⟨(d2, .agg ((cs.drop (j * s)).take s)) :: env, h, n, nt⟩ (a.put (some d2) (.agg (vs.extract (j * s) (j * s + s)))) w m := by
    refine ⟨hs.base, hs.below, by rw [put_defers]; exact hs.defers, by rw [put_size]; exact hs.size, ?_, hs.heap, hs.dom, hs.ids, hs.fr⟩
    refine get_put _ a (some d2) _ _ (by show d2 < a.tmps.size; rw [hs.size]; exact hd2) ?_ hs.env
    refine .agg (by simp; omega) (fun q p v hp hv => ?_)
    rw [Array.getElem?_extract] at hv
    rw [List.getElem?_take] at hp
    split at hv
    · split at hp
      · rw [List.getElem?_drop] at hp
        exact hr (j * s + q) p v hp hv
      · cases hp
    · cases hv
  exact aOps_sound (fun _ _ _ _ _ m hk' hs' => ⟨_, m, hk', hs'⟩) rest _ _ _ _ _ m hk hs2
end Go.Fi

