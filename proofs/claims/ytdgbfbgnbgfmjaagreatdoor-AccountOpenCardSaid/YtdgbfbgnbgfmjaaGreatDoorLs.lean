/- A logic of abstract states for this claim (part Ls): lemmas alone. -/
import Derived.Test.YtdgbfbgnbgfmjaaGreatDoorLf
set_option linter.unusedSimpArgs false
set_option linter.unusedVariables false

namespace Go.Fi
open Go Go.RowKit
variable [LaidW]
variable {fk : Fk}

omit [LaidW] in
@[simp] theorem flat_nili : flat .nili = true := rfl
omit [LaidW] in
@[simp] theorem flat_ifc (t : TypeId) (p : PV) : flat (.ifc t p) = false := rfl
omit [LaidW] in
@[simp] theorem flat_tup (l : List PV) : flat (.tup l) = false := rfl

def nilOp : BinOp → Bool → Option Bool
  | .eql, b => some b
  | .neq, b => some (!b)
  | _, _ => none
def isNili : PV → Option Bool
  | .nili => some true
  | .ifc _ _ => some false
  | _ => none
/-- an interface value compared with the literal nil -/
theorem awp_nili {P : Program} {K : Exit → St → Prop} {rid d1 d2 t ty1 ty2 : Nat} {p1 p2 : String} {a1 a2 : Array Edge} {st tt : TypeId} {env : Env} {h : Heap} {n nt : Nat} {ow fl : Bool} {p : PV} {op : BinOp} {ms : Array (String × TypeId)} {b r : Bool} {ops : Array Oper} {rest : List Oper}
    (hops : ops.toList = ⟨some d1, .move (.tmp t), ty1, p1, a1, none⟩ :: ⟨some d2, .binOp op st (.tmp d1) (.const .nilIface) tt, ty2, p2, a2, none⟩ :: rest)
    (hu : P.underlying st = some (.interface ms)) (hg : get env t = .w ow fl p) (hp : isNili p = some b) (hr : nilOp op b = some r) (hd1 : d1 < nt) (hd2 : d2 < nt)
    (hk : aOps P ops nt rest ((d2, .w false false (.bool r)) :: (d1, .w ow fl p) :: env) h n fun e' h' n' => K .normal ⟨e', h', n', nt⟩) :
    AWPk fk P (.region rid ops false) ⟨env, h, n, nt⟩ K := by
  intro B w0 a w m hs
  refine wpIn_region_list ?_
  rw [hops]
  simp only [wpListIn, Region.wanted, if_true]
  refine wpIn_of_wp (fun c e => by cases e) (estep_sound w0 (⟨some d1, .move (.tmp t), ty1, p1, a1, none⟩ : Oper) (K := fun v h' n' => v = get env t ∧ h' = h ∧ n' = n) (by simp) hs hd1 _ _ ?_)
  rintro v h' n' a w m ⟨rfl, rfl, rfl⟩ hs
  refine wpIn_of_wp (fun c e => by cases e) ?_
  rw [hg] at hs
  have hx : RepA B (LB m h') m w (.w ow fl p) (a.eval (.tmp d1)) := by
    have := hs.env d1
    rw [show get (St.env ⟨put env (some d1) (.w ow fl p), h', n', nt⟩) d1 = .w ow fl p from by simp [put, get]] at this
    exact this
  have he' : ∀ d x b', (x = .nilIface ∧ b' = true ∨ (∃ t v, x = .iface t v) ∧ b' = false) → (Op.equalIn (d + 1) st x .nilIface).run P w = .ok b' w := fun d x b' hx => by
    rw [Op.equalIn, Sem.run_bind, run_underlying hu]
    simp only [Result.andThen_ok]
    rcases hx with ⟨rfl, rfl⟩ | ⟨⟨t, v, rfl⟩, rfl⟩ <;> rfl
  have hrun : (execOp a.eval ⟨some d2, .binOp op st (.tmp d1) (.const .nilIface) tt, ty2, p2, a2, none⟩).run P w = .ok (.value (.bool r)) w := by
    have hc : a.eval (.const .nilIface) = .nilIface := rfl
    generalize hv : a.eval (.tmp d1) = v at hx
    have hvv : v = .nilIface ∧ b = true ∨ (∃ t v', v = .iface t v') ∧ b = false := by
      cases hx with
      | w hrep _ =>
        cases p with
        | nili => cases hrep; exact .inl ⟨rfl, by simpa [isNili] using hp.symm⟩
        | ifc t q => cases hrep; exact .inr ⟨⟨_, _, rfl⟩, by simpa [isNili] using hp.symm⟩
        | _ => simp [isNili] at hp
    have he : (Op.equal st v .nilIface).run P w = .ok b w := he' 9999 v b hvv
    have hgd : (eqGuard op st (.tmp d1) (.const .nilIface) v .nilIface).run P w = .ok () w := by
      unfold eqGuard
      rcases hvv with ⟨rfl, rfl⟩ | ⟨⟨t, v', rfl⟩, rfl⟩ <;> cases op <;> rfl
    cases op <;> simp [nilOp] at hr <;> subst hr <;> simp [execOp, hv, hc, hgd, binOp, he]
    all_goals (rcases hvv with ⟨rfl, rfl⟩ | ⟨⟨t, v', rfl⟩, rfl⟩ <;> simp [binOp, he])
  unfold Oper.wp
  rw [hrun, Oper.upon_value]
  have hs2 : Sim B w0 ⟨(d2, .w false false (.bool r)) :: (d1, .w ow fl p) :: env, h', n', nt⟩ (a.put (some d2) (.bool r)) w m := by
    refine ⟨hs.base, hs.below, by rw [put_defers]; exact hs.defers, by rw [put_size]; exact hs.size, ?_, hs.heap, hs.dom, hs.ids, hs.fr⟩
    exact get_put _ a (some d2) _ _ (by show d2 < a.tmps.size; rw [hs.size]; exact hd2) (rep_bool _) hs.env
  exact aOps_sound (fun _ _ _ _ _ m hk' hs' => ⟨_, m, hk', hs'⟩) rest _ _ _ _ _ m hk hs2
end Go.Fi
