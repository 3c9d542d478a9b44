/- A logic of abstract states for this claim (part Lj): lemmas alone. -/
import Derived.Test.YtiialcomflggcaaLf
set_option linter.unusedSimpArgs false
set_option linter.unusedVariables false

namespace Go.Fi
open Go Go.RowKit
variable [LaidW]
variable {fk : Fk}

/-- a slice compared with nil: one that has something is not nil; an empty one may be -/
theorem awp_nil {P : Program} {K : Exit → St → Prop} {rid d1 d2 t ty1 ty2 e : Nat} {p1 p2 : String} {a1 a2 : Array Edge} {st tt : TypeId} {env : Env} {h : Heap} {n nt : Nat} {ow fl : Bool} {k : Nat} {cells : List PV}
    (hu : P.underlying st = some (.slice e)) (hg : get env t = .w ow fl (.sl k cells)) (hd1 : d1 < nt) (hd2 : d2 < nt)
    (hk : ∀ b : Bool, (b = true → k = 0 ∧ cells = []) → K .normal ⟨(d2, .w false false (.bool b)) :: (d1, .w ow fl (.sl k cells)) :: env, h, n, nt⟩) :
    AWPk fk P (.region rid #[⟨some d1, .move (.tmp t), ty1, p1, a1, none⟩, ⟨some d2, .binOp .eql st (.tmp d1) (.const (.slice none 0 0)) tt, ty2, p2, a2, none⟩] false) ⟨env, h, n, nt⟩ K := by
  intro B w0 a w m hs
  refine wpIn_region_list ?_
  simp only [wpListIn, Region.wanted, if_true]
  refine wpIn_of_wp (fun c e => by cases e) (estep_sound w0 (⟨some d1, .move (.tmp t), ty1, p1, a1, none⟩ : Oper) (K := fun v h' n' => v = get env t ∧ h' = h ∧ n' = n) (by simp) hs hd1 _ _ ?_)
  rintro v h' n' a w m ⟨rfl, rfl, rfl⟩ hs
  refine wpIn_of_wp (fun c e => by cases e) ?_
  rw [hg] at hs
  have hx : RepA B (LB m h') m w (.w ow fl (.sl k cells)) (a.eval (.tmp d1)) := by
    have := hs.env d1
    rw [show get (St.env ⟨put env (some d1) (.w ow fl (.sl k cells)), h', n', nt⟩) d1 = .w ow fl (.sl k cells) from by simp [put, get]] at this
    exact this
  obtain ⟨a0, cap, hv, _, _, hnone, hne⟩ := hx.sl_inv
  have hrun : (execOp a.eval ⟨some d2, .binOp .eql st (.tmp d1) (.const (.slice none 0 0)) tt, ty2, p2, a2, none⟩).run P w = .ok (.value (.bool a0.isNone)) w := by
    have hv' : a.eval (.tmp d1) = .slice a0 k cap := hv
    have hc : a.eval (.const (.slice none 0 0)) = .slice none 0 0 := rfl
    have he' : ∀ d, (Op.equalIn (d + 1) st (.slice a0 k cap) (.slice none 0 0)).run P w = .ok a0.isNone w := fun d => by
      rw [Op.equalIn, Sem.run_bind, run_underlying hu]
      simp only [Result.andThen_ok]
      cases a0 <;> rfl
    have he : (Op.equal st (.slice a0 k cap) (.slice none 0 0)).run P w = .ok a0.isNone w := he' 9999
    have hg : (eqGuard .eql st (.tmp d1) (.const (.slice none 0 0)) (.slice a0 k cap) (.slice none 0 0)).run P w = .ok () w := rfl
    simp [execOp, hv', hc, hg, binOp, he]
  unfold Oper.wp
  rw [hrun, Oper.upon_value]
  refine ⟨_, m, hk a0.isNone (fun hb => ?_), hs.base, hs.below, by rw [put_defers]; exact hs.defers, by rw [put_size]; exact hs.size, ?_, hs.heap, hs.dom, hs.ids, hs.fr⟩
  · have : a0 = none := by cases a0 with
      | none => rfl
      | some x => cases hb
    refine ⟨(hnone this).1, ?_⟩
    cases hcs : cells with
    | nil => rfl
    | cons c r =>
      obtain ⟨b, off, vals, h0, _⟩ := hne (by rw [hcs]; simp)
      rw [this] at h0; cases h0
  · exact get_put _ a (some d2) _ _ (by show d2 < a.tmps.size; rw [hs.size]; exact hd2) (rep_bool _) hs.env
end Go.Fi

namespace Go.Fi
open Go Go.RowKit
variable [LaidW]
variable {fk : Fk}

end Go.Fi

namespace Go.Fi
open Go Go.RowKit
variable [LaidW]
variable {fk : Fk}

end Go.Fi

