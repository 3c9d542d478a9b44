/- The statement ShareOrderLeastSaid: from the contract of its function to the given statement. -/
import Derived.Test.YtiialcomflggcaaP110
import Derived.Test.YtiialcomflggcaaP36
set_option linter.unusedSimpArgs false
set_option linter.unusedVariables false
namespace Go.Proofs.Ytiialcomflggcaa
open Go Go.Fi Go.RowKit Go.ChangeShapes Go.WideShapes Go.ChangeAt

set_option maxRecDepth 100000 in
theorem shareOrderLeast_lifted (os : Os) (started : os.Started) (H : Type) (enc : TypeId × Value → H) :
    ReturnsInHanded {} Try.checked os 4 .any (Rows.shareOrderLeastSpec.pre6 enc Try.prog Try.f4 Rows.shareOrderLeastRow.domain false) (Rows.shareOrderLeastSpec.post enc Try.prog Try.f4 false true false false) := by
  refine returnsInHanded_of_change (C := Try.checked) Try.own started (by kernel_rfl) Try.func4
    (ChangeSpec.witness6 (enc := enc) (C := Try.checked) false ⟨#[], #[.agg #[.slice none 0 0], .agg #[.int .i64 0, .int .i64 0, .int .i64 0, .slice none 0 0, .slice none 0 0], .agg #[.string ByteArray.empty, .int .i64 0, .int .i64 0, .int .i64 0, .int .i64 0, .int .i64 0, .bool false, .int .i64 0]], []⟩ 8 (by kernel_rfl) (by kernel_rfl) (by kernel_rfl) (by kernel_rfl)) ?_
  intro W base args ds gs before hval0 hW hcnd _
  have hval : ∀ (j : Nat) t v, Try.f4.params[j]? = some t → args[j]? = some v → Value.okWide Try.prog W .any base t v := hval0
  have hW' := hW
  obtain ⟨p, q, hA0, hV, rfl, hfz, hnd⟩ := hW
  have hA : DataW.TrodAll enc Try.prog W 0 (fun _ => true) true Try.f4.params.toList args.toList ds p := hA0
  rw [Try.params4] at hA hval
  obtain ⟨v0, v1, v2, d0, d1, d2, p0, p1, p2, rfl, rfl, rfl, h0, h1, h2⟩ := trodAll_three hA
  obtain ⟨rfl, rfl⟩ := trodVars_none hV
  obtain ⟨x0, e0⟩ := rep_struct reads_grid Try.underlying24 (hval 0 24 v0 rfl rfl) h0
  obtain ⟨x1, e1⟩ := rep_struct reads_plan Try.underlying30 (hval 1 30 v1 rfl rfl) h1
  obtain ⟨x2, e2⟩ := rep_struct reads_rider Try.underlying43 (hval 2 43 v2 rfl rfl) h2
  refine ((shareOrderLeast_c  x0 x1 x2).2 (fun _ => True) W _ trivial rfl ?_).mono fun e W' he => ?_
  · intro j pv v hp hv
    match j, hp, hv with
    | 0, hp, hv => simp at hp hv; subst hp; subst hv; exact e0
    | 1, hp, hv => simp at hp hv; subst hp; subst hv; exact e1
    | 2, hp, hv => simp at hp hv; subst hp; subst hv; exact e2
  · obtain ⟨v, rfl, hb, hr⟩ := he
    cases hr
    exact ⟨_, rfl, post_true Try.laidOut hW' rfl rfl rfl Try.underlying4 (by kernel_rfl) hb⟩
theorem shareOrderLeast_holds : Rows.ShareOrderLeastSaid :=
  OpenClaim.holds_of_wide 4 Try.f4 rfl rfl rfl rfl rfl rfl rfl ⟨rfl, rfl, rfl, rfl, rfl⟩ rfl rfl rfl rfl rfl (by kernel_rfl) Try.func4 (by kernel_rfl)
    (of_decide_eq_true (by kernel_rfl)) (by unfold Func.isWrapper; rw [if_neg (by decide +kernel)]; exact ⟨rfl, rfl⟩)
    (fun os started H enc _ => shareOrderLeast_lifted os started H enc)
#print axioms shareOrderLeast_holds
end Go.Proofs.Ytiialcomflggcaa

