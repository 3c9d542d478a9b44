/- Contracts of functions for this claim: lemmas alone. -/
import Derived.Test.YtpjhpmpbdfeajaaGreatDoorP31
import Derived.Test.YtpjhpmpbdfeajaaGreatDoorP334
import Derived.Test.YtpjhpmpbdfeajaaGreatDoorP34
set_option linter.unusedSimpArgs false
set_option linter.unusedVariables false
namespace Go.Proofs.YtpjhpmpbdfeajaaGreatDoor
open Go Go.Fi Go.RowKit Go.ChangeShapes Go.WideShapes Go.ChangeAt

set_option maxRecDepth 100000 in
theorem accountSplits_lifted (os : Os) (started : os.Started) (H : Type) (enc : TypeId × Value → H) :
    ReturnsInHanded {} Tryz.checked os 3 .any (fun w args => (Rows.accountSplitsSpec.pre enc Tryz.prog Tryz.f3 [] false w args ∧ laidMetH Tryz.prog accLaid w) ∧ sizedMet enc Tryz.prog Tryz.f3 (OpenSpec.ofChange Rows.accountSplitsSpec) false w args) (Rows.accountSplitsSpec.post enc Tryz.prog Tryz.f3 false true false false) := by
  refine handed_laid (C := Tryz.checked) (X := fun w _ => laidMetH Tryz.prog accLaid w) (fun _ _ _ hh h => h.of_heap hh) Tryz.own started (by kernel_rfl) Tryz.func3
    (ChangeSpec.witness_shaped (enc := enc) (C := Tryz.checked) (os := os) (X := fun w _ => laidMetH Tryz.prog accLaid w) false (laidWorld os) #[.int .i64 0, .slice none 0 0] 8 (laidWorld_os os) (World.shaped_of_ZipB (by kernel_rfl) (by kernel_rfl)) (by kernel_rfl) (by kernel_rfl) (by kernel_rfl) (laidWorld_met os _)) ?_
  intro W base args ds gs before hval0 hW hL hS
  have hval : ∀ (j : Nat) t v, Tryz.f3.params[j]? = some t → args[j]? = some v → Value.okWide Tryz.prog W .any base t v := hval0
  have hW' := hW
  obtain ⟨p, q, hA0, hV, rfl, hfz, hnd⟩ := hW
  have hA : DataW.TrodAll enc Tryz.prog W 0 (fun _ => true) true Tryz.f3.params.toList args.toList ds p := hA0
  rw [Tryz.params3] at hA hval
  obtain ⟨v0, v1, d0, d1, p0, p1, rfl, rfl, rfl, h0, h1⟩ := trodAll_two hA
  obtain ⟨rfl, rfl⟩ := trodVars_none hV
  obtain ⟨x0, rfl, rfl, rfl, _⟩ := open_int Tryz.underlying3 (hval 0 3 v0 rfl rfl) h0
  obtain ⟨x1, e1⟩ := rep_slice reads_ints Tryz.underlying22 (hval 1 22 v1 rfl rfl) h1
  refine ((accountSplits_c x0 x1).2 (fun _ => True) W _ (laidOk_of hL hS) rfl ?_).mono fun e W' he => ?_
  · intro j pv v hp hv
    match j, hp, hv with
    | 0, hp, hv => simp at hp hv; subst hp; subst hv; exact .int _ _
    | 1, hp, hv => simp at hp hv; subst hp; subst hv; exact e1
  · obtain ⟨v, rfl, hb, hr⟩ := he
    cases hr
    exact ⟨_, rfl, post_true Tryz.laidOut hW' rfl rfl rfl Tryz.underlying4 (by kernel_rfl) hb⟩
end Go.Proofs.YtpjhpmpbdfeajaaGreatDoor

