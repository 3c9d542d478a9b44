/- Contracts of functions for this claim: lemmas alone. -/
import Derived.Test.YtpjhpmpbdfeajaaGreatDoorP31
import Derived.Test.YtpjhpmpbdfeajaaGreatDoorP306
import Derived.Test.YtpjhpmpbdfeajaaGreatDoorP34
set_option linter.unusedSimpArgs false
set_option linter.unusedVariables false
namespace Go.Proofs.YtpjhpmpbdfeajaaGreatDoor
open Go Go.Fi Go.RowKit Go.ChangeShapes Go.WideShapes Go.ChangeAt

set_option maxRecDepth 100000 in
theorem accountNets_lifted (os : Os) (started : os.Started) (H : Type) (enc : TypeId × Value → H) :
    ReturnsInHanded {} Tryz.checked os 5 .any (fun w args => (Rows.accountNetsSpec.pre enc Tryz.prog Tryz.f5 [] false w args ∧ laidMetH Tryz.prog accLaid w) ∧ sizedMet enc Tryz.prog Tryz.f5 (OpenSpec.ofChange Rows.accountNetsSpec) false w args) (Rows.accountNetsSpec.post enc Tryz.prog Tryz.f5 false true false false) := by
  refine handed_laid (C := Tryz.checked) (X := fun w _ => laidMetH Tryz.prog accLaid w) (fun _ _ _ hh h => h.of_heap hh) Tryz.own started (by kernel_rfl) Tryz.func5
    (ChangeSpec.witness_shaped (enc := enc) (C := Tryz.checked) (os := os) (X := fun w _ => laidMetH Tryz.prog accLaid w) false (laidWorld os) #[.slice none 0 0, .string ByteArray.empty, .int .i64 0] 8 (laidWorld_os os) (World.shaped_of_ZipB (by kernel_rfl) (by kernel_rfl)) (by kernel_rfl) (by kernel_rfl) (by kernel_rfl) (laidWorld_met os _)) ?_
  intro W base args ds gs before hval0 hW hL hS
  have hval : ∀ (j : Nat) t v, Tryz.f5.params[j]? = some t → args[j]? = some v → Value.okWide Tryz.prog W .any base t v := hval0
  have hW' := hW
  obtain ⟨p, q, hA0, hV, rfl, hfz, hnd⟩ := hW
  have hA : DataW.TrodAll enc Tryz.prog W 0 (fun _ => true) true Tryz.f5.params.toList args.toList ds p := hA0
  rw [Tryz.params5] at hA hval
  obtain ⟨v0, v1, v2, d0, d1, d2, p0, p1, p2, rfl, rfl, rfl, h0, h1, h2⟩ := trodAll_three hA
  obtain ⟨rfl, rfl⟩ := trodVars_none hV
  obtain ⟨x0, e0⟩ := rep_slice reads_entries Tryz.underlying52 (hval 0 52 v0 rfl rfl) h0
  obtain ⟨x1, rfl, rfl, rfl, _⟩ := Go.ChangeMaps.open_string Tryz.underlying9 (hval 1 9 v1 rfl rfl) h1
  obtain ⟨x2, rfl, rfl, rfl, _⟩ := open_int Tryz.underlying3 (hval 2 3 v2 rfl rfl) h2
  refine ((accountNets_c x0 x1 x2).2 (fun _ => True) W _ (laidOk_of hL hS) rfl ?_).mono fun e W' he => ?_
  · intro j pv v hp hv
    match j, hp, hv with
    | 0, hp, hv => simp at hp hv; subst hp; subst hv; exact e0
    | 1, hp, hv => simp at hp hv; subst hp; subst hv; exact .str _
    | 2, hp, hv => simp at hp hv; subst hp; subst hv; exact .int _ _
  · obtain ⟨v, rfl, hb, hr⟩ := he
    cases hr
    exact ⟨_, rfl, post_true Tryz.laidOut hW' rfl rfl rfl Tryz.underlying4 (by kernel_rfl) hb⟩
end Go.Proofs.YtpjhpmpbdfeajaaGreatDoor

