/- Contracts of functions for this claim: lemmas alone. -/
import Derived.Test.YtmedbghkldmlhaaP16
import Derived.Test.YtmedbghkldmlhaaP40
import Derived.Test.YtmedbghkldmlhaaLi
set_option linter.unusedSimpArgs false
set_option linter.unusedVariables false
namespace Go.Proofs.Ytmedbghkldmlhaa
open Go Go.Fi Go.RowKit Go.ChangeShapes Go.WideShapes Go.ChangeAt

/-! what the arguments of the statements read as -/
theorem cells_pair : Try.prog.cellsOf 77 = 2 := by kernel_rfl
theorem ints_flatMap : ∀ l : List Int, l.flatMap cI = ints l
  | [] => rfl
  | x :: r => by rw [List.flatMap_cons, ints_flatMap r]; rfl
abbrev cIs (l : List Int) : List PV := [.sl l.length (ints l)]
theorem reads_ints : Reads Try.prog 60 cIs := reads_map (c := fun l : List Int => [.sl l.length (l.flatMap cI)]) id (fun l => by simp only [id, cIs]; rw [ints_flatMap]) (reads_slice Try.underlying60 cells_int (by decide) (fun _ => rfl) rI)
theorem reads_pair : Reads Try.prog 77 (fun y : Int × Int => [.int .i64 y.1, .int .i64 y.2]) := reads_array2 (c := cI) Try.underlying77 cells_int cells_pair rI
set_option maxRecDepth 100000 in
theorem ways_lifted (os : Os) (started : os.Started) (H : Type) (enc : TypeId × Value → H) :
    ReturnsInHanded {} Try.checked os 9 .any (Rows.streetWaysSpec.pre6 enc Try.prog Try.f9 Rows.streetWaysRow.domain false) (Rows.streetWaysSpec.post enc Try.prog Try.f9 false true false false) := by
  refine returnsInHanded_of_change (C := Try.checked) Try.own started (by kernel_rfl) Try.func9
    (ChangeSpec.witness6 (enc := enc) (C := Try.checked) false ⟨#[], #[.agg #[.slice none 0 0, .slice none 0 0], .slice none 0 0, .int .i64 0], []⟩ 8 (by kernel_rfl) (by kernel_rfl) (by kernel_rfl) (by kernel_rfl)) ?_
  intro W base args ds gs before hval0 hW hcnd _
  have hval : ∀ (j : Nat) t v, Try.f9.params[j]? = some t → args[j]? = some v → Value.okWide Try.prog W .any base t v := hval0
  have hW' := hW
  obtain ⟨p, q, hA0, hV, rfl, hfz, hnd⟩ := hW
  have hA : DataW.TrodAll enc Try.prog W 0 (fun _ => true) true Try.f9.params.toList args.toList ds p := hA0
  rw [Try.params9] at hA hval
  obtain ⟨v0, v1, v2, d0, d1, d2, p0, p1, p2, rfl, rfl, rfl, h0, h1, h2⟩ := trodAll_three hA
  obtain ⟨rfl, rfl⟩ := trodVars_none hV
  obtain ⟨n, hn⟩ := rep_struct reads_net Try.underlying25 (hval 0 25 v0 rfl rfl) h0
  obtain ⟨l, hl⟩ := rep_slice reads_ints Try.underlying60 (hval 1 60 v1 rfl rfl) h1
  obtain ⟨at_, rfl, rfl, rfl, _⟩ := open_int Try.underlying3 (hval 2 3 v2 rfl rfl) h2
  refine ((streetWays_c awake_c n l at_).2 (fun _ => True) W _ rfl ?_).mono fun e W' he => ?_
  · intro j pv v hp hv
    match j, hp, hv with
    | 0, hp, hv => simp at hp hv; subst hp; subst hv; exact hn
    | 1, hp, hv => simp at hp hv; subst hp; subst hv; exact hl
    | 2, hp, hv => simp at hp hv; subst hp; subst hv; exact .int _ _
  · obtain ⟨v, rfl, hb, hr⟩ := he
    cases hr
    exact ⟨_, rfl, post_true Try.laidOut hW' rfl rfl rfl Try.underlying4 (by kernel_rfl) hb⟩
theorem streetWays_holds : Rows.StreetWaysSaid :=
  OpenClaim.holds_of_wide 9 Try.f9 rfl rfl rfl rfl rfl rfl rfl ⟨rfl, rfl, rfl, rfl, rfl⟩ rfl rfl rfl rfl rfl (by kernel_rfl) Try.func9 (by kernel_rfl)
    (of_decide_eq_true (by kernel_rfl)) (by unfold Func.isWrapper; rw [if_neg (by decide +kernel)]; exact ⟨rfl, rfl⟩)
    (fun os started H enc _ => ways_lifted os started H enc)
#print axioms streetWays_holds
end Go.Proofs.Ytmedbghkldmlhaa
