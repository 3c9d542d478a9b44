/- The statement TopAccountLawSaid: from the contract of its function to the given statement. -/
import Derived.Test.YtlcimflkjfbaoaaGreatP139
import Derived.Test.YtlcimflkjfbaoaaGreatP34
import Derived.Test.YtlcimflkjfbaoaaGreatRows
set_option linter.unusedSimpArgs false
set_option linter.unusedVariables false
namespace Go.Proofs.YtlcimflkjfbaoaaGreat
open Go Go.Fi Go.RowKit Go.ChangeShapes Go.WideShapes Go.ChangeAt

theorem cells_seg : Tryz.prog.cellsOf 38 = 3 := by kernel_rfl
abbrev cSg (y : Int × Int × Int × Unit) : List PV := cI3 y
theorem reads_seg : Reads Tryz.prog 38 cSeg :=
  reads_map (c := cI3) (fun y => ⟨y.1, y.2.1, y.2.2.1⟩) (fun _ => rfl) (reads_struct Tryz.underlying38 cells_seg (rI3 rfl rfl rfl rfl rfl rfl))
theorem reads_segs : Reads Tryz.prog 22 (fun l : List Seg => [.sl l.length (cSegs l)]) := reads_slice Tryz.underlying22 cells_seg (by decide) (fun _ => rfl) reads_seg
set_option maxRecDepth 100000 in
theorem topAccountLaw_lifted (os : Os) (started : os.Started) (H : Type) (enc : TypeId × Value → H) :
    ReturnsInHanded {} Tryz.checked os 3 .any (Rows.topAccountLawSpec.pre6 enc Tryz.prog Tryz.f3 Rows.topAccountLawRow.domain false) (Rows.topAccountLawSpec.post enc Tryz.prog Tryz.f3 false true false false) := by
  refine returnsInHanded_of_change (C := Tryz.checked) Tryz.own started (by kernel_rfl) Tryz.func3
    (ChangeSpec.witness6 (enc := enc) (C := Tryz.checked) false ⟨#[], #[.slice none 0 0, .int .i64 0, .int .i64 0], []⟩ 8 (by kernel_rfl) (by kernel_rfl) (by kernel_rfl) (by kernel_rfl)) ?_
  intro W base args ds gs before hval0 hW hcnd _
  have hval : ∀ (j : Nat) t v, Tryz.f3.params[j]? = some t → args[j]? = some v → Value.okWide Tryz.prog W .any base t v := hval0
  have hW' := hW
  obtain ⟨p, q, hA0, hV, rfl, hfz, hnd⟩ := hW
  have hA : DataW.TrodAll enc Tryz.prog W 0 (fun _ => true) true Tryz.f3.params.toList args.toList ds p := hA0
  rw [Tryz.params3] at hA hval
  obtain ⟨v0, v1, v2, d0, d1, d2, p0, p1, p2, rfl, rfl, rfl, h0, h1, h2⟩ := trodAll_three hA
  obtain ⟨rfl, rfl⟩ := trodVars_none hV
  obtain ⟨x0, e0⟩ := rep_slice reads_segs Tryz.underlying22 (hval 0 22 v0 rfl rfl) h0
  obtain ⟨x1, rfl, rfl, rfl, _⟩ := open_int Tryz.underlying3 (hval 1 3 v1 rfl rfl) h1
  obtain ⟨x2, rfl, rfl, rfl, _⟩ := open_int Tryz.underlying3 (hval 2 3 v2 rfl rfl) h2
  refine ((topAccountLaw_c x0 x1 x2).2 (fun _ => True) W _ trivial rfl ?_).mono fun e W' he => ?_
  · intro j pv v hp hv
    match j, hp, hv with
    | 0, hp, hv => simp at hp hv; subst hp; subst hv; exact e0
    | 1, hp, hv => simp at hp hv; subst hp; subst hv; exact .int _ _
    | 2, hp, hv => simp at hp hv; subst hp; subst hv; exact .int _ _
  · obtain ⟨v, rfl, hb, hr⟩ := he
    cases hr
    exact ⟨_, rfl, post_true Tryz.laidOut hW' rfl rfl rfl Tryz.underlying4 (by kernel_rfl) hb⟩
theorem topAccountLaw_holds : Rows.TopAccountLawSaid :=
  OpenClaim.holds_of_wide 3 Tryz.f3 rfl rfl rfl rfl rfl rfl rfl ⟨rfl, rfl, rfl, rfl, rfl⟩ rfl rfl rfl rfl rfl (by kernel_rfl) Tryz.func3 (by kernel_rfl)
    (of_decide_eq_true (by kernel_rfl)) (by unfold Func.isWrapper; rw [if_neg (by decide +kernel)]; exact ⟨rfl, rfl⟩)
    (fun os started H enc _ => topAccountLaw_lifted os started H enc)
#print axioms topAccountLaw_holds
end Go.Proofs.YtlcimflkjfbaoaaGreat

