/- The statement StreetWayTextsCardSaid: from the contract of its function to the given statement. -/
import Derived.Test.YtfjpgnacofkipaaDoorP85
set_option linter.unusedSimpArgs false
set_option linter.unusedVariables false
namespace Go.Proofs.YtfjpgnacofkipaaDoor
open Go Go.Fi Go.RowKit Go.ChangeShapes Go.WideShapes Go.ChangeAt
set_option maxRecDepth 100000
set_option maxHeartbeats 0 in
theorem streetWayTexts_row : Rows.StreetWayTextsSaid :=
  OpenClaim.holds_of_wide 3 Tryd.f3 rfl rfl rfl rfl rfl rfl rfl ⟨rfl, rfl, rfl, rfl, rfl⟩ rfl rfl rfl rfl rfl (by kernel_rfl) Tryd.func3 (by kernel_rfl)
    (of_decide_eq_true (by kernel_rfl)) (by unfold Func.isWrapper; rw [if_neg (by decide +kernel)]; exact ⟨rfl, rfl⟩)
    (fun os started H enc _ => streetWayTexts_lifted os started H enc)
theorem streetWayTexts_holds : Rows.StreetWayTextsCardSaid :=
  Claim7.holds_tied_plain_at .later [] [.data, .pinned] true (true, "ed05fdfe0934b1ccaf2b3da4d62edaaf0dd1091d0a6a7e17b73fead6990a53db") false
    streetWayTexts_row (fun _ h => by cases h) (by as_aux_lemma => kernel_rfl) (fun _ h => by cases h) streetWayTexts_row_tie rfl ⟨rfl, rfl⟩ (by as_aux_lemma => kernel_rfl) rfl
    (fun f fn hf hfn => by
      obtain rfl : f = 3 := Option.some.inj ((show Tryd.prog.funcNamed "fiacre/fiacrelaw03.StreetWayTexts" = some 3 by as_aux_lemma => kernel_rfl).symm.trans hf) |>.symm
      obtain rfl : fn = Tryd.f3 := (Option.some.inj (Tryd.func3.symm.trans hfn)).symm
      exact ⟨by as_aux_lemma => kernel_rfl, fun j t ht => by
        rw [Tryd.params3] at ht
        have hm : t ∈ [25, 26, 9] := by simpa using Array.mem_of_getElem? ht
        have hall : ([25, 26, 9].all fun u => !Tryd.prog.wantsStandIn u) = true := by as_aux_lemma => kernel_rfl
        exact (show Tryd.prog.wantsStandIn t = false by simpa using List.all_eq_true.1 hall t hm)⟩)
    (by as_aux_lemma => kernel_rfl)
#print axioms streetWayTexts_holds
end Go.Proofs.YtfjpgnacofkipaaDoor

