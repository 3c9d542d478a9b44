/- The statement: whatever the input, the law returns true and its input reads as it did; no condition. -/
import Derived.Test.YtmaaehaedfemaaaGreatPDg
import Derived.Test.YtmaaehaedfemaaaGreatPLf
set_option linter.unusedSimpArgs false
set_option linter.unusedVariables false
set_option linter.unusedSectionVars false
set_option maxHeartbeats 32000000
set_option maxRecDepth 100000
namespace Go.Proofs.YtmaaehaedfemaaaGreat
open Go.ChangeShapes Go.WideShapes Go.ChangeAt Go.RowKit Go.Conc
theorem Pv(os:Os)(started:os.Started)(H:Type)(enc:TypeId×Value→H):ReturnsInLeavingWide {} Tryz.checked os 3 .any (Rows.dispatchPenaltiesSpec.pre6 enc Tryz.prog Tryz.f3 Rows.dispatchPenaltiesRow.domain false) (Rows.dispatchPenaltiesSpec.post enc Tryz.prog Tryz.f3 false true false false):=by
 refine returnsInLeavingWide_of_change_sized (C:=Tryz.checked) Ps started Tryz.func3
  (ChangeSpec.witness6 (enc:=enc) (C:=Tryz.checked) false ⟨#[],#[.int .i64 0],[]⟩ 8 (by kernel_rfl) (by kernel_rfl) (by kernel_rfl) (by kernel_rfl)) ?_
 intro W base args ds gs before hval0 hW _ _ _;have hval:∀(j:Nat) t v,Tryz.f3.params[j]?=some t→args[j]?=some v→Value.okWide Tryz.prog W .any base t v:=hval0;have hW':=hW;obtain⟨p,q,hA0,hV,rfl,_,_⟩:=hW;have hA:DataW.TrodAll enc Tryz.prog W 0 (fun _=>true) true Tryz.f3.params.toList args.toList ds p:=hA0;rw[Tryz.params3] at hA hval;obtain⟨v0,d0,rfl,rfl,h0⟩:=trodAll_one hA;obtain⟨rfl,rfl⟩:=trodVars_none hV;obtain⟨a,rfl,rfl,rfl,wa⟩:=open_int Tryz.underlying3 (hval 0 3 v0 rfl rfl) h0;clear hA0 hval0;simp only[List.append_nil] at hW';refine MG W a (fun v W'=>Rows.dispatchPenaltiesSpec.post enc Tryz.checked.prog Tryz.f3 false true false false W #[.int .i64 a] v W') (fun B hb=>?_);exact Go.Fi.Pu Pt hW' rfl rfl rfl Tryz.underlying4 (by kernel_rfl) hb
theorem dispatchPenalties_holds:Rows.DispatchPenaltiesSaid:=
 OpenClaim.holds_of_wide_leaving 3 Tryz.f3 rfl rfl rfl rfl rfl rfl rfl ⟨rfl,rfl,rfl,rfl,rfl⟩ rfl rfl rfl rfl rfl (by kernel_rfl) Tryz.func3 (by kernel_rfl)
  (of_decide_eq_true (by kernel_rfl)) (by unfold Func.isWrapper;first|(rw[if_pos (by decide +kernel)];kernel_rfl)|(rw[if_neg (by decide +kernel)];exact⟨rfl,rfl⟩))
  (fun os started H enc _=>Pv os started H enc)
#print axioms dispatchPenalties_holds
end Go.Proofs.YtmaaehaedfemaaaGreat
