/- The statement: whatever the input, the law returns true and its input reads as it did; no condition. -/
import Derived.Test.YthpkmilhiganjaaGreatPEc
import Derived.Test.YthpkmilhiganjaaGreatPDc
set_option linter.unusedSimpArgs false
set_option linter.unusedVariables false
set_option linter.unusedSectionVars false
set_option maxHeartbeats 32000000
set_option maxRecDepth 100000
namespace Go.Proofs.YthpkmilhiganjaaGreat
open Go.ChangeShapes Go.WideShapes Go.ChangeAt Go.RowKit Go.Conc
theorem dispatchPriced_lifted(os:Os)(started:os.Started)(H:Type)(enc:TypeId×Value→H):ReturnsInLeavingWide {} Tryz.checked os 3 .any (Rows.dispatchPricedSpec.pre6 enc Tryz.prog Tryz.f3 Rows.dispatchPricedRow.domain false) (Rows.dispatchPricedSpec.post enc Tryz.prog Tryz.f3 false true false false):=by
 refine returnsInLeavingWide_of_change_sized (C:=Tryz.checked) uS started Tryz.func3
  (ChangeSpec.witness6 (enc:=enc) (C:=Tryz.checked) false ⟨#[],#[.agg #[.slice none 0 0,.slice none 0 0,.slice none 0 0,.slice none 0 0],.agg #[.slice none 0 0,.slice none 0 0]],[]⟩ 8 (by kernel_rfl) (by kernel_rfl) (by kernel_rfl) (by kernel_rfl)) ?_
 intro W base args ds gs before hval0 hW _ _ _;have hval:∀(j:Nat) t v,Tryz.f3.params[j]?=some t→args[j]?=some v→Value.okWide Tryz.prog W .any base t v:=hval0;have hW':=hW;obtain⟨p,q,hA0,hV,rfl,_,_⟩:=hW;have hA:DataW.TrodAll enc Tryz.prog W 0 (fun _=>true) true Tryz.f3.params.toList args.toList ds p:=hA0;rw[Tryz.params3] at hA hval;obtain⟨v0,v1,d0,d1,p0,p1,rfl,rfl,rfl,h0,h1⟩:=trodAll_two hA;obtain⟨rfl,rfl⟩:=trodVars_none hV;obtain⟨⟨cars0,os0,wt0,zs0,_⟩,e0⟩:=Go.Fi.qX tY Tryz.underlying27 (hval 0 27 v0 rfl rfl) h0;obtain⟨⟨x1,y1,_⟩,e1⟩:=Go.Fi.qX Mb Tryz.underlying30 (hval 1 30 v1 rfl rfl) h1;refine tX 3 Tryz.f3 Tryz.func3 rfl _ (lp cars0 os0 wt0 zs0 x1 y1) rfl W #[v0,v1] rfl (fun j p v hp hv=>?_) (fun v W'=>Rows.dispatchPricedSpec.post enc Tryz.checked.prog Tryz.f3 false true false false W #[v0,v1] v W') (fun B hb=>?_)
 ·match j,hp,hv with
  |0,hp,hv=>simp at hp hv;subst hp;subst hv;exact e0
  |1,hp,hv=>simp at hp hv;subst hp;subst hv;exact e1
  |j+2,hp,hv=>simp at hp
 ·exact Go.Fi.uR uU hW' rfl rfl rfl Tryz.underlying4 (by kernel_rfl) hb
theorem dispatchPriced_holds:Rows.DispatchPricedSaid:=
 OpenClaim.holds_of_wide_leaving 3 Tryz.f3 rfl rfl rfl rfl rfl rfl rfl ⟨rfl,rfl,rfl,rfl,rfl⟩ rfl rfl rfl rfl rfl (by kernel_rfl) Tryz.func3 (by kernel_rfl)
  (of_decide_eq_true (by kernel_rfl)) (by unfold Func.isWrapper;first|(rw[if_pos (by decide +kernel)];kernel_rfl)|(rw[if_neg (by decide +kernel)];exact⟨rfl,rfl⟩))
  (fun os started H enc _=>dispatchPriced_lifted os started H enc)
#print axioms dispatchPriced_holds
end Go.Proofs.YthpkmilhiganjaaGreat
