/- The statement: whatever the input, the law returns true and its input reads as it did; no condition. -/
import Derived.Test.YthpkmilhiganjaaGreatPEh
import Derived.Test.YthpkmilhiganjaaGreatPDc
set_option linter.all false
set_option maxHeartbeats 32000000
set_option maxRecDepth 100000
namespace Go.Proofs.YthpkmilhiganjaaGreat
open Go.ChangeShapes Go.WideShapes Go.ChangeAt Go.RowKit Go.Conc
theorem dispatchRolls_lifted(os:Os)(started:os.Started)(H:Type)(enc:TypeId×Value->H):ReturnsInLeavingWide {} Tryz.checked os 7 .any (Rows.dispatchRollsSpec.pre6 enc Tryz.prog Tryz.f7 Rows.dispatchRollsRow.domain false) (Rows.dispatchRollsSpec.post enc Tryz.prog Tryz.f7 false true false false):=by
 refine returnsInLeavingWide_of_change_sized (C:=Tryz.checked) SP started Tryz.func7
  (ChangeSpec.witness6 (enc:=enc) (C:=Tryz.checked) false ⟨#[],#[.agg #[.slice none 0 0,.slice none 0 0,.slice none 0 0,.slice none 0 0],.slice none 0 0],[]⟩ 8 aj aj aj aj) ?_
 intro W base args ds gs before h5 hW _ _ _;have h3:∀(j:Nat) t v,Tryz.f7.params[j]?=some t->args[j]?=some v->Value.okWide Tryz.prog W .any base t v:=h5;have h8:=hW;obtain⟨p,q,hA0,hV,rfl,_,_⟩:=hW;have hA:DataW.TrodAll enc Tryz.prog W 0 (λ_=>true) true Tryz.f7.params.toList args.toList ds p:=hA0;rw[Tryz.params7] at hA h3;obtain⟨v0,v1,d0,d1,p0,p1,rfl,rfl,rfl,h0,h1⟩:=trodAll_two hA;obtain⟨rfl,rfl⟩:=trodVars_none hV;obtain⟨⟨cars0,os0,wt0,zs0,_⟩,e0⟩:=Go.Fi.SN P8 Tryz.underlying27 (h3 0 27 v0 rfl rfl) h0;obtain⟨x1,e1⟩:=Go.Fi.SO Hv Tryz.underlying28 (h3 1 28 v1 rfl rfl) h1;refine PH 7 Tryz.f7 Tryz.func7 rfl _ (zif cars0 os0 wt0 zs0 x1) rfl W #[v0,v1] rfl (λj p v hp hv=>?_) (λv W'=>Rows.dispatchRollsSpec.post enc Tryz.checked.prog Tryz.f7 false true false false W #[v0,v1] v W') (λB hb=>?_)
 .match j,hp,hv with
  |0,hp,hv=>simp_all
  |1,hp,hv=>simp_all
  |j+2,hp,hv=>simp at hp
 .exact Go.Fi.SL SQ h8 rfl rfl rfl Tryz.underlying4 aj hb
theorem dispatchRolls_holds:Rows.DispatchRollsSaid:=
 OpenClaim.holds_of_wide_leaving 7 Tryz.f7 rfl rfl rfl rfl rfl rfl rfl ⟨rfl,rfl,rfl,rfl,rfl⟩ rfl rfl rfl rfl rfl aj Tryz.func7 aj
  (of_decide_eq_true aj) aE
  (λos started H enc _=>dispatchRolls_lifted os started H enc)
#print axioms dispatchRolls_holds
end Go.Proofs.YthpkmilhiganjaaGreat
