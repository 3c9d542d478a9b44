/- The statement: whatever the input, the law returns true and its input reads as it did; no condition. -/
import Derived.Test.YthpkmilhiganjaaGreatPEe
import Derived.Test.YthpkmilhiganjaaGreatPDc
set_option linter.all false
set_option maxHeartbeats 32000000
set_option maxRecDepth 100000
namespace Go.Proofs.YthpkmilhiganjaaGreat
open Go.ChangeShapes Go.WideShapes Go.ChangeAt Go.RowKit Go.Conc
theorem dispatchMost_lifted(os:Os)(started:os.Started)(H:Type)(enc:TypeId×Value->H):ReturnsInLeavingWide {} Tryz.checked os 6 .any (Rows.dispatchMostSpec.pre6 enc Tryz.prog Tryz.f6 Rows.dispatchMostRow.domain false) (Rows.dispatchMostSpec.post enc Tryz.prog Tryz.f6 false true false false):=by
 refine returnsInLeavingWide_of_change_sized (C:=Tryz.checked) TU started Tryz.func6
  (ChangeSpec.witness6 (enc:=enc) (C:=Tryz.checked) false ⟨#[],#[.agg #[.slice none 0 0,.slice none 0 0,.slice none 0 0,.slice none 0 0]],[]⟩ 8 aj aj aj aj) ?_
 intro W base args ds gs before h5 hW _ _ _;have h3:∀(j:Nat) t v,Tryz.f6.params[j]?=some t->args[j]?=some v->Value.okWide Tryz.prog W .any base t v:=h5;have h8:=hW;obtain⟨p,q,hA0,hV,rfl,_,_⟩:=hW;have hA:DataW.TrodAll enc Tryz.prog W 0 (λ_=>true) true Tryz.f6.params.toList args.toList ds p:=hA0;rw[Tryz.params6] at hA h3;obtain⟨v0,d0,rfl,rfl,h0⟩:=trodAll_one hA;obtain⟨rfl,rfl⟩:=trodVars_none hV;obtain⟨⟨cars0,os0,wt0,zs0,_⟩,e0⟩:=Go.Fi.TT Q7 Tryz.underlying27 (h3 0 27 v0 rfl rfl) h0;refine QO 6 Tryz.f6 Tryz.func6 rfl _ (zeq cars0 os0 wt0 zs0) rfl W #[v0] rfl (λj p v hp hv=>?_) (λv W'=>Rows.dispatchMostSpec.post enc Tryz.checked.prog Tryz.f6 false true false false W #[v0] v W') (λB hb=>?_)
 .match j,hp,hv with
  |0,hp,hv=>simp at hp hv;subst hp;subst hv;exact e0
  |j+1,hp,hv=>simp at hp
 .exact Go.Fi.TR TV h8 rfl rfl rfl Tryz.underlying4 aj hb
theorem dispatchMost_holds:Rows.DispatchMostSaid:=
 OpenClaim.holds_of_wide_leaving 6 Tryz.f6 rfl rfl rfl rfl rfl rfl rfl ⟨rfl,rfl,rfl,rfl,rfl⟩ rfl rfl rfl rfl rfl aj Tryz.func6 aj
  (of_decide_eq_true aj) (by unfold Func.isWrapper;first|(rw[b8 ai];kernel_rfl)|(rw[bP ai];exact⟨rfl,rfl⟩))
  (λos started H enc _=>dispatchMost_lifted os started H enc)
#print axioms dispatchMost_holds
end Go.Proofs.YthpkmilhiganjaaGreat
