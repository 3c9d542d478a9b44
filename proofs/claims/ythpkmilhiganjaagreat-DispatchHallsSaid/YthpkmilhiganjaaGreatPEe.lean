/- The statement: whatever the input, the law returns true and its input reads as it did; no condition. -/
import Derived.Test.YthpkmilhiganjaaGreatPEd
import Derived.Test.YthpkmilhiganjaaGreatPDc
set_option linter.all false
set_option maxHeartbeats 32000000
set_option maxRecDepth 100000
namespace Go.Proofs.YthpkmilhiganjaaGreat
open Go.ChangeShapes Go.WideShapes Go.ChangeAt Go.RowKit Go.Conc
theorem dispatchHalls_lifted(os:Os)(started:os.Started)(H:Type)(enc:TypeId×Value->H):ReturnsInLeavingWide {} Tryz.checked os 10 .any (Rows.dispatchHallsSpec.pre6 enc Tryz.prog Tryz.f10 Rows.dispatchHallsRow.domain false) (Rows.dispatchHallsSpec.post enc Tryz.prog Tryz.f10 false true false false):=by
 refine returnsInLeavingWide_of_change_sized (C:=Tryz.checked) pL started Tryz.func10
  (ChangeSpec.witness6 (enc:=enc) (C:=Tryz.checked) false ⟨#[],#[.agg #[.slice none 0 0,.slice none 0 0,.slice none 0 0,.slice none 0 0],.slice none 0 0],[]⟩ 8 (by kernel_rfl) (by kernel_rfl) (by kernel_rfl) (by kernel_rfl)) ?_
 intro W base args ds gs before h3 hW _ _ _;have h2:∀(j:Nat) t v,Tryz.f10.params[j]?=some t->args[j]?=some v->Value.okWide Tryz.prog W .any base t v:=h3;have h5:=hW;obtain⟨p,q,hA0,hV,rfl,_,_⟩:=hW;have hA:DataW.TrodAll enc Tryz.prog W 0 (λ_=>true) true Tryz.f10.params.toList args.toList ds p:=hA0;rw[Tryz.params10] at hA h2;obtain⟨v0,v1,d0,d1,p0,p1,rfl,rfl,rfl,h0,h1⟩:=trodAll_two hA;obtain⟨rfl,rfl⟩:=trodVars_none hV;obtain⟨⟨cars0,os0,wt0,zs0,_⟩,e0⟩:=Go.Fi.og oV Tryz.underlying27 (h2 0 27 v0 rfl rfl) h0;obtain⟨x1,e1⟩:=Go.Fi.CS rF Tryz.underlying28 (h2 1 28 v1 rfl rfl) h1;refine oU 10 Tryz.f10 Tryz.func10 rfl _ (r4 cars0 os0 wt0 zs0 x1) rfl W #[v0,v1] rfl (λj p v hp hv=>?_) (λv W'=>Rows.dispatchHallsSpec.post enc Tryz.checked.prog Tryz.f10 false true false false W #[v0,v1] v W') (λB hb=>?_)
 .match j,hp,hv with
  |0,hp,hv=>simp at hp hv;subst hp;subst hv;exact e0
  |1,hp,hv=>simp at hp hv;subst hp;subst hv;exact e1
  |j+2,hp,hv=>simp at hp
 .exact Go.Fi.pK pN h5 rfl rfl rfl Tryz.underlying4 (by kernel_rfl) hb
theorem dispatchHalls_holds:Rows.DispatchHallsSaid:=
 OpenClaim.holds_of_wide_leaving 10 Tryz.f10 rfl rfl rfl rfl rfl rfl rfl ⟨rfl,rfl,rfl,rfl,rfl⟩ rfl rfl rfl rfl rfl (by kernel_rfl) Tryz.func10 (by kernel_rfl)
  (of_decide_eq_true (by kernel_rfl)) (by unfold Func.isWrapper;first|(rw[aB (by decide +kernel)];kernel_rfl)|(rw[ar (by decide +kernel)];exact⟨rfl,rfl⟩))
  (λos started H enc _=>dispatchHalls_lifted os started H enc)
#print axioms dispatchHalls_holds
end Go.Proofs.YthpkmilhiganjaaGreat
