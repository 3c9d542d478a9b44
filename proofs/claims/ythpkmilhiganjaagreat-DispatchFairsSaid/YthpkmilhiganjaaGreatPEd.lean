/- The statement: whatever the input, the law returns true and its input reads as it did; no condition. -/
import Derived.Test.YthpkmilhiganjaaGreatPEc
import Derived.Test.YthpkmilhiganjaaGreatPDc
set_option linter.all false
set_option maxHeartbeats 32000000
set_option maxRecDepth 100000
namespace Go.Proofs.YthpkmilhiganjaaGreat
open Go.ChangeShapes Go.WideShapes Go.ChangeAt Go.RowKit Go.Conc
theorem dispatchFairs_lifted(os:Os)(started:os.Started)(H:Type)(enc:TypeId×Value->H):ReturnsInLeavingWide {} Tryz.checked os 9 .any (Rows.dispatchFairsSpec.pre6 enc Tryz.prog Tryz.f9 Rows.dispatchFairsRow.domain false) (Rows.dispatchFairsSpec.post enc Tryz.prog Tryz.f9 false true false false):=by
 refine returnsInLeavingWide_of_change_sized (C:=Tryz.checked) TI started Tryz.func9
  (ChangeSpec.witness6 (enc:=enc) (C:=Tryz.checked) false ⟨#[],#[.agg #[.slice none 0 0,.slice none 0 0,.slice none 0 0,.slice none 0 0],.slice none 0 0,.int .i64 0],[]⟩ 8 aj aj aj aj) ?_
 intro W base args ds gs before h5 hW _ _ _;have h3:∀(j:Nat) t v,Tryz.f9.params[j]?=some t->args[j]?=some v->Value.okWide Tryz.prog W .any base t v:=h5;have h8:=hW;obtain⟨p,q,hA0,hV,rfl,_,_⟩:=hW;have hA:DataW.TrodAll enc Tryz.prog W 0 (λ_=>true) true Tryz.f9.params.toList args.toList ds p:=hA0;rw[Tryz.params9] at hA h3;obtain⟨v0,v1,v2,d0,d1,d2,p0,p1,p2,rfl,rfl,rfl,h0,h1,h2⟩:=trodAll_three hA;obtain⟨rfl,rfl⟩:=trodVars_none hV;obtain⟨⟨cars0,os0,wt0,zs0,_⟩,e0⟩:=Go.Fi.TG QU Tryz.underlying27 (h3 0 27 v0 rfl rfl) h0;obtain⟨x1,e1⟩:=Go.Fi.TH HT Tryz.underlying28 (h3 1 28 v1 rfl rfl) h1;obtain⟨x2,rfl,rfl,rfl,_⟩:=open_int Tryz.underlying3 (h3 2 3 v2 rfl rfl) h2;refine QD 9 Tryz.f9 Tryz.func9 rfl _ (CN cars0 os0 wt0 zs0 x1 x2) rfl W #[v0,v1,.int .i64 x2] rfl (λj p v hp hv=>?_) (λv W'=>Rows.dispatchFairsSpec.post enc Tryz.checked.prog Tryz.f9 false true false false W #[v0,v1,.int .i64 x2] v W') (λB hb=>?_)
 .match j,hp,hv with
  |0,hp,hv=>simp at hp hv;subst hp;subst hv;exact e0
  |1,hp,hv=>simp at hp hv;subst hp;subst hv;exact e1
  |2,hp,hv=>simp at hp hv;subst hp;subst hv;exact .int .i64 x2
  |j+3,hp,hv=>simp at hp
 .exact Go.Fi.TF TJ h8 rfl rfl rfl Tryz.underlying4 aj hb
theorem dispatchFairs_holds:Rows.DispatchFairsSaid:=
 OpenClaim.holds_of_wide_leaving 9 Tryz.f9 rfl rfl rfl rfl rfl rfl rfl ⟨rfl,rfl,rfl,rfl,rfl⟩ rfl rfl rfl rfl rfl aj Tryz.func9 aj
  (of_decide_eq_true aj) (by unfold Func.isWrapper;first|(rw[cu ai];kernel_rfl)|(rw[bN ai];exact⟨rfl,rfl⟩))
  (λos started H enc _=>dispatchFairs_lifted os started H enc)
#print axioms dispatchFairs_holds
end Go.Proofs.YthpkmilhiganjaaGreat
