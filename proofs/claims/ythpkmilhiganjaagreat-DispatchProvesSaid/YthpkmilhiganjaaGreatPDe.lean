/- The statement: whatever the input, the law returns true and its input reads as it did; no condition. -/
import Derived.Test.YthpkmilhiganjaaGreatPDd
set_option linter.unusedSimpArgs false
set_option linter.unusedVariables false
set_option linter.unusedSectionVars false
set_option maxHeartbeats 32000000
set_option maxRecDepth 100000
namespace Go.Proofs.YthpkmilhiganjaaGreat
open Go.ChangeShapes Go.WideShapes Go.ChangeAt Go.RowKit Go.Conc
theorem Na(os:Os)(started:os.Started)(H:Type)(enc:TypeId×Value→H):ReturnsInLeavingWide {} Tryz.checked os 4 .any (Rows.dispatchProvesSpec.pre6 enc Tryz.prog Tryz.f4 Rows.dispatchProvesRow.domain false) (Rows.dispatchProvesSpec.post enc Tryz.prog Tryz.f4 false true false false):=by
 refine returnsInLeavingWide_of_change_sized (C:=Tryz.checked) M8 started Tryz.func4
  (ChangeSpec.witness6 (enc:=enc) (C:=Tryz.checked) false ⟨#[],#[.agg #[.slice none 0 0,.slice none 0 0,.slice none 0 0,.slice none 0 0],.slice none 0 0,.agg #[.slice none 0 0,.slice none 0 0]],[]⟩ 8 (by kernel_rfl) (by kernel_rfl) (by kernel_rfl) (by kernel_rfl)) ?_
 intro W base args ds gs before hval0 hW _ _ _;have hval:∀(j:Nat) t v,Tryz.f4.params[j]?=some t→args[j]?=some v→Value.okWide Tryz.prog W .any base t v:=hval0;have hW':=hW;obtain⟨p,q,hA0,hV,rfl,_,_⟩:=hW;have hA:DataW.TrodAll enc Tryz.prog W 0 (fun _=>true) true Tryz.f4.params.toList args.toList ds p:=hA0;rw[Tryz.params4] at hA hval;obtain⟨v0,v1,v2,d0,d1,d2,p0,p1,p2,rfl,rfl,rfl,h0,h1,h2⟩:=trodAll_three hA;obtain⟨rfl,rfl⟩:=trodVars_none hV;obtain⟨⟨af,os,wt,zs,_⟩,e0⟩:=Go.Fi.CH JC Tryz.underlying27 (hval 0 27 v0 rfl rfl) h0;obtain⟨plan,e1⟩:=Go.Fi.M7 qH Tryz.underlying28 (hval 1 28 v1 rfl rfl) h1;obtain⟨⟨po,pc,_⟩,e2⟩:=Go.Fi.CH JE Tryz.underlying30 (hval 2 30 v2 rfl rfl) h2;refine Jn 4 Tryz.f4 Tryz.func4 rfl _ (Jd af os wt zs plan po pc) rfl W #[v0,v1,v2] rfl (fun j p v hp hv=>?_) (fun v W'=>Rows.dispatchProvesSpec.post enc Tryz.checked.prog Tryz.f4 false true false false W #[v0,v1,v2] v W') (fun B hb=>?_)
 ·match j,hp,hv with
  |0,hp,hv=>simp at hp hv;subst hp;subst hv;exact e0
  |1,hp,hv=>simp at hp hv;subst hp;subst hv;exact e1
  |2,hp,hv=>simp at hp hv;subst hp;subst hv;exact e2
  |j+3,hp,hv=>simp at hp
 ·exact Go.Fi.M6 M9 hW' rfl rfl rfl Tryz.underlying4 (by kernel_rfl) hb
theorem dispatchProves_holds:Rows.DispatchProvesSaid:=
 OpenClaim.holds_of_wide_leaving 4 Tryz.f4 rfl rfl rfl rfl rfl rfl rfl ⟨rfl,rfl,rfl,rfl,rfl⟩ rfl rfl rfl rfl rfl (by kernel_rfl) Tryz.func4 (by kernel_rfl)
  (of_decide_eq_true (by kernel_rfl)) (by unfold Func.isWrapper;first|(rw[if_pos (by decide +kernel)];kernel_rfl)|(rw[if_neg (by decide +kernel)];exact⟨rfl,rfl⟩))
  (fun os started H enc _=>Na os started H enc)
#print axioms dispatchProves_holds
end Go.Proofs.YthpkmilhiganjaaGreat
