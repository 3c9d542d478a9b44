/- Lemmas. -/
import Derived.Test.YthpkmilhiganjaaGreatPMc
import Derived.Lone
set_option linter.all false
set_option maxHeartbeats 32000000
set_option maxRecDepth 100000
namespace Go.Fc
open Go Go.Conc Go.Fi
variable[Xf]
section
variable{P P':Program}{bad:Nat->Prop}{S:Sh}
theorem vS(h:iv P P' (Cc P P') bad):iv P P (Cc P P) (λf=>bad f\/Xf.xf f):=by
 refine⟨⟨⟨P.funcs,rfl⟩⟩,λf=>?_⟩
 rcases h.funcs f with ⟨h1,_⟩|⟨hx,fn,c,_,_,e1,e2,e3,_⟩|⟨hb,fn,c,e1,e2,e3⟩|⟨fn,c,e1,e2,e3,e4,hc,hf⟩
 .exact .inl ⟨h1,h1⟩
 .exact .inr (.inr (.inl ⟨.inr hx,fn,c,e1,e2,e3⟩))
 .exact .inr (.inr (.inl ⟨.inl hb,fn,c,e1,e2,e3⟩))
 .refine .inr (.inr (.inr ⟨fn,c,e1,e1,e3,e4,hc,?_⟩));obtain⟨⟨fn2,q1,_,q3⟩,q4⟩:=hf;exact⟨⟨fn2,q1,q1,q3⟩,q4⟩
def Dfr(fr:Frame):Prop:=∀d∈fr.defers,∃b,d = { target:=.collected b,args:=#[] }
theorem Dfr.raise{fr:Frame}(h:Dfr fr)(vs:List PanicEntry):Dfr (fr.raise vs):=by
 unfold Frame.raise;split<;>exact h
inductive Out(F:List Frame->GStep):Prop
 |stay (fr':Frame) (new:List Frame) (A':World) (es:Array Event):(∀cs,F cs=.go (G fr' (new++cs)) A' es)->((∀ch,fr'.mode≠.panicking ch)\/(ND A'/\Dfr fr'/\new=[]))->Out F
 |pop (v:Value) (A':World) (es:Array Event):(∀c r,F (c::r)=.go (G (c.finish v) r) A' es)->Out F
 |ended:(∀cs,∃o w es,F cs=.ended o w es)->Out F
 |odd:(∀cs,(∃g c w es,F cs=.spawn g c w es)\/∃g w es,F cs=.go g w es/\g.dying≠none)->Out F
theorem Out.after{F F':List Frame->GStep}(es:Array Event)(h:Out F)(hF:∀cs,F' cs=GStep.after es (F cs)):Out F':=by
 cases h with
 |stay fr' new A' aq h h2=>exact .stay fr' new A' (es++aq) (λcs=>by rw[hF,h];rfl) h2
 |pop v A' aq h=>exact .pop v A' (es++aq) λc r=>by rw[hF,h];rfl
 |ended h=>exact .ended λcs=>by obtain⟨o,w,aq,h⟩:=h cs;exact⟨o,w,es++aq,by rw[hF,h];rfl⟩
 |odd h=>
  refine .odd λcs=>?_
  rcases h cs with ⟨g,c,w,aq,h⟩|⟨g,w,aq,h,h2⟩
  .exact .inl ⟨g,c,w,es++aq,by rw[hF,h];rfl⟩
  .exact .inr ⟨g,w,es++aq,by rw[hF,h];rfl,h2⟩
theorem zH(hk:iv P P (Cc P P) bad){fr:Frame}{A:World}(hf:dh P P fr)(bi:Dfr fr){s:Sem Next}(hs:RN P P (Cc P P) bad s s)(hl:Lk (Cc P P) S A A){F:List Frame->GStep}(hu:∀cs,F cs=stepG.apply P true fr cs none s A):Out F:=by
 have b7:(fr.kind == .early)=false:=by have:=hf.kind;cases hk:fr.kind<;>first|rfl|trivial
 have ax:∀d w rs sv k,fr.todo≠.call d w rs sv::k:=λd w rs sv k e=>by
  have:=hf.todo (.call d w rs sv) (by rw[e];simp);exact this
 rcases hr:s.runT P A #[] with ⟨r,es0⟩
 unfold stepG.apply at hu;simp only[cz,b7,dz,cT,hr] at hu
 cases r with
 |halt x A1=>
  obtain⟨hc,b4⟩:=yQ hs A A #[] x A1 es0 hl hr
  cases x<;>first|exact hc.elim|skip
  .exact .stay (fr.raise [{ v:=_,recovered:=false }]) [] A1 _ (λcs=>hu cs) (.inr ⟨b4,bi.raise _,rfl⟩)
  .rename_i u
   cases u<;>first|exact hc.elim|exact .ended λcs=>⟨_,_,_,hu cs⟩
  .exact .ended λcs=>⟨_,_,_,hu cs⟩
 |ok n A1=>
  obtain⟨d',dr⟩:=uM hs A A #[] n A1 es0 hl hr
  cases n with
  |value v=>exact .stay (fr.finish v) [] A1 _ (λcs=>hu cs) (.inl (n9 hf.mode v))
  |skip=>exact .stay (fr.finish undef) [] A1 _ (λcs=>hu cs) (.inl (n9 hf.mode undef))
  |enter f args=>
   refine .stay (Frame.enter P f args .normal) [fr] A1 (seen P fr.fn es0++#[]) (λcs=>?_) (.inl λch=>by simp[Frame.enter]);rw[hu cs]
   rcases ht:fr.todo with _|⟨it,k⟩
   .rfl
   .cases it<;>first|exact absurd ht (ax _ _ _ _ _)|rfl
  |round l f tmps a b=>exact .stay (Frame.round l f tmps a b .normal) [fr] A1 _ (λcs=>hu cs) (.inl λch=>by simp[Frame.round])
  |spawn d=>
   have h3:∀(c:Bool)(X Y Z:GStep),Z=(if c=true then X else Y)->Z=X\/Z=Y:=by intro c X Y Z h;cases c<;>simp_all
   refine .odd λcs=>?_
   have h4:=hu cs;dsimp only at h4;rw[apply_ite (GStep.after _)] at h4
   rcases h3 _ _ _ _ h4 with h|h
   .simp only[endThrow,dieOf,GStep.after] at h;exact .inr ⟨_,_,_,h,ae⟩
   .simp only[GStep.after] at h;exact .inl ⟨_,_,_,_,h⟩
  |_=>exact (d'.elim id λ⟨_,h⟩=>h.2).elim
theorem LL(hk:iv P P (Cc P P) bad){fr:Frame}{A:World}(hf:dh P P fr)(ag:∀f,¬Xf.bot f)(aa:∀e,S.fS e)(hl:Lk (Cc P P) S A A):Out λcs=>stepG P true (G fr cs) A:=by
 obtain⟨hn,aw,bd⟩:=hf.calm.resolve_right (λh=>ag _ h.1);have bi:Dfr fr:=aw
 have bo:∀(w:World)(v:Value)(c:Frame)(r:List Frame),doReturn P true fr (c::r) none v w=.go (G (c.finish v) r) w #[]:=λw v c r=>by simp only[doReturn,hn];rfl
 cases hm:fr.mode with
 |panicking ch=>exact absurd hm (hf.mode ch)
 |returning=>
  have e:∀cs,stepG P true (G fr cs) A=unwind P true fr cs none A:=λcs=>by simp only[stepG,G,hm]
  rcases hd:fr.defers with _|⟨d,ds⟩
  .obtain⟨⟨fn,d9,c8,dp⟩,hi⟩:=id bd
   have e2:∀cs,stepG P true (G fr cs) A=GStep.after (seen P fr.fn ((results fn fr.tmps).runT P A #[]).2) (match ((results fn fr.tmps).runT P A #[]).1 with
    |.ok v w=>doReturn P true fr cs none v w
    |.halt (.stuck s) w=>.ended (.stuck s (fr.pos P)) w
    |.halt _ w=>.ended (.stuck "return: the result variables cannot be read" (fr.pos P)) w):=λcs=>by rw[e cs];simp only[unwind,hd,hm,d9];rfl
   rcases hr:(results fn fr.tmps).runT P A #[] with ⟨r,es0⟩
   rw[hr] at e2
   cases r with
   |halt x w=>
    refine .ended λcs=>?_
    have:=e2 cs
    cases x<;>exact⟨_,_,_,this⟩
   |ok v A1=>exact .pop v A1 (seen P fr.fn es0++#[]) λc r=>by rw[e2];dsimp only;rw[bo];rfl
  .rw[hd] at aw;obtain⟨b,rfl⟩:=aw d gF
   have e2:∀cs,stepG P true (G fr cs) A=GStep.after (seen P fr.fn ((Instr.takeDeferred b).runT P A #[]).2) (match ((Instr.takeDeferred b).runT P A #[]).1 with
    |.ok calls w=>.go { frame:={ fr with defers:=calls++ds },callers:=cs,status:=.running,dying:=none } w
    |.halt _ w=>.ended (.stuck "the deferred calls of a range-over-func loop have been taken" (fr.pos P)) w):=λcs=>by rw[e cs];simp only[unwind,hd];rfl
   rcases hr:(Instr.takeDeferred b).runT P A #[] with ⟨r,es0⟩
   rw[hr] at e2
   cases r with
   |halt x w=>exact .ended λcs=>⟨_,_,_,e2 cs⟩
   |ok calls A1=>exact .stay { fr with defers:=calls++ds } [] A1 _ (λcs=>e2 cs) (.inl hf.mode)
 |run=>
  have cj:=hf.todo
  have e:∀cs,stepG P true (G fr cs) A=stepG.exec P true true fr cs none A:=λcs=>by simp only[stepG,G,hm]
  have leaveR:∀(l:Nat)(j:Option Code),(∀cs,stepG.exec P true true fr cs none A=GStep.after (seen P fr.fn ((Instr.endRound l j).runT P A #[]).2) (match ((Instr.endRound l j).runT P A #[]).1 with
   |.ok v w=>doReturn P true fr cs none v w
   |.halt _ w=>.ended (.stuck "range over a function: no such loop" (fr.pos P)) w))->Out (λcs=>stepG P true (G fr cs) A):=λl j e2=>by
   rcases hr:(Instr.endRound l j).runT P A #[] with ⟨r,es0⟩
   rw[hr] at e2
   cases r with
   |halt x w=>exact .ended λcs=>⟨_,_,_,(e cs).trans (e2 cs)⟩
   |ok v A1=>exact .pop v A1 (seen P fr.fn es0++#[]) λc r=>by rw[e,e2];dsimp only;rw[bo];rfl
  rcases ht:fr.todo with _|⟨it,k⟩
  .rcases h0:fr.roundOf with _|l
   .exact .stay { fr with mode:=.returning } [] A #[] (λcs=>by rw[e];simp only[stepG.exec,ht,h0];rfl) (.inl λch=>ae)
   .exact leaveR l none λcs=>by simp only[stepG.exec,ht,h0];rfl
  .rw[ht] at cj;have bv:=cj it gF
   have move:∀(todo:List Item),(∀cs,stepG.exec P true true fr cs none A=.go { frame:={ fr with todo },callers:=cs,status:=.running,dying:=none } A #[])->Out (λcs=>stepG P true (G fr cs) A):=λtodo h=>.stay { fr with todo } [] A #[] (λcs=>(e cs).trans (h cs)) (.inl hf.mode)
   cases it with
   |inBlock id=>exact move k λcs=>by simp only[stepG.exec,ht]
   |inScope c=>exact move k λcs=>by simp only[stepG.exec,ht]
   |inLoop c=>exact move (.code c::.inLoop c::k) λcs=>by simp only[stepG.exec,ht]
   |inRangeFunc l=>exact .ended λcs=>⟨_,_,_,by rw[e];(simp only[stepG.exec,ht])<;>rfl⟩
   |endRangeFunc l=>
    have e2:∀cs,stepG P true (G fr cs) A=GStep.after (seen P fr.fn ((Instr.endLoop l).runT P A #[]).2) (match ((Instr.endLoop l).runT P A #[]).1 with
     |.ok jump w=>.go { frame:={ fr with todo:=(jump.map Item.code).toList++k },callers:=cs,status:=.running,dying:=none } w
     |.halt (.panic v) w=>.go { frame:=fr.raise [{ v,recovered:=false }],callers:=cs,status:=.running,dying:=none } w
     |.halt _ w=>.ended (.stuck "range over a function: no such loop" (fr.pos P)) w):=λcs=>by rw[e];simp only[stepG.exec,ht];rfl
    rcases hr:(Instr.endLoop l).runT P A #[] with ⟨r,es0⟩
    rw[hr] at e2
    cases r with
    |halt x w=>
     cases x<;>first
      |exact .ended λcs=>⟨_,_,_,e2 cs⟩
      |exact .stay (fr.raise [{ v:=_,recovered:=false }]) [] w _ (λcs=>e2 cs) (.inr ⟨(yQ (zj hk l) A A #[] _ w es0 hl hr).2,bi.raise _,rfl⟩)
    |ok jump A1=>exact .stay { fr with todo:=(jump.map Item.code).toList++k } [] A1 _ (λcs=>e2 cs) (.inl hf.mode)
   |beginRound=>exact zH hk hf aw (EL hk _) hl λcs=>by rw[e];(simp only[stepG.exec,ht])<;>rfl
   |call d w r s=>exact bv.elim
   |extern r a=>exact bv.elim
   |inRegion ops todo=>
    cases todo with
    |nil=>exact move k λcs=>by simp only[stepG.exec,ht]
    |cons i rest=>
     have cq:∀o,ops[i]?=some o->jy P o=true:=λo ho=>by
      have hm:o∈ops.toList:=by
       rw[<-iW] at ho
       grind
      exact gp.1 bv o hm
     by_cases hw:((ops[i]?).map (Region.wanted · (yielded ops fr.tmps))).getD false=true
     .rcases ho:ops[i]? with _|o
      .rw[ho] at hw;cases hw
      have bn:fr.oper?=some o:=by simp[Frame.oper?,ht,ho]
      have b4:∀c,o.op≠.defer c:=λc e=>by have:=cq o ho;unfold jy at this;rw[e] at this;cases this
      have ee:∀cs,stepG.exec P true true fr cs none A=(match fr.roundOf,o.op with
       |some l,.defer c=>stepG.apply P true fr cs none (do Instr.deferInRound l (<-resolve fr.eval c o.type);pure .skip) A
       |_,_=>stepG.apply P true fr cs none (execOp fr.eval o) A):=λcs=>by
       simp only[stepG.exec,ht,hw,cz,stepG.oper,bn];rfl
      exact zH hk hf aw (vG hk (cq o ho) fr.eval) hl λcs=>by rw[e,ee];simp_all
     .refine .stay (fr.finish undef) [] A #[] (λcs=>?_) (.inl (n9 hf.mode undef));rw[e];simp only[stepG.exec,ht,hw];rfl
   |code c=>
    have hc:Cd P c:=bv
    cases c with
    |skip=>exact move k λcs=>by simp only[stepG.exec,ht]
    |label l=>exact move k λcs=>by simp only[stepG.exec,ht]
    |seq a b=>exact move (.code a::.code b::k) λcs=>by simp only[stepG.exec,ht]
    |block id c=>exact move (.code c::.inBlock id::k) λcs=>by simp only[stepG.exec,ht]
    |loop c=>exact move (.code c::.inLoop c::k) λcs=>by simp only[stepG.exec,ht]
    |scope c=>exact move (.code c::.inScope c::k) λcs=>by simp only[stepG.exec,ht]
    |goto l=>cases hc
    |refuse w=>exact .ended λcs=>⟨_,_,_,by rw[e];(simp only[stepG.exec,ht])<;>rfl⟩
    |cond c a b=>
     cases hv:fr.eval c with
     |bool t=>
      cases t
      .exact move (.code b::k) λcs=>by simp only[stepG.exec,ht,hv];rfl
      .exact move (.code a::k) λcs=>by simp only[stepG.exec,ht,hv];rfl
     |_=>exact .ended λcs=>⟨_,_,_,by rw[e];(simp only[stepG.exec,ht,hv])<;>rfl⟩
    |exit id=>
     rcases he:exitTo id k with _|k'
     .rcases h0:fr.roundOf with _|l
      .exact .ended λcs=>⟨_,_,_,by rw[e];(simp only[stepG.exec,ht,he,h0,Option.elim])<;>rfl⟩
      .exact leaveR l (some (.exit id)) λcs=>by simp only[stepG.exec,ht,h0,he,Option.elim];rfl
     .exact move k' λcs=>by simp only[stepG.exec,ht,he,Option.elim]
    |ret=>
     rcases h0:fr.roundOf with _|l
     .exact .stay { fr with mode:=.returning } [] A #[] (λcs=>by rw[e];simp only[stepG.exec,ht,h0];rfl) (.inl λch=>ae)
     .exact leaveR l (some .ret) λcs=>by simp only[stepG.exec,ht,h0];rfl
    |rangeFunc f ps a b=>
     have ck:codeOk P a=true/\codeOk P b=true:=by
      have:Xf.rng=true/\codeOk P a=true/\codeOk P b=true:=by simpa[Cd,codeOk] using hc
      exact this.2
     have e2:∀cs,stepG P true (G fr cs) A=GStep.after (seen P fr.fn ((Instr.enterLoop fr.fn fr.tmps ps a b fr.roundOf).runT P A #[]).2) (match ((Instr.enterLoop fr.fn fr.tmps ps a b fr.roundOf).runT P A #[]).1 with
      |.ok (l,mark) w=>stepG.apply P true { fr with todo:=.inRangeFunc l::k,defers:=mark++fr.defers } cs none (do let d <-resolve fr.eval { callee:=.value f,args:=#[.const (.func (.yield l) #[] #[])],argTypes:=#[] } 0;invoke d.target d.args) w
      |.halt _ w=>.ended (.stuck "range over a function: no such loop" (fr.pos P)) w):=λcs=>by rw[e];simp only[stepG.exec,ht];rfl
     have cv:=EM (P:=P) (P':=P) bd fr.tmps ps ck.1 ck.2 fr.roundOf
     rcases hr:(Instr.enterLoop fr.fn fr.tmps ps a b fr.roundOf).runT P A #[] with ⟨r,es0⟩
     rw[hr] at e2
     cases r with
     |halt x w=>exact .ended λcs=>⟨_,_,_,e2 cs⟩
     |ok lm A1=>
      obtain⟨l,mark⟩:=lm;obtain⟨_,rfl,ay⟩:=vN hl cv hr
      have d6:∀x∈k,pt P x:=λx hx=>cj x (eH _ hx)
      have c5:dh P P { fr with todo:=.inRangeFunc l::k,defers:=mark++fr.defers }:=⟨λx hx=>(dM.1 hx).elim (λe=>e▸trivial) (d6 x),hf.kind,.inl ⟨hn,λd hd=>(iV.1 hd).elim (ay d) (aw d),bd⟩,hf.mode,hf.fn⟩
      have bl:Lk (Cc P P) S A1 A1:=by
       have hreE:=cv.mono (λ_ h=>h) (λ_ _ h=>h.1)
       obtain⟨b0,B0,new0,y1,y2,rfl,y3,_⟩:=((rG hreE A A #[] #[] _ A1 es0 hl hr λe he=>aa e).resolve_left id).alike λj _=>rfl
       rw[hr] at y1
       injection y1 with y1 _
       injection y1 with _ y1
       rw[y1];rw[y1] at y3;exact y3
      have ho:=zH (F:=λcs=>stepG.apply P true { fr with todo:=.inRangeFunc l::k,defers:=mark++fr.defers } cs none (do let d <-resolve fr.eval { callee:=.value f,args:=#[.const (.func (.yield l) #[] #[])],argTypes:=#[] } 0;invoke d.target d.args) A1) hk c5 (λd hd=>(iV.1 hd).elim (ay d) (aw d))
       (vG hk (o:={ (default:Oper) with op:=.call { callee:=.value f,args:=#[.const (.func (.yield l) #[] #[])],argTypes:=#[] },type:=0 }) rfl fr.eval) bl λcs=>rfl
      exact ho.after _ e2
    |region id ops draw=>
     cases draw with
     |false=>exact move (.inRegion ops (List.range ops.size)::k) λcs=>by simp[stepG.exec,ht]
     |true=>
      refine .stay { fr with todo:=.inRegion ops (Region.schedule (P.follows .mixedOrders) ops (A.tape A.drawn (.order fr.fn id)))::k } [] { A with drawn:=A.drawn+1 } #[] (λcs=>?_) (.inl hf.mode);rw[e];simp[stepG.exec,ht,choose,Sem.run,Question.forced,Question.cut];rfl
theorem rJ{fr fr':Frame}{cs cs':List Frame}{w w':World}{es:Array Event}(h:stepG P true (G fr cs) w=.go (G fr' cs') w' es):step P (lone fr cs w)=.next (lone fr' cs' w'):=
 step_lone_go (by rw[show stepG P true { frame:=fr,callers:=cs,status:=.running,dying:=none } w=_ from h];rfl)
theorem vU{fr:Frame}{cs:List Frame}{w:World}{o:Outcome}{w':World}{es:Array Event}(h:stepG P true (G fr cs) w=.ended o w' es):step P (lone fr cs w)=.ended o w':=
 step_lone_ended (by rw[show stepG P true { frame:=fr,callers:=cs,status:=.running,dying:=none } w=_ from h];rfl)
theorem tT{fr fr':Frame}{cs cs':List Frame}{w w':World}(h:lone fr cs w=lone fr' cs' w'):fr=fr'/\cs=cs'/\w=w':=by
 unfold lone at h;simp only[Machine.mk.injEq,Array.mk.injEq,DD,Goroutine.mk.injEq] at h;exact⟨h.2.1.1.1,h.2.1.1.2.1,h.1⟩
theorem LM{F:Fence}{c0:Frame}(hc:¬F.fn c0.fn)(bt:c0.fn≠P.funcs.size){m mE:Machine}(h:StepsIn (Machine.fenced P F) P m mE):∀(fr:Frame)(pre:List Frame)(w:World)(ch:List PanicEntry),m=lone fr (pre++[c0]) w->fr.mode=.panicking ch->Dfr fr->(∀x∈pre,Dfr x)->ND w->∀(frE:Frame)(wE:World),mE=lone frE [c0] wE->frE.mode=.returning->False:=by
 induction h with
 |refl m=>
  intro fr pre w ch hm hp _ _ _ frE wE hE hr;obtain⟨rfl,_,_⟩:=tT (hm.symm.trans hE);rw[hp] at hr;cases hr
 |@head m m1 m2 hI hs bh ih=>
  intro fr pre w ch hm hp hd h9 b4 frE wE hE hr;subst hm
  have e:∀cs,stepG P true (G fr cs) w=unwind P true fr cs none w:=λcs=>by simp only[stepG,G,hp]
  rcases bc:fr.defers with _|⟨d,ds⟩
  .by_cases b6:fr.catches P=true
   .have:stepG P true (G fr (pre++[c0])) w=.ended (.unsupported (.noEntry "a panic or Goexit out of a method that fmt calls behind a cut's door") (fr.pos P)) w:=by
     rw[e];simp only[unwind,bc,hp,b6,cz]
    rw[vU this] at hs;cases hs
   .cases pre with
    |nil=>
     have:stepG P true (G fr ([]++[c0])) w=.go (G (c0.raise ch) []) w #[]:=by
      rw[e];simp only[unwind,bc,hp,b6,DF];rfl
     rw[rJ this] at hs
     injection hs with hs
     subst hs
     cases bh with
     |refl=>exact absurd (tT hE).2.1 ae
     |head hI2 _ _=>
      have:=(hI2 _ (by simp[lone];rfl)).2.1
      have e3:(c0.raise ch).fn=c0.fn:=by unfold Frame.raise;split<;>rfl
      simp only at this;rw[e3] at this;exact this.elim hc bt
    |cons x a9=>
     have:stepG P true (G fr ((x::a9)++[c0])) w=.go (G (x.raise ch) (a9++[c0])) w #[]:=by
      rw[e];simp only[unwind,bc,hp,b6,qm];rfl
     rw[rJ this] at hs
     injection hs with hs
     obtain⟨ch2,c2⟩:=zh x ch;exact ih (x.raise ch) a9 w ch2 hs.symm c2 ((h9 x gF).raise ch) (λy hy=>h9 y (eH _ hy)) b4 frE wE hE hr
  .obtain⟨b,rfl⟩:=hd d (by rw[bc];exact gF)
   have e2:stepG P true (G fr (pre++[c0])) w=GStep.after (seen P fr.fn ((Instr.takeDeferred b).runT P w #[]).2) (match ((Instr.takeDeferred b).runT P w #[]).1 with
    |.ok calls w=>.go { frame:={ fr with defers:=calls++ds },callers:=pre++[c0],status:=.running,dying:=none } w
    |.halt _ w=>.ended (.stuck "the deferred calls of a range-over-func loop have been taken" (fr.pos P)) w):=by rw[e];simp only[unwind,bc];rfl
   rcases bf:(Instr.takeDeferred b).runT P w #[] with ⟨r,es0⟩
   rw[bf] at e2
   cases r with
   |halt x w1=>rw[vU e2] at hs;cases hs
   |ok calls w1=>
    have hq:calls=[]/\ND w1:=by
     rcases hb:w.heap[b]? with _|o
     .simp[-Sem.runT_eq,Instr.takeDeferred,getObj,bind,Sem.bind,Sem.runT,hb] at bf
     .rcases o with _|_|_|_|_|_|_|_|_|_|_|_|_|_|_|_|_|_<;>first
       |(simp[-Sem.runT_eq,Instr.takeDeferred,getObj,bind,Sem.bind,Sem.runT,hb,stuck] at bf;done)
       |skip
      rename_i o1
      rcases o1 with _|ds1
      .simp[-Sem.runT_eq,Instr.takeDeferred,getObj,bind,Sem.bind,Sem.runT,hb,stuck] at bf
      .obtain rfl:=b4 b ds1 hb;simp[-Sem.runT_eq,Instr.takeDeferred,getObj,setObj,bind,Sem.bind,Sem.runT,hb,pure] at bf;obtain⟨⟨rfl,rfl⟩,_⟩:=bf;refine⟨rfl,λb2 ds2 h2=>?_⟩;by_cases cm:b=b2
       .subst cm;rw[iU] at h2;split at h2
        .split at h2
         .injection h2 with h2;injection h2 with h2;cases h2
         .cases h2
        .exact absurd rfl ‹¬b=b›
       .rw[tB cm] at h2;exact b4 b2 ds2 h2
    obtain⟨rfl,c9⟩:=hq;rw[rJ e2] at hs
    injection hs with hs
    exact ih _ pre w1 ch hs.symm hp (λd2 c3=>hd d2 (by rw[bc];exact eH _ (by simpa using c3))) h9 c9 frE wE hE hr
end
def Dn(d:Nat->Nat):Nat->Nat
 |0=>0
 |i+1=>Dn d i+d i
theorem Io{d:Nat->Nat}{i k:Nat}(h:i<=k):Dn d i<=Dn d k:=by
 induction h with
 |refl=>exact bS _
 |step _ ih=>exact dJ ih (Nat.le_add_right _ _)
theorem LN{α:Type}[Inhabited α](d:Nat->Nat)(s:Nat->Nat->α):∃τ:Nat->α,∀i j,j<d i->τ (Dn d i+j)=s i j:=by
 classical
 refine⟨λn=>if h:∃i,Dn d i<=n/\n<Dn d (i+1) then s h.choose (n-Dn d h.choose) else default,λi j hj=>?_⟩;have h:∃k,Dn d k<=Dn d i+j/\Dn d i+j<Dn d (k+1):=⟨i,Nat.le_add_right _ _,by show _<Dn d i+d i;omega⟩;have hc:=h.choose_spec
 have e:h.choose=i:=by
  rcases DG h.choose i with hl|hl|hl
  .have:=Io (d:=d) (show h.choose+1<=i from hl);omega
  .exact hl
  .have:=Io (d:=d) (show i+1<=h.choose from hl);have e2:Dn d (i+1)=Dn d i+d i:=rfl;omega
 simp only[dif_pos h];rw[e];congr 1;omega
section
variable{P:Program}{bad:Nat->Prop}{S:Sh}
theorem LQ{fr:Frame}{cs:List Frame}{w:World}{g c:Goroutine}{w':World}{es:Array Event}{m:Machine}(h:stepG P true (G fr cs) w=.spawn g c w' es)(hs:step P (lone fr cs w)=.next m):m.gs.size=2:=by
 rw[step,stepT,move_lone] at hs;have h':stepG P true { frame:=fr,callers:=cs,status:=.running,dying:=none } w=_:=h;simp[runT,lone,Array.swapAt!,h'] at hs;rw[<-hs];simp
theorem LU{fr:Frame}{cs:List Frame}{w:World}{g:Goroutine}{w':World}{es:Array Event}{m:Machine}(h:stepG P true (G fr cs) w=.go g w' es)(hs:step P (lone fr cs w)=.next m):m.gs=#[g]:=by
 rw[step,stepT,move_lone] at hs;have h':stepG P true { frame:=fr,callers:=cs,status:=.running,dying:=none } w=_:=h;simp[runT,lone,Array.swapAt!,h'] at hs;rw[<-hs]
theorem LV{I:Machine->Prop}{m mE:Machine}(h:StepsIn I P m mE):m.gs.size<=mE.gs.size:=by
 induction h with
 |refl=>exact bS _
 |head _ hs _ ih=>exact dJ (stepT_size P _ _ true hs) ih
def Ss:Sh:=⟨λ_=>False,λ_ _=>False,λb o=>gH b o=o⟩
theorem LX{C:Cx}{A B:World}(h:Lk C S A B)(hd:∀b,¬S.dead b)(hp:∀b i,¬S.part b i):Lk C Ss A A:=by
 refine⟨rfl,λb hb=>hb.elim,λb _=>?_,λb hb=>hb.elim,rfl,rfl⟩
 rcases h.same b (hd b) with ⟨_,h2⟩|⟨o,_,h2,h3,_⟩|⟨cA,cB,e,fr,h1,_⟩
 .exact .inl ⟨rfl,h2⟩
 .refine .inr (.inl ⟨gH b o,h3,?_,?_,?_⟩)
  .cases o<;>first|exactλx=>x|exact h2|(intro x;exact h2 trivial)
  .rw[h3];cases o<;>rfl
  .cases o<;>rfl
 .exact .inl ⟨rfl,λo ho=>by rw[h1] at ho;injection ho with ho;subst ho;trivial⟩
end
theorem Rf{C:Cx}{A B:World}(h:Lk C Ss A B):A.heap=B.heap/\A.os=B.os/\A.output=B.output:=by
 refine⟨rr λb=>?_,h.os,h.output⟩
 rcases h.same b id with ⟨h1,_⟩|⟨o,h1,_,h3,h4⟩|⟨cA,cB,e,fr,h1,h2,h3,h4⟩
 .exact h1
 .rw[h1,h3];exact congrArg some h4
 .rw[h1,h2]
  have:cA=cB:=rr λi=>h4 i id
  rw[this]
structure Jt where
 fr:Frame
 pre:List Frame
 A:World
 w:World
def rd(w:World)(x:(Nat->Question->Nat)×Nat):World:={ w with tape:=x.1,drawn:=x.2 }
section
variable[EnvD]{P:Program}{bad:Nat->Prop}{S:Sh}
theorem LY(hD:∀w es,EnvD.D w es)(hE:∀w w1,EnvD.E w w1->∃x,w1=rd w x){n:Nat}{Φ:Frame->List Frame->World->Prop}{fr:Frame}{cs:List Frame}{w:World}(h:¬T P n Φ fr cs w)(hn:n<=cs.length):∃x,EnvD.E w (rd w x)/\∀fr' cs' w' es,stepG P true (G fr cs) (rd w x)=.go (G fr' cs') w' es->fY fr'->¬T P n Φ fr' cs' w':=by
 refine ry λhc=>h (T.eo (λw1 e=>?_) hn)
 obtain⟨x,rfl⟩:=hE w w1 e
 refine ry λh2=>hc ⟨x,e,λfr' cs' w' es hs hm ht=>h2 ⟨fr',cs',w',es,hs,hm,hD _ _,ht⟩⟩
theorem E4(hk:iv P P (Cc P P) bad)(ag:∀f,¬Xf.bot f)(hbx:∀f,Xf.xf f->bad f)(df:∀f,bad f->∀args cs w,∃o w' es,stepG P true (G (Frame.enter P f args .normal) cs) w=.ended o w' es)(hD:∀w es,EnvD.D w es)(hE:∀w w1,EnvD.E w w1->∃x,w1=rd w x){F:Fence}{c0:Frame}(ba:¬F.fn c0.fn)(bt:c0.fn≠P.funcs.size)(cy:F.alive=true){f:FuncId}{args:Array Value}{w0:World}{R:Ending->World->Prop}(hin:dh P P (Frame.enter P f args .normal)){A0:World}(aw:∀b,¬S.dead b)(cu:∀b i,¬S.part b i)(d8:Lk (Cc P P) S A0 w0)(bg:∀x,∃v w' fr,R (.returned v) w'/\StepsIn (Machine.fenced P F) P (lone (Frame.enter P f args .normal) [c0] (rd A0 x)) (lone fr [c0] w')/\fr.leaving P w' (.returned v)):iw P f args w0 λe w'=>∃A',R e A'/\Lk (Cc P P) S A' w':=by
 classical
 intro c cs hc
 refine ry λhT=>?_
 have aa:∀e,S.fS e:=λe a _=>cu _ _
 have a':∀e,Ss.fS e:=λe a _ h=>h
 generalize hΦ:(λ(fr:Frame)(cs':List Frame)(w':World)=>cs'=cs/\∃v,(∃A',R (.returned v) A'/\Lk (Cc P P) S A' w')/\fr=c.finish v)=Φ at hT
 let BadJ:Jt->Prop:=λJ=>¬T P (cs.length+1) Φ J.fr (J.pre++c::cs) J.w
 have hX:∀J:Jt,∃x,BadJ J->EnvD.E J.w (rd J.w x)/\∀fr' cs' w' es,stepG P true (G J.fr (J.pre++c::cs)) (rd J.w x)=.go (G fr' cs') w' es->fY fr'->¬T P (cs.length+1) Φ fr' cs' w':=λJ=>by
  by_cases hb:BadJ J
  .obtain⟨x,h⟩:=LY hD hE hb ae;exact⟨x,λ_=>h⟩
  .exact⟨(λ_ _=>0,0),λh=>absurd h hb⟩
 obtain⟨X,hX⟩:∃X:Jt->(Nat->Question->Nat)×Nat,∀J,BadJ J->EnvD.E J.w (rd J.w (X J))/\∀fr' cs' w' es,stepG P true (G J.fr (J.pre++c::cs)) (rd J.w (X J))=.go (G fr' cs') w' es->fY fr'->¬T P (cs.length+1) Φ fr' cs' w':=⟨λJ=>(hX J).choose,λJ=>(hX J).choose_spec⟩
 let Go1:Jt->Jt->Prop:=λJ K=>(fY K.fr/\∀f args,bad f->K.fr≠Frame.enter P f args .normal)/\(∃es,stepG P true (G J.fr (J.pre++[c0])) (rd J.A (X J))=.go (G K.fr (K.pre++[c0])) K.A es)/\∃es,stepG P true (G J.fr (J.pre++c::cs)) (rd J.w (X J))=.go (G K.fr (K.pre++c::cs)) K.w es
 have hu:∀J K L,Go1 J K->Go1 J L->K=L:=by
  rintro J ⟨f1,p1,a1,w1⟩ ⟨f2,p2,a2,w2⟩ ⟨_,⟨e1,h1⟩,e2,h2⟩ ⟨_,⟨e3,h3⟩,e4,h4⟩
  rw[h1] at h3;rw[h2] at h4
  injection h3 with h3 h5 _
  injection h4 with h4 h6 _
  injection h3 with h3 h7
  obtain rfl:p1=p2:=DH h7;simp_all
 let nx:Jt×Nat->Jt×Nat:=λs=>if h:∃K,Go1 s.1 K then (h.choose,0) else (s.1,s.2+1)
 let dl:Jt×Nat->Nat:=λs=>if h:∃K,Go1 s.1 K then h.choose.A.drawn-(X s.1).2 else 1
 let st:Nat->Jt×Nat:=λi=>Nat.rec (⟨Frame.enter P f args .normal,[],A0,w0⟩,0) (λ_ s=>nx s) i
 obtain⟨τ,hτ⟩:=LN (λi=>dl (st i)) (λi j=>(X (st i).1).1 ((X (st i).1).2+((st i).2+j)))
 have di:∀i,st (i+1)=nx (st i):=λ_=>rfl
 have bp:∀i,(¬∃K,Go1 (st i).1 K)->∀j,st (i+j)=((st i).1,(st i).2+j)/\Dn (λi=>dl (st i)) (i+j)=Dn (λi=>dl (st i)) i+j:=λi hn j=>by
  induction j with
  |zero=>exact⟨rfl,rfl⟩
  |succ j ih=>
   obtain⟨h1,h2⟩:=ih
   have c8:¬∃K,Go1 (st (i+j)).1 K:=by rw[h1];exact hn
   constructor
   .show nx (st (i+j))=_;rw[h1];simp only[nx];rw[dif_neg hn];rfl
   .show Dn _ (i+j)+dl (st (i+j))=_
    have:dl (st (i+j))=1:=by rw[h1];simp only[dl];rw[dif_neg hn]
    rw[h2,this];omega
 have key:∀(m mE:Machine),StepsIn (Machine.fenced P F) P m mE->∀(i:Nat)(J:Jt),st i=(J,0)->dh P P J.fr->(∀x∈J.pre,dh P P x)->Lk (Cc P P) S J.A J.w->BadJ J ->
  m=lone J.fr (J.pre++[c0]) (rd J.A (τ,Dn (λi=>dl (st i)) i))->∀(v:Value)(wE:World)(frE:Frame),mE=lone frE [c0] wE->R (.returned v) wE->frE.leaving P wE (.returned v)->False:=by
  intro m mE h
  induction h with
  |refl m=>
   intro i J hi hf h9 hl hb hm v wE frE hE hR b9;obtain⟨e1,e2,e3⟩:=tT (hm.symm.trans hE)
   have da:J.pre=[]:=by
    have:=congrArg List.length e2;simpa using this
   obtain⟨cp,co,d7,fn,bd,b'⟩:=b9;obtain⟨hn,_,_⟩:=hf.calm.resolve_right (λh=>ag _ h.1);rw[<-e1] at cp co d7 bd b';rw[<-e3] at b' hR;have bl:Lk (Cc P P) S (rd J.A (τ,Dn (λi=>dl (st i)) i)) (rd J.w (X J)):=⟨hl.size,hl.low,hl.same,hl.dead,hl.os,hl.output⟩
   rcases hrT:(results fn J.fr.tmps).runT P (rd J.A (τ,Dn (λi=>dl (st i)) i)) #[] with ⟨r0,es0⟩
   have e5:r0=.ok v (rd J.A (τ,Dn (λi=>dl (st i)) i)):=by
    rw[Sem.runT_eq] at hrT
    injection hrT with h1 _
    rw[<-h1];exact b'
   subst e5
   obtain⟨b,B',new,y1,_,rfl,y3,_⟩:=((rG (EP hk fn J.fr.tmps) _ (rd J.w (X J)) #[] #[] v _ es0 bl hrT λe _=>aa e).resolve_left id).alike λj hj=>absurd hj ab
   obtain⟨es,hstB⟩:∃es,stepG P true (G J.fr (c::cs)) (rd J.w (X J))=.go (G (c.finish v) cs) B' es:=
    ⟨_,by simp only[G,stepG,unwind,cp,co,bd,y1,doReturn,hn,GStep.after];rfl⟩
   refine (hX J hb).2 (c.finish v) cs B' es ?_ (n9 hc v) ?_
   .rw[da];exact hstB
   .subst hΦ;exact .now ⟨rfl,v,⟨_,hR,y3⟩,rfl⟩
  |@head m m1 mE hI hs bh ih=>
   intro i J hi hf h9 hl hb hm v wE frE hE hR b9;subst hm;have bl:Lk (Cc P P) S (rd J.A (τ,Dn (λi=>dl (st i)) i)) (rd J.w (X J)):=⟨hl.size,hl.low,hl.same,hl.dead,hl.os,hl.output⟩;have ha:=LX hl aw cu;have hlS:Lk (Cc P P) Ss (rd J.A (τ,Dn (λi=>dl (st i)) i)) (rd J.A (τ,Dn (λi=>dl (st i)) i)):=⟨ha.size,ha.low,ha.same,ha.dead,ha.os,ha.output⟩;have hlT:Lk (Cc P P) Ss (rd J.A (τ,Dn (λi=>dl (st i)) i)) (rd J.A (X J)):=⟨ha.size,ha.low,ha.same,ha.dead,ha.os,ha.output⟩;have hlX:Lk (Cc P P) Ss (rd J.A (X J)) (rd J.A (τ,Dn (λi=>dl (st i)) i)):=⟨ha.size,ha.low,ha.same,ha.dead,ha.os,ha.output⟩
   have dt:m1.gs.size<=1:=by have:=LV bh;rw[hE] at this;exact this
   generalize hAt:rd J.A (τ,Dn (λi=>dl (st i)) i)=At at *
   have hAd:At.drawn=Dn (λi=>dl (st i)) i:=by rw[<-hAt];rfl
   have hAp:At.tape=τ:=by rw[<-hAt];rfl
   have common:∀(fr':Frame)(pre2:List Frame)(A':World)(es:Array Event),(∀tail,stepG P true (G J.fr (J.pre++tail)) At=.go (G fr' (pre2++tail)) A' es)->fY fr'->False:=by
    intro fr' pre2 A' es hA h8
    have bm:m1=lone fr' (pre2++[c0]) A':=by rw[rJ (hA [c0])] at hs;injection hs with hs;exact hs.symm
    have nb:∀f args,bad f->fr'≠Frame.enter P f args .normal:=by
     intro f1 a1 b5 e
     cases bh with
     |refl=>
      obtain⟨e1,_,_⟩:=tT (bm.symm.trans hE);have:=b9.1;rw[<-e1,e] at this;simp[Frame.enter] at this
     |head hI2 cw _=>
      obtain⟨o,w',aq,he⟩:=df f1 b5 a1 (pre2++[c0]) A';rw[bm,e,vU he] at cw;cases cw
    have alA:(∀k,At.drawn+k<A'.drawn->(X J).1 ((X J).2+k)=τ (At.drawn+k))->∃B2 es2,stepG P true (G J.fr (J.pre++[c0])) (rd J.A (X J))=.go (G fr' (pre2++[c0])) B2 es2/\Lk (Cc P P) Ss A' B2/\At.drawn<=A'.drawn/\A'.tape=τ/\B2.drawn=(X J).2+(A'.drawn-At.drawn):=λbr=>by
     rcases tR hk hf (.inl rfl) hlT (hA [c0]) with ⟨f1,a1,_,b5,bk,_⟩|(⟨ch,h⟩|h)|a6
     .exact absurd bk (nb f1 a1 b5)
     .exact absurd h (h8 ch)
     .exact absurd rfl h
     .obtain⟨q1,q2,_,_,_,_,q⟩:=a6 λe _=>a' e
      obtain⟨fr2,B2,bz,ht,bw,_,bj,_⟩:=q λk hk=>by rw[hAp];exact br k hk
      have e2:fr2=fr':=by
       rcases bz with ⟨_,⟨h,_⟩|⟨f1,a1,hx,h,_⟩⟩|⟨h,_⟩|⟨h,_⟩
       .exact h
       .exact absurd h (nb f1 a1 (hbx _ hx))
       .exact h
       .exact h
      subst e2;exact⟨B2,_,ht,bw,q1,q2.trans hAp,bj⟩
    have br:∀k,At.drawn+k<A'.drawn->(X J).1 ((X J).2+k)=τ (At.drawn+k):=by
     by_cases hgo:∃K,Go1 J K
     .obtain⟨K,hK⟩:=hgo
      have c4:dl (st i)=K.A.drawn-(X J).2:=by
       rw[hi];simp only[dl];have hex:∃K,Go1 J K:=⟨K,hK⟩;rw[dif_pos hex,hu J _ K hex.choose_spec hK]
      have cx:∀k,k<K.A.drawn-(X J).2->τ (At.drawn+k)=(X J).1 ((X J).2+k):=λk hk=>by
       have:=hτ i k (by show k<dl (st i);rw[c4];exact hk);rw[hAd];simp only[hi,eI] at this;exact this
      obtain⟨⟨k1,k2⟩,⟨es1,k3⟩,_⟩:=id hK
      rcases tR hk hf (.inl rfl) hlX k3 with ⟨f1,a1,_,b5,bk,_⟩|(⟨ch,h⟩|h)|a6
      .exact absurd bk (k2 f1 a1 b5)
      .exact absurd h (k1 ch)
      .exact absurd rfl h
      .obtain⟨q1,_,_,_,_,_,q⟩:=a6 λe _=>a' e
       have q1:(X J).2<=K.A.drawn:=q1
       obtain⟨fr2,B2,_,ht,_,_,bj,_⟩:=q λk hk=>by
        have hk:(X J).2+k<K.A.drawn:=hk;rw[hAp];exact cx k ab
       rw[hA [c0]] at ht
       injection ht with _ ht _
       rw[<-ht] at bj;have bj:A'.drawn=At.drawn+(K.A.drawn-(X J).2):=bj
       exactλk hk=>(cx k ab).symm
     .intro k hk;obtain⟨h1,h2⟩:=bp i (by rw[hi];exact hgo) k
      have c8:¬∃K,Go1 (st (i+k)).1 K:=by rw[h1,hi];exact hgo
      have:=hτ (i+k) 0 (by show 0<dl (st (i+k));simp only[dl];rw[dif_neg c8];omega);rw[h2,h1,hi] at this;simp only[m8,eI] at this;rw[hAd];exact this.symm
    obtain⟨B2,es2,hB2,c7,dk,bq,c3⟩:=alA br;obtain⟨hh,os2,out2⟩:=Rf c7
    have alB:∃B3 es3,stepG P true (G J.fr (J.pre++c::cs)) (rd J.w (X J))=.go (G fr' (pre2++c::cs)) B3 es3/\Lk (Cc P P) S A' B3/\dh P P fr'/\∀x∈pre2,dh P P x:=by
     rcases tR hk hf (.inl rfl) bl (hA (c::cs)) with ⟨f1,a1,_,b5,bk,_⟩|(⟨ch,h⟩|h)|a6
     .exact absurd bk (nb f1 a1 b5)
     .exact absurd h (h8 ch)
     .exact absurd rfl h
     .obtain⟨_,_,_,_,_,_,q⟩:=a6 λe _=>aa e
      obtain⟨fr2,B3,bz,ht,bw,_,_,_⟩:=q λk hk=>by rw[hAp];exact br k hk
      rcases bz with ⟨d4,⟨h,c6⟩|⟨f1,a1,hx,h,_⟩⟩|⟨h,c1,v1,bb,b8,_⟩|⟨_,_,_,d3,_⟩
      .subst h;refine⟨B3,_,ht,bw,c6,?_⟩
       rcases d4 with ⟨ba,_⟩|⟨f1,c5,_,_,ba⟩
       .obtain rfl:pre2=J.pre:=DH ba;exact h9
       .obtain rfl:pre2=f1::J.pre:=DH (as:=pre2) (bs:=c::cs) (cs:=f1::J.pre) ba
        exactλx hx=>(dM.1 hx).elim (λe=>e▸c5) (h9 x)
      .exact absurd h (nb f1 a1 (hbx _ hx))
      .subst h;refine⟨B3,_,ht,bw,?_,?_⟩
       all_goals
        cases hp:J.pre with
        |nil=>
         rw[hp] at bb;have bb:[]++c::cs=c1::(pre2++c::cs):=bb;have:=congrArg List.length bb;simp at this;omega
        |cons x a9=>
         rw[hp] at bb
         injection bb with h1 h2
         have h2:a9=pre2:=DH h2;subst h1 h2
         first
         |(have b8:fr2=x.finish v1:=b8
           rw[b8];exact (h9 x (by rw[hp];exact gF)).finish v1)
         |exactλy hy=>h9 y (by rw[hp];exact eH _ hy)
      .exact absurd d3 (ag _)
    obtain⟨B3,es3,hB3,ao,c6,dc⟩:=alB;have hK:Go1 J ⟨fr',pre2,B2,B3⟩:=⟨⟨h8,nb⟩,⟨es2,hB2⟩,es3,hB3⟩;have hex:∃K,Go1 J K:=⟨_,hK⟩;have bu:=hu J _ _ hex.choose_spec hK
    have c4:dl (st i)=B2.drawn-(X J).2:=by
     rw[hi];simp only[dl];rw[dif_pos hex,bu]
    have cg:st (i+1)=(⟨fr',pre2,B2,B3⟩,0):=by
     rw[di,hi];simp only[nx];rw[dif_pos hex,bu]
    have hAw:A'=rd B2 (τ,Dn (λi=>dl (st i)) (i+1)):=by
     have e1:Dn (λi=>dl (st i)) (i+1)=A'.drawn:=by
      show Dn (λi=>dl (st i)) i+dl (st i)=_;rw[c4,c3,<-hAd];omega
     rw[e1];obtain⟨a1,a2,a3,a4,a5⟩:=A';simp only at hh os2 out2 bq;subst hh os2 out2 bq;rfl
    refine ih (i+1) ⟨fr',pre2,B2,B3⟩ cg c6 dc ?_ ((hX J hb).2 fr' (pre2++c::cs) B3 es3 hB3 h8) (by rw[bm,hAw]) v wE frE hE hR b9;exact⟨by rw[<-hh];exact ao.size,by rw[<-hh];exact ao.low,by rw[<-hh];exact ao.same,by rw[<-hh];exact ao.dead,by rw[<-os2];exact ao.os,by rw[<-out2];exact ao.output⟩
   have hlen:∀{g:Goroutine},m1.gs=#[g]->g.dying=none:=λ{g} hg=>by
    cases bh with
    |refl=>rw[hE] at hg;have:g=G frE [c0]:=by simpa[lone,G] using hg.symm
           rw[this];rfl
    |head hI2 _ _=>have:=(hI2 g (by rw[hg];simp)).1 cy;simpa using this
   cases LL hk hf ag a' hlS with
   |ended h=>
    obtain⟨o,w',es,h⟩:=h (J.pre++[c0]);rw[vU h] at hs;cases hs
   |odd h=>
    rcases h (J.pre++[c0]) with ⟨g,c',w',es,h⟩|⟨g,w',es,h,d5⟩
    .have:=LQ h hs;omega
    .exact d5 (hlen (LU h hs))
   |pop v' A' es h=>
    cases hp:J.pre with
    |nil=>
     rw[hp] at hs;rw[rJ (show stepG P true (G J.fr ([]++[c0])) At=_ from h c0 [])] at hs
     injection hs with hs
     subst hs
     cases bh with
     |refl=>exact absurd (tT hE).2.1 ae
     |head hI2 _ _=>
      have:=(hI2 (G (c0.finish v') []) (by simp[lone,G])).2.1;have e3:(G (c0.finish v') []).frame.fn=c0.fn:=tQ c0 v';rw[e3] at this;exact this.elim ba bt
    |cons x a9=>
     refine common (x.finish v') a9 A' es (λtail=>?_) (n9 (h9 x (by rw[hp];exact gF)).mode v');rw[hp];exact h x (a9++tail)
   |stay fr' new A' es h h2=>
    by_cases h8:fY fr'
    .exact common fr' (new++J.pre) A' es (λtail=>by rw[List.append_assoc];exact h (J.pre++tail)) h8
    .obtain⟨b4,bi,cf⟩:=h2.resolve_left h8;subst cf
     obtain⟨ch,bu⟩:∃ch,fr'.mode=.panicking ch:=ry λhx=>h8 λch e=>hx ⟨ch,e⟩
     have bm:m1=lone fr' (J.pre++[c0]) A':=by rw[rJ (show stepG P true (G J.fr (J.pre++[c0])) At=_ from h _)] at hs;injection hs with hs;exact hs.symm
     exact LM ba bt bh fr' J.pre A' ch bm bu bi (λx hx=>((h9 x hx).calm.resolve_right (λh=>ag _ h.1)).2.1) b4 frE wE hE b9.1
 obtain⟨v,w',fr,hR,dg,b9⟩:=bg (τ,0);exact key _ _ dg 0 _ rfl hin ae d8 hT rfl v w' fr rfl hR b9
end
def So(w:World):Sh:=⟨λ_=>False,λ_ _=>False,λb o=>w.heap[b]?=some o⟩
open Classical in
noncomputable def gU(C:Cx)(w:World):World:={ w with heap:=w.heap.mapIdx λb o=>if okO C o then o else gH b o }
theorem tU(C:Cx)(w:World)(b:Nat):(gU C w).heap[b]?=(w.heap[b]?).map λo=>open Classical in if okO C o then o else gH b o:=by
 simp[gU]
theorem E5(C:Cx)(w:World):Lk C (So w) (gU C w) w:=by
 refine⟨by simp[gU],λb hb=>hb.elim,λb _=>?_,λb hb=>hb.elim,rfl,rfl⟩;rw[tU]
 rcases hb:w.heap[b]? with _|o
 .exact .inl ⟨rfl,ae⟩
 .by_cases ho:okO C o
  .refine .inl ⟨by simp[ho],λo' e=>?_⟩;simp[ho] at e;exact e▸ho
  .exact .inr (.inl ⟨o,rfl,ho,by simp[ho],hb⟩)
section
variable{C:Cx}{w w' A A':World}
theorem tV(h:Lk C (So w) A' w'){b:Nat}{c:Array Value}{e:TypeId}{fr:Nat×Nat}(hb:A'.heap[b]?=some (.cells c e fr)):w'.heap[b]?=some (.cells c e fr):=by
 rcases h.same b id with ⟨h1,_⟩|⟨o,h1,h2,h3,_⟩|⟨cA,cB,e1,fr1,h1,h2,h3,h4⟩
 .rw[<-h1];exact hb
 .rw[hb] at h3;injection h3 with h3;cases o<;>cases h3
 .rw[hb] at h1;injection h1 with h1;injection h1 with e2 e3 e4
  subst e2 e3 e4
  have:c=cB:=rr λi=>h4 i id
  rw[h2,this]
theorem E6(h0:Lk C (So w) A w)(h:Lk C (So w) A' w'){k:Nat}(hk:A'.heap[k]?=A.heap[k]?):w'.heap[k]?=w.heap[k]?:=by
 rcases h.same k id with ⟨h1,h1o⟩|⟨o,h1,h2,h3,h4⟩|⟨cA,cB,e1,fr1,h1,h2,h3,h4⟩
 .rcases h0.same k id with ⟨g1,_⟩|⟨o,g1,g2,g3,_⟩|⟨cA,cB,e1,fr1,g1,g2,g3,g4⟩
  .rw[<-h1,hk,g1]
  .rw[<-hk] at g3
   exact absurd (h1o _ g3) (by
    cases o<;>first|exactλx=>x|exact absurd trivial g2|exact g2)
  .rw[<-hk] at g1;have:=tV h0 (hk▸g1);rw[<-h1,g1,this]
 .rw[h1];exact h4.symm
 .rw[tV h h1,tV h0 (hk▸h1)]
end
end Go.Fc
