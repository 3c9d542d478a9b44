/- Lemmas. -/
import Derived.Test.YthpkmilhiganjaaGreatPLf
import Derived.Test.YthpkmilhiganjaaGreatPLd
set_option linter.all false
set_option maxHeartbeats 32000000
set_option maxRecDepth 100000
namespace Go.Fi
open Go Go.RowKit
variable[bJ]
variable{fk:Fk}
def gh:Nat->List AV->Env
 |_,[]=>[]
 |i,v::r=>(i,v)::gh (i+1) r
section
omit [bJ]
@[simp]theorem Ym(i:Nat):gh i []=[]:=rfl
@[simp]theorem Yn(i:Nat)(v:AV)(r:List AV):gh i (v::r)=(i,v)::gh (i+1) r:=rfl
theorem Bn:∀(l:List AV)(i t:Nat),get (gh i l) t=if i<=t/\t<i+l.length then l.getD (t-i) (.w false false .undef) else .w false false .undef
 |[],i,t=>by simp
 |p::r,i,t=>by
  simp only[gh,get];by_cases h:i=t
  .subst h;simp
  .simp only[h,cP];rw[Bn r (i+1) t]
   grind
end
def gq(P:Program)(rs:List ResultVar)(st:St)(K:AV->bD->Nat->Prop):Prop:=
 match jW P st.env st.heap rs with
 |some (vs,c)=>c/\K (oneOf vs) st.heap st.nxt
 |none=>False
def ir(P:Program)(rs:List ResultVar)(K:AV->bD->Nat->Prop):Exit->St->Prop
 |.normal,s=>gq P rs s K
 |.ret,s=>gq P rs s K
 |_,_=>False
omit [bJ] in
@[simp ↓]theorem Yo(P:Program)(rs:List ResultVar)(K:AV->bD->Nat->Prop)(s:St):ir P rs K .normal s=gq P rs s K:=rfl
omit [bJ] in
@[simp ↓]theorem Yp(P:Program)(rs:List ResultVar)(K:AV->bD->Nat->Prop)(s:St):ir P rs K .ret s=gq P rs s K:=rfl
section
variable{P:Program}{B:Base}{m:Mm}{w:World}{h:bD}{n:Nat}{env:Env}{a:Act}{L:Nat->Prop}
section
omit [bJ]
theorem xe{n:Nat}:∀{cs:List AV},(∀(j:Nat)(x:AV),cs[j]?=some x->x.lt n=true)->AV.lt.ltL n cs=true
 |[],_=>rfl
 |x::r,h=>by
  simp only[AV.lt.ltL,eT];exact⟨h 0 x rfl,xe λj y hy=>h (j+1) y ak⟩
theorem bI.CS{x:AV}{v:Value}(h:bI B L m w x v)(hd:∀i,m.dom i->i<n):x.lt n=true:=by
 induction h with
 |w _ _=>rfl
 |ptr c7 _ _ _=>simp_all
 |mp c7 _ _=>simp_all
 |msl c7 _ _ _ _=>simp_all
 |@agg cs vs hl _ ih=>
  simp only[AV.lt]
  refine xe λj y hy=>?_
  have hj:j<vs.size:=by have:=(fu.1 hy).1;omega
  exact ih j y _ hy (dM hj)
 |@tup cs vs hl _ ih=>
  simp only[AV.lt]
  refine xe λj y hy=>?_
  have hj:j<vs.size:=by have:=(fu.1 hy).1;omega
  exact ih j y _ hy (dM hj)
 |@fn f cs vs hl _ ih=>
  simp only[AV.lt]
  refine xe λj y hy=>?_
  have hj:j<vs.size:=by have:=(fu.1 hy).1;omega
  exact ih j y _ hy (dM hj)
theorem tZ:∀(env:Env)(t:Nat),(∃v,(t,v)∈env)\/get env t=.w false false .undef
 |[],_=>.inr rfl
 |(k,v)::r,t=>by
  simp only[get];by_cases h:k=t
  .simp_all
  .rcases tZ r t with ⟨u,hu⟩|hu
   .exact .inl ⟨u,fw _ hu⟩
   simp_all
end
def xN(P:Program)(B:Base){fk:Fk}(w0:Ctx fk)(env:Env)(a:Act)(n nt:Nat)(o:Oper)(fn:Func)(K':Act->World->Prop)(e:Exit)(a':Act)(w':World):Prop:=
 (e=.normal\/e=.ret)/\∃(bb fk2:Fk)(w1:Ctx bb)(w2:Ctx fk2)(st':St)(m':Mm)(KV:AV->bD->Nat->Prop),bb.k=n/\fk2.k=fk.k/\w1.w=w0.w/\w1.F=w0.F++(env.map λp=>(get env p.1,a.tmps.getD p.1 undef))/\w1.ds=[] /\
  w2.w=w0.w/\w2.F=w0.F/\w2.ds=w0.ds/\(∀q∈w2.obs,q∈w1.obs)/\Sim B w1 st' a' w' m'/\gq P fn.results.toList st' KV/\∀v h' n' a' w' m',KV v h' n'->Sim B w2 ⟨put env o.dst v,h',n',nt⟩ a' w' m'->K' a' w'
theorem GA{w0:Ctx fk}{nt:Nat}(o:Oper)(f:Operand)(args:Array Operand)(tys:Array TypeId)(ho:o.op=.call { callee:=.value f,args:=args,argTypes:=tys }){g:FuncId}{b8:List AV}(hf:gd (ev env f)=some (g,b8)){fn:Func}{c:Code}(ay:P.funcs[g]?=some fn) (h9:(fn.name == "runtime.NumGoroutine")=false) (hb:fn.body=some c) (b7:(args.toList.map (ev env)++b8).length<=fn.ntmps) (r:Option RI) (en:∀ri,r=some ri->fk.ri=some ri) (Q:Exit->Act->World->Prop) (K':Act->World->Prop) (hw:∀(w1:Ctx ⟨n,r⟩)(a1:Act),w1.w=w0.w->w1.F=w0.F++(env.map λp=>(get env p.1,a.tmps.getD p.1 undef))->w1.r=none->w1.obs=w0.obs->w1.ds=[]->Sim B w1 ⟨gh 0 (args.toList.map (ev env)++b8),h,n,fn.ntmps⟩ a1 w m->c.wpT none P (xN P B w0 env a n nt o fn K') a1 w) (hs:Sim B w0 ⟨env,h,n,nt⟩ a w m) (aa:dOk nt o.dst):o.wpt P a w K' Q:=by
 have ez:∀x:Operand,bI B (LB m h) m w (ev env x) (a.eval x):=λx=>mY x (λt _=>hs.env t)
 have bm:=ez f
 have e9:∃cv:Array Value,a.eval f=.func (.func g) #[] cv/\b8.length=cv.size/\∀(j:Nat)(p:AV)(v:Value),b8[j]?=some p->cv[j]?=some v->bI B (LB m h) m w p v:=by
  unfold gd at hf;split at hf
  .rename_i g' bo e
   injection hf with hf;injection hf with h1 h2;subst h1;subst h2
   rw[e] at bm;generalize hv:a.eval f=vf at bm
   cases bm with|fn h1 h2=>grind
  .rename_i own f' g' bo e
   injection hf with hf;injection hf with h1 h2;subst h1;subst h2
   rw[e] at bm;generalize hv:a.eval f=vf at bm
   cases bm with
   |w h1 _=>
    cases h1 with
    |fn h1 h2=>
     refine⟨_,rfl,ak,λj p v hp hv=>?_⟩;obtain⟨q,hq,rfl⟩:=gI hp;exact .w (h2 j q v hq hv) nofun
  .cases hf
 obtain⟨cv,d7,b6,fx⟩:=e9
 have cw:∀(j:Nat)(x:AV)(v:Value),(args.toList.map (ev env)++b8)[j]?=some x->(args.map a.eval++cv)[j]?=some v->bI B (LB m h) m w x v:=by
  grind
 have hlen:(args.toList.map (ev env)++b8).length=(args.map a.eval++cv).size:=by simp[b6]
 generalize er:args.map a.eval++cv=vs at cw hlen;generalize fm:args.toList.map (ev env)++b8=avs at cw hlen b7 hw
 have aq:(execOp a.eval o).run P w=.ok (.enter g vs) w:=by
  have ed:¬fn.name = "runtime.NumGoroutine" := by simp_all
  simp[execOp,ho,resolve,d7,Deferred.ofValue,invoke,callFunc,ay,ed,hb,<-er]
 unfold Oper.wpt;rw[aq,Oper.BL]
 have bp:∀i,m.dom i->i<n:=λi hd=>(hs.dom i).1 hd
 refine vg ay hb ?_
 have a5:Sim B (⟨w0.w,w0.F++env.map λp=>(get env p.1,a.tmps.getD p.1 undef),none,w0.obs,[],λri h=>(let ⟨fn,T,D,h1,h2,h3⟩:=w0.dw ri (en ri h);⟨fn,T,D,h1,h2,λt v ht=>jC.2 (.inl (h3 t v ht))⟩),w0.ok⟩:Ctx ⟨n,r⟩) ⟨gh 0 avs,h,n,fn.ntmps⟩ { tmps:=vs++Array.replicate (fn.ntmps-vs.size) undef,defers:=[] } w m:=by
  refine⟨hs.base,hs.below,rfl,ar,λt=>?_,hs.heap,hs.dom,hs.ids,bV _,λp hp=>?_,hs.fr.2.2⟩
  .show bI _ _ _ _ (get (gh 0 avs) t) _;rw[Bn];split
   .rename_i ht
    have b5:t<avs.length:=ab
    have:(vs++Array.replicate (fn.ntmps-vs.size) undef).getD t undef=vs[t]'ab:=by
     rw[dL,sV ab,dM ab];rfl
    rw[this];exact cw t _ _ al (dM ab)
   .exact .w (.undef _) nofun
  .rcases jC.1 hp with hp|hp
   .exact⟨AV.rR hs.fr.1 (hs.fr.2.1 p hp).1,(hs.fr.2.1 p hp).2⟩
   .obtain⟨q,_,rfl⟩:=gA.1 hp;exact⟨(hs.env q.1).CS bp,hs.env q.1⟩
 have main:∀{bb fk2:Fk}(w1:Ctx bb)(w2:Ctx fk2)(st':St)(a':Act)(w':World)(m':Mm)(KV:AV->bD->Nat->Prop),bb.k=n->fk2.k=fk.k->w1.w=w0.w->w1.F=w0.F++(env.map λp=>(get env p.1,a.tmps.getD p.1 undef))->w1.ds=[] ->
  w2.w=w0.w->w2.F=w0.F->w2.ds=w0.ds->(∀q∈w2.obs,q∈w1.obs)->Sim B w1 st' a' w' m'->gq P fn.results.toList st' KV ->
  (∀v h' n' a' w' m',KV v h' n'->Sim B w2 ⟨put env o.dst v,h',n',nt⟩ a' w' m'->K' a' w') ->
  a'.defers=[]/\∀w1,EnvD.E w' w1->∃v,(results fn a'.tmps).run P w1=.ok v w1/\K' (a.put o.dst v) w1:=by
  intro bb fk2 w1 w2 st' a' w' m' KV d2 q1 du hF1 bw q2 q3 q4 q5 h8 hr hKK;refine⟨by have:=h8.defers;rw[bw] at this;exact this,λw' e1=>?_⟩;replace h8:=h8.move e1;unfold gq at hr;split at hr
  .rename_i ba d bf;obtain⟨hd,b4⟩:=hr;obtain⟨us,h1,h2,h3⟩:=rq h8 _ _ _ bf hd
   have aq:(results fn a'.tmps).run P w'=.ok (if h:us.toArray.size=1 then us.toArray[0] else .tuple us.toArray) w':=by
    have he:results fn a'.tmps=(do
     let vs <-fn.results.mapM (pH a'.tmps)
     pure (if h:vs.size=1 then vs[0] else .tuple vs)):=rfl
    rw[he,sN];simp only[Sem.run_bind,Sem.run_map,h1,Result.andThen_ok,Sem.run_pure]
   have bh:bI B (LB m' st'.heap) m' w' (oneOf ba) (if h:us.toArray.size=1 then us.toArray[0] else .tuple us.toArray):=by
    have tupc:ba.length≠1->bI B (LB m' st'.heap) m' w' (.tup ba) (if h:us.toArray.size=1 then us.toArray[0] else .tuple us.toArray):=by
     intro b';rw[dif_neg ar];exact .tup (by simpa using h2) (λj p u hp hu=>h3 j p u hp (by simpa using hu))
    match ba,h2,h3,tupc with
    |[],h2,h3,tupc=>exact tupc ae
    |[v],h2,h3,tupc=>
     obtain⟨u,rfl⟩:∃u,us=[u]:=Dk.1 aV;exact h3 0 v u rfl rfl
    |v::v2::r,h2,h3,tupc=>exact tupc ae
   refine⟨_,aq,?_⟩;have c8:=h8.fr.2.1
   have hold:∀t,bI B (LB m' st'.heap) m' w' (get env t) (a.tmps.getD t undef):=by
    intro t
    rcases tZ env t with ⟨v,hv⟩|hu
    .exact (c8 (get env t,a.tmps.getD t undef) (by rw[hF1];exact jC.2 (.inr (gA.2 ⟨(t,v),hv,rfl⟩)))).2
    .rw[hu];exact .w (.undef _) nofun
   refine hKK (oneOf ba) st'.heap st'.nxt _ _ m' b4 ⟨(by rw[q2,<-du];exact h8.base),(by rw[q2,<-du];exact h8.below),(by rw[lj,q4];exact hs.defers),(by rw[lh];exact hs.size),?_,h8.heap,h8.dom,h8.ids,?_,λp hp=>?_,λq hq=>h8.fr.2.2 q (q5 q hq)⟩
   .exact nO env a o.dst _ _ (by rw[hs.size];exact aa) bh hold
   .have h1:=hs.fr.1;have h2:=h8.fr.1;rw[d2] at h2;rw[q1];exact dK h1 h2
   .rw[q3] at hp;exact⟨by rw[q1];exact (hs.fr.2.1 p hp).1,(c8 p (by rw[hF1];exact jC.2 (.inl hp))).2⟩
  trivial
 refine fo (hw _ _ rfl rfl rfl rfl rfl a5) (λe a' w' hq=>?_);obtain⟨he,bb,fk2,w1,w2,st',m',KV,q1,q2,q3,q4,q5,q6,q7,q8,q9,h8,hr,hK⟩:=hq;have fin:=main w1 w2 st' a' w' m' KV q1 q2 q3 q4 q5 q6 q7 q8 q9 h8 hr hK
 rcases he with rfl|rfl
 .exact fin
 .exact fin
theorem GB{w0:Ctx fk}{nt:Nat}(o:Oper)(f:Operand)(args:Array Operand)(tys:Array TypeId)(ho:o.op=.call { callee:=.value f,args:=args,argTypes:=tys }){g:FuncId}{b8:List AV}(hf:gd (ev env f)=some (g,b8)){fn:Func}{c:Code}(ay:P.funcs[g]?=some fn) (h9:(fn.name == "runtime.NumGoroutine")=false) (hb:fn.body=some c) (b7:(args.toList.map (ev env)++b8).length<=fn.ntmps) (r:Option RI) (en:∀ri,r=some ri->fk.ri=some ri) {Kv:AV->bD->Nat->Prop} (hw:cX ⟨n,r⟩ P c ⟨gh 0 (args.toList.map (ev env)++b8),h,n,fn.ntmps⟩ (ir P fn.results.toList Kv)) (hs:Sim B w0 ⟨env,h,n,nt⟩ a w m) (aa:dOk nt o.dst) (Q:Exit->Act->World->Prop) (K':Act->World->Prop) (hK:∀v h' n' a' w' m',Kv v h' n'->Sim B w0 ⟨put env o.dst v,h',n',nt⟩ a' w' m'->K' a' w'):o.wpt P a w K' Q:=
 GA o f args tys ho hf ay h9 hb b7 r en Q K' (λw1 a1 e1 e2 e3 e4 e5 bg=>fo (e3▸hw B w1 a1 w m bg) (λe a' w' ⟨st',m',hk,h8⟩=>by
  have fin:∀e:Exit,(e=.normal\/e=.ret)->gq P fn.results.toList st' Kv->xN P B w0 env a n nt o fn K' e a' w':=λe he hk=>
   ⟨he,_,_,w1,w0,st',m',Kv,rfl,rfl,e1,e2,e5,rfl,rfl,rfl,λq hq=>e4▸hq,h8,hk,hK⟩
  cases e with
  |normal=>simp_all
  |ret=>simp_all
  |_=>exact hk.elim)) hs aa
end
section
variable{P:Program}{B:Base}{m:Mm}{w w':World}{h:bD}{n:Nat}{env:Env}{a:Act}{L:Nat->Prop}
section
omit [bJ]
theorem Rep.nI{G:Nat->Prop}{p:PV}{v:Value}(hc:∀a v,w.cell? a=some v->w'.cell? a=some v)(h:Rep G w p v):Rep G w' p v:=by
 induction h with
 |undef v=>exact .undef v
 |jO b=>exact .jO b
 |bool b=>exact .bool b
 |int k n=>exact .int k n
 |str s=>exact .str s
 |agg hl _ ih=>exact .agg hl ih
 |tup hl _ ih=>exact .tup hl ih
 |slnil=>exact .slnil
 |sl vals hn e7 hg hr ih=>exact .sl vals hn (λj hj=>hc _ _ (e7 j hj)) hg ih
 |slz hn=>exact .slz hn
 |ip vals e7 hg hr ih=>exact .ip vals (λj hj=>hc _ _ (e7 j hj)) hg ih
 |gJ=>exact .gJ
 |lE=>exact .lE
 |ifc _ ih=>exact .ifc ih
 |fn hl _ ih=>exact .fn hl ih
 |yl l=>exact .yl l
theorem bI.nI{x:AV}{v:Value}(hc:∀a v,w.cell? a=some v->w'.cell? a=some v)(h:bI B L m w x v):bI B L m w' x v:=by
 induction h with
 |w hr hf=>exact .w (hr.nI hc) hf
 |ptr hd ht ha hC=>exact .ptr hd ht ha hC
 |mp hd ht ha=>exact .mp hd ht ha
 |msl hd ht hn h0 h1=>exact .msl hd ht hn h0 h1
 |agg hl _ ih=>exact .agg hl ih
 |tup hl _ ih=>exact .tup hl ih
 |fn hl _ ih=>exact .fn hl ih
theorem xg{l:Nat}{o o':Obj}(hl:w.heap[l]?=some o)(ho:o.isCells=false)(ad:Addr)(v:Value)(hc:w.cell? ad=some v):(w.putObj l o').cell? ad=some v:=by
 by_cases e:ad.block=l
 .unfold World.cell? at hc;rw[e,hl] at hc
  cases o<;>simp_all[Obj.isCells]
 .rw[<-hc];exact World.cell?_of_block (World.putObj_heap_other e)
theorem N8{k l:Nat}{o o':Obj}(hl:w.heap[l]?=some o)(hk:k<=l):Bel k w (w.putObj l o'):=
 ⟨rfl,rfl,ae,λi hi=>World.putObj_heap_other ab⟩
end
theorem Sim.put{bb:Fk}{w0:Ctx fk}{w1:Ctx bb}{st:St}{l:Nat}{o o':Obj}(hs:Sim B w0 st a w m)(hl:w.heap[l]?=some o)(ho:o.isCells=false)(gy:∀es clk,o≠.map es clk)(hB:B.n<=l)(hw:w1.w=w0.w){a':Act}(ht:a'.tmps=a.tmps)(hd:a'.defers=marks w1.ds)(c8:pt B w1 (LB m st.heap) m (w.putObj l o') st.nxt):Sim B w1 st a' (w.putObj l o') m:=by
 have hc:∀ad v,w.cell? ad=some v->(w.putObj l o').cell? ad=some v:=λad v h=>xg hl ho ad v h
 refine⟨by rw[hw];exact hs.base,by rw[hw];exact hs.below.trans (N8 hl hB),hd,by rw[ht];exact hs.size,λt=>by rw[ht];exact (hs.env t).nI hc,⟨λid c hin g0=>?_,hs.heap.inj⟩,hs.dom,hs.ids,c8⟩;obtain⟨h1,h2⟩:=hs.heap.entry id c hin g0;refine⟨h1,?_⟩
 rcases h2 with h2|⟨b,C,cs,e,e1,e2,e3,e4,e5,e6⟩|⟨b,es,clk,e1,e2,e3,e4,e5⟩
 .exact .inl h2
 .refine .inr (.inl ⟨b,C,cs,e,e1,?_,e3,e4,e5,λj p v hp hv=>(e6 j p v hp hv).nI hc⟩);rw[<-e2];refine World.putObj_heap_other (λbv=>?_);subst bv;rw[hl] at e2;cases e2;cases ho
 .refine .inr (.inr ⟨b,es,clk,e1,e2,?_,e4,e5⟩);rw[<-e3];refine World.putObj_heap_other (λbv=>?_);simp_all
theorem Sim.lay{bb:Fk}{w0:Ctx fk}{w1:Ctx bb}{st:St}(o:Obj)(hs:Sim B w0 st a w m)(hw:w1.w=w0.w){a':Act}(ht:a'.tmps=a.tmps)(hd:a'.defers=marks w1.ds)(c8:pt B w1 (LB m st.heap) m (w.alloc o) st.nxt):Sim B w1 st a' (w.alloc o) m:=by
 have hb:Bel w.heap.size w (w.alloc o):=(Bel.refl _ w).alloc (bV _) o;exact⟨by rw[hw];exact hs.base,by rw[hw];exact hs.below.trans (hb.mono hs.room),hd,by rw[ht];exact hs.size,λt=>by rw[ht];exact (hs.env t).mono (Mm.le.refl m) (λ_ _ h=>h) (λb cj _=>hb.block b cj),hs.heap.below hb,hs.dom,hs.ids,c8⟩
end
def nJ(env:Env):List Nat->List AV->Env
 |t::ts,v::vs=>nJ ((t,v)::env) ts vs
 |_,_=>env
omit [bJ] in
@[simp]theorem Yq(env:Env)(vs:List AV):nJ env [] vs=env:=by cases vs<;>rfl
omit [bJ] in
@[simp]theorem N9(env:Env)(t:Nat)(ts:List Nat)(v:AV)(vs:List AV):nJ env (t::ts) (v::vs)=nJ ((t,v)::env) ts vs:=rfl
def sB(k:Nat)(K:bD->Nat->Prop):Exit->St->Prop
 |.normal,s=>∃h' n' aw,Lek ⟨k,none⟩ s ⟨[],h',n',aw⟩/\K h' n'
 |_,_=>False
def uL(P:Program)(k:Nat)(body:Code)(K:bD->Nat->Prop):Exit->St->Prop
 |.normal,s=>cX ⟨k,none⟩ P body s (sB k K)
 |_,_=>False
def Round(P:Program)(ri:RI)(avs:List AV)(h:bD)(n:Nat)(K:bD->Nat->Prop):Prop:=
 avs.length=ri.ps.size/\(∀t∈ri.ps,t<ri.nt)/\cX ⟨n,none⟩ P ri.assign ⟨nJ ri.env ri.ps.toList avs,h,n,ri.nt⟩ (uL P n ri.body K)
def qN{k:Nat}{ri:RI}(w0:Ctx ⟨k,some ri⟩)(w1:Ctx ⟨k,none⟩):Prop:=
 w1.w=w0.w/\w1.F=w0.F/\w1.r=w0.r/\w1.ds=w0.ds/\(∃fn T D,(ri.l,dw ri fn T D .done (some .ret))∈w1.obs)/\∀q∈w0.obs,q.1≠ri.l->q∈w1.obs
def pL(k:Nat)(K Kl:bD->Nat->Prop):Exit->St->Prop
 |.normal,s=>∃h' n' aw,Lek ⟨k,none⟩ s ⟨[],h',n',aw⟩/\K h' n'
 |.ret,s=>∃h' n' aw,Lek ⟨k,none⟩ s ⟨[],h',n',aw⟩/\Kl h' n'
 |_,_=>False
def uM(P:Program)(k:Nat)(body:Code)(K Kl:bD->Nat->Prop):Exit->St->Prop
 |.normal,s=>cX ⟨k,none⟩ P body s (pL k K Kl)
 |_,_=>False
def Iz(P:Program)(ri:RI)(avs:List AV)(h:bD)(n:Nat)(K Kl:bD->Nat->Prop):Prop:=
 avs.length=ri.ps.size/\(∀t∈ri.ps,t<ri.nt)/\cX ⟨n,none⟩ P ri.assign ⟨nJ ri.env ri.ps.toList avs,h,n,ri.nt⟩ (uM P n ri.body K Kl)
@[simp ↓]theorem Yr(P:Program)(k:Nat)(body:Code)(K Kl:bD->Nat->Prop)(s:St):uM P k body K Kl .normal s=cX ⟨k,none⟩ P body s (pL k K Kl):=rfl
@[congr] theorem Ys{k:Nat}{K Kl:bD->Nat->Prop}{e e':Exit}{s s':St}(h1:e=e')(h2:s=s'):pL k K Kl e s=pL k K Kl e' s':=by rw[h1,h2]
@[congr] theorem Yt{P:Program}{k:Nat}{body:Code}{K Kl:bD->Nat->Prop}{e e':Exit}{s s':St}(h1:e=e')(h2:s=s'):uM P k body K Kl e s=uM P k body K Kl e' s':=by rw[h1,h2]
theorem Oa{k:Nat}{K Kl:bD->Nat->Prop}{s:St}(h':bD)(n':Nat)(aw:Nat)(hle:Lek ⟨k,none⟩ s ⟨[],h',n',aw⟩)(hk:K h' n'):pL k K Kl .normal s:=⟨h',n',aw,hle,hk⟩
theorem Ob{k:Nat}{K Kl:bD->Nat->Prop}{s:St}(h':bD)(n':Nat)(aw:Nat)(hle:Lek ⟨k,none⟩ s ⟨[],h',n',aw⟩)(hk:Kl h' n'):pL k K Kl .ret s:=⟨h',n',aw,hle,hk⟩
section
variable{P:Program}{B:Base}{m:Mm}{w:World}{h:bD}{n:Nat}{env:Env}{a:Act}{L:Nat->Prop}
section
omit [bJ]
theorem GC:∀(ps:List Nat)(avs:List AV)(vals:List Value)(e:Env)(T:Array Value),ps.length=avs.length->avs.length=vals.length->(∀t∈ps,t<T.size)->(∀(j:Nat)(x:AV)(v:Value),avs[j]?=some x->vals[j]?=some v->bI B L m w x v)->(∀t,bI B L m w (get e t) (T.getD t undef))->((ps.zip vals).foldl (λtmps (p:Nat×Value)=>tmps.setIfInBounds p.1 p.2) T).size=T.size/\∀t,bI B L m w (get (nJ e ps avs) t) (((ps.zip vals).foldl (λtmps (p:Nat×Value)=>tmps.setIfInBounds p.1 p.2) T).getD t undef)
 |[],[],[],e,T,_,_,_,_,he=>⟨rfl,by simpa using he⟩
 |p::ps,x::avs,v::vals,e,T,h1,h2,b5,hr,he=>by
  simp only[List.zip_cons_cons,De,N9];have hp:=b5 p ae;have:=GC ps avs vals ((p,x)::e) (T.setIfInBounds p v) ak ak (λt ht=>al) (λj y u hy hu=>hr (j+1) y u ak ak) (λt=>?_)
  .simp_all
  .simp only[get];rw[dL,jj];by_cases gb:p=t
   .subst gb;simp only[cD];rw[bX hp];exact hr 0 x v rfl rfl
   simp_all
 |[],_::_,_,_,_,h1,_,_,_,_=>by cases h1
 |_::_,[],_,_,_,h1,_,_,_,_=>by cases h1
 |[],[],_::_,_,_,_,h2,_,_,_=>by cases h2
 |_::_,_::_,[],_,_,_,h2,_,_,_=>by cases h2
theorem bI.Ss{o f:Bool}{l:Nat}{v:Value}(h:bI B L m w (.w o f (.yl l)) v):v=.func (.yield l) #[] #[]:=by
 cases h with|w h _=>cases h;rfl
theorem Oc(ps:Array Tmp)(vals:Array Value)(T:Array Value):(ps.zip vals).foldl (λtmps (t,a)=>tmps.setIfInBounds t a) T=(ps.toList.zip vals.toList).foldl (λtmps (p:Nat×Value)=>tmps.setIfInBounds p.1 p.2) T:=by
 rw[<-Array.foldl_toList,Array.toList_zip]
end
theorem GD{k:Nat}{ri:RI}{w0:Ctx ⟨k,some ri⟩}{nt:Nat}(o:Oper)(f:Operand)(args:Array Operand)(tys:Array TypeId)(ho:o.op=.call { callee:=.value f,args:=args,argTypes:=tys }){ow fl:Bool}(hf:ev env f=.w ow fl (.yl ri.l)){Kv Kl:bD->Nat->Prop}(hw:Iz P ri (args.toList.map (ev env)) h n Kv Kl)(hs:Sim B w0 ⟨env,h,n,nt⟩ a w m)(aa:dOk nt o.dst)(Q:Exit->Act->World->Prop)(K':Act->World->Prop)(hK:∀h' n' a' w' m',Kv h' n'->Sim B w0 ⟨put env o.dst (.w false false (.bool true)),h',n',nt⟩ a' w' m'->K' a' w')(hKl:∀(w1:Ctx ⟨k,none⟩) h' n' a' w' m',qN w0 w1->Kl h' n'->Sim B w1 ⟨put env o.dst (.w false false (.bool false)),h',n',nt⟩ a' w' m'->K' a' w'):o.wpT w0.r P a w K' Q:=by
 obtain⟨hlen,b5,hw⟩:=hw
 have ez:∀x:Operand,bI B (LB m h) m w (ev env x) (a.eval x):=λx=>mY x (λt _=>hs.env t)
 have d7:a.eval f=.func (.yield ri.l) #[] #[]:=by have:=ez f;rw[hf] at this;exact this.Ss
 obtain⟨fn,T,D,hin,hT,e8⟩:=w0.dw ri rfl;obtain⟨hBl,ec,hLl,hl⟩:=hs.fr.2.2 _ hin;have dj:(dw ri fn T D .ready none).isCells=false:=rfl
 have bp:∀i,m.dom i->i<n:=λi hd=>(hs.dom i).1 hd
 generalize bj:args.map a.eval=vals
 have ge:vals.size=ri.ps.size:=by rw[<-bj,<-hlen];simp
 have aq:(execOp a.eval o).run P w=.ok (.round ri.l fn ((ri.ps.zip vals).foldl (λtmps (t,a)=>tmps.setIfInBounds t a) T) ri.assign ri.body) w:=by
  have hy:=run_yield (P:=P) (args:=vals) (r:={ state:=.ready,pending:=none,fn:=fn,tmps:=T,params:=ri.ps,assign:=ri.assign,body:=ri.body,defers:=D }) hl ge;simp[execOp,ho,resolve,d7,Deferred.ofValue,invoke,callFunc,bj,hy]
 refine jZ (λc e=>(by rw[ho] at e;cases e)) ?_;unfold Oper.wpt;rw[aq,Oper.Qa];refine Js ?_;obtain⟨F1,hF1⟩:∃F1,w0.F++env.map (λp=>(get env p.1,a.tmps.getD p.1 undef))=F1:=⟨_,rfl⟩
 have hF:∀p∈F1,p.1.lt n=true/\bI B (LB m h) m w p.1 p.2:=by
  intro p hp;rw[<-hF1] at hp
  rcases jC.1 hp with hp|hp
  .exact⟨AV.rR hs.fr.1 (hs.fr.2.1 p hp).1,(hs.fr.2.1 p hp).2⟩
  .obtain⟨q,_,rfl⟩:=gA.1 hp;exact⟨(hs.env q.1).CS bp,hs.env q.1⟩
 have hTe:∀t,bI B (LB m h) m w (get ri.env t) (T.getD t undef):=by
  intro t
  rcases tZ ri.env t with ⟨v,hv⟩|hu
  .exact (hs.fr.2.1 _ (e8 t v hv)).2
  .rw[hu];exact .w (.undef _) nofun
 have dz:=GC (B:=B) (L:=LB m h) (m:=m) (w:=w) ri.ps.toList (args.toList.map (ev env)) vals.toList ri.env T (by rw[hlen];simp) (by rw[<-bj];simp) (λt ht=>by rw[hT];simp_all)
  (λj x v hx hv=>by
    rw[<-bj] at hv;rw[jk] at hx
    grind) hTe
 rw[Oc];generalize gn:(ri.ps.toList.zip vals.toList).foldl (λtmps (p:Nat×Value)=>tmps.setIfInBounds p.1 p.2) T=T' at dz ⊢
 have a5:Sim B (⟨w0.w,F1,some ri.l,w0.obs,[],λri h=>au,w0.ok⟩:Ctx ⟨n,none⟩) ⟨nJ ri.env ri.ps.toList (args.toList.map (ev env)),h,n,ri.nt⟩ { tmps:=T',defers:=[] } w m:=
  ⟨hs.base,hs.below,rfl,dz.1.trans hT,dz.2,hs.heap,hs.dom,hs.ids,bV _,hF,hs.fr.2.2⟩
 refine fo (hw _ _ _ _ _ a5) (λe a1 w1 ⟨st1,m1,d2,bg⟩=>?_)
 cases e with
 |normal=>
  intro w1 e1;replace bg:=bg.move e1;obtain⟨_,cp,hLl1,d'⟩:=bg.fr.2.2 _ hin;replace d':w1.heap[ri.l]?=some (dw ri fn T D .ready none):=d';replace cp:ri.l<w1.heap.size:=cp;refine⟨_,run_beginRound d' rfl,?_⟩
  have bk:Sim B (⟨w0.w,F1,some ri.l,(ri.l,dw ri fn T D .busy none)::w0.obs.filter (λq=>decide (q.1≠ri.l)),[],λri h=>au,w0.ok⟩:Ctx ⟨n,none⟩) st1 a1 (w1.putObj ri.l (dw ri fn T D .busy none)) m1:=by
   refine Sim.put (w1:=(⟨w0.w,F1,some ri.l,(ri.l,dw ri fn T D .busy none)::w0.obs.filter (λq=>decide (q.1≠ri.l)),[],λri h=>au,w0.ok⟩:Ctx ⟨n,none⟩)) (o':=dw ri fn T D .busy none) bg d' dj (λ_ _ h=>au) hBl rfl rfl (by exact bg.defers) ⟨bg.fr.1,λp hp=>⟨(bg.fr.2.1 p hp).1,(bg.fr.2.1 p hp).2.nI (λad v h=>xg d' dj ad v h)⟩,λq hq=>?_⟩
   rcases ew.1 hq with e|hq
   .subst e;exact⟨hBl,al,hLl1,World.putObj_heap_same cp⟩
   .obtain⟨hq,b'⟩:=qX.1 hq;obtain⟨o1,o2,o3,o4⟩:=bg.fr.2.2 q hq;exact⟨o1,by simpa using o2,o3,(World.putObj_heap_other ak).trans o4⟩
  have fin:∀(s:LoopState)(j:Option Code)(st3:St)(a3:Act)(w3:World)(m3:Mm),Sim B (⟨w0.w,F1,some ri.l,(ri.l,dw ri fn T D .busy none)::w0.obs.filter (λq=>decide (q.1≠ri.l)),[],λri h=>au,w0.ok⟩:Ctx ⟨n,none⟩) st3 a3 w3 m3 ->
   ∀h' n' aw,Lek ⟨n,none⟩ st3 ⟨[],h',n',aw⟩->∃m4,(Bel B.n w0.w (w3.putObj ri.l (dw ri fn T D s j)))/\(∀t,bI B (LB m4 h') m4 (w3.putObj ri.l (dw ri fn T D s j)) (get env t) (a.tmps.getD t undef)) /\
    Sim B (⟨w0.w,F1,some ri.l,[],[],λri h=>au,w0.ok⟩:Ctx ⟨n,none⟩) ⟨[],h',n',aw⟩ a3 (w3.putObj ri.l (dw ri fn T D s j)) m4/\n<=n' /\
    (∀p∈w0.F,bI B (LB m4 h') m4 (w3.putObj ri.l (dw ri fn T D s j)) p.1 p.2)/\w3.heap[ri.l]?=some (dw ri fn T D .busy none)/\ri.l<w3.heap.size/\¬LB m4 h' ri.l /\
    (∀q∈w0.obs,q.1≠ri.l->B.n<=q.1/\q.1<(w3.putObj ri.l (dw ri fn T D s j)).heap.size/\¬LB m4 h' q.1/\(w3.putObj ri.l (dw ri fn T D s j)).heap[q.1]?=some q.2):=by
   intro s j st3 a3 w3 m3 cf h' n' aw hle;obtain⟨m4,cu⟩:=hle _ _ _ _ _ cf;obtain⟨_,bc,hLl4,c4⟩:=cu.fr.2.2 (ri.l,dw ri fn T D .busy none) ae;replace c4:w3.heap[ri.l]?=some (dw ri fn T D .busy none):=c4;replace bc:ri.l<w3.heap.size:=bc;have dk:(dw ri fn T D .busy none).isCells=false:=rfl
   have cy:∀ad v,w3.cell? ad=some v->(w3.putObj ri.l (dw ri fn T D s j)).cell? ad=some v:=λad v h=>xg c4 dk ad v h
   have c2:=cu.fr.2.1
   have hold:∀t,bI B (LB m4 h') m4 (w3.putObj ri.l (dw ri fn T D s j)) (get env t) (a.tmps.getD t undef):=by
    intro t
    rcases tZ env t with ⟨v,hv⟩|hu
    .refine ((c2 (get env t,a.tmps.getD t undef) ?_).2).nI cy;rw[<-hF1]
     grind
    .rw[hu];exact .w (.undef _) nofun
   have a4:Sim B (⟨w0.w,F1,some ri.l,[],[],λri h=>au,w0.ok⟩:Ctx ⟨n,none⟩) ⟨[],h',n',aw⟩ a3 (w3.putObj ri.l (dw ri fn T D s j)) m4:=
    Sim.put (w1:=(⟨w0.w,F1,some ri.l,[],[],λri h=>au,w0.ok⟩:Ctx ⟨n,none⟩)) (o':=dw ri fn T D s j) cu c4 dk (λ_ _ h=>au) hBl rfl rfl (by exact cu.defers) ⟨cu.fr.1,λp hp=>⟨(c2 p hp).1,(c2 p hp).2.nI cy⟩,λq hq=>by cases hq⟩
   refine⟨m4,a4.below,hold,a4,cu.fr.1,λp hp=>?_,c4,bc,hLl4,λq hq b'=>?_⟩
   .refine ((c2 p ?_).2).nI cy;rw[<-hF1]
    grind
   .obtain⟨o1,o2,o3,o4⟩:=cu.fr.2.2 q (fw _ (qX.2 ⟨hq,ak⟩));exact⟨o1,by simpa using o2,o3,(World.putObj_heap_other b').trans o4⟩
  refine fo (d2 _ _ _ _ _ bk) (λe a3 w3 ⟨st3,m3,eh,cf⟩=>?_)
  cases e with
  |normal=>
   intro w3 e3;replace cf:=cf.move e3;obtain⟨h',n',aw,hle,b4⟩:=eh;obtain⟨m4,bv,hold,a4,ee,hF0,c4,bc,hLl4,br⟩:=fin .ready none st3 a3 w3 m3 cf h' n' aw hle;refine⟨_,_,run_endRound none c4,?_⟩;show K' (a.put o.dst (.bool true)) _;refine hK h' n' _ _ m4 b4 ⟨a4.base,bv,by rw[lj];exact hs.defers,by rw[lh];exact hs.size,?_,a4.heap,a4.dom,a4.ids,dK hs.fr.1 ee,λp hp=>⟨(hs.fr.2.1 p hp).1,hF0 p hp⟩,λq hq=>?_⟩
   .exact nO env a o.dst _ _ (by rw[hs.size];exact aa) (iC true) hold
   .by_cases fe:q.1=ri.l
    .obtain⟨o1,o2,o3,o4⟩:=hs.fr.2.2 q hq;rw[fe] at o4 o1 ⊢;rw[hl] at o4;refine⟨o1,al,hLl4,?_⟩;rw[<-o4];exact World.putObj_heap_same bc
    .exact br q hq fe
  |ret=>
   intro w3 e3;replace cf:=cf.move e3;obtain⟨h',n',aw,hle,b4⟩:=eh;obtain⟨m4,bv,hold,a4,ee,hF0,c4,bc,hLl4,br⟩:=fin .done (some .ret) st3 a3 w3 m3 cf h' n' aw hle;refine⟨_,_,run_endRound (some .ret) c4,?_⟩;show K' (a.put o.dst (.bool false)) _;refine hKl (⟨w0.w,w0.F,w0.r,(ri.l,dw ri fn T D .done (some .ret))::w0.obs.filter (λq=>decide (q.1≠ri.l)),w0.ds,λri h=>au,w0.ok⟩:Ctx ⟨k,none⟩) h' n' _ _ m4 ⟨rfl,rfl,rfl,rfl,⟨fn,T,D,ae⟩,λq hq b'=>fw _ (qX.2 ⟨hq,ak⟩)⟩ b4
    ⟨a4.base,bv,by rw[lj];exact hs.defers,by rw[lh];exact hs.size,?_,a4.heap,a4.dom,a4.ids,dK hs.fr.1 ee,λp hp=>⟨(hs.fr.2.1 p hp).1,hF0 p hp⟩,λq hq=>?_⟩
   .exact nO env a o.dst _ _ (by rw[hs.size];exact aa) (iC false) hold
   .rcases ew.1 hq with e|hq
    .subst e;exact⟨hBl,al,hLl4,World.putObj_heap_same bc⟩
    .obtain⟨hq,b'⟩:=qX.1 hq;exact br q hq ak
  |_=>exact eh.elim
 |_=>exact d2.elim
theorem Od{k:Nat}{ri:RI}{w0:Ctx ⟨k,some ri⟩}{nt:Nat}(o:Oper)(f:Operand)(args:Array Operand)(tys:Array TypeId)(ho:o.op=.call { callee:=.value f,args:=args,argTypes:=tys }){ow fl:Bool}(hf:ev env f=.w ow fl (.yl ri.l)){Kv:AV->bD->Nat->Prop}(hw:Round P ri (args.toList.map (ev env)) h n (λh' n'=>Kv (.w false false (.bool true)) h' n'))(hs:Sim B w0 ⟨env,h,n,nt⟩ a w m)(aa:dOk nt o.dst)(Q:Exit->Act->World->Prop)(K':Act->World->Prop)(hK:∀v h' n' a' w' m',Kv v h' n'->Sim B w0 ⟨put env o.dst v,h',n',nt⟩ a' w' m'->K' a' w'):o.wpT w0.r P a w K' Q:=by
 obtain⟨hlen,b5,hw⟩:=hw;refine GD (Kl:=λ_ _=>False) o f args tys ho hf ⟨hlen,b5,tj hw (λe s hq=>?_)⟩ hs aa Q K' (λh' n' a' w' m' hk h8=>hK _ _ _ _ _ m' hk h8) (λ_ _ _ _ _ _ _ hk=>hk.elim)
 cases e with
 |normal=>
  refine tj hq (λe s hq=>?_)
  cases e with
  |normal=>exact hq
  |_=>exact hq.elim
 |_=>exact hq.elim
end
def qO{fk:Fk}(w0:Ctx fk):Prop:=w0.ds.Nodup/\∀D∈w0.ds,(D,Obj.deferred (some []))∈w0.obs
def fT(fk:Fk)(P:Program)(c:Code)(st:St)(K:Exit->St->Prop):Prop:=
 ∀(B:Base)(w0:Ctx fk)(a:Act)(w:World)(m:Mm),w0.r=none->qO w0->Sim B w0 st a w m ->
  c.wpT none P (λe a' w'=>∃(w1:Ctx fk)(st':St)(m':Mm),w1.w=w0.w/\w1.r=none/\qO w1/\K e st'/\Sim B w1 st' a' w' m') a w
def fK(k:Nat)(ri:RI)(P:Program)(c:Code)(st:St)(K Kd:Exit->St->Prop):Prop:=
 ∀(B:Base)(w0:Ctx ⟨k,some ri⟩)(a:Act)(w:World)(m:Mm),Sim B w0 st a w m ->
  c.wpT w0.r P (λe a' w'=>(∃st' m',K e st'/\Sim B w0 st' a' w' m')\/∃w1:Ctx ⟨k,none⟩,qN w0 w1/\∃st' m',Kd e st'/\Sim B w1 st' a' w' m') a w
theorem GF{k:Nat}{ri:RI}{P:Program}{K Kd:Exit->St->Prop}{st:St}{c:Code}(h:cX ⟨k,some ri⟩ P c st K):fK k ri P c st K Kd:=
 λB w0 a w m hs=>fo (h B w0 a w m hs) (λ_ _ _ hx=>.inl hx)
section
variable{P:Program}{K:Exit->St->Prop}{st st':St}
theorem iE{c:Code}(h:cX fk P c st K):fT fk P c st K:=λB w0 a w m hr hd hs=>by
 have:=h B w0 a w m hs;rw[hr] at this;exact fo this (λe a' w' ⟨st',m',h1,h2⟩=>⟨w0,st',m',rfl,hr,hd,h1,h2⟩)
def xO(fk:Fk)(P:Program)(b:Code)(K:Exit->St->Prop):Exit->St->Prop
 |.normal,s=>fT fk P b s K
 |e,s=>K e s
theorem iF{x y:Code}(h:fT fk P x st (xO fk P y K)):fT fk P (.seq x y) st K:=
 λB w0 a w m hr hd hs=>yH (fo (h B w0 a w m hr hd hs) (λe a' w' ⟨w1,st',m',g1,g2,g3,h1,h2⟩=>by
  cases e with
  |normal=>exact fo (h1 B w1 a' w' m' g2 g3 h2) (λe a2 w2 ⟨w3,s3,m3,k1,k2,k3,k4,k5⟩=>⟨w3,s3,m3,k1.trans g1,k2,k3,k4,k5⟩)
  |_=>exact⟨w1,st',m',g1,g2,g3,h1,h2⟩))
theorem ua{id:Nat}{c:Code}(h:fT fk P c st (jd id K)):fT fk P (.block id c) st K:=
 λB w0 a w m hr hd hs=>yJ (fo (h B w0 a w m hr hd hs) (λe a' w' ⟨w1,st',m',g1,g2,g3,h1,h2⟩=>by
  cases e with
  |exit fg=>
   simp only[Exit.inBlock];split<;>simp_all
  |_=>exact⟨w1,st',m',g1,g2,g3,h1,h2⟩))
theorem Oe{c:Code}{K':Exit->St->Prop}(h:fT fk P c st K)(hk:∀e s,K e s->K' e s):fT fk P c st K':=
 λB w0 a w m hr hd hs=>fo (h B w0 a w m hr hd hs) (λe a' w' ⟨w1,st',m',g1,g2,g3,h1,h2⟩=>⟨w1,st',m',g1,g2,g3,hk _ _ h1,h2⟩)
theorem GG{g:Operand}{ps:Array Tmp}{assign body:Code}{env:Env}{h:bD}{n nt:Nat}{gf:FuncId}{b8:List AV}(hf:gd (ev env g)=some (gf,b8)){fn:Func}{c:Code}(ay:P.funcs[gf]?=some fn) (h9:(fn.name == "runtime.NumGoroutine")=false) (hb:fn.body=some c) (b7:b8.length+1<=fn.ntmps) (hw:∀l,fK n ⟨l,env,nt,ps,assign,body⟩ P c ⟨gh 0 (.w false false (.yl l)::b8),h,n,fn.ntmps⟩ (ir P fn.results.toList λ_ h' n'=>K .normal ⟨env,h',n',nt⟩) (ir P fn.results.toList λ_ h' n'=>K .ret ⟨env,h',n',nt⟩)):fT fk P (.rangeFunc g ps assign body) ⟨env,h,n,nt⟩ K:=by
 intro B w0 a w m hr hd hs;refine Jt ?_;intro w e0 fni;replace hs:=hs.move e0;have bm:bI B (LB m h) m w (ev env g) (a.eval g):=mY g (λt _=>hs.env t)
 have e9:∃cv:Array Value,a.eval g=.func (.func gf) #[] cv/\b8.length=cv.size/\∀(j:Nat)(p:AV)(v:Value),b8[j]?=some p->cv[j]?=some v->bI B (LB m h) m w p v:=by
  unfold gd at hf;split at hf
  .rename_i g' bo e
   injection hf with hf;injection hf with h1 h2;subst h1;subst h2
   rw[e] at bm;generalize hv:a.eval g=vf at bm
   cases bm with|fn h1 h2=>grind
  .rename_i own f' g' bo e
   injection hf with hf;injection hf with h1 h2;subst h1;subst h2
   rw[e] at bm;generalize hv:a.eval g=vf at bm
   cases bm with
   |w h1 _=>
    cases h1 with
    |fn h1 h2=>
     refine⟨_,rfl,ak,λj p v hp hv=>?_⟩;obtain⟨q,hq,rfl⟩:=gI hp;exact .w (h2 j q v hq hv) nofun
  .cases hf
 obtain⟨cv,d7,b6,fx⟩:=e9
 have bp:∀i,m.dom i->i<n:=λi hd=>(hs.dom i).1 hd
 obtain⟨ri,d3⟩:∃ri:RI,ri=⟨w.heap.size+1,env,nt,ps,assign,body⟩:=⟨_,rfl⟩;obtain⟨D,hD⟩:∃D,D=w.heap.size:=⟨_,rfl⟩
 have d4:ri.l=w.heap.size+1:=by rw[d3]
 have bg:Sim B (⟨w0.w,[],none,[(D,.deferred (some []))],w0.ds,λri h=>au,w0.ok⟩:Ctx ⟨0,none⟩) ⟨env,h,n,nt⟩ a (w.alloc (.deferred (some []))) m:=by
  refine Sim.lay (w1:=(⟨w0.w,[],none,[(D,.deferred (some []))],w0.ds,λri h=>au,w0.ok⟩:Ctx ⟨0,none⟩)) (.deferred (some [])) hs rfl rfl (by exact hs.defers) ⟨cG _,(λp hp=>by cases hp),λq hq=>?_⟩;simp only[qW] at hq;subst hq;rw[hD];exact⟨hs.room,ae,λhl=>by have:=fz hs.heap hl;omega,World.alloc_heap_new w _⟩
 have fv:Bel w.heap.size w (w.alloc (.deferred (some []))):=(Bel.refl _ w).alloc (bV _) _;have dy:Bel (w.alloc (.deferred (some []))).heap.size (w.alloc (.deferred (some []))) ((w.alloc (.deferred (some []))).alloc (dw ri fni a.tmps D .ready none)):=(Bel.refl _ _).alloc (bV _) _
 have c9:∀b,b<w.heap.size->((w.alloc (.deferred (some []))).alloc (dw ri fni a.tmps D .ready none)).heap[b]?=w.heap[b]?:=λb hb=>(dy.block b ar).trans (fv.block b hb)
 have bq:∀x v,bI B (LB m h) m w x v->bI B (LB m h) m ((w.alloc (.deferred (some []))).alloc (dw ri fni a.tmps D .ready none)) x v:=λx v hr=>hr.mono (Mm.le.refl m) (λ_ _ h=>h) (λb cj _=>c9 b cj)
 have ao:HB ⟨n,some ri⟩ (w0.F++env.map (λp=>(get env p.1,a.tmps.getD p.1 undef))) ((ri.l,dw ri fni a.tmps D .ready none)::(D,.deferred (some []))::w0.obs):=λfi e=>by
  cases e;exact⟨fni,a.tmps,D,ae,by rw[d3];exact hs.size,λt v hv=>jC.2 (.inr (gA.2 ⟨(t,v),by rw[d3] at hv;exact hv,by rw[d3]⟩))⟩
 have bk:Sim B (⟨w0.w,w0.F++env.map (λp=>(get env p.1,a.tmps.getD p.1 undef)),none,(ri.l,dw ri fni a.tmps D .ready none)::(D,.deferred (some []))::w0.obs,w0.ds,
  ao,w0.ok⟩:Ctx ⟨n,some ri⟩)
  ⟨env,h,n,nt⟩ a ((w.alloc (.deferred (some []))).alloc (dw ri fni a.tmps D .ready none)) m:=by
  refine Sim.lay (w1:=(⟨w0.w,w0.F++env.map (λp=>(get env p.1,a.tmps.getD p.1 undef)),none,(ri.l,dw ri fni a.tmps D .ready none)::(D,.deferred (some []))::w0.obs,w0.ds,ao,w0.ok⟩:Ctx ⟨n,some ri⟩)) _ bg rfl rfl (by exact hs.defers) ⟨bV _,λp hp=>?_,λq hq=>?_⟩
  .rcases jC.1 hp with hp|hp
   .exact⟨AV.rR hs.fr.1 (hs.fr.2.1 p hp).1,bq _ _ (hs.fr.2.1 p hp).2⟩
   .obtain⟨q,_,rfl⟩:=gA.1 hp;exact⟨(hs.env q.1).CS bp,bq _ _ (hs.env q.1)⟩
  .rcases ew.1 hq with e|hq
   .subst e;refine⟨by simp only[d4];have:=hs.room;omega,al,λhl=>by have:=fz hs.heap hl;omega,?_⟩;simp only[d4];have:=World.alloc_heap_new (w.alloc (.deferred (some []))) (dw ri fni a.tmps D .ready none)
    rwa [World.size_alloc] at this
   .rcases ew.1 hq with e|hq
    .subst e
     have e:∀k,k=w.heap.size->((w.alloc (.deferred (some []))).alloc (dw ri fni a.tmps D .ready none)).heap[k]?=some (.deferred (some [])):=λk hk=>by
      rw[hk];exact (dy.block _ ae).trans (World.alloc_heap_new w _)
     exact⟨by simp only[hD];exact hs.room,ar,λhl=>by have:=fz hs.heap hl;omega,e D hD⟩
    .obtain⟨o1,o2,o3,o4⟩:=hs.fr.2.2 q hq
     grind
 have el:((w.alloc (.deferred (some []))).alloc (.loop { state:=.ready,pending:=none,fn:=fni,tmps:=a.tmps,params:=ps,assign,body,defers:=w.heap.size }))=(w.alloc (.deferred (some []))).alloc (dw ri fni a.tmps D .ready none):=by
  rw[d3,hD];rfl
 have cm:=run_enterLoop_outer (P:=P) (w:=w) fni a.tmps ps assign body;rw[el] at cm;clear dy;generalize (w.alloc (.deferred (some []))).alloc (dw ri fni a.tmps D .ready none)=W2 at bk c9 bq cm;refine⟨w.heap.size+1,[{ target:=.collected w.heap.size,args:=#[] }],W2,{ target:=.fn (.func gf) cv,args:=#[.func (.yield (w.heap.size+1)) #[] #[]] },W2,gf,#[.func (.yield (w.heap.size+1)) #[] #[]]++cv,W2,cm,?_,?_,?_⟩
 .have he:a.eval (.const (.func (.yield (w.heap.size+1)) #[] #[]))=.func (.yield (w.heap.size+1)) #[] #[]:=rfl;simp[resolve,rangeCall,d7,he,Deferred.ofValue]
 .have ed:¬fn.name = "runtime.NumGoroutine" := by simp_all
  simp[invoke,callFunc,ay,ed,hb]
 .refine vg ay hb ?_
  have hlen:(AV.w false false (.yl ri.l)::b8).length=(#[Value.func (.yield (w.heap.size+1)) #[] #[]]++cv).size:=ak
  have cw:∀(j:Nat)(x:AV)(v:Value),(AV.w false false (.yl ri.l)::b8)[j]?=some x->(#[Value.func (.yield (w.heap.size+1)) #[] #[]]++cv)[j]?=some v->bI B (LB m h) m W2 x v:=by
   intro j x v hx hv
   cases j with
   |zero=>
    rw[sV ae] at hv;simp at hx hv;subst hx;subst hv;rw[d4];exact .w (.yl _) nofun
   |succ j=>
    rw[SW ae] at hv
    grind
  generalize (#[Value.func (.yield (w.heap.size+1)) #[] #[]]++cv)=vs at hlen cw;have et:=hw ri.l;rw[show (⟨ri.l,env,nt,ps,assign,body⟩:RI)=ri from by rw[d3]] at et
  have ef:(AV.w false false (.yl ri.l)::b8).length<=fn.ntmps:=aE
  generalize gt:AV.w false false (.yl ri.l)::b8=avs at hlen cw et ef
  have a5:Sim B (⟨w0.w,w0.F++env.map (λp=>(get env p.1,a.tmps.getD p.1 undef)),none,(ri.l,dw ri fni a.tmps D .ready none)::(D,.deferred (some []))::w0.obs,[],
   ao,w0.ok⟩:Ctx ⟨n,some ri⟩)
    ⟨gh 0 avs,h,n,fn.ntmps⟩ { tmps:=vs++Array.replicate (fn.ntmps-vs.size) undef,defers:=[] } W2 m:=by
   refine⟨bk.base,bk.below,rfl,ar,λt=>?_,bk.heap,bk.dom,bk.ids,bk.fr⟩;show bI _ _ _ _ (get (gh 0 avs) t) _;rw[Bn];split
   .rename_i ht
    have b5:t<avs.length:=ab
    have:(vs++Array.replicate (fn.ntmps-vs.size) undef).getD t undef=vs[t]'ab:=by
     rw[dL,sV ab,dM ab];rfl
    rw[this];exact cw t _ _ al (dM ab)
   .exact .w (.undef _) nofun
  have main:∀{bb:Fk}(w1:Ctx bb)(fn2:FuncId)(T2:Array Value)(D2:Nat)(s:LoopState)(j:Option Code)(st':St)(a':Act)(w':World)(m':Mm)(Kv:bD->Nat->Prop),bb.k=n->w1.w=w0.w->(∀p∈w0.F++env.map (λp=>(get env p.1,a.tmps.getD p.1 undef)),p∈w1.F)->w1.ds=[] ->
   (ri.l,dw ri fn2 T2 D2 s j)∈w1.obs->s≠.busy->(∀q∈(D,Obj.deferred (some []))::w0.obs,q∈w1.obs)->Sim B w1 st' a' w' m'->gq P fn.results.toList st' (λ_ h' n'=>Kv h' n') ->
   a'.defers=[]/\∃v w4,(results fn a'.tmps).run P w'=.ok v w'/\(Instr.endLoop (w.heap.size+1)).run P w'=.ok j w4/\∃(w2:Ctx fk)(h':bD)(n':Nat)(m2:Mm),w2.w=w0.w/\w2.r=none/\qO w2/\Kv h' n'/\Sim B w2 ⟨env,h',n',nt⟩ { a with defers:=[{ target:=.collected w.heap.size,args:=#[] }]++a.defers } w4 m2:=by
   intro bb w1 fn2 T2 D2 s j st' a' w' m' Kv d2 du hF1 bw em gc dl h8 bt;refine⟨by have:=h8.defers;rw[bw] at this;exact this,?_⟩;unfold gq at bt;split at bt
   .rename_i ba d bf;obtain⟨fy,b4⟩:=bt;obtain⟨us,h1,h2,h3⟩:=rq h8 _ _ _ bf fy
    have aq:(results fn a'.tmps).run P w'=.ok (if h:us.toArray.size=1 then us.toArray[0] else .tuple us.toArray) w':=by
     have he:results fn a'.tmps=(do
      let vs <-fn.results.mapM (pH a'.tmps)
      pure (if h:vs.size=1 then vs[0] else .tuple vs)):=rfl
     rw[he,sN];simp only[Sem.run_bind,Sem.run_map,h1,Result.andThen_ok,Sem.run_pure]
    obtain⟨hBl,ec,hLl,hl⟩:=h8.fr.2.2 (ri.l,dw ri fn2 T2 D2 s j) em
    replace hl:w'.heap[w.heap.size+1]?=some (dw ri fn2 T2 D2 s j):=by rw[<-d4];exact hl
    replace ec:w.heap.size+1<w'.heap.size:=by rw[<-d4];exact ec
    have dj:(dw ri fn2 T2 D2 s j).isCells=false:=rfl;refine⟨_,w'.putObj (w.heap.size+1) (dw ri fn2 T2 D2 .exhausted j),aq,run_endLoop hl gc,?_⟩
    have cy:∀ad v,w'.cell? ad=some v->(w'.putObj (w.heap.size+1) (dw ri fn2 T2 D2 .exhausted j)).cell? ad=some v:=λad v h=>xg hl dj ad v h
    have d8:=h8.fr.2.1
    have hold:∀t,bI B (LB m' st'.heap) m' (w'.putObj (w.heap.size+1) (dw ri fn2 T2 D2 .exhausted j)) (get env t) (a.tmps.getD t undef):=by
     intro t
     rcases tZ env t with ⟨v,hv⟩|hu
     .exact ((d8 (get env t,a.tmps.getD t undef) (hF1 _ (jC.2 (.inr (gA.2 ⟨(t,v),hv,rfl⟩))))).2).nI cy
     .rw[hu];exact .w (.undef _) nofun
    have a4:Sim B (⟨w0.w,[],none,[],[],λri h=>au,w0.ok⟩:Ctx ⟨0,none⟩) st' a' (w'.putObj (w.heap.size+1) (dw ri fn2 T2 D2 .exhausted j)) m':=
     Sim.put (w1:=(⟨w0.w,[],none,[],[],λri h=>au,w0.ok⟩:Ctx ⟨0,none⟩)) (o':=dw ri fn2 T2 D2 .exhausted j) h8 hl dj (λ_ _ h=>au) (by rw[<-d4];exact hBl) du.symm rfl (by have:=h8.defers;rw[bw] at this;exact this) ⟨cG _,(λp hp=>by cases hp),λq hq=>by cases hq⟩
    have br:∀q,q∈(D,Obj.deferred (some []))::w0.obs->B.n<=q.1/\q.1<(w'.putObj (w.heap.size+1) (dw ri fn2 T2 D2 .exhausted j)).heap.size/\¬LB m' st'.heap q.1/\(w'.putObj (w.heap.size+1) (dw ri fn2 T2 D2 .exhausted j)).heap[q.1]?=some q.2:=by
     intro q hq
     have b':q.1≠w.heap.size+1:=by
      rcases ew.1 hq with e|hq
      .subst e;simp only[hD];omega
      .have:=(hs.fr.2.2 q hq).2.1;omega
     obtain⟨o1,o2,o3,o4⟩:=h8.fr.2.2 q (dl q hq);exact⟨o1,by simpa using o2,o3,(World.putObj_heap_other b').trans o4⟩
    refine⟨⟨w0.w,w0.F,none,(D,.deferred (some []))::w0.obs,D::w0.ds,λfi e=>?_,w0.ok⟩,st'.heap,st'.nxt,m',rfl,rfl,⟨?_,?_⟩,b4,⟨a4.base,a4.below,?_,hs.size,hold,a4.heap,a4.dom,a4.ids,dK hs.fr.1 (by have:=h8.fr.1;rw[d2] at this;exact this),λp hp=>?_,br⟩⟩
    .obtain⟨f1,T1,D1,g1,g2,g3⟩:=w0.dw fi e;exact⟨f1,T1,D1,fw _ g1,g2,g3⟩
    .refine List.nodup_cons.2 ⟨λhin=>?_,hd.1⟩;have:=(hs.fr.2.2 _ (hd.2 D hin)).2.1;simp only[hD] at this;omega
    .intro D' d6
     rcases ew.1 d6 with e|d6
     .subst e;simp
     .exact fw _ (hd.2 D' d6)
    .show [_]++a.defers=marks (D::w0.ds);rw[hs.defers,hD];rfl
    .exact⟨(hs.fr.2.1 p hp).1,((d8 p (hF1 p (jC.2 (.inl hp)))).2).nI cy⟩
   trivial
  refine fo (et _ _ _ _ _ a5) (λe a' w' hq=>?_)
  have fin1:∀(st':St)(m':Mm),gq P fn.results.toList st' (λ_ h' n'=>K .normal ⟨env,h',n',nt⟩)->Sim B (⟨w0.w,w0.F++env.map (λp=>(get env p.1,a.tmps.getD p.1 undef)),none,(ri.l,dw ri fni a.tmps D .ready none)::(D,.deferred (some []))::w0.obs,[],ao,w0.ok⟩:Ctx ⟨n,some ri⟩) st' a' w' m' ->
   a'.defers=[]/\∀w1x,EnvD.E w' w1x->∃v,(results fn a'.tmps).run P w1x=.ok v w1x/\BM P (w.heap.size+1) none (λe a' w'=>∃(w1:Ctx fk)(st':St)(m':Mm),w1.w=w0.w/\w1.r=none/\qO w1/\K e st'/\Sim B w1 st' a' w' m') { a with defers:=[{ target:=.collected w.heap.size,args:=#[] }]++a.defers } (.returned v) w1x:=by
   intro st' m' bt h8;refine⟨(main (⟨w0.w,w0.F++env.map (λp=>(get env p.1,a.tmps.getD p.1 undef)),none,(ri.l,dw ri fni a.tmps D .ready none)::(D,.deferred (some []))::w0.obs,[],ao,w0.ok⟩:Ctx ⟨n,some ri⟩) fni a.tmps D .ready none st' a' w' m' (λh' n'=>K .normal ⟨env,h',n',nt⟩) rfl rfl (λp hp=>hp) rfl ae ae (λq hq=>fw _ hq) h8 bt).1,λw1x e1=>?_⟩;obtain⟨_,v,_,h2,_⟩:=main (⟨w0.w,w0.F++env.map (λp=>(get env p.1,a.tmps.getD p.1 undef)),none,(ri.l,dw ri fni a.tmps D .ready none)::(D,.deferred (some []))::w0.obs,[],ao,w0.ok⟩:Ctx ⟨n,some ri⟩) fni a.tmps D .ready none st' a' w1x m' (λh' n'=>K .normal ⟨env,h',n',nt⟩) rfl rfl (λp hp=>hp) rfl ae ae (λq hq=>fw _ hq) (h8.move e1) bt;refine⟨v,h2,λw2x e2=>?_⟩;obtain⟨_,_,w4,_,h3,w2,h',n',m2,g1,g2,g3,g4,g5⟩:=main (⟨w0.w,w0.F++env.map (λp=>(get env p.1,a.tmps.getD p.1 undef)),none,(ri.l,dw ri fni a.tmps D .ready none)::(D,.deferred (some []))::w0.obs,[],ao,w0.ok⟩:Ctx ⟨n,some ri⟩) fni a.tmps D .ready none st' a' w2x m' (λh' n'=>K .normal ⟨env,h',n',nt⟩) rfl rfl (λp hp=>hp) rfl ae ae (λq hq=>fw _ hq) ((h8.move e1).move e2) bt
   grind
  have fin2:∀(w1:Ctx ⟨n,none⟩)(st':St)(m':Mm),qN (⟨w0.w,w0.F++env.map (λp=>(get env p.1,a.tmps.getD p.1 undef)),none,(ri.l,dw ri fni a.tmps D .ready none)::(D,.deferred (some []))::w0.obs,[],ao,w0.ok⟩:Ctx ⟨n,some ri⟩) w1 ->
   gq P fn.results.toList st' (λ_ h' n'=>K .ret ⟨env,h',n',nt⟩)->Sim B w1 st' a' w' m' ->
   a'.defers=[]/\∀w1x,EnvD.E w' w1x->∃v,(results fn a'.tmps).run P w1x=.ok v w1x/\BM P (w.heap.size+1) none (λe a' w'=>∃(w1:Ctx fk)(st':St)(m':Mm),w1.w=w0.w/\w1.r=none/\qO w1/\K e st'/\Sim B w1 st' a' w' m') { a with defers:=[{ target:=.collected w.heap.size,args:=#[] }]++a.defers } (.returned v) w1x:=by
   rintro w1 st' m' ⟨l1,l2,l3,l4,⟨fn2,T2,D2,l5⟩,l6⟩ bt h8
   have ek:∀q∈(D,Obj.deferred (some []))::w0.obs,q∈w1.obs:=λq hq=>l6 q (fw _ hq) (by
    rcases ew.1 hq with e|hq
    .simp_all
    .have:=(hs.fr.2.2 q hq).2.1;omega)
   refine⟨(main w1 fn2 T2 D2 .done (some .ret) st' a' w' m' (λh' n'=>K .ret ⟨env,h',n',nt⟩) rfl l1 (λp hp=>by rw[l2];exact hp) l4 l5 ae ek h8 bt).1,λw1x e1=>?_⟩;obtain⟨_,v,_,h2,_⟩:=main w1 fn2 T2 D2 .done (some .ret) st' a' w1x m' (λh' n'=>K .ret ⟨env,h',n',nt⟩) rfl l1 (λp hp=>by rw[l2];exact hp) l4 l5 ae ek (h8.move e1) bt;refine⟨v,h2,λw2x e2=>?_⟩;obtain⟨_,_,w4,_,h3,w2,h',n',m2,g1,g2,g3,g4,g5⟩:=main w1 fn2 T2 D2 .done (some .ret) st' a' w2x m' (λh' n'=>K .ret ⟨env,h',n',nt⟩) rfl l1 (λp hp=>by rw[l2];exact hp) l4 l5 ae ek ((h8.move e1).move e2) bt;exact⟨some .ret,w4,h3,Dr ⟨w2,_,m2,g1,g2,g3,g4,g5⟩⟩
  rcases hq with ⟨st',m',hk,h8⟩|⟨w1,hl,st',m',hk,h8⟩
  .cases e with
   |normal=>exact fin1 st' m' hk h8
   |ret=>exact fin1 st' m' hk h8
   |_=>exact hk.elim
  .cases e with
   |normal=>exact fin2 w1 st' m' hl hk h8
   |ret=>exact fin2 w1 st' m' hl hk h8
   |_=>exact hk.elim
theorem xh{g:Operand}{ps:Array Tmp}{assign body:Code}{env:Env}{h:bD}{n nt:Nat}{gf:FuncId}{b8:List AV}(hf:gd (ev env g)=some (gf,b8)){fn:Func}{c:Code}(ay:P.funcs[gf]?=some fn) (h9:(fn.name == "runtime.NumGoroutine")=false) (hb:fn.body=some c) (b7:b8.length+1<=fn.ntmps) (hw:∀l,cX ⟨n,some ⟨l,env,nt,ps,assign,body⟩⟩ P c ⟨gh 0 (.w false false (.yl l)::b8),h,n,fn.ntmps⟩ (ir P fn.results.toList λ_ h' n'=>K .normal ⟨env,h',n',nt⟩)):fT fk P (.rangeFunc g ps assign body) ⟨env,h,n,nt⟩ K:=
 GG hf ay h9 hb b7 (λl=>GF (hw l))
theorem ug{f:FuncId}{fn:Func}{c:Code}{args:List PV}{res:PV}{fr:Bool}(hf:P.funcs[f]?=some fn) (h9:(fn.name == "runtime.NumGoroutine")=false) (hb:fn.body=some c) (b7:args.length<=fn.ntmps) (h:fT fk0 P c ⟨ji 0 args,[],0,fn.ntmps⟩ (sj P fn.results.toList res fr)):bT P f args res fr:=by
 refine⟨⟨fn,hf,h9,by rw[hb];rfl⟩,λG w vs eg hlen ct=>?_⟩;refine Ds hf hb ?_
 have a5:Sim ⟨w.heap.size,G⟩ (⟨w,[],none,[],[],λri h=>au,eg⟩:Ctx fk0) ⟨ji 0 args,[],0,fn.ntmps⟩ { tmps:=vs++Array.replicate (fn.ntmps-vs.size) undef,defers:=[] } w ⟨λ_ _=>none,λ_=>0,λ_=>False⟩:=by
  refine⟨rfl,Bel.refl _ _,rfl,ar,λt=>?_,⟨λid cells hin=>(by cases hin),List.Pairwise.nil⟩,λi=>⟨λh=>h.elim,λh=>absurd h (Ja i)⟩,λid c hin=>(by cases hin),cG _,(λp hp=>by cases hp),λq hq=>by cases hq⟩;show bI _ _ _ _ (get (ji 0 args) t) _;rw[wW];split
  .rename_i ht
   have b5:t<args.length:=ab
   refine .w ?_ nofun
   have:(vs++Array.replicate (fn.ntmps-vs.size) undef).getD t undef=vs[t]'ab:=by
    rw[dL,sV ab,dM ab];rfl
   rw[this]
   refine (ct t _ _ al (dM ab)).imp λb hg=>⟨?_,nofun,λ_=>hg⟩
   rintro⟨id,cells,C,hin,_⟩
   cases hin
  .exact .w (.undef _) nofun
 refine fo (h _ _ _ _ _ rfl ⟨List.nodup_nil,λD h=>au⟩ a5) (λe a' w' ⟨w1,st',m',g1,g2,g3,hk,hs⟩=>?_)
 have main:oD P fn.results.toList st' res fr->∀(ds:List Nat)(w1:Ctx fk0)(a1:Act)(W:World),w1.w=w->w1.ds=ds->qO w1->Sim ⟨w.heap.size,G⟩ w1 st' a1 W m' ->
  o9 P fn a1.tmps (λe w'=>∃v,e=.returned v/\Bel w.heap.size w w'/\Rep (λb=>(b<w.heap.size->G b)/\(fr=true->w.heap.size<=b)) w' res v) (marks ds) W:=by
  intro hr ds
  induction ds with
  |nil=>
   intro w1 a1 W ex dt aa hs;intro W e1;replace hs:=hs.move e1;unfold oD at hr;split at hr
   .rename_i ba d bf;obtain⟨hd,g6,c8⟩:=hr;obtain⟨us,h1,h2,h3⟩:=rq hs _ _ _ bf hd
    have aq:(results fn a1.tmps).run P W=.ok (if h:us.toArray.size=1 then us.toArray[0] else .tuple us.toArray) W:=by
     have he:results fn a1.tmps=(do
      let vs <-fn.results.mapM (pH a1.tmps)
      pure (if h:vs.size=1 then vs[0] else .tuple vs)):=rfl
     rw[he,sN];simp only[Sem.run_bind,Sem.run_map,h1,Result.andThen_ok,Sem.run_pure]
    have bh:bI ⟨w.heap.size,G⟩ (LB m' st'.heap) m' W (oneOf ba) (if h:us.toArray.size=1 then us.toArray[0] else .tuple us.toArray):=by
     have tupc:ba.length≠1->bI ⟨w.heap.size,G⟩ (LB m' st'.heap) m' W (.tup ba) (if h:us.toArray.size=1 then us.toArray[0] else .tuple us.toArray):=by
      intro b';rw[dif_neg ar];exact .tup (by simpa using h2) (λj p u hp hu=>h3 j p u hp (by simpa using hu))
     match ba,h2,h3,tupc with
     |[],h2,h3,tupc=>exact tupc ae
     |[v],h2,h3,tupc=>
      obtain⟨u,rfl⟩:∃u,us=[u]:=Dk.1 aV;exact h3 0 v u rfl rfl
     |v::v2::r,h2,h3,tupc=>exact tupc ae
    refine⟨_,aq,_,rfl,?_,?_⟩
    .have bv:=hs.below;rw[ex] at bv;exact bv
    exact nN (B:=⟨w.heap.size,G⟩) hs.heap (λid cs e=>gj e) fr (λb hb=>⟨λhl=>by simp only at hb;omega,λ_=>hb⟩) (λhf b hg=>⟨hg.2.2,λh=>by rw[hf] at h;cases h⟩) 6 _ _ _ g6 c8 bh
   trivial
  |cons D ds ih=>
   intro w1 a1 W ex dt aa hs;intro W e1;replace hs:=hs.move e1;obtain⟨hBD,hDl,hLD,hDh⟩:=hs.fr.2.2 _ (aa.2 D (by rw[dt];simp));refine⟨D,_,rfl,run_takeDeferred hDh,?_⟩;have fd:=aa.1;rw[dt] at fd;obtain⟨gx,g9⟩:=List.nodup_cons.1 fd;refine ih (⟨w1.w,[],none,w1.obs.filter (λq=>decide (q.1≠D)),ds,λri h=>au,w1.ok⟩:Ctx fk0) { a1 with defers:=marks ds } _ ex rfl ⟨g9,λD' d6=>qX.2 ⟨aa.2 D' (by rw[dt];simp[d6]),ak⟩⟩ ?_;refine Sim.put (w1:=(⟨w1.w,[],none,w1.obs.filter (λq=>decide (q.1≠D)),ds,λri h=>au,w1.ok⟩:Ctx fk0)) (o':=.deferred none) hs hDh rfl (λ_ _ h=>au) hBD rfl rfl rfl ⟨cG _,(λp hp=>by cases hp),λq hq=>?_⟩;obtain⟨hq,b'⟩:=qX.1 hq;obtain⟨o1,o2,o3,o4⟩:=hs.fr.2.2 q hq;exact⟨o1,by simpa using o2,o3,(World.putObj_heap_other ak).trans o4⟩
 cases e with
 |normal=>
  show o9 _ _ _ _ a'.defers _;rw[hs.defers];exact main hk _ _ _ _ g1 rfl g3 hs
 |ret=>
  show o9 _ _ _ _ a'.defers _;rw[hs.defers];exact main hk _ _ _ _ g1 rfl g3 hs
 |_=>exact hk.elim
end
section
variable{P:Program}{K:Exit->St->Prop}{st st':St}
end
section
variable{P:Program}{K:Exit->St->Prop}
theorem rA{ops:Array Oper}{nt:Nat}{B:Base}{w0:Ctx fk}{Kr:Env->bD->Nat->Prop}{Q:Exit->Act->World->Prop}(rest:List Oper)(hQ:∀e h n a w m,Kr e h n->Sim B w0 ⟨e,h,n,nt⟩ a w m->iI w0.r P ops Q rest a w):∀(os:List Oper)(e:Env)(h:bD)(n:Nat)(a:Act)(w:World)(m:Mm),dD P ops nt os e h n Kr->Sim B w0 ⟨e,h,n,nt⟩ a w m->iI w0.r P ops Q (os++rest) a w
 |[],e,h,n,a,w,m,hk,hs=>hQ e h n a w m hk hs
 |o::os,e,h,n,a,w,m,hk,hs=>by
  simp only[dD] at hk;split at hk
  .rename_i g hg;have hw:=pY hg hs;simp only[pQ,iI,hw];intro w e1;replace hs:=hs.move e1
   cases g with
   |true=>
    simp only[cD];exact jZ (vL (hk.2.1 rfl)) (vM w0 o (K:=λv h' n'=>dD P ops nt os (put e o.dst v) h' n' Kr) (hk.2.1 rfl) hs hk.1 Q _ (λv h' n' a' w' m' ax h8=>rA rest hQ os _ _ _ _ _ m' ax h8))
   |false=>
    simp only[dC,cP];refine rA rest hQ os _ _ _ _ _ m (hk.2.2 rfl) ⟨hs.base,hs.below,by rw[lj];exact hs.defers,by rw[lh];exact hs.size,?_,hs.heap,hs.dom,hs.ids,hs.fr⟩;exact nO e a o.dst _ _ (by rw[hs.size];exact hk.1) (.tup rfl (λj p v hp=>by simp at hp)) hs.env
  trivial
def YW(P:Program)(ri:RI)(nt:Nat)(e:Env)(h:bD)(n:Nat)(o:Oper)(K:Env->bD->Nat->Prop):Prop:=
 match o.op with
 |.call { callee:=.value f,args:=args,argTypes:=_ }=>dOk nt o.dst/\(∃ow fl,ev e f=.w ow fl (.yl ri.l)) /\
   Round P ri (args.toList.map (ev e)) h n (λh' n'=>K (put e o.dst (.w false false (.bool true))) h' n')
 |_=>False
def gYW(P:Program)(ri:RI)(ops:Array Oper)(nt:Nat)(e:Env)(h:bD)(n:Nat)(o:Oper)(K:Env->bD->Nat->Prop):Prop:=
 match gl ops e o with
 |some g=>dOk nt o.dst/\(g=true->YW P ri nt e h n o K)/\(g=false->K (put e o.dst (.tup [])) h n)
 |none=>False
theorem Of{k:Nat}{ri:RI}{id:Nat}{ops:Array Oper}{env:Env}{h:bD}{n nt:Nat}(pre:List Oper)(o:Oper)(post:List Oper)(bd:ops.toList=pre++o::post)(hk:dD P ops nt pre env h n λe' h' n'=>gYW P ri ops nt e' h' n' o λa6 a9 ag=>dD P ops nt post a6 a9 ag λe3 h3 n3=>K .normal ⟨e3,h3,n3,nt⟩):cX ⟨k,some ri⟩ P (.region id ops false) ⟨env,h,n,nt⟩ K:=by
 intro B w0 a w m hs;refine qY ?_;rw[bd];refine rA (o::post) ?_ pre env h n a w m hk hs;intro e h n a w m hy hs;unfold gYW at hy;split at hy
 .rename_i g hg;have hw:=pY hg hs;simp only[iI,hw];intro w e1;replace hs:=hs.move e1
  have bi:∀a6 a9 ag cg cx bu,(dD P ops nt post a6 a9 ag λe3 h3 n3=>K .normal ⟨e3,h3,n3,nt⟩)->Sim B w0 ⟨a6,a9,ag,nt⟩ cg cx bu->iI w0.r P ops (λe a' w'=>∃st' m',K e st'/\Sim B w0 st' a' w' m') post cg cx:=
   λa6 a9 ag cg cx bu ax h8=>nP (λ_ _ _ _ _ m ax h8=>⟨_,m,ax,h8⟩) post _ _ _ _ _ bu ax h8
  cases g with
  |true=>
   simp only[cD];have dv:=hy.2.1 rfl;unfold YW at dv;split at dv
   .rename_i f args tys ho;obtain⟨aa,⟨ow,fl,hf⟩,hr⟩:=dv;exact Od o f args tys ho hf (Kv:=λv h' n'=>v=.w false false (.bool true)/\dD P ops nt post (put e o.dst (.w false false (.bool true))) h' n' λe3 h3 n3=>K .normal ⟨e3,h3,n3,nt⟩)
     ⟨hr.1,hr.2.1,tj hr.2.2 (λe s hk=>by
       cases e with
       |normal=>exact tj hk (λe s hk=>by
         cases e with
         |normal=>
          obtain⟨h',n',aw,h1,h2⟩:=hk;exact⟨h',n',aw,h1,rfl,h2⟩
         |_=>exact hk.elim)
       |_=>exact hk.elim)⟩ hs aa _ _ (λv h' n' a' w' m' b4 h8=>by
        obtain⟨rfl,b4⟩:=b4
        exact bi _ _ _ _ _ m' b4 h8)
   .exact dv.elim
  |false=>
   simp only[dC,cP];refine bi _ _ _ _ _ m (hy.2.2 rfl) ⟨hs.base,hs.below,by rw[lj];exact hs.defers,by rw[lh];exact hs.size,?_,hs.heap,hs.dom,hs.ids,hs.fr⟩;exact nO e a o.dst _ _ (by rw[hs.size];exact hy.1) (.tup rfl (λj p v hp=>by simp at hp)) hs.env
 trivial
def IW(P:Program)(nt:Nat)(e:Env)(h:bD)(n:Nat)(o:Oper)(g:FuncId)(b8:List AV)(fn:Func)(c:Code)(args:List AV)(K:Env->bD->Nat->Prop):Prop:=
 dOk nt o.dst/\o.guard=none/\cX ⟨n,none⟩ P c ⟨gh 0 (args++b8),h,n,fn.ntmps⟩ (ir P fn.results.toList λv h' n'=>K (put e o.dst v) h' n')
theorem Og{id:Nat}{ops:Array Oper}{env:Env}{h:bD}{n nt:Nat}(pre:List Oper)(o:Oper)(post:List Oper)(bd:ops.toList=pre++o::post){f:Operand}{args:Array Operand}{tys:Array TypeId}(ho:o.op=.call { callee:=.value f,args:=args,argTypes:=tys }){g:FuncId}{fn:Func}{c:Code}(ay:P.funcs[g]?=some fn) (h9:(fn.name == "runtime.NumGoroutine")=false) (hb:fn.body=some c) (hk:dD P ops nt pre env h n λe' h' n'=>∃b8,gd (ev e' f)=some (g,b8)/\(args.toList.map (ev e')++b8).length<=fn.ntmps/\IW P nt e' h' n' o g b8 fn c (args.toList.map (ev e')) λa6 a9 ag=>dD P ops nt post a6 a9 ag λe3 h3 n3=>K .normal ⟨e3,h3,n3,nt⟩):cX fk P (.region id ops false) ⟨env,h,n,nt⟩ K:=by
 intro B w0 a w m hs;refine qY ?_;rw[bd];refine rA (o::post) ?_ pre env h n a w m hk hs
 rintro e h n a w m ⟨b8,hf,b7,aa,c3,hw⟩ hs
 have bi:∀a6 a9 ag cg cx bu,(dD P ops nt post a6 a9 ag λe3 h3 n3=>K .normal ⟨e3,h3,n3,nt⟩)->Sim B w0 ⟨a6,a9,ag,nt⟩ cg cx bu->iI w0.r P ops (λe a' w'=>∃st' m',K e st'/\Sim B w0 st' a' w' m') post cg cx:=
  λa6 a9 ag cg cx bu ax h8=>nP (λ_ _ _ _ _ m ax h8=>⟨_,m,ax,h8⟩) post _ _ _ _ _ bu ax h8
 simp only[iI,Region.wanted,c3,cD];intro w e1;replace hs:=hs.move e1;exact jZ (λc e=>by rw[ho] at e;cases e) (GB o f args tys ho hf ay h9 hb b7 none (λ_ h=>au) hw hs aa _ _ (λv h' n' a' w' m' b4 h8=>bi _ _ _ _ _ m' b4 h8))
end
def EqV(x:AV)(E:List (List AV))(v:AV):Prop:=x=v/\E=[]
def EqE(x:AV)(h':bD)(n':Nat)(v:AV)(h:bD)(n:Nat):Prop:=x=v/\h'=h/\n'=n
omit [bJ] in
@[congr] theorem YQ{x x' v:AV}{E E':List (List AV)}(h:x=x')(h2:E=E'):EqV x E v=EqV x' E' v:=by rw[h,h2]
omit [bJ] in
@[congr] theorem YR{x x' v:AV}{h h' h0:bD}{n n' n0:Nat}(e1:x=x')(e2:h=h')(e3:n=n'):EqE x h n v h0 n0=EqE x' h' n' v h0 n0:=by rw[e1,e2,e3]
section
variable{P:Program}{ops:Array Oper}{nt:Nat}{env:Env}{h:bD}{n:Nat}
section
variable{op:Op}{b:Bool}{v:AV}
end
end
theorem bN{P:Program}{g:FuncId}{args c5:List PV}{K:PV->Bool->Prop}{K2:List (List AV)->AV->Prop}{res:PV}{fr:Bool}{mk:Mark (K,K2)}(h:bT P g args res fr)(e:c5=args)(hk:K res fr):CW P g c5 K K2 mk:=.inl ⟨res,fr,e▸h,hk⟩
section
variable{P:Program}{K:Exit->St->Prop}
@[simp ↓]theorem YS(b:Code)(s:St):xO fk P b K .normal s=fT fk P b s K:=rfl
@[simp ↓]theorem YT(b:Code)(s:St):xO fk P b K .ret s=K .ret s:=rfl
@[simp ↓]theorem YU(b:Code)(id:Nat)(s:St):xO fk P b K (.exit id) s=K (.exit id) s:=rfl
@[congr] theorem YV{c:Code}{st st':St}(h:st=st'):fT fk P c st K=fT fk P c st' K:=by rw[h]
def xP(P:Program)(ri:RI)(avs:List AV)(h:bD)(n:Nat)(K:bD->Nat->Prop)(_:Mark (ri,K)):Prop:=Round P ri avs h n K
@[congr] theorem YX{ri:RI}{avs d5:List AV}{h h':bD}{n n':Nat}{K:bD->Nat->Prop}{mk:Mark (ri,K)}(e1:avs=d5)(e2:h=h')(e3:n=n'):xP P ri avs h n K mk=xP P ri d5 h' n' K mk:=by rw[e1,e2,e3]
theorem xj{ri:RI}{avs:List AV}{h:bD}{n:Nat}{K:bD->Nat->Prop}{mk:Mark (ri,K)}(h1:avs.length=ri.ps.size)(h2:∀t∈ri.ps,t<ri.nt)(hk:cX ⟨n,none⟩ P ri.assign ⟨nJ ri.env ri.ps.toList avs,h,n,ri.nt⟩ (uL P n ri.body K)):xP P ri avs h n K mk:=⟨h1,h2,hk⟩
@[simp ↓]theorem YY(k:Nat)(body:Code)(K:bD->Nat->Prop)(s:St):uL P k body K .normal s=cX ⟨k,none⟩ P body s (sB k K):=rfl
theorem Bw{k:Nat}{K:bD->Nat->Prop}{s:St}(h':bD)(n':Nat)(aw:Nat)(hle:Lek ⟨k,none⟩ s ⟨[],h',n',aw⟩)(hk:K h' n'):sB k K .normal s:=⟨h',n',aw,hle,hk⟩
@[congr] theorem YZ{k:Nat}{K:bD->Nat->Prop}{e e':Exit}{s s':St}(h1:e=e')(h2:s=s'):sB k K e s=sB k K e' s':=by rw[h1,h2]
@[congr] theorem Y0{k:Nat}{body:Code}{K:bD->Nat->Prop}{e e':Exit}{s s':St}(h1:e=e')(h2:s=s'):uL P k body K e s=uL P k body K e' s':=by rw[h1,h2]
section
variable{ri:RI}{ops:Array Oper}{nt:Nat}{e:Env}{h:bD}{n:Nat}{dst:Option Tmp}{op:Op}{ty:TypeId}{pos:String}{after:Array Edge}{j:Nat}{want:Bool}{Kr:Env->bD->Nat->Prop}
def yM(P:Program)(ri:RI)(nt:Nat)(e:Env)(h:bD)(n:Nat)(o:Oper)(K:Env->bD->Nat->Prop)(_:Mark K):Prop:=YW P ri nt e h n o K
@[congr] theorem Y1{e e':Env}{h h':bD}{n n':Nat}{o:Oper}{K:Env->bD->Nat->Prop}{mk:Mark K}(e1:e=e')(e2:h=h')(e3:n=n'):yM P ri nt e h n o K mk=yM P ri nt e' h' n' o K mk:=by rw[e1,e2,e3]
def gY(P:Program)(ri:RI)(ops:Array Oper)(nt:Nat)(e:Env)(h:bD)(n:Nat)(o:Oper)(K:Env->bD->Nat->Prop)(_:Mark K):Prop:=gYW P ri ops nt e h n o K
@[congr] theorem Y2{e e':Env}{h h':bD}{n n':Nat}{o:Oper}{K:Env->bD->Nat->Prop}{mk:Mark K}(e1:e=e')(e2:h=h')(e3:n=n'):gY P ri ops nt e h n o K mk=gY P ri ops nt e' h' n' o K mk:=by rw[e1,e2,e3]
def gYm(g:Option Bool)(P:Program)(ri:RI)(nt:Nat)(e:Env)(h:bD)(n:Nat)(o:Oper)(K:Env->bD->Nat->Prop)(_:Mark K):Prop:=gW g (YW P ri nt e h n o K) (K (put e o.dst (.tup [])) h n)
@[congr] theorem Y3{g g':Option Bool}{e:Env}{h:bD}{n:Nat}{o:Oper}{K:Env->bD->Nat->Prop}{mk:Mark K}(e0:g=g'):gYm g P ri nt e h n o K mk=gYm g' P ri nt e h n o K mk:=by rw[e0]
@[simp]theorem Y4{o:Oper}{mk:Mark Kr}:gYm (some true) P ri nt e h n o Kr mk=YW P ri nt e h n o Kr:=by unfold gYm;exact Bf _ _
@[simp]theorem Y5{o:Oper}{mk:Mark Kr}:gYm (some false) P ri nt e h n o Kr mk=Kr (put e o.dst (.tup [])) h n:=by unfold gYm;exact Bg _ _
@[simp ↓]theorem Y6{mk:Mark Kr}:gY P ri ops nt e h n ⟨dst,op,ty,pos,after,some (j,want)⟩ Kr mk=(dOk nt dst/\gYm (gOf ops e j want) P ri nt e h n ⟨dst,op,ty,pos,after,some (j,want)⟩ Kr .it):=by
 unfold gY gYW;rw[Bh]
 cases gOf ops e j want<;>simp[gYm,gW]
@[simp ↓]theorem Y7{f:Operand}{args:Array Operand}{tys:Array TypeId}{g:Option (Nat×Bool)}:YW P ri nt e h n ⟨dst,.call ⟨.value f,args,tys⟩,ty,pos,after,g⟩ Kr=(dOk nt dst/\(∃ow fl,ev e f=.w ow fl (.yl ri.l))/\xP P ri (args.toList.map (ev e)) h n (λh' n'=>Kr (put e dst (.w false false (.bool true))) h' n') .it):=rfl
end
theorem rD{k:Nat}{ri:RI}{id:Nat}{ops:Array Oper}{env:Env}{h:bD}{n nt:Nat}(i:Nat)(hi:i<ops.toList.length)(hk:dD P ops nt (ops.toList.take i) env h n λe' h' n'=>gY P ri ops nt e' h' n' (ops.toList.getD i default) (λa6 a9 ag=>dD P ops nt (ops.toList.drop (i+1)) a6 a9 ag λe3 h3 n3=>K .normal ⟨e3,h3,n3,nt⟩) .it):cX ⟨k,some ri⟩ P (.region id ops false) ⟨env,h,n,nt⟩ K:=by
 refine Of (ops.toList.take i) (ops.toList.getD i default) (ops.toList.drop (i+1)) ?_ hk
 have e:ops.toList.getD i default=ops.toList[i]:=ak
 rw[e,Dl,yi]
end
section
variable{P:Program}{K:Exit->St->Prop}
def ID(fk:Fk)(P:Program)(ops:Array Oper)(nt:Nat)(os:List Oper)(e:Env)(h:bD)(n:Nat)(K:Env->bD->Nat->Prop)(_:Mark (os,K)):Prop:=
 ∃e2 h2 n2,Lek fk ⟨e,h,n,nt⟩ ⟨e2,h2,n2,nt⟩/\dD P ops nt os e2 h2 n2 K
@[congr] theorem Y8{ops:Array Oper}{nt:Nat}{os:List Oper}{e e':Env}{h h':bD}{n n':Nat}{K:Env->bD->Nat->Prop}{mk:Mark (os,K)}(h1:e=e')(h2:h=h')(h3:n=n'):ID fk P ops nt os e h n K mk=ID fk P ops nt os e' h' n' K mk:=by rw[h1,h2,h3]
end
section
variable{P:Program}{K:Exit->St->Prop}
def xQ(P:Program)(ops:Array Oper)(nt:Nat)(o:Oper)(post:List Oper)(g:FuncId)(fn:Func)(c:Code)(args:Array Operand)(e:Env)(h:bD)(n:Nat)(K:Env->bD->Nat->Prop)(_:Mark (o,post,c,K)):Prop:=
 ∃b8,gd (ev e (.func g))=some (g,b8)/\(args.toList.map (ev e)++b8).length<=fn.ntmps/\IW P nt e h n o g b8 fn c (args.toList.map (ev e)) λa6 a9 ag=>dD P ops nt post a6 a9 ag K
@[congr] theorem Y9{ops:Array Oper}{nt:Nat}{o:Oper}{post:List Oper}{g:FuncId}{fn:Func}{c:Code}{args:Array Operand}{e e':Env}{h h':bD}{n n':Nat}{K:Env->bD->Nat->Prop}{mk:Mark (o,post,c,K)}(h1:e=e')(h2:h=h')(h3:n=n'):xQ P ops nt o post g fn c args e h n K mk=xQ P ops nt o post g fn c args e' h' n' K mk:=by rw[h1,h2,h3]
theorem Bx{ops:Array Oper}{nt:Nat}{o:Oper}{post:List Oper}{g:FuncId}{fn:Func}{c:Code}{args:Array Operand}{e:Env}{h:bD}{n:Nat}{K:Env->bD->Nat->Prop}{mk:Mark (o,post,c,K)}(hl:args.toList.length<=fn.ntmps)(hd:dOk nt o.dst)(hg:o.guard=none)(hk:cX ⟨n,none⟩ P c ⟨gh 0 (args.toList.map (ev e)),h,n,fn.ntmps⟩ (ir P fn.results.toList λv h' n'=>dD P ops nt post (put e o.dst v) h' n' K)):xQ P ops nt o post g fn c args e h n K mk:=
 ⟨[],rfl,by rw[pR,iV];exact hl,hd,hg,by rw[pR];exact hk⟩
theorem rF{id:Nat}{ops:Array Oper}{env:Env}{h:bD}{n nt:Nat}(i:Nat){g:FuncId}{fn:Func}{c:Code}(ay:P.funcs[g]?=some fn) (h9:(fn.name == "runtime.NumGoroutine")=false) (hb:fn.body=some c) (hi:i<ops.toList.length) {args:Array Operand} {tys:Array TypeId} (ho:(ops.toList.getD i default).op=.call { callee:=.value (.func g),args:=args,argTypes:=tys }) (hk:dD P ops nt (ops.toList.take i) env h n λe' h' n'=>xQ P ops nt (ops.toList.getD i default) (ops.toList.drop (i+1)) g fn c args e' h' n' (λe3 h3 n3=>K .normal ⟨e3,h3,n3,nt⟩) .it):cX fk P (.region id ops false) ⟨env,h,n,nt⟩ K:=by
 refine Og (ops.toList.take i) (ops.toList.getD i default) (ops.toList.drop (i+1)) ?_ ho ay h9 hb hk
 have e:ops.toList.getD i default=ops.toList[i]:=ak
 rw[e,Dl,yi]
end
def SC(P:Program)(f:FuncId)(args:List AV)(h:bD)(n:Nat)(id:Nat)(c:List AV)(v:AV):Prop:=
 BV P f/\∀(B:Base)(m:Mm)(w:World)(vs:Array Value),B.n<=w.heap.size->dc B h m w->(∀i c,(i,c)∈h->m.dom i)->args.length=vs.size->(∀(j:Nat)(p:AV)(u:Value),args[j]?=some p->vs[j]?=some u->bI B (LB m h) m w p u) ->
  kh P f vs w λe w'=>∃u m',e=.returned u/\EPost B h m w n (dz h id c) n v u w' m'
section
variable{P:Program}{B:Base}{env:Env}{h:bD}{n nt:Nat}{a:Act}{w:World}{m:Mm}
def IE(P:Program)(ops:Array Oper)(nt:Nat)(o:Oper)(post:List Oper)(g:FuncId)(args:Array Operand)(e:Env)(h:bD)(n:Nat)(K:Env->bD->Nat->Prop)(_:Mark (o,post,K)):Prop:=
 dOk nt o.dst/\o.guard=none/\∃id c v,SC P g (args.toList.map (ev e)) h n id c v/\dD P ops nt post (put e o.dst v) (dz h id c) n K
omit [bJ] in
@[congr] theorem Zh[bJ]{ops:Array Oper}{nt:Nat}{o:Oper}{post:List Oper}{g:FuncId}{args:Array Operand}{e e':Env}{h h':bD}{n n':Nat}{K:Env->bD->Nat->Prop}{mk:Mark (o,post,K)}(h1:e=e')(h2:h=h')(h3:n=n'):IE P ops nt o post g args e h n K mk=IE P ops nt o post g args e' h' n' K mk:=by rw[h1,h2,h3]
end
section
variable{P:Program}{K:Exit->St->Prop}
def IWY(r:Option RI)(P:Program)(nt:Nat)(e:Env)(h:bD)(n:Nat)(o:Oper)(g:FuncId)(b8:List AV)(fn:Func)(c:Code)(args:List AV)(K:Env->bD->Nat->Prop):Prop:=
 dOk nt o.dst/\o.guard=none/\cX ⟨n,r⟩ P c ⟨gh 0 (args++b8),h,n,fn.ntmps⟩ (ir P fn.results.toList λv h' n'=>K (put e o.dst v) h' n')
def IF(r:Option RI)(P:Program)(ops:Array Oper)(nt:Nat)(o:Oper)(post:List Oper)(f:Operand)(g:FuncId)(fn:Func)(c:Code)(args:Array Operand)(e:Env)(h:bD)(n:Nat)(K:Env->bD->Nat->Prop)(_:Mark (o,post,c,K)):Prop:=
 ∃b8,gd (ev e f)=some (g,b8)/\(args.toList.map (ev e)++b8).length<=fn.ntmps/\IWY r P nt e h n o g b8 fn c (args.toList.map (ev e)) λa6 a9 ag=>dD P ops nt post a6 a9 ag K
@[congr] theorem Zi{r:Option RI}{ops:Array Oper}{nt:Nat}{o:Oper}{post:List Oper}{f:Operand}{g:FuncId}{fn:Func}{c:Code}{args:Array Operand}{e e':Env}{h h':bD}{n n':Nat}{K:Env->bD->Nat->Prop}{mk:Mark (o,post,c,K)}(h1:e=e')(h2:h=h')(h3:n=n'):IF r P ops nt o post f g fn c args e h n K mk=IF r P ops nt o post f g fn c args e' h' n' K mk:=by rw[h1,h2,h3]
end
section
variable{P:Program}{env:Env}{h:bD}{n nt:Nat}
end
section
variable{P:Program}{env:Env}{h:bD}{n nt:Nat}
def xR(r:Option RI)(P:Program)(ops:Array Oper)(nt:Nat)(o:Oper)(post:List Oper)(f:Operand)(g:FuncId)(fn:Func)(c:Code)(args:Array Operand)(e:Env)(h:bD)(n:Nat)(K:Env->bD->Nat->Prop)(_:Mark (o,post,c,K)):Prop:=
 ∃b8,gd (ev e f)=some (g,b8)/\(args.toList.map (ev e)++b8).length<=fn.ntmps/\dOk nt o.dst/\gl ops e o=some true/\cX ⟨n,r⟩ P c ⟨gh 0 (args.toList.map (ev e)++b8),h,n,fn.ntmps⟩ (ir P fn.results.toList λv h' n'=>dD P ops nt post (put e o.dst v) h' n' K)
@[congr] theorem Zj{r:Option RI}{ops:Array Oper}{nt:Nat}{o:Oper}{post:List Oper}{f:Operand}{g:FuncId}{fn:Func}{c:Code}{args:Array Operand}{e e':Env}{h h':bD}{n n':Nat}{K:Env->bD->Nat->Prop}{mk:Mark (o,post,c,K)}(h1:e=e')(h2:h=h')(h3:n=n'):xR r P ops nt o post f g fn c args e h n K mk=xR r P ops nt o post f g fn c args e' h' n' K mk:=by rw[h1,h2,h3]
theorem GX{r:Option RI}{ops:Array Oper}{nt:Nat}{o:Oper}{post:List Oper}{f:Operand}{g:FuncId}{fn:Func}{c:Code}{args:Array Operand}{e:Env}{h:bD}{n:Nat}{K:Env->bD->Nat->Prop}{mk:Mark (o,post,c,K)}(b8:List AV)(hf:gd (ev e f)=some (g,b8))(hl:args.toList.length+b8.length<=fn.ntmps)(hd:dOk nt o.dst)(hg:gl ops e o=some true)(hk:cX ⟨n,r⟩ P c ⟨gh 0 (args.toList.map (ev e)++b8),h,n,fn.ntmps⟩ (ir P fn.results.toList λv h' n'=>dD P ops nt post (put e o.dst v) h' n' K)):xR r P ops nt o post f g fn c args e h n K mk:=
 ⟨b8,hf,by rw[nK,iV];exact hl,hd,hg,hk⟩
theorem GY{K:Exit->St->Prop}{id:Nat}{ops:Array Oper}(k:Nat)(g:FuncId)(hm:P.follows .mixedOrders=true)(ck:uy ops k=true)(co:k<ops.size){fn:Func}{c:Code}(ay:P.funcs[g]?=some fn) (h9:(fn.name == "runtime.NumGoroutine")=false) (hb:fn.body=some c) {f:Operand} {args:Array Operand} {tys:Array TypeId} (ho:(ops.toList.getD k default).op=.call { callee:=.value f,args:=args,argTypes:=tys }) (hk:gm P ops nt (ops.toList.take k) env h n λe' h' n'=>xR fk.ri P ops nt (ops.toList.getD k default) (ops.toList.drop (k+1)) f g fn c args e' h' n' (λe3 h3 n3=>K .normal ⟨e3,h3,n3,nt⟩) .it):cX fk P (.region id ops true) ⟨env,h,n,nt⟩ K:=by
 obtain⟨hc,bl⟩:=zw ck;refine Eu k hm hc hk (λB w0 e' h' n' hK f' listed a w m dm b6 hl ej hs=>?_);obtain⟨b8,hf,b7,aa,c3,hw⟩:=hK
 cases f' with
 |zero=>
  exfalso;have:=p9 (yf.1 ej) (i:=k) ab;have:=(hl k co).1 this;omega
 |succ f'=>
  have b':=qZ dm hc.down k co (by
   grind)
  refine⟨λcq=>absurd cq b',λx ey=>?_⟩;obtain⟨o,bn,cz,he⟩:=nQ dm ey;have dr:=(df.1 bn).1
  have f7:x=k:=by
   have h1:¬x<k:=λf9=>by
    have:=(hl x dr).2 f9;rw[dL,cz] at this;cases this
   rcases fq k x with h2|h2
   .have:=m8 b6 8 x k o bn he (bl x ab dr k h2);have:=(hl k co).1 this;omega
   .omega
  subst f7
  have ei:ops.toList.getD x default=o:=by
   rw[eu,jA,bn];rfl
  rw[ei] at ho c3 aa hw;unfold lD;rw[bn];simp only[];intro w e1;replace hs:=hs.move e1;rw[pY c3 hs];simp only[cD];refine jZ (λc e=>by rw[ho] at e;cases e) (GB o f args tys ho hf ay h9 hb b7 fk.ri (λ_ h=>h) hw hs aa _ _ (λv h' n' a' w' m' d9 h8=>?_));refine vN (Kr:=λa6 a9 ag=>K .normal ⟨a6,a9,ag,nt⟩) (λe' h' n' a' w' m' ax a5=>⟨_,m',ax,a5⟩) hc.down bl f' (x+1) (listed.setIfInBounds x true) _ _ _ a' w' m' ab ab ak (b6.set bn he) (λj hj=>?_) (by have:=pZ cz;omega) d9 h8;by_cases f8:x=j
  .simp_all
  .rw[getD_set_ne false f8,hl j hj];omega
end
end Go.Fi
namespace Go.Fi
open Go Go.RowKit
variable[bJ]
section
variable{k:Nat}{ri:RI}{P:Program}{K Kd K' gk:Exit->St->Prop}{st st':St}
def sG(k:Nat)(ri:RI)(P:Program)(b:Code)(K Kd:Exit->St->Prop):Exit->St->Prop
 |.normal,s=>fK k ri P b s K Kd
 |e,s=>K e s
def sH(k:Nat)(P:Program)(b:Code)(Kd:Exit->St->Prop):Exit->St->Prop
 |.normal,s=>cX ⟨k,none⟩ P b s Kd
 |e,s=>Kd e s
@[simp ↓]theorem ZA(b:Code)(s:St):sG k ri P b K Kd .normal s=fK k ri P b s K Kd:=rfl
@[simp ↓]theorem ZB(b:Code)(s:St):sG k ri P b K Kd .ret s=K .ret s:=rfl
@[simp ↓]theorem ZC(b:Code)(i:Nat)(s:St):sG k ri P b K Kd (.exit i) s=K (.exit i) s:=rfl
@[simp ↓]theorem ZD(b:Code)(s:St):sH k P b Kd .normal s=cX ⟨k,none⟩ P b s Kd:=rfl
@[simp ↓]theorem ZE(b:Code)(s:St):sH k P b Kd .ret s=Kd .ret s:=rfl
@[simp ↓]theorem ZF(b:Code)(i:Nat)(s:St):sH k P b Kd (.exit i) s=Kd (.exit i) s:=rfl
@[congr] theorem ZG{c:Code}(h:st=st'):fK k ri P c st K Kd=fK k ri P c st' K Kd:=by rw[h]
@[congr] theorem ZH{b:Code}{e e':Exit}(h1:e=e')(h2:st=st'):sG k ri P b K Kd e st=sG k ri P b K Kd e' st':=by rw[h1,h2]
@[congr] theorem ZI{b:Code}{e e':Exit}(h1:e=e')(h2:st=st'):sH k P b Kd e st=sH k P b Kd e' st':=by rw[h1,h2]
theorem OU{x y:Code}(h:fK k ri P x st (sG k ri P y K Kd) (sH k P y Kd)):fK k ri P (.seq x y) st K Kd:=
 λB w0 a w m hs=>yH (fo (h B w0 a w m hs) (λe a' w' hx=>by
  rcases hx with ⟨st',m',h1,h2⟩|⟨w1,hl,st',m',h1,h2⟩
  .cases e with
   |normal=>exact h1 B w0 a' w' m' h2
   |_=>exact .inl ⟨st',m',h1,h2⟩
  .cases e with
   |normal=>
    have:=h1 B w1 a' w' m' h2;rw[hl.2.2.1] at this;exact fo this (λe a2 w2 ⟨s2,m2,g1,g2⟩=>.inr ⟨w1,hl,s2,m2,g1,g2⟩)
   |_=>exact .inr ⟨w1,hl,st',m',h1,h2⟩))
theorem OV{id:Nat}{c:Code}(h:fK k ri P c st (jd id K) (jd id Kd)):fK k ri P (.block id c) st K Kd:=
 λB w0 a w m hs=>yJ (fo (h B w0 a w m hs) (λe a' w' hx=>by
  rcases hx with ⟨st',m',h1,h2⟩|⟨w1,hl,st',m',h1,h2⟩
  .cases e with
   |exit fg=>
    simp only[Exit.inBlock];simp only[jd] at h1
    grind
   |_=>exact .inl ⟨st',m',h1,h2⟩
  .cases e with
   |exit fg=>
    simp only[Exit.inBlock];simp only[jd] at h1
    grind
   |_=>exact .inr ⟨w1,hl,st',m',h1,h2⟩))
def qQ(Kd:Exit->St->Prop):Exit->St->Prop
 |.normal,_=>False
 |e,s=>Kd e s
section
omit [bJ]
@[simp ↓]theorem ZJ(s:St):qQ Kd .ret s=Kd .ret s:=rfl
@[simp ↓]theorem ZK(i:Nat)(s:St):qQ Kd (.exit i) s=Kd (.exit i) s:=rfl
@[congr] theorem ZL{e e':Exit}(h1:e=e')(h2:st=st'):qQ Kd e st=qQ Kd e' st':=by rw[h1,h2]
end
theorem OX{c:Code}{α:Type}(J:α->Prop)(I:α->St)(μ:α->Nat)(x0:α)(hJ:J x0)(h0:Lek ⟨k,some ri⟩ st (I x0))(round:∀x,J x->fK k ri P c (I x) (lK ⟨k,some ri⟩ J I μ x K) (qQ Kd)):fK k ri P (.loop c) st K Kd:=by
 intro B w0 a w m hs;refine yK (λk a w=>∃x m,J x/\μ x=k/\Sim B w0 (I x) a w m) (μ x0) aQ ?_
 rintro j a w ⟨x,m,hx,rfl,ep⟩
 refine fo (round x hx B w0 a w m ep) (λe a' w' hq=>?_)
 rcases hq with ⟨st',m',h2,h3⟩|⟨w1,hl,st',m',h2,h3⟩
 .cases e with
  |normal=>
   obtain⟨y,hy,b5,hle⟩:=h2;obtain⟨bu,h4⟩:=hle B w0 a' w' m' h3;exact⟨μ y,b5,y,bu,hy,rfl,h4⟩
  |_=>exact .inl ⟨st',m',h2,h3⟩
 .cases e with
  |normal=>exact h2.elim
  |_=>exact .inr ⟨w1,hl,st',m',h2,h3⟩
def YW2(P:Program)(ri:RI)(nt:Nat)(o:Oper)(f:Operand)(args:Array Operand)(e:Env)(h:bD)(n:Nat)(K Kl:Env->bD->Nat->Prop)(_:Mark (K,Kl)):Prop:=
 (∃ow fl,ev e f=.w ow fl (.yl ri.l))/\Iz P ri (args.toList.map (ev e)) h n (λh' n'=>K (put e o.dst (.w false false (.bool true))) h' n') (λh' n'=>Kl (put e o.dst (.w false false (.bool false))) h' n')
@[congr] theorem ZM{nt:Nat}{o:Oper}{f:Operand}{args:Array Operand}{e e':Env}{h h':bD}{n n':Nat}{K Kl:Env->bD->Nat->Prop}{mk:Mark (K,Kl)}(h1:e=e')(h2:h=h')(h3:n=n'):YW2 P ri nt o f args e h n K Kl mk=YW2 P ri nt o f args e' h' n' K Kl mk:=by rw[h1,h2,h3]
theorem OY{nt:Nat}{o:Oper}{f:Operand}{args:Array Operand}{e:Env}{h:bD}{n:Nat}{K Kl:Env->bD->Nat->Prop}{mk:Mark (K,Kl)}(ow fl:Bool)(h1:ev e f=.w ow fl (.yl ri.l))(hl:args.toList.length=ri.ps.size)(b5:∀t∈ri.ps,t<ri.nt)(hk:cX ⟨n,none⟩ P ri.assign ⟨nJ ri.env ri.ps.toList (args.toList.map (ev e)),h,n,ri.nt⟩ (uM P n ri.body (λh' n'=>K (put e o.dst (.w false false (.bool true))) h' n') (λh' n'=>Kl (put e o.dst (.w false false (.bool false))) h' n'))):YW2 P ri nt o f args e h n K Kl mk:=
 ⟨⟨ow,fl,h1⟩,by rw[iV];exact hl,b5,hk⟩
theorem OZ{id:Nat}{ops:Array Oper}{env:Env}{h:bD}{n nt:Nat}(i:Nat)(hi:i<ops.toList.length){f:Operand}{args:Array Operand}{tys:Array TypeId}(ho:(ops.toList.getD i default).op=.call { callee:=.value f,args:=args,argTypes:=tys })(hg:(ops.toList.getD i default).guard=none)(hd:dOk nt (ops.toList.getD i default).dst)(hk:dD P ops nt (ops.toList.take i) env h n λe' h' n'=>YW2 P ri nt (ops.toList.getD i default) f args e' h' n' (λa6 a9 ag=>dD P ops nt (ops.toList.drop (i+1)) a6 a9 ag λe3 h3 n3=>K .normal ⟨e3,h3,n3,nt⟩) (λa6 a9 ag=>dD P ops nt (ops.toList.drop (i+1)) a6 a9 ag λe3 h3 n3=>Kd .normal ⟨e3,h3,n3,nt⟩) .it):fK k ri P (.region id ops false) ⟨env,h,n,nt⟩ K Kd:=by
 have e:ops.toList.getD i default=ops.toList[i]:=ak
 have bd:ops.toList=ops.toList.take i++ops.toList.getD i default::ops.toList.drop (i+1):=by rw[e,Dl,yi]
 generalize ops.toList.getD i default=o at *;generalize ops.toList.take i=pre at *;generalize ops.toList.drop (i+1)=post at *;intro B w0 a w m hs;refine qY ?_;rw[bd];refine rA (o::post) ?_ pre env h n a w m hk hs
 rintro e h n a w m ⟨⟨ow,fl,hf⟩,hr⟩ hs
 simp only[iI,Region.wanted,hg,cD];intro w e1;replace hs:=hs.move e1;refine GD o f args tys ho hf hr hs hd _ _ (λh' n' a' w' m' b4 h8=>?_) (λw1 h' n' a' w' m' hl b4 h8=>?_)
 .exact nP (λ_ _ _ _ _ m ax h8=>.inl ⟨_,m,ax,h8⟩) post _ _ _ _ _ m' b4 h8
 .have:=nP (Q:=λe a' w'=>(∃st' m',K e st'/\Sim B w0 st' a' w' m')\/∃w1:Ctx ⟨k,none⟩,qN w0 w1/\∃st' m',Kd e st'/\Sim B w1 st' a' w' m') (w0:=w1) (P:=P) (ops:=ops) (λ_ _ _ _ _ m ax h8=>.inr ⟨w1,hl,_,m,ax,h8⟩) post _ _ _ _ _ m' b4 h8;rw[hl.2.2.1] at this;exact this
end
section
variable{k:Nat}{ri:RI}{B:Base}{m:Mm}{w:World}{h:bD}{n:Nat}{env:Env}{a:Act}{P:Program}
theorem G7{w0:Ctx ⟨k,some ri⟩}{nt:Nat}(o:Oper)(f:Operand)(args:Array Operand)(tys:Array TypeId)(ho:o.op=.call { callee:=.value f,args:=args,argTypes:=tys }){g:FuncId}{b8:List AV}(hf:gd (ev env f)=some (g,b8)){fn:Func}{c:Code}(ay:P.funcs[g]?=some fn) (h9:(fn.name == "runtime.NumGoroutine")=false) (hb:fn.body=some c) (b7:(args.toList.map (ev env)++b8).length<=fn.ntmps) {Kv Kl:AV->bD->Nat->Prop} (hw:fK n ri P c ⟨gh 0 (args.toList.map (ev env)++b8),h,n,fn.ntmps⟩ (ir P fn.results.toList Kv) (ir P fn.results.toList Kl)) (hs:Sim B w0 ⟨env,h,n,nt⟩ a w m) (aa:dOk nt o.dst) (Q:Exit->Act->World->Prop) (K':Act->World->Prop) (hK:∀v h' n' a' w' m',Kv v h' n'->Sim B w0 ⟨put env o.dst v,h',n',nt⟩ a' w' m'->K' a' w') (hKl:∀(w1:Ctx ⟨k,none⟩) v h' n' a' w' m',qN w0 w1->Kl v h' n'->Sim B w1 ⟨put env o.dst v,h',n',nt⟩ a' w' m'->K' a' w'):o.wpt P a w K' Q:=by
 refine GA o f args tys ho hf ay h9 hb b7 (some ri) (λ_ h=>h) Q K' (λw1 a1 e1 e2 e3 e4 e5 bg=>fo (e3▸hw B w1 a1 w m bg) (λe a' w' hq=>?_)) hs aa
 rcases hq with ⟨st',m',hk,h8⟩|⟨wl,hl,st',m',hk,h8⟩
 .have fin:∀e:Exit,(e=.normal\/e=.ret)->gq P fn.results.toList st' Kv->xN P B w0 env a n nt o fn K' e a' w':=λe he hk=>
   ⟨he,_,_,w1,w0,st',m',Kv,rfl,rfl,e1,e2,e5,rfl,rfl,rfl,λq hq=>e4▸hq,h8,hk,hK⟩
  cases e with
  |normal=>simp_all
  |ret=>simp_all
  |_=>exact hk.elim
 .obtain⟨l1,l2,l3,l4,⟨fn2,T2,D2,l5⟩,l6⟩:=hl
  have fin:∀e:Exit,(e=.normal\/e=.ret)->gq P fn.results.toList st' Kl->xN P B w0 env a n nt o fn K' e a' w':=λe he hk=>
   ⟨he,_,_,wl,(⟨w0.w,w0.F,w0.r,(ri.l,dw ri fn2 T2 D2 .done (some .ret))::w0.obs.filter (λq=>decide (q.1≠ri.l)),w0.ds,λri h=>au,w0.ok⟩:Ctx ⟨k,none⟩),st',m',Kl,rfl,rfl,l1.trans e1,l2.trans e2,l4.trans e5,rfl,rfl,rfl,
     λq hq=>by
      grind,h8,hk,
     (hKl _ · · · · · · ⟨rfl,rfl,rfl,rfl,⟨fn2,T2,D2,ae⟩,λq hq b'=>fw _ (qX.2 ⟨hq,ak⟩)⟩)⟩
  cases e with
  |normal=>simp_all
  |ret=>simp_all
  |_=>exact hk.elim
end
section
variable{k:Nat}{ri:RI}{P:Program}{K Kd:Exit->St->Prop}{st:St}
theorem G8{c:Operand}{x y:Code}{o f b:Bool}(hv:ev st.env c=.w o f (.bool b))(h:fK k ri P (bif b then x else y) st K Kd):fK k ri P (.cond c x y) st K Kd:=by
 intro B w0 a w m hs;have hc:bI B (LB m st.heap) m w (ev st.env c) (a.eval c):=mY c (λt _=>hs.env t);rw[hv] at hc;refine ve hc.kn ?_;cases b
 .exact h B w0 a w m hs
 .exact h B w0 a w m hs
variable{env:Env}{h:bD}{n nt:Nat}
def uO(ri:RI)(P:Program)(ops:Array Oper)(nt:Nat)(o:Oper)(post:List Oper)(f:Operand)(g:FuncId)(fn:Func)(c:Code)(args:Array Operand)(e:Env)(h:bD)(n:Nat)(K Kd:Env->bD->Nat->Prop)(_:Mark (o,post,c,K,Kd)):Prop:=
 ∃b8,gd (ev e f)=some (g,b8)/\(args.toList.map (ev e)++b8).length<=fn.ntmps/\dOk nt o.dst/\gl ops e o=some true /\
  fK n ri P c ⟨gh 0 (args.toList.map (ev e)++b8),h,n,fn.ntmps⟩ (ir P fn.results.toList λv h' n'=>dD P ops nt post (put e o.dst v) h' n' K) (ir P fn.results.toList λv h' n'=>dD P ops nt post (put e o.dst v) h' n' Kd)
@[congr] theorem ZN{ops:Array Oper}{nt:Nat}{o:Oper}{post:List Oper}{f:Operand}{g:FuncId}{fn:Func}{c:Code}{args:Array Operand}{e e':Env}{h h':bD}{n n':Nat}{K Kd:Env->bD->Nat->Prop}{mk:Mark (o,post,c,K,Kd)}(h1:e=e')(h2:h=h')(h3:n=n'):uO ri P ops nt o post f g fn c args e h n K Kd mk=uO ri P ops nt o post f g fn c args e' h' n' K Kd mk:=by rw[h1,h2,h3]
theorem O0{ops:Array Oper}{nt:Nat}{o:Oper}{post:List Oper}{f:Operand}{g:FuncId}{fn:Func}{c:Code}{args:Array Operand}{e:Env}{h:bD}{n:Nat}{K Kd:Env->bD->Nat->Prop}{mk:Mark (o,post,c,K,Kd)}(b8:List AV)(hf:gd (ev e f)=some (g,b8))(hl:args.toList.length+b8.length<=fn.ntmps)(hd:dOk nt o.dst)(hg:gl ops e o=some true)(hk:fK n ri P c ⟨gh 0 (args.toList.map (ev e)++b8),h,n,fn.ntmps⟩ (ir P fn.results.toList λv h' n'=>dD P ops nt post (put e o.dst v) h' n' K) (ir P fn.results.toList λv h' n'=>dD P ops nt post (put e o.dst v) h' n' Kd)):uO ri P ops nt o post f g fn c args e h n K Kd mk:=
 ⟨b8,hf,by rw[nK,iV];exact hl,hd,hg,hk⟩
theorem O3{id:Nat}{ops:Array Oper}(i:Nat)(g:FuncId){fn:Func}{c:Code}(ay:P.funcs[g]?=some fn) (h9:(fn.name == "runtime.NumGoroutine")=false) (hb:fn.body=some c) (hi:i<ops.toList.length) {f:Operand} {args:Array Operand} {tys:Array TypeId} (ho:(ops.toList.getD i default).op=.call { callee:=.value f,args:=args,argTypes:=tys }) (hk:dD P ops nt (ops.toList.take i) env h n λe' h' n'=>uO ri P ops nt (ops.toList.getD i default) (ops.toList.drop (i+1)) f g fn c args e' h' n' (λe3 h3 n3=>K .normal ⟨e3,h3,n3,nt⟩) (λe3 h3 n3=>Kd .normal ⟨e3,h3,n3,nt⟩) .it):fK k ri P (.region id ops false) ⟨env,h,n,nt⟩ K Kd:=by
 have e:ops.toList.getD i default=ops.toList[i]:=ak
 have bd:ops.toList=ops.toList.take i++ops.toList.getD i default::ops.toList.drop (i+1):=by rw[e,Dl,yi]
 generalize ops.toList.getD i default=o at *;generalize ops.toList.take i=pre at *;generalize ops.toList.drop (i+1)=post at *;intro B w0 a w m hs;refine qY ?_;rw[bd];refine rA (o::post) ?_ pre env h n a w m hk hs
 rintro e h n a w m ⟨b8,hf,b7,aa,c3,hw⟩ hs
 simp only[iI];intro w e1;replace hs:=hs.move e1;rw[pY c3 hs];simp only[cD];refine jZ (λc e=>by rw[ho] at e;cases e) (G7 o f args tys ho hf ay h9 hb b7 hw hs aa _ _ (λv h' n' a' w' m' b4 h8=>?_) (λw1 v h' n' a' w' m' hl b4 h8=>?_))
 .exact nP (λ_ _ _ _ _ m ax h8=>.inl ⟨_,m,ax,h8⟩) post _ _ _ _ _ m' b4 h8
 .have:=nP (Q:=λe a' w'=>(∃st' m',K e st'/\Sim B w0 st' a' w' m')\/∃w1:Ctx ⟨k,none⟩,qN w0 w1/\∃st' m',Kd e st'/\Sim B w1 st' a' w' m') (w0:=w1) (P:=P) (ops:=ops) (λ_ _ _ _ _ m ax h8=>.inr ⟨w1,hl,_,m,ax,h8⟩) post _ _ _ _ _ m' b4 h8;rw[hl.2.2.1] at this;exact this
theorem O4{fk:Fk}{B:Base}{w0:Ctx fk}{a:Act}{w:World}{m:Mm}{Q:Exit->Act->World->Prop}{ops:Array Oper}{e:Env}(k:Nat){id:Nat}{Kp:Env->bD->Nat->Prop}(hm:P.follows .mixedOrders=true)(hc:Chk ops k)(hk:gm P ops nt (ops.toList.take k) e h n Kp)(hs:Sim B w0 ⟨e,h,n,nt⟩ a w m)(dh:∀(e':Env)(h':bD)(n':Nat),Kp e' h' n'->∀(f:Nat)(listed:Array Bool)(a:Act)(w:World)(m:Mm),listed.size=ops.size->Closed ops listed->(∀j,j<ops.size->(listed.getD j false=true↔j<k))->open_ listed<=f->Sim B w0 ⟨e',h',n',nt⟩ a w m->jN w0.r P .any ops Q f listed a w):(Code.region id ops true).wpT w0.r P Q a w:=by
 obtain⟨T,hK⟩:=zt _ _ _ _ hk
 have hlen:(ops.toList.take k).length=k:=by simp[hc.le]
 rw[hlen] at hK
 refine yL hm λw e1=>?_
 replace hs:=hs.move e1
 have h8:Sim B w0 ⟨e,h,n,nt⟩ a { w with drawn:=w.drawn+1 } m:=by
  have hb:Bel w.heap.size w { w with drawn:=w.drawn+1 }:=(Bel.refl _ _).drew;have hB:=hs.room;exact⟨hs.base,hs.below.trans (hb.mono hB),hs.defers,hs.size,λt=>(hs.env t).mono (Mm.le.refl m) (λ_ _ h=>h) (λb cj _=>hb.block b cj),hs.heap.below hb,hs.dom,hs.ids,hs.fr.mono (Mm.le.refl m) (λ_ _ h=>h) (λb cj _=>hb.block b cj) (bV _)⟩
 obtain⟨h1,h2,h3⟩:=Er (T:=T) hc.le h8.heap h8.dom h8.ids k (bV _)
 have hf:∀i,(Array.replicate ops.size false).getD i false=false:=by
  intro i;rw[dL,yg]
  split<;>rfl
 refine Et (T:=T) hc h3 (λf listed a w m=>dh _ _ _ hK f listed a w m) ops.size _ a _ m ae (λi o ho hl=>by rw[hf] at hl;cases hl) ?_ (λi _ _=>hf i) ⟨h8.base,h8.below,h8.defers,h8.size,h1,λid=>?_,(λi t hi hl=>by rw[hf] at hl;cases hl),λt _=>?_,by rw[h2];exact h8.fr⟩
 .unfold open_
  grind
 .rw[h8.dom];simp_all
 .rw[h2];exact h8.env t
theorem O5{id:Nat}{ops:Array Oper}(i:Nat)(g:FuncId)(hm:P.follows .mixedOrders=true)(ck:uy ops i=true)(co:i<ops.size){fn:Func}{c:Code}(ay:P.funcs[g]?=some fn) (h9:(fn.name == "runtime.NumGoroutine")=false) (hb:fn.body=some c) {f:Operand} {args:Array Operand} {tys:Array TypeId} (ho:(ops.toList.getD i default).op=.call { callee:=.value f,args:=args,argTypes:=tys }) (hk:gm P ops nt (ops.toList.take i) env h n λe' h' n'=>uO ri P ops nt (ops.toList.getD i default) (ops.toList.drop (i+1)) f g fn c args e' h' n' (λe3 h3 n3=>K .normal ⟨e3,h3,n3,nt⟩) (λe3 h3 n3=>Kd .normal ⟨e3,h3,n3,nt⟩) .it):fK k ri P (.region id ops true) ⟨env,h,n,nt⟩ K Kd:=by
 obtain⟨hc,bl⟩:=zw ck;intro B w0 a w m hs;refine O4 i hm hc hk hs (λe' h' n' hK f' listed a w m dm b6 hl ej hs=>?_);obtain⟨b8,hf,b7,aa,c3,hw⟩:=hK
 cases f' with
 |zero=>
  exfalso;have:=p9 (yf.1 ej) (i:=i) ab;have:=(hl i co).1 this;omega
 |succ f'=>
  have b':=qZ dm hc.down i co (by
   grind)
  refine⟨λcq=>absurd cq b',λx ey=>?_⟩;obtain⟨o,bn,cz,he⟩:=nQ dm ey;have dr:=(df.1 bn).1
  have f7:x=i:=by
   have h1:¬x<i:=λf9=>by
    have:=(hl x dr).2 f9;rw[dL,cz] at this;cases this
   rcases fq i x with h2|h2
   .have:=m8 b6 8 x i o bn he (bl x ab dr i h2);have:=(hl i co).1 this;omega
   .omega
  subst f7
  have ei:ops.toList.getD x default=o:=by
   rw[eu,jA,bn];rfl
  rw[ei] at ho c3 aa hw;unfold lD;rw[bn];simp only[];intro w e1;replace hs:=hs.move e1;rw[pY c3 hs];simp only[cD]
  have dz:∀j,j<ops.size->((listed.setIfInBounds x true).getD j false=true↔j<x+1):=λj hj=>by
   by_cases f8:x=j
   .simp_all
   .rw[getD_set_ne false f8,hl j hj];omega
  refine jZ (λc e=>by rw[ho] at e;cases e) (G7 o f args tys ho hf ay h9 hb b7 hw hs aa _ _ (λv h' n' a' w' m' d9 h8=>?_) (λw1 v h' n' a' w' m' fb d9 h8=>?_))
  .exact vN (Kr:=λa6 a9 ag=>K .normal ⟨a6,a9,ag,nt⟩) (λe' h' n' a' w' m' ax a5=>.inl ⟨_,m',ax,a5⟩) hc.down bl f' (x+1) (listed.setIfInBounds x true) _ _ _ a' w' m' ab ab ak (b6.set bn he) dz (by have:=pZ cz;omega) d9 h8
  .have:=vN (w0:=w1) (Kr:=λa6 a9 ag=>Kd .normal ⟨a6,a9,ag,nt⟩) (Q:=λe a' w'=>(∃st' m',K e st'/\Sim B w0 st' a' w' m')\/∃w1:Ctx ⟨k,none⟩,qN w0 w1/\∃st' m',Kd e st'/\Sim B w1 st' a' w' m') (λe' h' n' a' w' m' ax a5=>.inr ⟨w1,fb,_,m',ax,a5⟩) hc.down bl f' (x+1) (listed.setIfInBounds x true) _ _ _ a' w' m' ab ab ak (b6.set bn he) dz (by have:=pZ cz;omega) d9 h8;rw[fb.2.2.1] at this;exact this
end
section
variable{fk:Fk}{P:Program}{K:Exit->St->Prop}{st:St}
theorem O6{c:Code}{α:Type}(J:α->Prop)(I:α->St)(μ:α->Nat)(x0:α)(hJ:J x0)(h0:Lek fk st (I x0))(round:∀x,J x->fT fk P c (I x) (lK fk J I μ x K)):fT fk P (.loop c) st K:=by
 intro B w0 a w m hr hd hs;refine yK (λk a w=>∃(w1:Ctx fk)(x:α)(m:Mm),w1.w=w0.w/\w1.r=none/\qO w1/\J x/\μ x=k/\Sim B w1 (I x) a w m) (μ x0) aQ ?_
 rintro k a w ⟨w1,x,m,g1,g2,g3,hx,rfl,ep⟩
 refine fo (round x hx B w1 a w m g2 g3 ep) (λe a' w' ⟨w2,st',m',k1,k2,k3,h2,h3⟩=>?_)
 cases e<;>first
  |exact⟨w2,st',m',k1.trans g1,k2,k3,h2,h3⟩
  |(obtain⟨y,hy,b5,hle⟩:=h2
    obtain⟨bu,h4⟩:=hle B w2 a' w' m' h3
    exact⟨μ y,b5,w2,y,bu,k1.trans g1,k2,k3,hy,rfl,h4⟩)
theorem BB{c:Operand}{x y:Code}{o f b:Bool}(hv:ev st.env c=.w o f (.bool b))(h:fT fk P (bif b then x else y) st K):fT fk P (.cond c x y) st K:=by
 intro B w0 a w m hr hd hs;have hc:bI B (LB m st.heap) m w (ev st.env c) (a.eval c):=mY c (λt _=>hs.env t);rw[hv] at hc;refine ve hc.kn ?_;cases b
 .exact h B w0 a w m hr hd hs
 .exact h B w0 a w m hr hd hs
end
end Go.Fi
namespace Go.Fi
open Go Go.RowKit
variable[bJ]
variable{fk:Fk}
def CU(D:List Nat)(h:bD)(n n':Nat)(x y:AV):Prop:=
 match x,y with
 |.agg a,.agg b=>iq D h n n' a b
 |_,_=>False
def qP(P:Program)(rs:List ResultVar)(c0:Nat)(E:List (List AV))(v:AV)(D:List Nat)(st:St):Prop:=
 match jW P st.env st.heap rs with
 |some (vs,c)=>c/\(oF D st.heap st.nxt (c0+E.length) (oneOf vs) (v.sh c0)\/CU D st.heap st.nxt (c0+E.length) (oneOf vs) (v.sh c0))/\nH D st.heap st.nxt (c0+E.length) (db [] c0 (E.map (AV.sh.shL c0)))
 |none=>False
def mkK(P:Program)(rs:List ResultVar)(c0:Nat)(E:List (List AV))(v:AV)(D:List Nat):Exit->St->Prop
 |.normal,s=>qP P rs c0 E v D s
 |.ret,s=>qP P rs c0 E v D s
 |_,_=>False
omit [bJ] in
@[simp ↓]theorem Za(P:Program)(rs:List ResultVar)(c0:Nat)(E:List (List AV))(v:AV)(D:List Nat)(s:St):mkK P rs c0 E v D .normal s=qP P rs c0 E v D s:=rfl
omit [bJ] in
@[simp ↓]theorem Zb(P:Program)(rs:List ResultVar)(c0:Nat)(E:List (List AV))(v:AV)(D:List Nat)(s:St):mkK P rs c0 E v D .ret s=qP P rs c0 E v D s:=rfl
section
variable{B:Base}{L:Nat->Prop}{m mm:Mm}{w:World}
omit [bJ] in
theorem bI.down{c:Nat}(hd:∀i,m.dom (i+c)->mm.dom i)(ht:∀i,mm.top i=m.top (i+c))(ha:∀i ver,mm.addr i ver=m.addr (i+c) ver){y:AV}{u:Value}(h:bI B L m w y u):∀x:AV,x.sh c=y->bI B L mm w x u:=by
 induction h with
 |@w own full p v hr hf=>
  intro x e
  cases x with
  |w o f q=>simp only[Sj,AV.w.injEq] at e;obtain⟨rfl,rfl,rfl⟩:=e;exact .w hr hf
  |_=>simp[AV.sh] at e
 |@ptr id ver off b C c7 dp dx fj=>
  intro x e
  cases x with
  |ptr i v o=>simp only[NT,AV.ptr.injEq] at e;obtain⟨rfl,rfl,rfl⟩:=e;exact .ptr (hd _ c7) (by rw[ht];exact dp) (by rw[ha];exact dx) fj
  |_=>simp[AV.sh] at e
 |@mp id b c7 dp dx=>
  intro x e
  cases x with
  |mp i=>simp only[AV.sh,AV.mp.injEq] at e;subst e;exact .mp (hd _ c7) (by rw[ht];exact dp) (by rw[ha];exact dx)
  |_=>simp[AV.sh] at e
 |@msl id ver sz off n cap a c7 dp hn h0 h1=>
  intro x e
  cases x with
  |msl i v s o k=>simp only[NU,AV.msl.injEq] at e;obtain⟨rfl,rfl,rfl,rfl,rfl⟩:=e;exact .msl (hd _ c7) (by rw[ht];exact dp) hn (λe=>h0 (by rw[<-ha];exact e)) (λb C e=>h1 b C (by rw[<-ha];exact e))
  |_=>simp[AV.sh] at e
 |@agg cs vs hl _ ih=>
  intro x e
  cases x with
  |agg ds=>
   simp only[NV,AV.agg.injEq,ia] at e;subst e;exact .agg ak (λj p v hp hv=>ih j (p.sh c) v (by rw[jk,hp];rfl) hv p rfl)
  |_=>simp[AV.sh] at e
 |@tup cs vs hl _ ih=>
  intro x e
  cases x with
  |tup ds=>
   simp only[NW,AV.tup.injEq,ia] at e;subst e;exact .tup ak (λj p v hp hv=>ih j (p.sh c) v (by rw[jk,hp];rfl) hv p rfl)
  |_=>simp[AV.sh] at e
 |@fn f cs vs hl _ ih=>
  intro x e
  cases x with
  |fn g ds=>
   simp only[AV.sh,AV.fn.injEq,ia] at e;obtain⟨rfl,rfl⟩:=e;exact .fn ak (λj p v hp hv=>ih j (p.sh c) v (by rw[jk,hp];rfl) hv p rfl)
  |_=>simp[AV.sh] at e
omit [bJ] in
theorem GU(c:Nat):∀(E:List (List AV))(n:Nat),db [] (n+c) (E.map (AV.sh.shL c))=(db [] n E).map λp=>(p.1+c,AV.sh.shL c p.2)
 |[],n=>rfl
 |x::E,n=>by
  simp only[oK,db];rw[show n+c+1=(n+1)+c by omega,GU c E (n+1)]
end
theorem xk{P:Program}{f:FuncId}{fn:Func}{c:Code}{args:List PV}{E:List (List AV)}{v:AV}(c0:Nat)(D:List Nat)(hf:P.funcs[f]?=some fn) (h9:(fn.name == "runtime.NumGoroutine")=false) (hb:fn.body=some c) (b7:args.length<=fn.ntmps) (hv:v.frs=true) (hE:∀c∈E,AV.frs.mq c=true) (h:cX fk0 P c ⟨ji 0 args,[],0,fn.ntmps⟩ (mkK P fn.results.toList c0 E v D)):og P f args E v:=by
 refine⟨⟨fn,hf,h9,by rw[hb];rfl⟩,hv,hE,λG w vs eg hlen ct=>?_⟩;refine vg hf hb ?_
 have a5:Sim ⟨w.heap.size,G⟩ (⟨w,[],none,[],[],λri h=>au,eg⟩:Ctx fk0) ⟨ji 0 args,[],0,fn.ntmps⟩ { tmps:=vs++Array.replicate (fn.ntmps-vs.size) undef,defers:=[] } w ⟨λ_ _=>none,λ_=>0,λ_=>False⟩:=by
  refine⟨rfl,Bel.refl _ _,rfl,ar,λt=>?_,⟨λid cells hin=>(by cases hin),List.Pairwise.nil⟩,λi=>⟨λh=>h.elim,λh=>absurd h (Ja i)⟩,λid c hin=>(by cases hin),cG _,(λp hp=>by cases hp),λq hq=>by cases hq⟩;show bI _ _ _ _ (get (ji 0 args) t) _;rw[wW];split
  .rename_i ht
   have b5:t<args.length:=ab
   refine .w ?_ nofun
   have:(vs++Array.replicate (fn.ntmps-vs.size) undef).getD t undef=vs[t]'ab:=by
    rw[dL,sV ab,dM ab];rfl
   rw[this]
   refine (ct t _ _ al (dM ab)).imp λb hg=>⟨?_,nofun,λ_=>hg⟩
   rintro⟨id,cells,C,hin,_⟩
   cases hin
  .exact .w (.undef _) nofun
 refine fo (h _ _ _ _ _ a5) (λe a' w' ⟨st',m',hk,hs⟩=>?_)
 have main:qP P fn.results.toList c0 E v D st'->a'.defers=[]/\∀w1,EnvD.E w' w1->∃r,(results fn a'.tmps).run P w1=.ok r w1/\∃u mm,Ending.returned r=.returned u/\Bel w.heap.size w w1/\(∀i,mm.dom i↔i<E.length)/\dc ⟨w.heap.size,G⟩ (db [] 0 E) mm w1/\bI ⟨w.heap.size,G⟩ (LB mm (db [] 0 E)) mm w1 v u:=by
  intro hr;refine⟨hs.defers,λw' e1=>?_⟩;replace hs:=hs.move e1;unfold qP at hr;split at hr
  .rename_i ba d bf;obtain⟨hd,b6,g7⟩:=hr;obtain⟨us,h1,h2,h3⟩:=rq hs _ _ _ bf hd
   have aq:(results fn a'.tmps).run P w'=.ok (if h:us.toArray.size=1 then us.toArray[0] else .tuple us.toArray) w':=by
    have he:results fn a'.tmps=(do
     let vs <-fn.results.mapM (pH a'.tmps)
     pure (if h:vs.size=1 then vs[0] else .tuple vs)):=rfl
    rw[he,sN];simp only[Sem.run_bind,Sem.run_map,h1,Result.andThen_ok,Sem.run_pure]
   have bh:bI ⟨w.heap.size,G⟩ (LB m' st'.heap) m' w' (oneOf ba) (if h:us.toArray.size=1 then us.toArray[0] else .tuple us.toArray):=by
    have tupc:ba.length≠1->bI ⟨w.heap.size,G⟩ (LB m' st'.heap) m' w' (.tup ba) (if h:us.toArray.size=1 then us.toArray[0] else .tuple us.toArray):=by
     intro b';rw[dif_neg ar];exact .tup (by simpa using h2) (λj p u hp hu=>h3 j p u hp (by simpa using hu))
    match ba,h2,h3,tupc with
    |[],h2,h3,tupc=>exact tupc ae
    |[v],h2,h3,tupc=>
     obtain⟨u,rfl⟩:∃u,us=[u]:=Dk.1 aV;exact h3 0 v u rfl rfl
    |v::v2::r,h2,h3,tupc=>exact tupc ae
   obtain⟨m2,bk,c6⟩:=Gz (env':=[]) (h':=db [] c0 (E.map (AV.sh.shL c0))) (n':=c0+E.length) D trivial g7 (cG _) hs
   have hu:bI ⟨w.heap.size,G⟩ (LB m2 (db [] c0 (E.map (AV.sh.shL c0)))) m2 w' (v.sh c0) (if h:us.toArray.size=1 then us.toArray[0] else .tuple us.toArray):=by
    clear aq;generalize (if h:us.toArray.size=1 then us.toArray[0] else .tuple us.toArray)=uv at bh ⊢
    rcases b6 with b6|b6
    .exact c6 _ _ _ b6 bh
    .unfold CU at b6;split at b6
     .rename_i a b ea eb;rw[ea] at bh;rw[eb];obtain⟨hl,hc⟩:=tV b6
      cases bh with
      |agg h1 h2=>
       refine .agg ab (λj p u hp hu=>?_);obtain⟨x,hx,gg⟩:=hc j p hp;exact c6 _ _ _ gg (h2 j x u hx hu)
     .exact b6.elim
   have b9:∀i,m2.dom i↔i<c0+E.length:=bk.dom
   have hEq:db [] c0 (E.map (AV.sh.shL c0))=(db [] 0 E).map λp=>(p.1+c0,AV.sh.shL c0 p.2):=by
    have:=GU c0 E 0
    rwa [eo] at this
   refine⟨_,aq,_,⟨λid ver=>m2.addr (id+c0) ver,λid=>m2.top (id+c0),λid=>id<E.length⟩,rfl,hs.below,λi=>Iff.rfl,?_⟩
   have de:∀k cl,(k,cl)∈db [] 0 E->(k+c0,AV.sh.shL c0 cl)∈db [] c0 (E.map (AV.sh.shL c0)):=λk cl hin=>by
    rw[hEq];exact gA.2 ⟨(k,cl),hin,rfl⟩
   have b5:∀k cl,(k,cl)∈db [] 0 E->k<E.length:=λk cl hin=>by
    rcases (zl E [] 0 k cl).1 hin with h|⟨j,h,rfl⟩
    .cases h
    .have:=(fu.1 h).1;omega
   have hLB:LB (⟨λid ver=>m2.addr (id+c0) ver,λid=>m2.top (id+c0),λid=>id<E.length⟩:Mm) (db [] 0 E)=LB m2 (db [] c0 (E.map (AV.sh.shL c0))):=by
    funext b
    refine propext ⟨?_,?_⟩
    .rintro⟨id,cl,C,hin,hd,ha⟩
     have hl:=b5 _ _ hin;exact⟨id+c0,AV.sh.shL c0 cl,C,de _ _ hin,(b9 _).2 ab,by rw[ia,iV];exact ha⟩
    .rintro⟨id,cl,C,hin,hd,ha⟩
     rw[hEq] at hin;obtain⟨⟨k,c1⟩,h4,h5⟩:=gA.1 hin
     injection h5 with h5 h6
     subst h5;subst h6;rw[ia,iV] at ha;exact⟨k,c1,C,h4,b5 _ _ h4,ha⟩
   rw[hLB]
   have fh:∀{x:AV}{u:Value},bI ⟨w.heap.size,G⟩ (LB m2 (db [] c0 (E.map (AV.sh.shL c0)))) m2 w' (x.sh c0) u->bI ⟨w.heap.size,G⟩ (LB m2 (db [] c0 (E.map (AV.sh.shL c0)))) ⟨λid ver=>m2.addr (id+c0) ver,λid=>m2.top (id+c0),λid=>id<E.length⟩ w' x u:=
    λ{x u} hr=>bI.down (c:=c0) (λi hd=>by have:=(b9 _).1 hd;show i<E.length;omega) (λi=>rfl) (λi ver=>rfl) hr x rfl
   refine⟨⟨λid cl hin hd=>?_,?_⟩,fh hu⟩
   .rw[hLB];have hl:=b5 _ _ hin;obtain⟨e1,e2⟩:=bk.heap.entry (id+c0) (AV.sh.shL c0 cl) (de _ _ hin) ((b9 _).2 ab)
    have hlen:(AV.sh.shL c0 cl).length=cl.length:=by rw[ia,iV]
    rw[hlen] at e1 e2;refine⟨e1,?_⟩
    rcases e2 with ⟨e3,e4⟩|⟨b,C,cs,e,f1,f2,f3,f4,f5,f6⟩|⟨b,es,clk,f1,f2,f3,f4,f5⟩
    .exact .inl ⟨e3,by rw[ia] at e4;simpa using e4⟩
    .exact .inr (.inl ⟨b,C,cs,e,f1,f2,f3,f4,f5,λj p u hp hu=>fh (f6 j (p.sh c0) u (by rw[ia,jk,hp];rfl) hu)⟩)
    .exact .inr (.inr ⟨b,es,clk,f1,by rw[<-Ed];exact f2,f3,f4,λl hl=>f5 l (J9 hl)⟩)
   .have hi:=bk.heap.inj;rw[show (St.heap ⟨[],db [] c0 (E.map (AV.sh.shL c0)),c0+E.length,fn.ntmps⟩)=_ from hEq,List.pairwise_map] at hi;refine sL ?_ hi;intro x y hx hy ⟨b',gi⟩;refine⟨λe=>b' (by rw[e]),λb C C' gu gv fp ft=>?_⟩;have h1:=b5 x.1 x.2 hx;have h2:=b5 y.1 y.2 hy
    have l1:(AV.sh.shL c0 x.2).length=x.2.length:=by rw[ia,iV]
    have l2:(AV.sh.shL c0 y.2).length=y.2.length:=by rw[ia,iV]
    exact gi b C C' ((b9 _).2 ab) ((b9 _).2 ab) (by rw[l1];exact fp) (by rw[l2];exact ft)
  trivial
 cases e<;>first|exact main hk|exact hk.elim
omit [bJ] in
@[simp ↓]theorem Zc(h:bD)(n:Nat)(K:AV->bD->Nat->Prop)(v:AV)(c:List AV)(E:List (List AV)):eK h n K v (c::E)=K v ((n,c)::db h (n+1) E) (n+(E.length+1)):=by rfl
attribute [simp] qP CU AV.frs AV.frs.mq
section
variable{D:List Nat}{h r s:bD}{n n' b k t len:Nat}{c x:List AV}{L:List (List AV)}
section
omit [bJ]
@[simp]theorem Zd(h:bD)(n:Nat)(c:List AV)(E:List (List AV)):db h n (c::E)=(n,c)::db h (n+1) E:=rfl
theorem GV:∀(L:List (List AV))(r:bD)(b t:Nat),cV (db r b L) t=if b<=t/\t<b+L.length then some (nth L (t-b)) else cV r t
 |[],r,b,t=>by simp[db];intros;omega
 |c::L,r,b,t=>by
  simp only[db,cV,gw];by_cases h:b=t
  .subst h;rw[bX rfl,bX ⟨bV _,ab⟩,Nat.sub_self];rfl
  .rw[bH h,GV L r (b+1) t];by_cases h2:b+1<=t/\t<b+1+L.length
   .rw[bX h2,bX ⟨ab,ab⟩,show t-b=(t-(b+1))+1 by omega];rfl
   .rw[bH h2,bH ab]
@[simp]theorem OM(h:t<b):cV (db r b L) t=cV r t:=by rw[GV,bH ab]
end
def Sz(h:bD)(b len:Nat):Prop:=∀i,i<len->cV h (i+b)=none
def SB(D:List Nat)(h:bD)(n n' b:Nat)(L:List (List AV)):Prop:=∀i,i<L.length->jy D h n n' (i+b) (nth L i)
omit [bJ] in
theorem GW:∀(L:List (List AV))(r:bD)(b:Nat),nH D h n n' (db r b L)=(SB D h n n' b L/\Sz r b L.length/\nH D h n n' r)
 |[],r,b=>by
  refine propext ⟨λhh=>⟨λi hi=>by simp at hi,λi hi=>by simp at hi,hh⟩,λhh=>hh.2.2⟩
 |c::L,r,b=>by
  show (jy D h n n' b c/\cV (db r (b+1) L) b=none/\nH D h n n' (db r (b+1) L))=_;rw[GW L r (b+1),OM (yj b)];refine propext ⟨λ⟨h1,h2,h3,h4,h5⟩=>⟨λi hi=>?_,λi hi=>?_,h5⟩,λ⟨h1,h2,h3⟩=>⟨?_,?_,λi hi=>?_,λi hi=>?_,h3⟩⟩
  .cases i with
   |zero=>rw[eo];exact h1
   |succ i=>
    have:=h3 i aM;rw[show i+1+b=i+(b+1) by omega];exact this
  .cases i with
   |zero=>rw[eo];exact h2
   |succ i=>rw[show i+1+b=i+(b+1) by omega];exact h4 i aM
  .have:=h1 0 ae;rwa [eo] at this
  .have:=h2 0 ae;rwa [eo] at this
  .have:=h1 (i+1) aM;rw[show i+1+b=i+(b+1) by omega] at this;exact this
  .have:=h2 (i+1) aM
   rwa [show i+1+b=i+(b+1) by omega] at this
attribute [simp] GW
end
def ms1(b:Nat):List Nat->List AV
 |[]=>[]
 |k::r=>.msl b k 1 0 k::ms1 (b+1) r
section
omit [bJ]
@[simp]theorem Ze(b:Nat):ms1 b []=[]:=rfl
@[simp]theorem Zf{α β:Type}[Inhabited α][Inhabited β](f:α->β)(l:List α)(i:Nat)(h:i<l.length):nth (l.map f) i=f (nth l i):=by
 simp[nth,eu,dY h]
@[simp]theorem Zg{α:Type}[Inhabited α](x:α)(k i:Nat)(h:i<k):nth (List.replicate k x) i=x:=by
 simp[nth,eu,List.getElem?_replicate,h]
end
end Go.Fi
namespace Go.Fi
open Go Go.RowKit
variable[bJ]
section
variable{fk:Fk}{P:Program}{K:Exit->St->Prop}{st:St}{c:Code}
def mT(R:St->Prop)(K:Exit->St->Prop):Exit->St->Prop
 |.normal,s=>R s
 |e,s=>K e s
def unr(fk:Fk)(P:Program)(c:Code)(K:Exit->St->Prop):Nat->St->Prop
 |0,_=>False
 |n+1,s=>cX fk P c s (mT (unr fk P c K n) K)
theorem jL(n:Nat)(h:unr fk P c K n st):cX fk P (.loop c) st K:=by
 refine zq (λx:Nat×St=>unr fk P c K x.1 x.2) (·.2) (·.1) (n,st) h (λB w0 a w m hs=>⟨m,hs⟩) ?_
 rintro⟨k,s⟩ hk
 cases k with
 |zero=>exact hk.elim
 |succ k=>
  refine tj hk (λe s' h'=>?_)
  cases e<;>first|exact h'|exact⟨(k,s'),h',yj k,λB w0 a w m hs=>⟨m,hs⟩⟩
theorem jX{n:Nat}(h:cX fk P c st (mT (unr fk P c K n) K)):unr fk P c K (n+1) st:=h
section
omit [bJ]
@[simp ↓]theorem ZO(R:St->Prop)(s:St):mT R K .normal s=R s:=rfl
@[simp ↓]theorem ZP(R:St->Prop)(s:St):mT R K .ret s=K .ret s:=rfl
@[simp ↓]theorem ZQ(R:St->Prop)(i:Nat)(s:St):mT R K (.exit i) s=K (.exit i) s:=rfl
@[congr] theorem ZR{R:St->Prop}{K:Exit->St->Prop}{e e':Exit}{s s':St}(h:e=e')(h2:s=s'):mT R K e s=mT R K e' s':=by rw[h,h2]
end
@[congr] theorem ZS{n:Nat}{s s':St}(h:s=s'):unr fk P c K n s=unr fk P c K n s':=by rw[h]
omit [bJ] in
theorem gP{k:IntKind}{n:Int}(h:(decide (k.min<=n)&&decide (n<=k.max))=true):inI k n:=by simpa[inI] using h
theorem BG{env:Env}{h:bD}{n nt:Nat}:Lek fk ⟨env,h,n,nt⟩ ⟨[],h,n,nt⟩:=
 λB w0 a w m hs=>⟨m,hs.base,hs.below,hs.defers,hs.size,λt=>.w (.undef _) nofun,hs.heap,hs.dom,hs.ids,hs.fr⟩
theorem Ha{k:Nat}{K:bD->Nat->Prop}{env:Env}{h:bD}{n nt:Nat}(hk:K h n):sB k K .normal ⟨env,h,n,nt⟩:=Bw h n nt BG hk
theorem O7{k:Nat}{K Kl:bD->Nat->Prop}{env:Env}{h:bD}{n nt:Nat}(hk:K h n):pL k K Kl .normal ⟨env,h,n,nt⟩:=Oa h n nt BG hk
theorem O8{k:Nat}{K Kl:bD->Nat->Prop}{env:Env}{h:bD}{n nt:Nat}(hk:Kl h n):pL k K Kl .ret ⟨env,h,n,nt⟩:=Ob h n nt BG hk
end
section
variable{fk:Fk}{P:Program}{K Kd:Exit->St->Prop}{st:St}{c x y:Code}{k:Nat}{ri:RI}{v:Operand}{o f:Bool}
def qR(fk:Fk)(P:Program)(c:Code)(K:Exit->St->Prop):Nat->St->Prop
 |0,_=>False
 |n+1,s=>fT fk P c s (mT (qR fk P c K n) K)
theorem Hg(n:Nat)(h:qR fk P c K n st):fT fk P (.loop c) st K:=by
 refine O6 (λx:Nat×St=>qR fk P c K x.1 x.2) (·.2) (·.1) (n,st) h (λB w0 a w m hs=>⟨m,hs⟩) ?_
 rintro⟨k,s⟩ hk
 cases k with
 |zero=>exact hk.elim
 |succ k=>
  refine Oe hk (λe s' h'=>?_)
  cases e<;>first|exact h'|exact⟨(k,s'),h',yj k,λB w0 a w m hs=>⟨m,hs⟩⟩
theorem Hh{n:Nat}(h:fT fk P c st (mT (qR fk P c K n) K)):qR fk P c K (n+1) st:=h
@[congr] theorem ZT{n:Nat}{s s':St}(h:s=s'):qR fk P c K n s=qR fk P c K n s':=by rw[h]
theorem Hi(hv:ev st.env v=.w o f (.bool true))(h:fT fk P x st K):fT fk P (.cond v x y) st K:=BB hv h
theorem Hj(hv:ev st.env v=.w o f (.bool false))(h:fT fk P y st K):fT fk P (.cond v x y) st K:=BB hv h
def qS(k:Nat)(ri:RI)(P:Program)(c:Code)(K Kd:Exit->St->Prop):Nat->St->Prop
 |0,_=>False
 |n+1,s=>fK k ri P c s (mT (qS k ri P c K Kd n) K) (qQ Kd)
theorem Pj(n:Nat)(h:qS k ri P c K Kd n st):fK k ri P (.loop c) st K Kd:=by
 refine OX (λx:Nat×St=>qS k ri P c K Kd x.1 x.2) (·.2) (·.1) (n,st) h (λB w0 a w m hs=>⟨m,hs⟩) ?_
 rintro⟨j,s⟩ hk B w0 a w m hs
 cases j with
 |zero=>exact hk.elim
 |succ j=>
  refine fo (hk B w0 a w m hs) (λe a' w' hq=>?_)
  rcases hq with ⟨st',m',h1,h2⟩|h
  .refine .inl ⟨st',m',?_,h2⟩
   cases e<;>first|exact h1|exact⟨(j,st'),h1,yj j,λB w0 a w m hs=>⟨m,hs⟩⟩
  grind
theorem Pk{n:Nat}(h:fK k ri P c st (mT (qS k ri P c K Kd n) K) (qQ Kd)):qS k ri P c K Kd (n+1) st:=h
@[congr] theorem ZU{n:Nat}{s s':St}(h:s=s'):qS k ri P c K Kd n s=qS k ri P c K Kd n s':=by rw[h]
theorem Pl(hv:ev st.env v=.w o f (.bool true))(h:fK k ri P x st K Kd):fK k ri P (.cond v x y) st K Kd:=G8 hv h
theorem Pm(hv:ev st.env v=.w o f (.bool false))(h:fK k ri P y st K Kd):fK k ri P (.cond v x y) st K Kd:=G8 hv h
end
end Go.Fi
