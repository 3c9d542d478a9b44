/- Lemmas. -/
import Derived.Test.YthpkmilhiganjaaGreatPLf
import Derived.Test.YthpkmilhiganjaaGreatPLd
set_option linter.all false
set_option maxHeartbeats 32000000
set_option maxRecDepth 100000
namespace Go.Fi
open Go Go.RowKit
variable[bI]
variable{fk:Fk}
def gd:Nat->List AV->Env
 |_,[]=>[]
 |i,v::r=>(i,v)::gd (i+1) r
section
omit [bI]
@[simp]theorem Ze(i:Nat):gd i []=[]:=rfl
@[simp]theorem Zf(i:Nat)(v:AV)(r:List AV):gd i (v::r)=(i,v)::gd (i+1) r:=rfl
theorem BN:∀(l:List AV)(i t:Nat),get (gd i l) t=if i<=t/\t<i+l.length then l.getD (t-i) (.w false false .undef) else .w false false .undef
 |[],i,t=>by simp
 |p::r,i,t=>by
  simp only[gd,get];by_cases h:i=t
  .subst h;simp
  .simp only[h,cT];rw[BN r (i+1) t]
   grind
end
def gC(P:Program)(rs:List ResultVar)(st:St)(K:AV->bE->Nat->Prop):Prop:=
 match jZ P st.env st.heap rs with
 |some (vs,c)=>c/\K (oneOf vs) st.heap st.nxt
 |none=>False
def iG(P:Program)(rs:List ResultVar)(K:AV->bE->Nat->Prop):Exit->St->Prop
 |.normal,s=>gC P rs s K
 |.ret,s=>gC P rs s K
 |_,_=>False
omit [bI] in
@[simp ↓]theorem Zg(P:Program)(rs:List ResultVar)(K:AV->bE->Nat->Prop)(s:St):iG P rs K .normal s=gC P rs s K:=rfl
omit [bI] in
@[simp ↓]theorem Zh(P:Program)(rs:List ResultVar)(K:AV->bE->Nat->Prop)(s:St):iG P rs K .ret s=gC P rs s K:=rfl
section
variable{P:Program}{B:Base}{m:Mm}{w:World}{h:bE}{n:Nat}{env:Env}{a:Act}{L:Nat->Prop}
section
omit [bI]
theorem xB{n:Nat}:∀{cs:List AV},(∀(j:Nat)(x:AV),cs[j]?=some x->x.lt n=true)->AV.lt.ltL n cs=true
 |[],_=>rfl
 |x::r,h=>by
  simp only[AV.lt.ltL,eY];exact⟨h 0 x rfl,xB λj y hy=>h (j+1) y ak⟩
theorem bJ.Dr{x:AV}{v:Value}(h:bJ B L m w x v)(hd:∀i,m.dom i->i<n):x.lt n=true:=by
 induction h with
 |w _ _=>rfl
 |ptr cg _ _ _=>simp_all
 |mp cg _ _=>simp_all
 |msl cg _ _ _ _=>simp_all
 |@agg cs vs hl _ ih=>
  simp only[AV.lt]
  refine xB λj y hy=>?_
  have hj:j<vs.size:=by have:=(eX.1 hy).1;omega
  exact ih j y _ hy (du hj)
 |@tup cs vs hl _ ih=>
  simp only[AV.lt]
  refine xB λj y hy=>?_
  have hj:j<vs.size:=by have:=(eX.1 hy).1;omega
  exact ih j y _ hy (du hj)
 |@fn f cs vs hl _ ih=>
  simp only[AV.lt]
  refine xB λj y hy=>?_
  have hj:j<vs.size:=by have:=(eX.1 hy).1;omega
  exact ih j y _ hy (du hj)
theorem uE:∀(env:Env)(t:Nat),(∃v,(t,v)∈env)\/get env t=.w false false .undef
 |[],_=>.inr rfl
 |(k,v)::r,t=>by
  simp only[get];by_cases h:k=t
  .simp_all
  .rcases uE r t with ⟨u,hu⟩|hu
   .exact .inl ⟨u,eH _ hu⟩
   simp_all
end
def yg(P:Program)(B:Base){fk:Fk}(w0:Ctx fk)(env:Env)(a:Act)(n nt:Nat)(o:Oper)(fn:Func)(K':Act->World->Prop)(e:Exit)(a':Act)(w':World):Prop:=
 (e=.normal\/e=.ret)/\∃(bf fk2:Fk)(w1:Ctx bf)(w2:Ctx fk2)(st':St)(m':Mm)(KV:AV->bE->Nat->Prop),bf.k=n/\fk2.k=fk.k/\w1.w=w0.w/\w1.F=w0.F++(env.map λp=>(get env p.1,a.tmps.getD p.1 undef))/\w1.ds=[] /\
  w2.w=w0.w/\w2.F=w0.F/\w2.ds=w0.ds/\(∀q∈w2.obs,q∈w1.obs)/\Sim B w1 st' a' w' m'/\gC P fn.results.toList st' KV/\∀v h' n' a' w' m',KV v h' n'->Sim B w2 ⟨put env o.dst v,h',n',nt⟩ a' w' m'->K' a' w'
theorem Hj{w0:Ctx fk}{nt:Nat}(o:Oper)(f:Operand)(args:Array Operand)(tys:Array TypeId)(ho:o.op=.call { callee:=.value f,args:=args,argTypes:=tys }){g:FuncId}{bY:List AV}(hf:ga (ev env f)=some (g,bY)){fn:Func}{c:Code}(ay:P.funcs[g]?=some fn) (h9:(fn.name == "runtime.NumGoroutine")=false) (hb:fn.body=some c) (bh:(args.toList.map (ev env)++bY).length<=fn.ntmps) (r:Option RI) (d4:∀ri,r=some ri->fk.ri=some ri) (Q:Exit->Act->World->Prop) (K':Act->World->Prop) (hw:∀(w1:Ctx ⟨n,r⟩)(a1:Act),w1.w=w0.w->w1.F=w0.F++(env.map λp=>(get env p.1,a.tmps.getD p.1 undef))->w1.r=none->w1.obs=w0.obs->w1.ds=[]->Sim B w1 ⟨gd 0 (args.toList.map (ev env)++bY),h,n,fn.ntmps⟩ a1 w m->c.wpT none P (yg P B w0 env a n nt o fn K') a1 w) (hs:Sim B w0 ⟨env,h,n,nt⟩ a w m) (a5:dOk nt o.dst):o.wpt P a w K' Q:=by
 have ei:∀x:Operand,bJ B (LB m h) m w (ev env x) (a.eval x):=λx=>ma x (λt _=>hs.env t)
 have bq:=ei f
 have ex:∃cv:Array Value,a.eval f=.func (.func g) #[] cv/\bY.length=cv.size/\∀(j:Nat)(p:AV)(v:Value),bY[j]?=some p->cv[j]?=some v->bJ B (LB m h) m w p v:=by
  unfold ga at hf;split at hf
  .rename_i g' bt e
   injection hf with hf;injection hf with h1 h2;subst h1;subst h2
   rw[e] at bq;generalize hv:a.eval f=vf at bq
   cases bq with|fn h1 h2=>grind
  .rename_i own f' g' bt e
   injection hf with hf;injection hf with h1 h2;subst h1;subst h2
   rw[e] at bq;generalize hv:a.eval f=vf at bq
   cases bq with
   |w h1 _=>
    cases h1 with
    |fn h1 h2=>
     refine⟨_,rfl,ak,λj p v hp hv=>?_⟩;obtain⟨q,hq,rfl⟩:=fX hp;exact .w (h2 j q v hq hv) nofun
  .cases hf
 obtain⟨cv,dk,b9,gu⟩:=ex
 have d6:∀(j:Nat)(x:AV)(v:Value),(args.toList.map (ev env)++bY)[j]?=some x->(args.map a.eval++cv)[j]?=some v->bJ B (LB m h) m w x v:=by
  grind
 have hlen:(args.toList.map (ev env)++bY).length=(args.map a.eval++cv).size:=by simp[b9]
 generalize fq:args.map a.eval++cv=vs at d6 hlen;generalize gi:args.toList.map (ev env)++bY=avs at d6 hlen bh hw
 have a9:(execOp a.eval o).run P w=.ok (.enter g vs) w:=by
  have dy:¬fn.name = "runtime.NumGoroutine" := by simp_all
  simp[execOp,ho,resolve,dk,Deferred.ofValue,invoke,callFunc,ay,dy,hb,<-fq]
 unfold Oper.wpt;rw[a9,Oper.xL]
 have bg:∀i,m.dom i->i<n:=λi hd=>(hs.dom i).1 hd
 refine vR ay hb ?_
 have a6:Sim B (⟨w0.w,w0.F++env.map λp=>(get env p.1,a.tmps.getD p.1 undef),none,w0.obs,[],λri h=>(let ⟨fn,T,D,h1,h2,h3⟩:=w0.dm ri (d4 ri h);⟨fn,T,D,h1,h2,λt v ht=>iV.2 (.inl (h3 t v ht))⟩),w0.ok⟩:Ctx ⟨n,r⟩) ⟨gd 0 avs,h,n,fn.ntmps⟩ { tmps:=vs++Array.replicate (fn.ntmps-vs.size) undef,defers:=[] } w m:=by
  refine⟨hs.base,hs.below,rfl,ar,λt=>?_,hs.heap,hs.dom,hs.ids,bS _,λp hp=>?_,hs.fr.2.2⟩
  .show bJ _ _ _ _ (get (gd 0 avs) t) _;rw[BN];split
   .rename_i ht
    have b6:t<avs.length:=ab
    have:(vs++Array.replicate (fn.ntmps-vs.size) undef).getD t undef=vs[t]'ab:=by
     rw[dF,rD ab,du ab];rfl
    rw[this];exact d6 t _ _ al (du ab)
   .exact .w (.undef _) nofun
  .rcases iV.1 hp with hp|hp
   .exact⟨AV.sA hs.fr.1 (hs.fr.2.1 p hp).1,(hs.fr.2.1 p hp).2⟩
   .obtain⟨q,_,rfl⟩:=jH.1 hp;exact⟨(hs.env q.1).Dr bg,hs.env q.1⟩
 have main:∀{bf fk2:Fk}(w1:Ctx bf)(w2:Ctx fk2)(st':St)(a':Act)(w':World)(m':Mm)(KV:AV->bE->Nat->Prop),bf.k=n->fk2.k=fk.k->w1.w=w0.w->w1.F=w0.F++(env.map λp=>(get env p.1,a.tmps.getD p.1 undef))->w1.ds=[] ->
  w2.w=w0.w->w2.F=w0.F->w2.ds=w0.ds->(∀q∈w2.obs,q∈w1.obs)->Sim B w1 st' a' w' m'->gC P fn.results.toList st' KV ->
  (∀v h' n' a' w' m',KV v h' n'->Sim B w2 ⟨put env o.dst v,h',n',nt⟩ a' w' m'->K' a' w') ->
  a'.defers=[]/\∀w1,EnvD.E w' w1->∃v,(results fn a'.tmps).run P w1=.ok v w1/\K' (a.put o.dst v) w1:=by
  intro bf fk2 w1 w2 st' a' w' m' KV d' q1 el hF1 c6 q2 q3 q4 q5 h8 hr hKK;refine⟨by have:=h8.defers;rw[c6] at this;exact this,λw' e1=>?_⟩;replace h8:=h8.move e1;unfold gC at hr;split at hr
  .rename_i bd d bk;obtain⟨hd,b4⟩:=hr;obtain⟨us,h1,h2,h3⟩:=rX h8 _ _ _ bk hd
   have a9:(results fn a'.tmps).run P w'=.ok (if h:us.toArray.size=1 then us.toArray[0] else .tuple us.toArray) w':=by
    have he:results fn a'.tmps=(do
     let vs <-fn.results.mapM (pT a'.tmps)
     pure (if h:vs.size=1 then vs[0] else .tuple vs)):=rfl
    rw[he,tA];simp only[Sem.run_bind,Sem.run_map,h1,Result.andThen_ok,Sem.run_pure]
   have bb:bJ B (LB m' st'.heap) m' w' (oneOf bd) (if h:us.toArray.size=1 then us.toArray[0] else .tuple us.toArray):=by
    have tupc:bd.length≠1->bJ B (LB m' st'.heap) m' w' (.tup bd) (if h:us.toArray.size=1 then us.toArray[0] else .tuple us.toArray):=by
     intro b5;rw[dif_neg ar];exact .tup (by simpa using h2) (λj p u hp hu=>h3 j p u hp (by simpa using hu))
    match bd,h2,h3,tupc with
    |[],h2,h3,tupc=>exact tupc ae
    |[v],h2,h3,tupc=>
     obtain⟨u,rfl⟩:∃u,us=[u]:=DT.1 aV;exact h3 0 v u rfl rfl
    |v::v2::r,h2,h3,tupc=>exact tupc ae
   refine⟨_,a9,?_⟩;have cj:=h8.fr.2.1
   have hold:∀t,bJ B (LB m' st'.heap) m' w' (get env t) (a.tmps.getD t undef):=by
    intro t
    rcases uE env t with ⟨v,hv⟩|hu
    .exact (cj (get env t,a.tmps.getD t undef) (by rw[hF1];exact iV.2 (.inr (jH.2 ⟨(t,v),hv,rfl⟩)))).2
    .rw[hu];exact .w (.undef _) nofun
   refine hKK (oneOf bd) st'.heap st'.nxt _ _ m' b4 ⟨(by rw[q2,<-el];exact h8.base),(by rw[q2,<-el];exact h8.below),(by rw[kI,q4];exact hs.defers),(by rw[kE];exact hs.size),?_,h8.heap,h8.dom,h8.ids,?_,λp hp=>?_,λq hq=>h8.fr.2.2 q (q5 q hq)⟩
   .exact ni env a o.dst _ _ (by rw[hs.size];exact a5) bb hold
   .have h1:=hs.fr.1;have h2:=h8.fr.1;rw[d'] at h2;rw[q1];exact dJ h1 h2
   .rw[q3] at hp;exact⟨by rw[q1];exact (hs.fr.2.1 p hp).1,(cj p (by rw[hF1];exact iV.2 (.inl hp))).2⟩
  trivial
 refine fe (hw _ _ rfl rfl rfl rfl rfl a6) (λe a' w' hq=>?_);obtain⟨he,bf,fk2,w1,w2,st',m',KV,q1,q2,q3,q4,q5,q6,q7,q8,q9,h8,hr,hK⟩:=hq;have fin:=main w1 w2 st' a' w' m' KV q1 q2 q3 q4 q5 q6 q7 q8 q9 h8 hr hK
 rcases he with rfl|rfl
 .exact fin
 .exact fin
theorem Hk{w0:Ctx fk}{nt:Nat}(o:Oper)(f:Operand)(args:Array Operand)(tys:Array TypeId)(ho:o.op=.call { callee:=.value f,args:=args,argTypes:=tys }){g:FuncId}{bY:List AV}(hf:ga (ev env f)=some (g,bY)){fn:Func}{c:Code}(ay:P.funcs[g]?=some fn) (h9:(fn.name == "runtime.NumGoroutine")=false) (hb:fn.body=some c) (bh:(args.toList.map (ev env)++bY).length<=fn.ntmps) (r:Option RI) (d4:∀ri,r=some ri->fk.ri=some ri) {Kv:AV->bE->Nat->Prop} (hw:cP ⟨n,r⟩ P c ⟨gd 0 (args.toList.map (ev env)++bY),h,n,fn.ntmps⟩ (iG P fn.results.toList Kv)) (hs:Sim B w0 ⟨env,h,n,nt⟩ a w m) (a5:dOk nt o.dst) (Q:Exit->Act->World->Prop) (K':Act->World->Prop) (hK:∀v h' n' a' w' m',Kv v h' n'->Sim B w0 ⟨put env o.dst v,h',n',nt⟩ a' w' m'->K' a' w'):o.wpt P a w K' Q:=
 Hj o f args tys ho hf ay h9 hb bh r d4 Q K' (λw1 a1 e1 e2 e3 e4 e5 bl=>fe (e3▸hw B w1 a1 w m bl) (λe a' w' ⟨st',m',hk,h8⟩=>by
  have fin:∀e:Exit,(e=.normal\/e=.ret)->gC P fn.results.toList st' Kv->yg P B w0 env a n nt o fn K' e a' w':=λe he hk=>
   ⟨he,_,_,w1,w0,st',m',Kv,rfl,rfl,e1,e2,e5,rfl,rfl,rfl,λq hq=>e4▸hq,h8,hk,hK⟩
  cases e with
  |normal=>simp_all
  |ret=>simp_all
  |_=>exact hk.elim)) hs a5
end
section
variable{P:Program}{B:Base}{m:Mm}{w w':World}{h:bE}{n:Nat}{env:Env}{a:Act}{L:Nat->Prop}
section
omit [bI]
theorem Rep.nT{G:Nat->Prop}{p:PV}{v:Value}(hc:∀a v,w.cell? a=some v->w'.cell? a=some v)(h:Rep G w p v):Rep G w' p v:=by
 induction h with
 |undef v=>exact .undef v
 |jQ b=>exact .jQ b
 |bool b=>exact .bool b
 |int k n=>exact .int k n
 |str s=>exact .str s
 |agg hl _ ih=>exact .agg hl ih
 |tup hl _ ih=>exact .tup hl ih
 |slnil=>exact .slnil
 |sl vals hn et hg hr ih=>exact .sl vals hn (λj hj=>hc _ _ (et j hj)) hg ih
 |slz hn=>exact .slz hn
 |ip vals et hg hr ih=>exact .ip vals (λj hj=>hc _ _ (et j hj)) hg ih
 |gX=>exact .gX
 |lL=>exact .lL
 |ifc _ ih=>exact .ifc ih
 |fn hl _ ih=>exact .fn hl ih
 |yl l=>exact .yl l
theorem bJ.nT{x:AV}{v:Value}(hc:∀a v,w.cell? a=some v->w'.cell? a=some v)(h:bJ B L m w x v):bJ B L m w' x v:=by
 induction h with
 |w hr hf=>exact .w (hr.nT hc) hf
 |ptr hd ht ha hC=>exact .ptr hd ht ha hC
 |mp hd ht ha=>exact .mp hd ht ha
 |msl hd ht hn h0 h1=>exact .msl hd ht hn h0 h1
 |agg hl _ ih=>exact .agg hl ih
 |tup hl _ ih=>exact .tup hl ih
 |fn hl _ ih=>exact .fn hl ih
theorem xC{l:Nat}{o o':Obj}(hl:w.heap[l]?=some o)(ho:o.isCells=false)(ad:Addr)(v:Value)(hc:w.cell? ad=some v):(w.putObj l o').cell? ad=some v:=by
 by_cases e:ad.block=l
 .unfold World.cell? at hc;rw[e,hl] at hc
  cases o<;>simp_all[Obj.isCells]
 .rw[<-hc];exact World.cell?_of_block (World.putObj_heap_other e)
theorem O5{k l:Nat}{o o':Obj}(hl:w.heap[l]?=some o)(hk:k<=l):Bel k w (w.putObj l o'):=
 ⟨rfl,rfl,ae,λi hi=>World.putObj_heap_other ab⟩
end
theorem Sim.put{bf:Fk}{w0:Ctx fk}{w1:Ctx bf}{st:St}{l:Nat}{o o':Obj}(hs:Sim B w0 st a w m)(hl:w.heap[l]?=some o)(ho:o.isCells=false)(ij:∀es clk,o≠.map es clk)(hB:B.n<=l)(hw:w1.w=w0.w){a':Act}(ht:a'.tmps=a.tmps)(hd:a'.defers=marks w1.ds)(cj:pJ B w1 (LB m st.heap) m (w.putObj l o') st.nxt):Sim B w1 st a' (w.putObj l o') m:=by
 have hc:∀ad v,w.cell? ad=some v->(w.putObj l o').cell? ad=some v:=λad v h=>xC hl ho ad v h
 refine⟨by rw[hw];exact hs.base,by rw[hw];exact hs.below.trans (O5 hl hB),hd,by rw[ht];exact hs.size,λt=>by rw[ht];exact (hs.env t).nT hc,⟨λid c hin gw=>?_,hs.heap.inj⟩,hs.dom,hs.ids,cj⟩;obtain⟨h1,h2⟩:=hs.heap.entry id c hin gw;refine⟨h1,?_⟩
 rcases h2 with h2|⟨b,C,cs,e,e1,e2,e3,e4,e5,e6⟩|⟨b,es,clk,e1,e2,e3,e4,e5⟩
 .exact .inl h2
 .refine .inr (.inl ⟨b,C,cs,e,e1,?_,e3,e4,e5,λj p v hp hv=>(e6 j p v hp hv).nT hc⟩);rw[<-e2];refine World.putObj_heap_other (λc5=>?_);subst c5;rw[hl] at e2;cases e2;cases ho
 .refine .inr (.inr ⟨b,es,clk,e1,e2,?_,e4,e5⟩);rw[<-e3];refine World.putObj_heap_other (λc5=>?_);simp_all
theorem Sim.lay{bf:Fk}{w0:Ctx fk}{w1:Ctx bf}{st:St}(o:Obj)(hs:Sim B w0 st a w m)(hw:w1.w=w0.w){a':Act}(ht:a'.tmps=a.tmps)(hd:a'.defers=marks w1.ds)(cj:pJ B w1 (LB m st.heap) m (w.alloc o) st.nxt):Sim B w1 st a' (w.alloc o) m:=by
 have hb:Bel w.heap.size w (w.alloc o):=(Bel.refl _ w).alloc (bS _) o;exact⟨by rw[hw];exact hs.base,by rw[hw];exact hs.below.trans (hb.mono hs.room),hd,by rw[ht];exact hs.size,λt=>by rw[ht];exact (hs.env t).mono (Mm.le.refl m) (λ_ _ h=>h) (λb cq _=>hb.block b cq),hs.heap.below hb,hs.dom,hs.ids,cj⟩
end
def nW(env:Env):List Nat->List AV->Env
 |t::ts,v::vs=>nW ((t,v)::env) ts vs
 |_,_=>env
omit [bI] in
@[simp]theorem Zi(env:Env)(vs:List AV):nW env [] vs=env:=by cases vs<;>rfl
omit [bI] in
@[simp]theorem O6(env:Env)(t:Nat)(ts:List Nat)(v:AV)(vs:List AV):nW env (t::ts) (v::vs)=nW ((t,v)::env) ts vs:=rfl
def ti(k:Nat)(K:bE->Nat->Prop):Exit->St->Prop
 |.normal,s=>∃h' n' ax,Lek ⟨k,none⟩ s ⟨[],h',n',ax⟩/\K h' n'
 |_,_=>False
def ve(P:Program)(k:Nat)(body:Code)(K:bE->Nat->Prop):Exit->St->Prop
 |.normal,s=>cP ⟨k,none⟩ P body s (ti k K)
 |_,_=>False
def Round(P:Program)(ri:RI)(avs:List AV)(h:bE)(n:Nat)(K:bE->Nat->Prop):Prop:=
 avs.length=ri.ps.size/\(∀t∈ri.ps,t<ri.nt)/\cP ⟨n,none⟩ P ri.assign ⟨nW ri.env ri.ps.toList avs,h,n,ri.nt⟩ (ve P n ri.body K)
def re{k:Nat}{ri:RI}(w0:Ctx ⟨k,some ri⟩)(w1:Ctx ⟨k,none⟩):Prop:=
 w1.w=w0.w/\w1.F=w0.F/\w1.r=w0.r/\w1.ds=w0.ds/\(∃fn T D,(ri.l,dm ri fn T D .done (some .ret))∈w1.obs)/\∀q∈w0.obs,q.1≠ri.l->q∈w1.obs
def p9(k:Nat)(K Kl:bE->Nat->Prop):Exit->St->Prop
 |.normal,s=>∃h' n' ax,Lek ⟨k,none⟩ s ⟨[],h',n',ax⟩/\K h' n'
 |.ret,s=>∃h' n' ax,Lek ⟨k,none⟩ s ⟨[],h',n',ax⟩/\Kl h' n'
 |_,_=>False
def vg(P:Program)(k:Nat)(body:Code)(K Kl:bE->Nat->Prop):Exit->St->Prop
 |.normal,s=>cP ⟨k,none⟩ P body s (p9 k K Kl)
 |_,_=>False
def Jo(P:Program)(ri:RI)(avs:List AV)(h:bE)(n:Nat)(K Kl:bE->Nat->Prop):Prop:=
 avs.length=ri.ps.size/\(∀t∈ri.ps,t<ri.nt)/\cP ⟨n,none⟩ P ri.assign ⟨nW ri.env ri.ps.toList avs,h,n,ri.nt⟩ (vg P n ri.body K Kl)
@[simp ↓]theorem Zj(P:Program)(k:Nat)(body:Code)(K Kl:bE->Nat->Prop)(s:St):vg P k body K Kl .normal s=cP ⟨k,none⟩ P body s (p9 k K Kl):=rfl
@[congr] theorem Zk{k:Nat}{K Kl:bE->Nat->Prop}{e e':Exit}{s s':St}(h1:e=e')(h2:s=s'):p9 k K Kl e s=p9 k K Kl e' s':=by rw[h1,h2]
@[congr] theorem Zl{P:Program}{k:Nat}{body:Code}{K Kl:bE->Nat->Prop}{e e':Exit}{s s':St}(h1:e=e')(h2:s=s'):vg P k body K Kl e s=vg P k body K Kl e' s':=by rw[h1,h2]
theorem O7{k:Nat}{K Kl:bE->Nat->Prop}{s:St}(h':bE)(n':Nat)(ax:Nat)(hle:Lek ⟨k,none⟩ s ⟨[],h',n',ax⟩)(hk:K h' n'):p9 k K Kl .normal s:=⟨h',n',ax,hle,hk⟩
theorem O8{k:Nat}{K Kl:bE->Nat->Prop}{s:St}(h':bE)(n':Nat)(ax:Nat)(hle:Lek ⟨k,none⟩ s ⟨[],h',n',ax⟩)(hk:Kl h' n'):p9 k K Kl .ret s:=⟨h',n',ax,hle,hk⟩
section
variable{P:Program}{B:Base}{m:Mm}{w:World}{h:bE}{n:Nat}{env:Env}{a:Act}{L:Nat->Prop}
section
omit [bI]
theorem Hl:∀(ps:List Nat)(avs:List AV)(vals:List Value)(e:Env)(T:Array Value),ps.length=avs.length->avs.length=vals.length->(∀t∈ps,t<T.size)->(∀(j:Nat)(x:AV)(v:Value),avs[j]?=some x->vals[j]?=some v->bJ B L m w x v)->(∀t,bJ B L m w (get e t) (T.getD t undef))->((ps.zip vals).foldl (λtmps (p:Nat×Value)=>tmps.setIfInBounds p.1 p.2) T).size=T.size/\∀t,bJ B L m w (get (nW e ps avs) t) (((ps.zip vals).foldl (λtmps (p:Nat×Value)=>tmps.setIfInBounds p.1 p.2) T).getD t undef)
 |[],[],[],e,T,_,_,_,_,he=>⟨rfl,by simpa using he⟩
 |p::ps,x::avs,v::vals,e,T,h1,h2,b6,hr,he=>by
  simp only[List.zip_cons_cons,Dy,O6];have hp:=b6 p ae;have:=Hl ps avs vals ((p,x)::e) (T.setIfInBounds p v) ak ak (λt ht=>al) (λj y u hy hu=>hr (j+1) y u ak ak) (λt=>?_)
  .simp_all
  .simp only[get];rw[dF,iU];by_cases i3:p=t
   .subst i3;simp only[cz];rw[b8 hp];exact hr 0 x v rfl rfl
   simp_all
 |[],_::_,_,_,_,h1,_,_,_,_=>by cases h1
 |_::_,[],_,_,_,h1,_,_,_,_=>by cases h1
 |[],[],_::_,_,_,_,h2,_,_,_=>by cases h2
 |_::_,_::_,[],_,_,_,h2,_,_,_=>by cases h2
theorem bJ.Ty{o f:Bool}{l:Nat}{v:Value}(h:bJ B L m w (.w o f (.yl l)) v):v=.func (.yield l) #[] #[]:=by
 cases h with|w h _=>cases h;rfl
theorem O9(ps:Array Tmp)(vals:Array Value)(T:Array Value):(ps.zip vals).foldl (λtmps (t,a)=>tmps.setIfInBounds t a) T=(ps.toList.zip vals.toList).foldl (λtmps (p:Nat×Value)=>tmps.setIfInBounds p.1 p.2) T:=by
 rw[<-Array.foldl_toList,Array.toList_zip]
end
theorem Hm{k:Nat}{ri:RI}{w0:Ctx ⟨k,some ri⟩}{nt:Nat}(o:Oper)(f:Operand)(args:Array Operand)(tys:Array TypeId)(ho:o.op=.call { callee:=.value f,args:=args,argTypes:=tys }){ow fl:Bool}(hf:ev env f=.w ow fl (.yl ri.l)){Kv Kl:bE->Nat->Prop}(hw:Jo P ri (args.toList.map (ev env)) h n Kv Kl)(hs:Sim B w0 ⟨env,h,n,nt⟩ a w m)(a5:dOk nt o.dst)(Q:Exit->Act->World->Prop)(K':Act->World->Prop)(hK:∀h' n' a' w' m',Kv h' n'->Sim B w0 ⟨put env o.dst (.w false false (.bool true)),h',n',nt⟩ a' w' m'->K' a' w')(hKl:∀(w1:Ctx ⟨k,none⟩) h' n' a' w' m',re w0 w1->Kl h' n'->Sim B w1 ⟨put env o.dst (.w false false (.bool false)),h',n',nt⟩ a' w' m'->K' a' w'):o.wpT w0.r P a w K' Q:=by
 obtain⟨hlen,b6,hw⟩:=hw
 have ei:∀x:Operand,bJ B (LB m h) m w (ev env x) (a.eval x):=λx=>ma x (λt _=>hs.env t)
 have dk:a.eval f=.func (.yield ri.l) #[] #[]:=by have:=ei f;rw[hf] at this;exact this.Ty
 obtain⟨fn,T,D,hin,hT,ew⟩:=w0.dm ri rfl;obtain⟨hBl,f7,hLl,hl⟩:=hs.fr.2.2 _ hin;have e8:(dm ri fn T D .ready none).isCells=false:=rfl
 have bg:∀i,m.dom i->i<n:=λi hd=>(hs.dom i).1 hd
 generalize bn:args.map a.eval=vals
 have i5:vals.size=ri.ps.size:=by rw[<-bn,<-hlen];simp
 have a9:(execOp a.eval o).run P w=.ok (.round ri.l fn ((ri.ps.zip vals).foldl (λtmps (t,a)=>tmps.setIfInBounds t a) T) ri.assign ri.body) w:=by
  have hy:=run_yield (P:=P) (args:=vals) (r:={ state:=.ready,pending:=none,fn:=fn,tmps:=T,params:=ri.ps,assign:=ri.assign,body:=ri.body,defers:=D }) hl i5;simp[execOp,ho,resolve,dk,Deferred.ofValue,invoke,callFunc,bn,hy]
 refine jK (λc e=>(by rw[ho] at e;cases e)) ?_;unfold Oper.wpt;rw[a9,Oper.Ra];refine LH ?_;obtain⟨F1,hF1⟩:∃F1,w0.F++env.map (λp=>(get env p.1,a.tmps.getD p.1 undef))=F1:=⟨_,rfl⟩
 have hF:∀p∈F1,p.1.lt n=true/\bJ B (LB m h) m w p.1 p.2:=by
  intro p hp;rw[<-hF1] at hp
  rcases iV.1 hp with hp|hp
  .exact⟨AV.sA hs.fr.1 (hs.fr.2.1 p hp).1,(hs.fr.2.1 p hp).2⟩
  .obtain⟨q,_,rfl⟩:=jH.1 hp;exact⟨(hs.env q.1).Dr bg,hs.env q.1⟩
 have hTe:∀t,bJ B (LB m h) m w (get ri.env t) (T.getD t undef):=by
  intro t
  rcases uE ri.env t with ⟨v,hv⟩|hu
  .exact (hs.fr.2.1 _ (ew t v hv)).2
  .rw[hu];exact .w (.undef _) nofun
 have dQ:=Hl (B:=B) (L:=LB m h) (m:=m) (w:=w) ri.ps.toList (args.toList.map (ev env)) vals.toList ri.env T (by rw[hlen];simp) (by rw[<-bn];simp) (λt ht=>by rw[hT];simp_all)
  (λj x v hx hv=>by
    rw[<-bn] at hv;rw[im] at hx
    grind) hTe
 rw[O9];generalize i':(ri.ps.toList.zip vals.toList).foldl (λtmps (p:Nat×Value)=>tmps.setIfInBounds p.1 p.2) T=T' at dQ ⊢
 have a6:Sim B (⟨w0.w,F1,some ri.l,w0.obs,[],λri h=>au,w0.ok⟩:Ctx ⟨n,none⟩) ⟨nW ri.env ri.ps.toList (args.toList.map (ev env)),h,n,ri.nt⟩ { tmps:=T',defers:=[] } w m:=
  ⟨hs.base,hs.below,rfl,dQ.1.trans hT,dQ.2,hs.heap,hs.dom,hs.ids,bS _,hF,hs.fr.2.2⟩
 refine fe (hw _ _ _ _ _ a6) (λe a1 w1 ⟨st1,m1,d',bl⟩=>?_)
 cases e with
 |normal=>
  intro w1 e1;replace bl:=bl.move e1;obtain⟨_,d2,hLl1,dr⟩:=bl.fr.2.2 _ hin;replace dr:w1.heap[ri.l]?=some (dm ri fn T D .ready none):=dr;replace d2:ri.l<w1.heap.size:=d2;refine⟨_,run_beginRound dr rfl,?_⟩
  have bo:Sim B (⟨w0.w,F1,some ri.l,(ri.l,dm ri fn T D .busy none)::w0.obs.filter (λq=>decide (q.1≠ri.l)),[],λri h=>au,w0.ok⟩:Ctx ⟨n,none⟩) st1 a1 (w1.putObj ri.l (dm ri fn T D .busy none)) m1:=by
   refine Sim.put (w1:=(⟨w0.w,F1,some ri.l,(ri.l,dm ri fn T D .busy none)::w0.obs.filter (λq=>decide (q.1≠ri.l)),[],λri h=>au,w0.ok⟩:Ctx ⟨n,none⟩)) (o':=dm ri fn T D .busy none) bl dr e8 (λ_ _ h=>au) hBl rfl rfl (by exact bl.defers) ⟨bl.fr.1,λp hp=>⟨(bl.fr.2.1 p hp).1,(bl.fr.2.1 p hp).2.nT (λad v h=>xC dr e8 ad v h)⟩,λq hq=>?_⟩
   rcases dM.1 hq with e|hq
   .subst e;exact⟨hBl,al,hLl1,World.putObj_heap_same d2⟩
   .obtain⟨hq,b5⟩:=rF.1 hq;obtain⟨o1,o2,o3,o4⟩:=bl.fr.2.2 q hq;exact⟨o1,by simpa using o2,o3,(World.putObj_heap_other ak).trans o4⟩
  have fin:∀(s:LoopState)(j:Option Code)(st3:St)(a3:Act)(w3:World)(m3:Mm),Sim B (⟨w0.w,F1,some ri.l,(ri.l,dm ri fn T D .busy none)::w0.obs.filter (λq=>decide (q.1≠ri.l)),[],λri h=>au,w0.ok⟩:Ctx ⟨n,none⟩) st3 a3 w3 m3 ->
   ∀h' n' ax,Lek ⟨n,none⟩ st3 ⟨[],h',n',ax⟩->∃m4,(Bel B.n w0.w (w3.putObj ri.l (dm ri fn T D s j)))/\(∀t,bJ B (LB m4 h') m4 (w3.putObj ri.l (dm ri fn T D s j)) (get env t) (a.tmps.getD t undef)) /\
    Sim B (⟨w0.w,F1,some ri.l,[],[],λri h=>au,w0.ok⟩:Ctx ⟨n,none⟩) ⟨[],h',n',ax⟩ a3 (w3.putObj ri.l (dm ri fn T D s j)) m4/\n<=n' /\
    (∀p∈w0.F,bJ B (LB m4 h') m4 (w3.putObj ri.l (dm ri fn T D s j)) p.1 p.2)/\w3.heap[ri.l]?=some (dm ri fn T D .busy none)/\ri.l<w3.heap.size/\¬LB m4 h' ri.l /\
    (∀q∈w0.obs,q.1≠ri.l->B.n<=q.1/\q.1<(w3.putObj ri.l (dm ri fn T D s j)).heap.size/\¬LB m4 h' q.1/\(w3.putObj ri.l (dm ri fn T D s j)).heap[q.1]?=some q.2):=by
   intro s j st3 a3 w3 m3 co h' n' ax hle;obtain⟨m4,d5⟩:=hle _ _ _ _ _ co;obtain⟨_,bi,hLl4,c8⟩:=d5.fr.2.2 (ri.l,dm ri fn T D .busy none) ae;replace c8:w3.heap[ri.l]?=some (dm ri fn T D .busy none):=c8;replace bi:ri.l<w3.heap.size:=bi;have e9:(dm ri fn T D .busy none).isCells=false:=rfl
   have d8:∀ad v,w3.cell? ad=some v->(w3.putObj ri.l (dm ri fn T D s j)).cell? ad=some v:=λad v h=>xC c8 e9 ad v h
   have c7:=d5.fr.2.1
   have hold:∀t,bJ B (LB m4 h') m4 (w3.putObj ri.l (dm ri fn T D s j)) (get env t) (a.tmps.getD t undef):=by
    intro t
    rcases uE env t with ⟨v,hv⟩|hu
    .refine ((c7 (get env t,a.tmps.getD t undef) ?_).2).nT d8;rw[<-hF1]
     grind
    .rw[hu];exact .w (.undef _) nofun
   have a4:Sim B (⟨w0.w,F1,some ri.l,[],[],λri h=>au,w0.ok⟩:Ctx ⟨n,none⟩) ⟨[],h',n',ax⟩ a3 (w3.putObj ri.l (dm ri fn T D s j)) m4:=
    Sim.put (w1:=(⟨w0.w,F1,some ri.l,[],[],λri h=>au,w0.ok⟩:Ctx ⟨n,none⟩)) (o':=dm ri fn T D s j) d5 c8 e9 (λ_ _ h=>au) hBl rfl rfl (by exact d5.defers) ⟨d5.fr.1,λp hp=>⟨(c7 p hp).1,(c7 p hp).2.nT d8⟩,λq hq=>by cases hq⟩
   refine⟨m4,a4.below,hold,a4,d5.fr.1,λp hp=>?_,c8,bi,hLl4,λq hq b5=>?_⟩
   .refine ((c7 p ?_).2).nT d8;rw[<-hF1]
    grind
   .obtain⟨o1,o2,o3,o4⟩:=d5.fr.2.2 q (eH _ (rF.2 ⟨hq,ak⟩));exact⟨o1,by simpa using o2,o3,(World.putObj_heap_other b5).trans o4⟩
  refine fe (d' _ _ _ _ _ bo) (λe a3 w3 ⟨st3,m3,ey,co⟩=>?_)
  cases e with
  |normal=>
   intro w3 e3;replace co:=co.move e3;obtain⟨h',n',ax,hle,b4⟩:=ey;obtain⟨m4,c5,hold,a4,f8,hF0,c8,bi,hLl4,c2⟩:=fin .ready none st3 a3 w3 m3 co h' n' ax hle;refine⟨_,_,run_endRound none c8,?_⟩;show K' (a.put o.dst (.bool true)) _;refine hK h' n' _ _ m4 b4 ⟨a4.base,c5,by rw[kI];exact hs.defers,by rw[kE];exact hs.size,?_,a4.heap,a4.dom,a4.ids,dJ hs.fr.1 f8,λp hp=>⟨(hs.fr.2.1 p hp).1,hF0 p hp⟩,λq hq=>?_⟩
   .exact ni env a o.dst _ _ (by rw[hs.size];exact a5) (iL true) hold
   .by_cases gc:q.1=ri.l
    .obtain⟨o1,o2,o3,o4⟩:=hs.fr.2.2 q hq;rw[gc] at o4 o1 ⊢;rw[hl] at o4;refine⟨o1,al,hLl4,?_⟩;rw[<-o4];exact World.putObj_heap_same bi
    .exact c2 q hq gc
  |ret=>
   intro w3 e3;replace co:=co.move e3;obtain⟨h',n',ax,hle,b4⟩:=ey;obtain⟨m4,c5,hold,a4,f8,hF0,c8,bi,hLl4,c2⟩:=fin .done (some .ret) st3 a3 w3 m3 co h' n' ax hle;refine⟨_,_,run_endRound (some .ret) c8,?_⟩;show K' (a.put o.dst (.bool false)) _;refine hKl (⟨w0.w,w0.F,w0.r,(ri.l,dm ri fn T D .done (some .ret))::w0.obs.filter (λq=>decide (q.1≠ri.l)),w0.ds,λri h=>au,w0.ok⟩:Ctx ⟨k,none⟩) h' n' _ _ m4 ⟨rfl,rfl,rfl,rfl,⟨fn,T,D,ae⟩,λq hq b5=>eH _ (rF.2 ⟨hq,ak⟩)⟩ b4
    ⟨a4.base,c5,by rw[kI];exact hs.defers,by rw[kE];exact hs.size,?_,a4.heap,a4.dom,a4.ids,dJ hs.fr.1 f8,λp hp=>⟨(hs.fr.2.1 p hp).1,hF0 p hp⟩,λq hq=>?_⟩
   .exact ni env a o.dst _ _ (by rw[hs.size];exact a5) (iL false) hold
   .rcases dM.1 hq with e|hq
    .subst e;exact⟨hBl,al,hLl4,World.putObj_heap_same bi⟩
    .obtain⟨hq,b5⟩:=rF.1 hq;exact c2 q hq ak
  |_=>exact ey.elim
 |_=>exact d'.elim
theorem Pa{k:Nat}{ri:RI}{w0:Ctx ⟨k,some ri⟩}{nt:Nat}(o:Oper)(f:Operand)(args:Array Operand)(tys:Array TypeId)(ho:o.op=.call { callee:=.value f,args:=args,argTypes:=tys }){ow fl:Bool}(hf:ev env f=.w ow fl (.yl ri.l)){Kv:AV->bE->Nat->Prop}(hw:Round P ri (args.toList.map (ev env)) h n (λh' n'=>Kv (.w false false (.bool true)) h' n'))(hs:Sim B w0 ⟨env,h,n,nt⟩ a w m)(a5:dOk nt o.dst)(Q:Exit->Act->World->Prop)(K':Act->World->Prop)(hK:∀v h' n' a' w' m',Kv v h' n'->Sim B w0 ⟨put env o.dst v,h',n',nt⟩ a' w' m'->K' a' w'):o.wpT w0.r P a w K' Q:=by
 obtain⟨hlen,b6,hw⟩:=hw;refine Hm (Kl:=λ_ _=>False) o f args tys ho hf ⟨hlen,b6,tZ hw (λe s hq=>?_)⟩ hs a5 Q K' (λh' n' a' w' m' hk h8=>hK _ _ _ _ _ m' hk h8) (λ_ _ _ _ _ _ _ hk=>hk.elim)
 cases e with
 |normal=>
  refine tZ hq (λe s hq=>?_)
  cases e with
  |normal=>exact hq
  |_=>exact hq.elim
 |_=>exact hq.elim
end
def rh{fk:Fk}(w0:Ctx fk):Prop:=w0.ds.Nodup/\∀D∈w0.ds,(D,Obj.deferred (some []))∈w0.obs
def fG(fk:Fk)(P:Program)(c:Code)(st:St)(K:Exit->St->Prop):Prop:=
 ∀(B:Base)(w0:Ctx fk)(a:Act)(w:World)(m:Mm),w0.r=none->rh w0->Sim B w0 st a w m ->
  c.wpT none P (λe a' w'=>∃(w1:Ctx fk)(st':St)(m':Mm),w1.w=w0.w/\w1.r=none/\rh w1/\K e st'/\Sim B w1 st' a' w' m') a w
def fH(k:Nat)(ri:RI)(P:Program)(c:Code)(st:St)(K Kd:Exit->St->Prop):Prop:=
 ∀(B:Base)(w0:Ctx ⟨k,some ri⟩)(a:Act)(w:World)(m:Mm),Sim B w0 st a w m ->
  c.wpT w0.r P (λe a' w'=>(∃st' m',K e st'/\Sim B w0 st' a' w' m')\/∃w1:Ctx ⟨k,none⟩,re w0 w1/\∃st' m',Kd e st'/\Sim B w1 st' a' w' m') a w
theorem Hn{k:Nat}{ri:RI}{P:Program}{K Kd:Exit->St->Prop}{st:St}{c:Code}(h:cP ⟨k,some ri⟩ P c st K):fH k ri P c st K Kd:=
 λB w0 a w m hs=>fe (h B w0 a w m hs) (λ_ _ _ hx=>.inl hx)
section
variable{P:Program}{K:Exit->St->Prop}{st st':St}
theorem fJ{c:Code}(h:cP fk P c st K):fG fk P c st K:=λB w0 a w m hr hd hs=>by
 have:=h B w0 a w m hs;rw[hr] at this;exact fe this (λe a' w' ⟨st',m',h1,h2⟩=>⟨w0,st',m',rfl,hr,hd,h1,h2⟩)
def yh(fk:Fk)(P:Program)(b:Code)(K:Exit->St->Prop):Exit->St->Prop
 |.normal,s=>fG fk P b s K
 |e,s=>K e s
theorem fM{x y:Code}(h:fG fk P x st (yh fk P y K)):fG fk P (.seq x y) st K:=
 λB w0 a w m hr hd hs=>zB (fe (h B w0 a w m hr hd hs) (λe a' w' ⟨w1,st',m',g1,g2,g3,h1,h2⟩=>by
  cases e with
  |normal=>exact fe (h1 B w1 a' w' m' g2 g3 h2) (λe a2 w2 ⟨w3,s3,m3,k1,k2,k3,k4,k5⟩=>⟨w3,s3,m3,k1.trans g1,k2,k3,k4,k5⟩)
  |_=>exact⟨w1,st',m',g1,g2,g3,h1,h2⟩))
theorem r6{id:Nat}{c:Code}(h:fG fk P c st (jh id K)):fG fk P (.block id c) st K:=
 λB w0 a w m hr hd hs=>zC (fe (h B w0 a w m hr hd hs) (λe a' w' ⟨w1,st',m',g1,g2,g3,h1,h2⟩=>by
  cases e with
  |exit g0=>
   simp only[Exit.inBlock];split<;>simp_all
  |_=>exact⟨w1,st',m',g1,g2,g3,h1,h2⟩))
theorem Pb{c:Code}{K':Exit->St->Prop}(h:fG fk P c st K)(hk:∀e s,K e s->K' e s):fG fk P c st K':=
 λB w0 a w m hr hd hs=>fe (h B w0 a w m hr hd hs) (λe a' w' ⟨w1,st',m',g1,g2,g3,h1,h2⟩=>⟨w1,st',m',g1,g2,g3,hk _ _ h1,h2⟩)
theorem Pd{c:Code}(hle:Lek fk st st')(h:fG fk P c st' K):fG fk P c st K:=
 λB w0 a w m hr hd hs=>let ⟨m',h8⟩:=hle B w0 a w m hs;h B w0 a w m' hr hd h8
theorem Ho{g:Operand}{ps:Array Tmp}{assign body:Code}{env:Env}{h:bE}{n nt:Nat}{gf:FuncId}{bY:List AV}(hf:ga (ev env g)=some (gf,bY)){fn:Func}{c:Code}(ay:P.funcs[gf]?=some fn) (h9:(fn.name == "runtime.NumGoroutine")=false) (hb:fn.body=some c) (bh:bY.length+1<=fn.ntmps) (hw:∀l,fH n ⟨l,env,nt,ps,assign,body⟩ P c ⟨gd 0 (.w false false (.yl l)::bY),h,n,fn.ntmps⟩ (iG P fn.results.toList λ_ h' n'=>K .normal ⟨env,h',n',nt⟩) (iG P fn.results.toList λ_ h' n'=>K .ret ⟨env,h',n',nt⟩)):fG fk P (.rangeFunc g ps assign body) ⟨env,h,n,nt⟩ K:=by
 intro B w0 a w m hr hd hs;refine LI ?_;intro w e0 fni;replace hs:=hs.move e0;have bq:bJ B (LB m h) m w (ev env g) (a.eval g):=ma g (λt _=>hs.env t)
 have ex:∃cv:Array Value,a.eval g=.func (.func gf) #[] cv/\bY.length=cv.size/\∀(j:Nat)(p:AV)(v:Value),bY[j]?=some p->cv[j]?=some v->bJ B (LB m h) m w p v:=by
  unfold ga at hf;split at hf
  .rename_i g' bt e
   injection hf with hf;injection hf with h1 h2;subst h1;subst h2
   rw[e] at bq;generalize hv:a.eval g=vf at bq
   cases bq with|fn h1 h2=>grind
  .rename_i own f' g' bt e
   injection hf with hf;injection hf with h1 h2;subst h1;subst h2
   rw[e] at bq;generalize hv:a.eval g=vf at bq
   cases bq with
   |w h1 _=>
    cases h1 with
    |fn h1 h2=>
     refine⟨_,rfl,ak,λj p v hp hv=>?_⟩;obtain⟨q,hq,rfl⟩:=fX hp;exact .w (h2 j q v hq hv) nofun
  .cases hf
 obtain⟨cv,dk,b9,gu⟩:=ex
 have bg:∀i,m.dom i->i<n:=λi hd=>(hs.dom i).1 hd
 obtain⟨ri,da⟩:∃ri:RI,ri=⟨w.heap.size+1,env,nt,ps,assign,body⟩:=⟨_,rfl⟩;obtain⟨D,hD⟩:∃D,D=w.heap.size:=⟨_,rfl⟩
 have cm:ri.l=w.heap.size+1:=by rw[da]
 have bl:Sim B (⟨w0.w,[],none,[(D,.deferred (some []))],w0.ds,λri h=>au,w0.ok⟩:Ctx ⟨0,none⟩) ⟨env,h,n,nt⟩ a (w.alloc (.deferred (some []))) m:=by
  refine Sim.lay (w1:=(⟨w0.w,[],none,[(D,.deferred (some []))],w0.ds,λri h=>au,w0.ok⟩:Ctx ⟨0,none⟩)) (.deferred (some [])) hs rfl rfl (by exact hs.defers) ⟨cG _,(λp hp=>by cases hp),λq hq=>?_⟩;simp only[oS] at hq;subst hq;rw[hD];exact⟨hs.room,ae,λhl=>by have:=fj hs.heap hl;omega,World.alloc_heap_new w _⟩
 have gr:Bel w.heap.size w (w.alloc (.deferred (some []))):=(Bel.refl _ w).alloc (bS _) _;have er:Bel (w.alloc (.deferred (some []))).heap.size (w.alloc (.deferred (some []))) ((w.alloc (.deferred (some []))).alloc (dm ri fni a.tmps D .ready none)):=(Bel.refl _ _).alloc (bS _) _
 have ck:∀b,b<w.heap.size->((w.alloc (.deferred (some []))).alloc (dm ri fni a.tmps D .ready none)).heap[b]?=w.heap[b]?:=λb hb=>(er.block b ar).trans (gr.block b hb)
 have bz:∀x v,bJ B (LB m h) m w x v->bJ B (LB m h) m ((w.alloc (.deferred (some []))).alloc (dm ri fni a.tmps D .ready none)) x v:=λx v hr=>hr.mono (Mm.le.refl m) (λ_ _ h=>h) (λb cq _=>ck b cq)
 have aq:Ir ⟨n,some ri⟩ (w0.F++env.map (λp=>(get env p.1,a.tmps.getD p.1 undef))) ((ri.l,dm ri fni a.tmps D .ready none)::(D,.deferred (some []))::w0.obs):=λge e=>by
  cases e;exact⟨fni,a.tmps,D,ae,by rw[da];exact hs.size,λt v hv=>iV.2 (.inr (jH.2 ⟨(t,v),by rw[da] at hv;exact hv,by rw[da]⟩))⟩
 have bo:Sim B (⟨w0.w,w0.F++env.map (λp=>(get env p.1,a.tmps.getD p.1 undef)),none,(ri.l,dm ri fni a.tmps D .ready none)::(D,.deferred (some []))::w0.obs,w0.ds,
  aq,w0.ok⟩:Ctx ⟨n,some ri⟩)
  ⟨env,h,n,nt⟩ a ((w.alloc (.deferred (some []))).alloc (dm ri fni a.tmps D .ready none)) m:=by
  refine Sim.lay (w1:=(⟨w0.w,w0.F++env.map (λp=>(get env p.1,a.tmps.getD p.1 undef)),none,(ri.l,dm ri fni a.tmps D .ready none)::(D,.deferred (some []))::w0.obs,w0.ds,aq,w0.ok⟩:Ctx ⟨n,some ri⟩)) _ bl rfl rfl (by exact hs.defers) ⟨bS _,λp hp=>?_,λq hq=>?_⟩
  .rcases iV.1 hp with hp|hp
   .exact⟨AV.sA hs.fr.1 (hs.fr.2.1 p hp).1,bz _ _ (hs.fr.2.1 p hp).2⟩
   .obtain⟨q,_,rfl⟩:=jH.1 hp;exact⟨(hs.env q.1).Dr bg,bz _ _ (hs.env q.1)⟩
  .rcases dM.1 hq with e|hq
   .subst e;refine⟨by simp only[cm];have:=hs.room;omega,al,λhl=>by have:=fj hs.heap hl;omega,?_⟩;simp only[cm];have:=World.alloc_heap_new (w.alloc (.deferred (some []))) (dm ri fni a.tmps D .ready none)
    rwa [World.size_alloc] at this
   .rcases dM.1 hq with e|hq
    .subst e
     have e:∀k,k=w.heap.size->((w.alloc (.deferred (some []))).alloc (dm ri fni a.tmps D .ready none)).heap[k]?=some (.deferred (some [])):=λk hk=>by
      rw[hk];exact (er.block _ ae).trans (World.alloc_heap_new w _)
     exact⟨by simp only[hD];exact hs.room,ar,λhl=>by have:=fj hs.heap hl;omega,e D hD⟩
    .obtain⟨o1,o2,o3,o4⟩:=hs.fr.2.2 q hq
     grind
 have fi:((w.alloc (.deferred (some []))).alloc (.loop { state:=.ready,pending:=none,fn:=fni,tmps:=a.tmps,params:=ps,assign,body,defers:=w.heap.size }))=(w.alloc (.deferred (some []))).alloc (dm ri fni a.tmps D .ready none):=by
  rw[da,hD];rfl
 have cw:=run_enterLoop_outer (P:=P) (w:=w) fni a.tmps ps assign body;rw[fi] at cw;clear er;generalize (w.alloc (.deferred (some []))).alloc (dm ri fni a.tmps D .ready none)=W2 at bo ck bz cw;refine⟨w.heap.size+1,[{ target:=.collected w.heap.size,args:=#[] }],W2,{ target:=.fn (.func gf) cv,args:=#[.func (.yield (w.heap.size+1)) #[] #[]] },W2,gf,#[.func (.yield (w.heap.size+1)) #[] #[]]++cv,W2,cw,?_,?_,?_⟩
 .have he:a.eval (.const (.func (.yield (w.heap.size+1)) #[] #[]))=.func (.yield (w.heap.size+1)) #[] #[]:=rfl;simp[resolve,rangeCall,dk,he,Deferred.ofValue]
 .have dy:¬fn.name = "runtime.NumGoroutine" := by simp_all
  simp[invoke,callFunc,ay,dy,hb]
 .refine vR ay hb ?_
  have hlen:(AV.w false false (.yl ri.l)::bY).length=(#[Value.func (.yield (w.heap.size+1)) #[] #[]]++cv).size:=ak
  have d6:∀(j:Nat)(x:AV)(v:Value),(AV.w false false (.yl ri.l)::bY)[j]?=some x->(#[Value.func (.yield (w.heap.size+1)) #[] #[]]++cv)[j]?=some v->bJ B (LB m h) m W2 x v:=by
   intro j x v hx hv
   cases j with
   |zero=>
    rw[rD ae] at hv;simp at hx hv;subst hx;subst hv;rw[cm];exact .w (.yl _) nofun
   |succ j=>
    rw[T0 ae] at hv
    grind
  generalize (#[Value.func (.yield (w.heap.size+1)) #[] #[]]++cv)=vs at hlen d6;have ft:=hw ri.l;rw[show (⟨ri.l,env,nt,ps,assign,body⟩:RI)=ri from by rw[da]] at ft
  have f9:(AV.w false false (.yl ri.l)::bY).length<=fn.ntmps:=aE
  generalize ic:AV.w false false (.yl ri.l)::bY=avs at hlen d6 ft f9
  have a6:Sim B (⟨w0.w,w0.F++env.map (λp=>(get env p.1,a.tmps.getD p.1 undef)),none,(ri.l,dm ri fni a.tmps D .ready none)::(D,.deferred (some []))::w0.obs,[],
   aq,w0.ok⟩:Ctx ⟨n,some ri⟩)
    ⟨gd 0 avs,h,n,fn.ntmps⟩ { tmps:=vs++Array.replicate (fn.ntmps-vs.size) undef,defers:=[] } W2 m:=by
   refine⟨bo.base,bo.below,rfl,ar,λt=>?_,bo.heap,bo.dom,bo.ids,bo.fr⟩;show bJ _ _ _ _ (get (gd 0 avs) t) _;rw[BN];split
   .rename_i ht
    have b6:t<avs.length:=ab
    have:(vs++Array.replicate (fn.ntmps-vs.size) undef).getD t undef=vs[t]'ab:=by
     rw[dF,rD ab,du ab];rfl
    rw[this];exact d6 t _ _ al (du ab)
   .exact .w (.undef _) nofun
  have main:∀{bf:Fk}(w1:Ctx bf)(fn2:FuncId)(T2:Array Value)(D2:Nat)(s:LoopState)(j:Option Code)(st':St)(a':Act)(w':World)(m':Mm)(Kv:bE->Nat->Prop),bf.k=n->w1.w=w0.w->(∀p∈w0.F++env.map (λp=>(get env p.1,a.tmps.getD p.1 undef)),p∈w1.F)->w1.ds=[] ->
   (ri.l,dm ri fn2 T2 D2 s j)∈w1.obs->s≠.busy->(∀q∈(D,Obj.deferred (some []))::w0.obs,q∈w1.obs)->Sim B w1 st' a' w' m'->gC P fn.results.toList st' (λ_ h' n'=>Kv h' n') ->
   a'.defers=[]/\∃v w4,(results fn a'.tmps).run P w'=.ok v w'/\(Instr.endLoop (w.heap.size+1)).run P w'=.ok j w4/\∃(w2:Ctx fk)(h':bE)(n':Nat)(m2:Mm),w2.w=w0.w/\w2.r=none/\rh w2/\Kv h' n'/\Sim B w2 ⟨env,h',n',nt⟩ { a with defers:=[{ target:=.collected w.heap.size,args:=#[] }]++a.defers } w4 m2:=by
   intro bf w1 fn2 T2 D2 s j st' a' w' m' Kv d' el hF1 c6 fm i4 ec h8 c3;refine⟨by have:=h8.defers;rw[c6] at this;exact this,?_⟩;unfold gC at c3;split at c3
   .rename_i bd d bk;obtain⟨gv,b4⟩:=c3;obtain⟨us,h1,h2,h3⟩:=rX h8 _ _ _ bk gv
    have a9:(results fn a'.tmps).run P w'=.ok (if h:us.toArray.size=1 then us.toArray[0] else .tuple us.toArray) w':=by
     have he:results fn a'.tmps=(do
      let vs <-fn.results.mapM (pT a'.tmps)
      pure (if h:vs.size=1 then vs[0] else .tuple vs)):=rfl
     rw[he,tA];simp only[Sem.run_bind,Sem.run_map,h1,Result.andThen_ok,Sem.run_pure]
    obtain⟨hBl,f7,hLl,hl⟩:=h8.fr.2.2 (ri.l,dm ri fn2 T2 D2 s j) fm
    replace hl:w'.heap[w.heap.size+1]?=some (dm ri fn2 T2 D2 s j):=by rw[<-cm];exact hl
    replace f7:w.heap.size+1<w'.heap.size:=by rw[<-cm];exact f7
    have e8:(dm ri fn2 T2 D2 s j).isCells=false:=rfl;refine⟨_,w'.putObj (w.heap.size+1) (dm ri fn2 T2 D2 .exhausted j),a9,run_endLoop hl i4,?_⟩
    have d8:∀ad v,w'.cell? ad=some v->(w'.putObj (w.heap.size+1) (dm ri fn2 T2 D2 .exhausted j)).cell? ad=some v:=λad v h=>xC hl e8 ad v h
    have dl:=h8.fr.2.1
    have hold:∀t,bJ B (LB m' st'.heap) m' (w'.putObj (w.heap.size+1) (dm ri fn2 T2 D2 .exhausted j)) (get env t) (a.tmps.getD t undef):=by
     intro t
     rcases uE env t with ⟨v,hv⟩|hu
     .exact ((dl (get env t,a.tmps.getD t undef) (hF1 _ (iV.2 (.inr (jH.2 ⟨(t,v),hv,rfl⟩))))).2).nT d8
     .rw[hu];exact .w (.undef _) nofun
    have a4:Sim B (⟨w0.w,[],none,[],[],λri h=>au,w0.ok⟩:Ctx ⟨0,none⟩) st' a' (w'.putObj (w.heap.size+1) (dm ri fn2 T2 D2 .exhausted j)) m':=
     Sim.put (w1:=(⟨w0.w,[],none,[],[],λri h=>au,w0.ok⟩:Ctx ⟨0,none⟩)) (o':=dm ri fn2 T2 D2 .exhausted j) h8 hl e8 (λ_ _ h=>au) (by rw[<-cm];exact hBl) el.symm rfl (by have:=h8.defers;rw[c6] at this;exact this) ⟨cG _,(λp hp=>by cases hp),λq hq=>by cases hq⟩
    have c2:∀q,q∈(D,Obj.deferred (some []))::w0.obs->B.n<=q.1/\q.1<(w'.putObj (w.heap.size+1) (dm ri fn2 T2 D2 .exhausted j)).heap.size/\¬LB m' st'.heap q.1/\(w'.putObj (w.heap.size+1) (dm ri fn2 T2 D2 .exhausted j)).heap[q.1]?=some q.2:=by
     intro q hq
     have b5:q.1≠w.heap.size+1:=by
      rcases dM.1 hq with e|hq
      .subst e;simp only[hD];omega
      .have:=(hs.fr.2.2 q hq).2.1;omega
     obtain⟨o1,o2,o3,o4⟩:=h8.fr.2.2 q (ec q hq);exact⟨o1,by simpa using o2,o3,(World.putObj_heap_other b5).trans o4⟩
    refine⟨⟨w0.w,w0.F,none,(D,.deferred (some []))::w0.obs,D::w0.ds,λge e=>?_,w0.ok⟩,st'.heap,st'.nxt,m',rfl,rfl,⟨?_,?_⟩,b4,⟨a4.base,a4.below,?_,hs.size,hold,a4.heap,a4.dom,a4.ids,dJ hs.fr.1 (by have:=h8.fr.1;rw[d'] at this;exact this),λp hp=>?_,c2⟩⟩
    .obtain⟨f1,T1,D1,g1,g2,g3⟩:=w0.dm ge e;exact⟨f1,T1,D1,eH _ g1,g2,g3⟩
    .refine List.nodup_cons.2 ⟨λhin=>?_,hd.1⟩;have:=(hs.fr.2.2 _ (hd.2 D hin)).2.1;simp only[hD] at this;omega
    .intro D' df
     rcases dM.1 df with e|df
     .subst e;simp
     .exact eH _ (hd.2 D' df)
    .show [_]++a.defers=marks (D::w0.ds);rw[hs.defers,hD];rfl
    .exact⟨(hs.fr.2.1 p hp).1,((dl p (hF1 p (iV.2 (.inl hp)))).2).nT d8⟩
   trivial
  refine fe (ft _ _ _ _ _ a6) (λe a' w' hq=>?_)
  have fin1:∀(st':St)(m':Mm),gC P fn.results.toList st' (λ_ h' n'=>K .normal ⟨env,h',n',nt⟩)->Sim B (⟨w0.w,w0.F++env.map (λp=>(get env p.1,a.tmps.getD p.1 undef)),none,(ri.l,dm ri fni a.tmps D .ready none)::(D,.deferred (some []))::w0.obs,[],aq,w0.ok⟩:Ctx ⟨n,some ri⟩) st' a' w' m' ->
   a'.defers=[]/\∀w1x,EnvD.E w' w1x->∃v,(results fn a'.tmps).run P w1x=.ok v w1x/\Ch P (w.heap.size+1) none (λe a' w'=>∃(w1:Ctx fk)(st':St)(m':Mm),w1.w=w0.w/\w1.r=none/\rh w1/\K e st'/\Sim B w1 st' a' w' m') { a with defers:=[{ target:=.collected w.heap.size,args:=#[] }]++a.defers } (.returned v) w1x:=by
   intro st' m' c3 h8;refine⟨(main (⟨w0.w,w0.F++env.map (λp=>(get env p.1,a.tmps.getD p.1 undef)),none,(ri.l,dm ri fni a.tmps D .ready none)::(D,.deferred (some []))::w0.obs,[],aq,w0.ok⟩:Ctx ⟨n,some ri⟩) fni a.tmps D .ready none st' a' w' m' (λh' n'=>K .normal ⟨env,h',n',nt⟩) rfl rfl (λp hp=>hp) rfl ae ae (λq hq=>eH _ hq) h8 c3).1,λw1x e1=>?_⟩;obtain⟨_,v,_,h2,_⟩:=main (⟨w0.w,w0.F++env.map (λp=>(get env p.1,a.tmps.getD p.1 undef)),none,(ri.l,dm ri fni a.tmps D .ready none)::(D,.deferred (some []))::w0.obs,[],aq,w0.ok⟩:Ctx ⟨n,some ri⟩) fni a.tmps D .ready none st' a' w1x m' (λh' n'=>K .normal ⟨env,h',n',nt⟩) rfl rfl (λp hp=>hp) rfl ae ae (λq hq=>eH _ hq) (h8.move e1) c3;refine⟨v,h2,λw2x e2=>?_⟩;obtain⟨_,_,w4,_,h3,w2,h',n',m2,g1,g2,g3,g4,g5⟩:=main (⟨w0.w,w0.F++env.map (λp=>(get env p.1,a.tmps.getD p.1 undef)),none,(ri.l,dm ri fni a.tmps D .ready none)::(D,.deferred (some []))::w0.obs,[],aq,w0.ok⟩:Ctx ⟨n,some ri⟩) fni a.tmps D .ready none st' a' w2x m' (λh' n'=>K .normal ⟨env,h',n',nt⟩) rfl rfl (λp hp=>hp) rfl ae ae (λq hq=>eH _ hq) ((h8.move e1).move e2) c3
   grind
  have fin2:∀(w1:Ctx ⟨n,none⟩)(st':St)(m':Mm),re (⟨w0.w,w0.F++env.map (λp=>(get env p.1,a.tmps.getD p.1 undef)),none,(ri.l,dm ri fni a.tmps D .ready none)::(D,.deferred (some []))::w0.obs,[],aq,w0.ok⟩:Ctx ⟨n,some ri⟩) w1 ->
   gC P fn.results.toList st' (λ_ h' n'=>K .ret ⟨env,h',n',nt⟩)->Sim B w1 st' a' w' m' ->
   a'.defers=[]/\∀w1x,EnvD.E w' w1x->∃v,(results fn a'.tmps).run P w1x=.ok v w1x/\Ch P (w.heap.size+1) none (λe a' w'=>∃(w1:Ctx fk)(st':St)(m':Mm),w1.w=w0.w/\w1.r=none/\rh w1/\K e st'/\Sim B w1 st' a' w' m') { a with defers:=[{ target:=.collected w.heap.size,args:=#[] }]++a.defers } (.returned v) w1x:=by
   rintro w1 st' m' ⟨l1,l2,l3,l4,⟨fn2,T2,D2,l5⟩,l6⟩ c3 h8
   have fg:∀q∈(D,Obj.deferred (some []))::w0.obs,q∈w1.obs:=λq hq=>l6 q (eH _ hq) (by
    rcases dM.1 hq with e|hq
    .simp_all
    .have:=(hs.fr.2.2 q hq).2.1;omega)
   refine⟨(main w1 fn2 T2 D2 .done (some .ret) st' a' w' m' (λh' n'=>K .ret ⟨env,h',n',nt⟩) rfl l1 (λp hp=>by rw[l2];exact hp) l4 l5 ae fg h8 c3).1,λw1x e1=>?_⟩;obtain⟨_,v,_,h2,_⟩:=main w1 fn2 T2 D2 .done (some .ret) st' a' w1x m' (λh' n'=>K .ret ⟨env,h',n',nt⟩) rfl l1 (λp hp=>by rw[l2];exact hp) l4 l5 ae fg (h8.move e1) c3;refine⟨v,h2,λw2x e2=>?_⟩;obtain⟨_,_,w4,_,h3,w2,h',n',m2,g1,g2,g3,g4,g5⟩:=main w1 fn2 T2 D2 .done (some .ret) st' a' w2x m' (λh' n'=>K .ret ⟨env,h',n',nt⟩) rfl l1 (λp hp=>by rw[l2];exact hp) l4 l5 ae fg ((h8.move e1).move e2) c3;exact⟨some .ret,w4,h3,ET ⟨w2,_,m2,g1,g2,g3,g4,g5⟩⟩
  rcases hq with ⟨st',m',hk,h8⟩|⟨w1,hl,st',m',hk,h8⟩
  .cases e with
   |normal=>exact fin1 st' m' hk h8
   |ret=>exact fin1 st' m' hk h8
   |_=>exact hk.elim
  .cases e with
   |normal=>exact fin2 w1 st' m' hl hk h8
   |ret=>exact fin2 w1 st' m' hl hk h8
   |_=>exact hk.elim
theorem BQ{g:Operand}{ps:Array Tmp}{assign body:Code}{env:Env}{h:bE}{n nt:Nat}{gf:FuncId}{bY:List AV}(hf:ga (ev env g)=some (gf,bY)){fn:Func}{c:Code}(ay:P.funcs[gf]?=some fn) (h9:(fn.name == "runtime.NumGoroutine")=false) (hb:fn.body=some c) (bh:bY.length+1<=fn.ntmps) (hw:∀l,cP ⟨n,some ⟨l,env,nt,ps,assign,body⟩⟩ P c ⟨gd 0 (.w false false (.yl l)::bY),h,n,fn.ntmps⟩ (iG P fn.results.toList λ_ h' n'=>K .normal ⟨env,h',n',nt⟩)):fG fk P (.rangeFunc g ps assign body) ⟨env,h,n,nt⟩ K:=
 Ho hf ay h9 hb bh (λl=>Hn (hw l))
theorem xD{f:FuncId}{fn:Func}{c:Code}{args:List PV}{res:PV}{fr:Bool}(hf:P.funcs[f]?=some fn) (h9:(fn.name == "runtime.NumGoroutine")=false) (hb:fn.body=some c) (bh:args.length<=fn.ntmps) (h:fG fk0 P c ⟨jm 0 args,[],0,fn.ntmps⟩ (sX P fn.results.toList res fr)):bX P f args res fr:=by
 refine⟨⟨fn,hf,h9,by rw[hb];rfl⟩,λG w vs fh hlen bj=>?_⟩;refine EU hf hb ?_
 have a6:Sim ⟨w.heap.size,G⟩ (⟨w,[],none,[],[],λri h=>au,fh⟩:Ctx fk0) ⟨jm 0 args,[],0,fn.ntmps⟩ { tmps:=vs++Array.replicate (fn.ntmps-vs.size) undef,defers:=[] } w ⟨λ_ _=>none,λ_=>0,λ_=>False⟩:=by
  refine⟨rfl,Bel.refl _ _,rfl,ar,λt=>?_,⟨λid cells hin=>(by cases hin),List.Pairwise.nil⟩,λi=>⟨λh=>h.elim,λh=>absurd h (JW i)⟩,λid c hin=>(by cases hin),cG _,(λp hp=>by cases hp),λq hq=>by cases hq⟩;show bJ _ _ _ _ (get (jm 0 args) t) _;rw[xq];split
  .rename_i ht
   have b6:t<args.length:=ab
   refine .w ?_ nofun
   have:(vs++Array.replicate (fn.ntmps-vs.size) undef).getD t undef=vs[t]'ab:=by
    rw[dF,rD ab,du ab];rfl
   rw[this]
   refine (bj t _ _ al (du ab)).imp λb hg=>⟨?_,nofun,λ_=>hg⟩
   rintro⟨id,cells,C,hin,_⟩
   cases hin
  .exact .w (.undef _) nofun
 refine fe (h _ _ _ _ _ rfl ⟨List.nodup_nil,λD h=>au⟩ a6) (λe a' w' ⟨w1,st',m',g1,g2,g3,hk,hs⟩=>?_)
 have main:oN P fn.results.toList st' res fr->∀(ds:List Nat)(w1:Ctx fk0)(a1:Act)(W:World),w1.w=w->w1.ds=ds->rh w1->Sim ⟨w.heap.size,G⟩ w1 st' a1 W m' ->
  pA P fn a1.tmps (λe w'=>∃v,e=.returned v/\Bel w.heap.size w w'/\Rep (λb=>(b<w.heap.size->G b)/\(fr=true->w.heap.size<=b)) w' res v) (marks ds) W:=by
  intro hr ds
  induction ds with
  |nil=>
   intro w1 a1 W fv ek a5 hs;intro W e1;replace hs:=hs.move e1;unfold oN at hr;split at hr
   .rename_i bd d bk;obtain⟨hd,gy,cj⟩:=hr;obtain⟨us,h1,h2,h3⟩:=rX hs _ _ _ bk hd
    have a9:(results fn a1.tmps).run P W=.ok (if h:us.toArray.size=1 then us.toArray[0] else .tuple us.toArray) W:=by
     have he:results fn a1.tmps=(do
      let vs <-fn.results.mapM (pT a1.tmps)
      pure (if h:vs.size=1 then vs[0] else .tuple vs)):=rfl
     rw[he,tA];simp only[Sem.run_bind,Sem.run_map,h1,Result.andThen_ok,Sem.run_pure]
    have bb:bJ ⟨w.heap.size,G⟩ (LB m' st'.heap) m' W (oneOf bd) (if h:us.toArray.size=1 then us.toArray[0] else .tuple us.toArray):=by
     have tupc:bd.length≠1->bJ ⟨w.heap.size,G⟩ (LB m' st'.heap) m' W (.tup bd) (if h:us.toArray.size=1 then us.toArray[0] else .tuple us.toArray):=by
      intro b5;rw[dif_neg ar];exact .tup (by simpa using h2) (λj p u hp hu=>h3 j p u hp (by simpa using hu))
     match bd,h2,h3,tupc with
     |[],h2,h3,tupc=>exact tupc ae
     |[v],h2,h3,tupc=>
      obtain⟨u,rfl⟩:∃u,us=[u]:=DT.1 aV;exact h3 0 v u rfl rfl
     |v::v2::r,h2,h3,tupc=>exact tupc ae
    refine⟨_,a9,_,rfl,?_,?_⟩
    .have c5:=hs.below;rw[fv] at c5;exact c5
    exact oh (B:=⟨w.heap.size,G⟩) hs.heap (λid cs e=>fR e) fr (λb hb=>⟨λhl=>by simp only at hb;omega,λ_=>hb⟩) (λhf b hg=>⟨hg.2.2,λh=>by rw[hf] at h;cases h⟩) 6 _ _ _ gy cj bb
   trivial
  |cons D ds ih=>
   intro w1 a1 W fv ek a5 hs;intro W e1;replace hs:=hs.move e1;obtain⟨hBD,hDl,hLD,hDh⟩:=hs.fr.2.2 _ (a5.2 D (by rw[ek];simp));refine⟨D,_,rfl,run_takeDeferred hDh,?_⟩;have gh:=a5.1;rw[ek] at gh;obtain⟨ii,i2⟩:=List.nodup_cons.1 gh;refine ih (⟨w1.w,[],none,w1.obs.filter (λq=>decide (q.1≠D)),ds,λri h=>au,w1.ok⟩:Ctx fk0) { a1 with defers:=marks ds } _ fv rfl ⟨i2,λD' df=>rF.2 ⟨a5.2 D' (by rw[ek];simp[df]),ak⟩⟩ ?_;refine Sim.put (w1:=(⟨w1.w,[],none,w1.obs.filter (λq=>decide (q.1≠D)),ds,λri h=>au,w1.ok⟩:Ctx fk0)) (o':=.deferred none) hs hDh rfl (λ_ _ h=>au) hBD rfl rfl rfl ⟨cG _,(λp hp=>by cases hp),λq hq=>?_⟩;obtain⟨hq,b5⟩:=rF.1 hq;obtain⟨o1,o2,o3,o4⟩:=hs.fr.2.2 q hq;exact⟨o1,by simpa using o2,o3,(World.putObj_heap_other ak).trans o4⟩
 cases e with
 |normal=>
  show pA _ _ _ _ a'.defers _;rw[hs.defers];exact main hk _ _ _ _ g1 rfl g3 hs
 |ret=>
  show pA _ _ _ _ a'.defers _;rw[hs.defers];exact main hk _ _ _ _ g1 rfl g3 hs
 |_=>exact hk.elim
end
section
variable{P:Program}{K:Exit->St->Prop}{st st':St}
end
section
variable{P:Program}{K:Exit->St->Prop}
theorem qJ{ops:Array Oper}{nt:Nat}{B:Base}{w0:Ctx fk}{Kr:Env->bE->Nat->Prop}{Q:Exit->Act->World->Prop}(rest:List Oper)(hQ:∀e h n a w m,Kr e h n->Sim B w0 ⟨e,h,n,nt⟩ a w m->iB w0.r P ops Q rest a w):∀(os:List Oper)(e:Env)(h:bE)(n:Nat)(a:Act)(w:World)(m:Mm),dt P ops nt os e h n Kr->Sim B w0 ⟨e,h,n,nt⟩ a w m->iB w0.r P ops Q (os++rest) a w
 |[],e,h,n,a,w,m,hk,hs=>hQ e h n a w m hk hs
 |o::os,e,h,n,a,w,m,hk,hs=>by
  simp only[dt] at hk;split at hk
  .rename_i g hg;have hw:=qy hg hs;simp only[qm,iB,hw];intro w e1;replace hs:=hs.move e1
   cases g with
   |true=>
    simp only[cz];exact jK (wI (hk.2.1 rfl)) (wJ w0 o (K:=λv h' n'=>dt P ops nt os (put e o.dst v) h' n' Kr) (hk.2.1 rfl) hs hk.1 Q _ (λv h' n' a' w' m' aw h8=>qJ rest hQ os _ _ _ _ _ m' aw h8))
   |false=>
    simp only[dz,cT];refine qJ rest hQ os _ _ _ _ _ m (hk.2.2 rfl) ⟨hs.base,hs.below,by rw[kI];exact hs.defers,by rw[kE];exact hs.size,?_,hs.heap,hs.dom,hs.ids,hs.fr⟩;exact ni e a o.dst _ _ (by rw[hs.size];exact hk.1) (.tup rfl (λj p v hp=>by simp at hp)) hs.env
  trivial
def YW(P:Program)(ri:RI)(nt:Nat)(e:Env)(h:bE)(n:Nat)(o:Oper)(K:Env->bE->Nat->Prop):Prop:=
 match o.op with
 |.call { callee:=.value f,args:=args,argTypes:=_ }=>dOk nt o.dst/\(∃ow fl,ev e f=.w ow fl (.yl ri.l)) /\
   Round P ri (args.toList.map (ev e)) h n (λh' n'=>K (put e o.dst (.w false false (.bool true))) h' n')
 |_=>False
def gYW(P:Program)(ri:RI)(ops:Array Oper)(nt:Nat)(e:Env)(h:bE)(n:Nat)(o:Oper)(K:Env->bE->Nat->Prop):Prop:=
 match gj ops e o with
 |some g=>dOk nt o.dst/\(g=true->YW P ri nt e h n o K)/\(g=false->K (put e o.dst (.tup [])) h n)
 |none=>False
theorem Pe{k:Nat}{ri:RI}{id:Nat}{ops:Array Oper}{env:Env}{h:bE}{n nt:Nat}(pre:List Oper)(o:Oper)(post:List Oper)(b7:ops.toList=pre++o::post)(hk:dt P ops nt pre env h n λe' h' n'=>gYW P ri ops nt e' h' n' o λaa ag ao=>dt P ops nt post aa ag ao λe3 h3 n3=>K .normal ⟨e3,h3,n3,nt⟩):cP ⟨k,some ri⟩ P (.region id ops false) ⟨env,h,n,nt⟩ K:=by
 intro B w0 a w m hs;refine qv ?_;rw[b7];refine qJ (o::post) ?_ pre env h n a w m hk hs;intro e h n a w m hy hs;unfold gYW at hy;split at hy
 .rename_i g hg;have hw:=qy hg hs;simp only[iB,hw];intro w e1;replace hs:=hs.move e1
  have bm:∀aa ag ao cp d7 c4,(dt P ops nt post aa ag ao λe3 h3 n3=>K .normal ⟨e3,h3,n3,nt⟩)->Sim B w0 ⟨aa,ag,ao,nt⟩ cp d7 c4->iB w0.r P ops (λe a' w'=>∃st' m',K e st'/\Sim B w0 st' a' w' m') post cp d7:=
   λaa ag ao cp d7 c4 aw h8=>nj (λ_ _ _ _ _ m aw h8=>⟨_,m,aw,h8⟩) post _ _ _ _ _ c4 aw h8
  cases g with
  |true=>
   simp only[cz];have em:=hy.2.1 rfl;unfold YW at em;split at em
   .rename_i f args tys ho;obtain⟨a5,⟨ow,fl,hf⟩,hr⟩:=em;exact Pa o f args tys ho hf (Kv:=λv h' n'=>v=.w false false (.bool true)/\dt P ops nt post (put e o.dst (.w false false (.bool true))) h' n' λe3 h3 n3=>K .normal ⟨e3,h3,n3,nt⟩)
     ⟨hr.1,hr.2.1,tZ hr.2.2 (λe s hk=>by
       cases e with
       |normal=>exact tZ hk (λe s hk=>by
         cases e with
         |normal=>
          obtain⟨h',n',ax,h1,h2⟩:=hk;exact⟨h',n',ax,h1,rfl,h2⟩
         |_=>exact hk.elim)
       |_=>exact hk.elim)⟩ hs a5 _ _ (λv h' n' a' w' m' b4 h8=>by
        obtain⟨rfl,b4⟩:=b4
        exact bm _ _ _ _ _ m' b4 h8)
   .exact em.elim
  |false=>
   simp only[dz,cT];refine bm _ _ _ _ _ m (hy.2.2 rfl) ⟨hs.base,hs.below,by rw[kI];exact hs.defers,by rw[kE];exact hs.size,?_,hs.heap,hs.dom,hs.ids,hs.fr⟩;exact ni e a o.dst _ _ (by rw[hs.size];exact hy.1) (.tup rfl (λj p v hp=>by simp at hp)) hs.env
 trivial
def IW(P:Program)(nt:Nat)(e:Env)(h:bE)(n:Nat)(o:Oper)(g:FuncId)(bY:List AV)(fn:Func)(c:Code)(args:List AV)(K:Env->bE->Nat->Prop):Prop:=
 dOk nt o.dst/\o.guard=none/\cP ⟨n,none⟩ P c ⟨gd 0 (args++bY),h,n,fn.ntmps⟩ (iG P fn.results.toList λv h' n'=>K (put e o.dst v) h' n')
theorem Pf{id:Nat}{ops:Array Oper}{env:Env}{h:bE}{n nt:Nat}(pre:List Oper)(o:Oper)(post:List Oper)(b7:ops.toList=pre++o::post){f:Operand}{args:Array Operand}{tys:Array TypeId}(ho:o.op=.call { callee:=.value f,args:=args,argTypes:=tys }){g:FuncId}{fn:Func}{c:Code}(ay:P.funcs[g]?=some fn) (h9:(fn.name == "runtime.NumGoroutine")=false) (hb:fn.body=some c) (hk:dt P ops nt pre env h n λe' h' n'=>∃bY,ga (ev e' f)=some (g,bY)/\(args.toList.map (ev e')++bY).length<=fn.ntmps/\IW P nt e' h' n' o g bY fn c (args.toList.map (ev e')) λaa ag ao=>dt P ops nt post aa ag ao λe3 h3 n3=>K .normal ⟨e3,h3,n3,nt⟩):cP fk P (.region id ops false) ⟨env,h,n,nt⟩ K:=by
 intro B w0 a w m hs;refine qv ?_;rw[b7];refine qJ (o::post) ?_ pre env h n a w m hk hs
 rintro e h n a w m ⟨bY,hf,bh,a5,bv,hw⟩ hs
 have bm:∀aa ag ao cp d7 c4,(dt P ops nt post aa ag ao λe3 h3 n3=>K .normal ⟨e3,h3,n3,nt⟩)->Sim B w0 ⟨aa,ag,ao,nt⟩ cp d7 c4->iB w0.r P ops (λe a' w'=>∃st' m',K e st'/\Sim B w0 st' a' w' m') post cp d7:=
  λaa ag ao cp d7 c4 aw h8=>nj (λ_ _ _ _ _ m aw h8=>⟨_,m,aw,h8⟩) post _ _ _ _ _ c4 aw h8
 simp only[iB,Region.wanted,bv,cz];intro w e1;replace hs:=hs.move e1;exact jK (λc e=>by rw[ho] at e;cases e) (Hk o f args tys ho hf ay h9 hb bh none (λ_ h=>au) hw hs a5 _ _ (λv h' n' a' w' m' b4 h8=>bm _ _ _ _ _ m' b4 h8))
end
def EqV(x:AV)(E:List (List AV))(v:AV):Prop:=x=v/\E=[]
def EqE(x:AV)(h':bE)(n':Nat)(v:AV)(h:bE)(n:Nat):Prop:=x=v/\h'=h/\n'=n
omit [bI] in
@[congr] theorem ZE{x x' v:AV}{E E':List (List AV)}(h:x=x')(h2:E=E'):EqV x E v=EqV x' E' v:=by rw[h,h2]
omit [bI] in
@[congr] theorem ZF{x x' v:AV}{h h' h0:bE}{n n' n0:Nat}(e1:x=x')(e2:h=h')(e3:n=n'):EqE x h n v h0 n0=EqE x' h' n' v h0 n0:=by rw[e1,e2,e3]
section
variable{P:Program}{ops:Array Oper}{nt:Nat}{env:Env}{h:bE}{n:Nat}
section
variable{op:Op}{b:Bool}{v:AV}
end
end
theorem bN{P:Program}{g:FuncId}{args c9:List PV}{K:PV->Bool->Prop}{K2:List (List AV)->AV->Prop}{res:PV}{fr:Bool}{mk:Mark (K,K2)}(h:bX P g args res fr)(e:c9=args)(hk:K res fr):CW P g c9 K K2 mk:=.inl ⟨res,fr,e▸h,hk⟩
section
variable{P:Program}{K:Exit->St->Prop}
@[simp ↓]theorem ZG(b:Code)(s:St):yh fk P b K .normal s=fG fk P b s K:=rfl
@[simp ↓]theorem ZH(b:Code)(s:St):yh fk P b K .ret s=K .ret s:=rfl
@[simp ↓]theorem ZI(b:Code)(id:Nat)(s:St):yh fk P b K (.exit id) s=K (.exit id) s:=rfl
@[congr] theorem ZJ{c:Code}{st st':St}(h:st=st'):fG fk P c st K=fG fk P c st' K:=by rw[h]
def yi(P:Program)(ri:RI)(avs:List AV)(h:bE)(n:Nat)(K:bE->Nat->Prop)(_:Mark (ri,K)):Prop:=Round P ri avs h n K
@[congr] theorem ZK{ri:RI}{avs dc:List AV}{h h':bE}{n n':Nat}{K:bE->Nat->Prop}{mk:Mark (ri,K)}(e1:avs=dc)(e2:h=h')(e3:n=n'):yi P ri avs h n K mk=yi P ri dc h' n' K mk:=by rw[e1,e2,e3]
theorem BW{ri:RI}{avs:List AV}{h:bE}{n:Nat}{K:bE->Nat->Prop}{mk:Mark (ri,K)}(h1:avs.length=ri.ps.size)(h2:∀t∈ri.ps,t<ri.nt)(hk:cP ⟨n,none⟩ P ri.assign ⟨nW ri.env ri.ps.toList avs,h,n,ri.nt⟩ (ve P n ri.body K)):yi P ri avs h n K mk:=⟨h1,h2,hk⟩
@[simp ↓]theorem ZL(k:Nat)(body:Code)(K:bE->Nat->Prop)(s:St):ve P k body K .normal s=cP ⟨k,none⟩ P body s (ti k K):=rfl
theorem HB{k:Nat}{K:bE->Nat->Prop}{s:St}(h':bE)(n':Nat)(ax:Nat)(hle:Lek ⟨k,none⟩ s ⟨[],h',n',ax⟩)(hk:K h' n'):ti k K .normal s:=⟨h',n',ax,hle,hk⟩
@[congr] theorem ZM{k:Nat}{K:bE->Nat->Prop}{e e':Exit}{s s':St}(h1:e=e')(h2:s=s'):ti k K e s=ti k K e' s':=by rw[h1,h2]
@[congr] theorem ZN{k:Nat}{body:Code}{K:bE->Nat->Prop}{e e':Exit}{s s':St}(h1:e=e')(h2:s=s'):ve P k body K e s=ve P k body K e' s':=by rw[h1,h2]
section
variable{ri:RI}{ops:Array Oper}{nt:Nat}{e:Env}{h:bE}{n:Nat}{dst:Option Tmp}{op:Op}{ty:TypeId}{pos:String}{after:Array Edge}{j:Nat}{want:Bool}{Kr:Env->bE->Nat->Prop}
def yM(P:Program)(ri:RI)(nt:Nat)(e:Env)(h:bE)(n:Nat)(o:Oper)(K:Env->bE->Nat->Prop)(_:Mark K):Prop:=YW P ri nt e h n o K
@[congr] theorem ZO{e e':Env}{h h':bE}{n n':Nat}{o:Oper}{K:Env->bE->Nat->Prop}{mk:Mark K}(e1:e=e')(e2:h=h')(e3:n=n'):yM P ri nt e h n o K mk=yM P ri nt e' h' n' o K mk:=by rw[e1,e2,e3]
def gY(P:Program)(ri:RI)(ops:Array Oper)(nt:Nat)(e:Env)(h:bE)(n:Nat)(o:Oper)(K:Env->bE->Nat->Prop)(_:Mark K):Prop:=gYW P ri ops nt e h n o K
@[congr] theorem ZP{e e':Env}{h h':bE}{n n':Nat}{o:Oper}{K:Env->bE->Nat->Prop}{mk:Mark K}(e1:e=e')(e2:h=h')(e3:n=n'):gY P ri ops nt e h n o K mk=gY P ri ops nt e' h' n' o K mk:=by rw[e1,e2,e3]
def gYm(g:Option Bool)(P:Program)(ri:RI)(nt:Nat)(e:Env)(h:bE)(n:Nat)(o:Oper)(K:Env->bE->Nat->Prop)(_:Mark K):Prop:=gW g (YW P ri nt e h n o K) (K (put e o.dst (.tup [])) h n)
@[congr] theorem ZQ{g g':Option Bool}{e:Env}{h:bE}{n:Nat}{o:Oper}{K:Env->bE->Nat->Prop}{mk:Mark K}(e0:g=g'):gYm g P ri nt e h n o K mk=gYm g' P ri nt e h n o K mk:=by rw[e0]
@[simp]theorem ZR{o:Oper}{mk:Mark Kr}:gYm (some true) P ri nt e h n o Kr mk=YW P ri nt e h n o Kr:=by unfold gYm;exact BG _ _
@[simp]theorem ZS{o:Oper}{mk:Mark Kr}:gYm (some false) P ri nt e h n o Kr mk=Kr (put e o.dst (.tup [])) h n:=by unfold gYm;exact BH _ _
@[simp ↓]theorem ZT{mk:Mark Kr}:gY P ri ops nt e h n ⟨dst,op,ty,pos,after,some (j,want)⟩ Kr mk=(dOk nt dst/\gYm (gOf ops e j want) P ri nt e h n ⟨dst,op,ty,pos,after,some (j,want)⟩ Kr .it):=by
 unfold gY gYW;rw[BI]
 cases gOf ops e j want<;>simp[gYm,gW]
@[simp ↓]theorem ZU{f:Operand}{args:Array Operand}{tys:Array TypeId}{g:Option (Nat×Bool)}:YW P ri nt e h n ⟨dst,.call ⟨.value f,args,tys⟩,ty,pos,after,g⟩ Kr=(dOk nt dst/\(∃ow fl,ev e f=.w ow fl (.yl ri.l))/\yi P ri (args.toList.map (ev e)) h n (λh' n'=>Kr (put e dst (.w false false (.bool true))) h' n') .it):=rfl
end
theorem xE{k:Nat}{ri:RI}{id:Nat}{ops:Array Oper}{env:Env}{h:bE}{n nt:Nat}(i:Nat)(hi:i<ops.toList.length)(hk:dt P ops nt (ops.toList.take i) env h n λe' h' n'=>gY P ri ops nt e' h' n' (ops.toList.getD i default) (λaa ag ao=>dt P ops nt (ops.toList.drop (i+1)) aa ag ao λe3 h3 n3=>K .normal ⟨e3,h3,n3,nt⟩) .it):cP ⟨k,some ri⟩ P (.region id ops false) ⟨env,h,n,nt⟩ K:=by
 refine Pe (ops.toList.take i) (ops.toList.getD i default) (ops.toList.drop (i+1)) ?_ hk
 have e:ops.toList.getD i default=ops.toList[i]:=ak
 rw[e,DU,yO]
end
section
variable{P:Program}{K:Exit->St->Prop}
def Jq(fk:Fk)(P:Program)(ops:Array Oper)(nt:Nat)(os:List Oper)(e:Env)(h:bE)(n:Nat)(K:Env->bE->Nat->Prop)(_:Mark (os,K)):Prop:=
 ∃e2 h2 n2,Lek fk ⟨e,h,n,nt⟩ ⟨e2,h2,n2,nt⟩/\dt P ops nt os e2 h2 n2 K
@[congr] theorem ZV{ops:Array Oper}{nt:Nat}{os:List Oper}{e e':Env}{h h':bE}{n n':Nat}{K:Env->bE->Nat->Prop}{mk:Mark (os,K)}(h1:e=e')(h2:h=h')(h3:n=n'):Jq fk P ops nt os e h n K mk=Jq fk P ops nt os e' h' n' K mk:=by rw[h1,h2,h3]
end
section
variable{P:Program}{K:Exit->St->Prop}
def yj(P:Program)(ops:Array Oper)(nt:Nat)(o:Oper)(post:List Oper)(g:FuncId)(fn:Func)(c:Code)(args:Array Operand)(e:Env)(h:bE)(n:Nat)(K:Env->bE->Nat->Prop)(_:Mark (o,post,c,K)):Prop:=
 ∃bY,ga (ev e (.func g))=some (g,bY)/\(args.toList.map (ev e)++bY).length<=fn.ntmps/\IW P nt e h n o g bY fn c (args.toList.map (ev e)) λaa ag ao=>dt P ops nt post aa ag ao K
@[congr] theorem ZW{ops:Array Oper}{nt:Nat}{o:Oper}{post:List Oper}{g:FuncId}{fn:Func}{c:Code}{args:Array Operand}{e e':Env}{h h':bE}{n n':Nat}{K:Env->bE->Nat->Prop}{mk:Mark (o,post,c,K)}(h1:e=e')(h2:h=h')(h3:n=n'):yj P ops nt o post g fn c args e h n K mk=yj P ops nt o post g fn c args e' h' n' K mk:=by rw[h1,h2,h3]
theorem HC{ops:Array Oper}{nt:Nat}{o:Oper}{post:List Oper}{g:FuncId}{fn:Func}{c:Code}{args:Array Operand}{e:Env}{h:bE}{n:Nat}{K:Env->bE->Nat->Prop}{mk:Mark (o,post,c,K)}(hl:args.toList.length<=fn.ntmps)(hd:dOk nt o.dst)(hg:o.guard=none)(hk:cP ⟨n,none⟩ P c ⟨gd 0 (args.toList.map (ev e)),h,n,fn.ntmps⟩ (iG P fn.results.toList λv h' n'=>dt P ops nt post (put e o.dst v) h' n' K)):yj P ops nt o post g fn c args e h n K mk:=
 ⟨[],rfl,by rw[JR,iI];exact hl,hd,hg,by rw[JR];exact hk⟩
theorem uH{id:Nat}{ops:Array Oper}{env:Env}{h:bE}{n nt:Nat}(i:Nat){g:FuncId}{fn:Func}{c:Code}(ay:P.funcs[g]?=some fn) (h9:(fn.name == "runtime.NumGoroutine")=false) (hb:fn.body=some c) (hi:i<ops.toList.length) {args:Array Operand} {tys:Array TypeId} (ho:(ops.toList.getD i default).op=.call { callee:=.value (.func g),args:=args,argTypes:=tys }) (hk:dt P ops nt (ops.toList.take i) env h n λe' h' n'=>yj P ops nt (ops.toList.getD i default) (ops.toList.drop (i+1)) g fn c args e' h' n' (λe3 h3 n3=>K .normal ⟨e3,h3,n3,nt⟩) .it):cP fk P (.region id ops false) ⟨env,h,n,nt⟩ K:=by
 refine Pf (ops.toList.take i) (ops.toList.getD i default) (ops.toList.drop (i+1)) ?_ ho ay h9 hb hk
 have e:ops.toList.getD i default=ops.toList[i]:=ak
 rw[e,DU,yO]
end
def vi(P:Program)(f:FuncId)(args:List AV)(h:bE)(n:Nat)(id:Nat)(c:List AV)(v:AV):Prop:=
 se P f/\∀(B:Base)(m:Mm)(w:World)(vs:Array Value),B.n<=w.heap.size->cX B h m w->(∀i c,(i,c)∈h->m.dom i)->args.length=vs.size->(∀(j:Nat)(p:AV)(u:Value),args[j]?=some p->vs[j]?=some u->bJ B (LB m h) m w p u) ->
  iw P f vs w λe w'=>∃u m',e=.returned u/\EPost B h m w n (dQ h id c) n v u w' m'
section
variable{P:Program}{B:Base}{env:Env}{h:bE}{n nt:Nat}{a:Act}{w:World}{m:Mm}
theorem PD(w0:Ctx fk)(o:Oper){g:FuncId}{args:Array Operand}{tys:Array TypeId}(ho:o.op=.call { callee:=.value (.func g),args:=args,argTypes:=tys }){id:Nat}{c:List AV}{v:AV}(hx:vi P g (args.toList.map (ev env)) h n id c v)(hs:Sim B w0 ⟨env,h,n,nt⟩ a w m)(a5:dOk nt o.dst)(Q:Exit->Act->World->Prop)(K':Act->World->Prop)(hK:∀a' w' m',Sim B w0 ⟨put env o.dst v,dQ h id c,n,nt⟩ a' w' m'->K' a' w'):o.wpt P a w K' Q:=by
 obtain⟨⟨fn,ay,h9,dg⟩,di⟩:=hx
 have ei:∀x:Operand,bJ B (LB m h) m w (ev env x) (a.eval x):=λx=>ma x (λt _=>hs.env t)
 have a9:(execOp a.eval o).run P w=.ok (.enter g (args.map a.eval)) w:=by
  have dy:¬fn.name = "runtime.NumGoroutine" := by simpa using h9
  have ep:¬fn.body=none:=by intro h;simp[h] at dg
  have gx:a.eval (.func g)=.func (.func g) #[] #[]:=rfl;simp[execOp,ho,resolve,gx,Deferred.ofValue,invoke,callFunc,ay,dy,ep]
 unfold Oper.wpt;rw[a9,Oper.xL];refine (di B m w (args.map a.eval) hs.room hs.heap (λi c hin=>(hs.dom i).2 (hs.ids i c hin)) ae (λj p u hp hu=>?_)).mono ?_
 .obtain⟨y,hy,rfl⟩:=fX hp;rw[vm] at hu
  have:args[j]?=some y:=by rw[<-iW];exact hy
  rw[this] at hu;cases hu;exact ei y
 .rintro e w' ⟨u,m',rfl,e1,e2,e3,e4,e5,e6,e7⟩
  refine hK _ w' m' ⟨hs.base,hs.below.trans e3,by rw[kI];exact hs.defers,by rw[kE];exact hs.size,?_,e4,λi=>?_,λi c' g7=>?_,hs.fr.mono e1 e5 e6 (bS _)⟩
  .exact ni env a o.dst v u (by rw[hs.size];exact a5) e7 (λt=>(hs.env t).mono e1 e5 e6)
  .rw[e2,hs.dom];show i<n\/_↔i<n;omega
  .rw[mf h id _ (mg hs.heap)] at g7;obtain⟨p,hp,e⟩:=jH.1 g7;have:=hs.ids p.1 p.2 hp;split at e
   .injection e with e1 _;rw[<-e1];exact this
   .have e1:p.1=i:=by rw[e]
    rw[<-e1];exact this
def yk(P:Program)(ops:Array Oper)(nt:Nat)(o:Oper)(post:List Oper)(g:FuncId)(args:Array Operand)(e:Env)(h:bE)(n:Nat)(K:Env->bE->Nat->Prop)(_:Mark (o,post,K)):Prop:=
 dOk nt o.dst/\o.guard=none/\∃id c v,vi P g (args.toList.map (ev e)) h n id c v/\dt P ops nt post (put e o.dst v) (dQ h id c) n K
omit [bI] in
@[congr] theorem ZX[bI]{ops:Array Oper}{nt:Nat}{o:Oper}{post:List Oper}{g:FuncId}{args:Array Operand}{e e':Env}{h h':bE}{n n':Nat}{K:Env->bE->Nat->Prop}{mk:Mark (o,post,K)}(h1:e=e')(h2:h=h')(h3:n=n'):yk P ops nt o post g args e h n K mk=yk P ops nt o post g args e' h' n' K mk:=by rw[h1,h2,h3]
theorem HD{ops:Array Oper}{nt:Nat}{o:Oper}{post:List Oper}{g:FuncId}{args:Array Operand}{e:Env}{h:bE}{n:Nat}{K:Env->bE->Nat->Prop}{mk:Mark (o,post,K)}{id:Nat}{c:List AV}{v:AV}(hd:dOk nt o.dst)(hg:o.guard=none)(hx:vi P g (args.toList.map (ev e)) h n id c v)(hk:dt P ops nt post (put e o.dst v) (dQ h id c) n K):yk P ops nt o post g args e h n K mk:=⟨hd,hg,id,c,v,hx,hk⟩
theorem HF{K:Exit->St->Prop}{id:Nat}{ops:Array Oper}(pre:List Oper)(o:Oper)(post:List Oper)(b7:ops.toList=pre++o::post){g:FuncId}{args:Array Operand}{tys:Array TypeId}(ho:o.op=.call { callee:=.value (.func g),args:=args,argTypes:=tys })(hk:dt P ops nt pre env h n λe' h' n'=>yk P ops nt o post g args e' h' n' (λe3 h3 n3=>K .normal ⟨e3,h3,n3,nt⟩) .it):cP fk P (.region id ops false) ⟨env,h,n,nt⟩ K:=by
 intro B w0 a w m hs;refine qv ?_;rw[b7];refine qJ (o::post) ?_ pre env h n a w m hk hs
 rintro e h n a w m ⟨a5,bv,g0,c,v,hx,cx⟩ hs
 simp only[iB,Region.wanted,bv,cz];intro w e1x;replace hs:=hs.move e1x;exact jK (λc e=>by rw[ho] at e;cases e) (PD w0 o ho hx hs a5 _ _ (λa' w' m' h8=>nj (λ_ _ _ _ _ m aw h8=>⟨_,m,aw,h8⟩) post _ _ _ _ _ m' cx h8))
end
section
variable{P:Program}{K:Exit->St->Prop}
def IWY(r:Option RI)(P:Program)(nt:Nat)(e:Env)(h:bE)(n:Nat)(o:Oper)(g:FuncId)(bY:List AV)(fn:Func)(c:Code)(args:List AV)(K:Env->bE->Nat->Prop):Prop:=
 dOk nt o.dst/\o.guard=none/\cP ⟨n,r⟩ P c ⟨gd 0 (args++bY),h,n,fn.ntmps⟩ (iG P fn.results.toList λv h' n'=>K (put e o.dst v) h' n')
def Jx(r:Option RI)(P:Program)(ops:Array Oper)(nt:Nat)(o:Oper)(post:List Oper)(f:Operand)(g:FuncId)(fn:Func)(c:Code)(args:Array Operand)(e:Env)(h:bE)(n:Nat)(K:Env->bE->Nat->Prop)(_:Mark (o,post,c,K)):Prop:=
 ∃bY,ga (ev e f)=some (g,bY)/\(args.toList.map (ev e)++bY).length<=fn.ntmps/\IWY r P nt e h n o g bY fn c (args.toList.map (ev e)) λaa ag ao=>dt P ops nt post aa ag ao K
@[congr] theorem Z9{r:Option RI}{ops:Array Oper}{nt:Nat}{o:Oper}{post:List Oper}{f:Operand}{g:FuncId}{fn:Func}{c:Code}{args:Array Operand}{e e':Env}{h h':bE}{n n':Nat}{K:Env->bE->Nat->Prop}{mk:Mark (o,post,c,K)}(h1:e=e')(h2:h=h')(h3:n=n'):Jx r P ops nt o post f g fn c args e h n K mk=Jx r P ops nt o post f g fn c args e' h' n' K mk:=by rw[h1,h2,h3]
end
section
variable{P:Program}{env:Env}{h:bE}{n nt:Nat}
end
section
variable{P:Program}{env:Env}{h:bE}{n nt:Nat}
def yn(r:Option RI)(P:Program)(ops:Array Oper)(nt:Nat)(o:Oper)(post:List Oper)(f:Operand)(g:FuncId)(fn:Func)(c:Code)(args:Array Operand)(e:Env)(h:bE)(n:Nat)(K:Env->bE->Nat->Prop)(_:Mark (o,post,c,K)):Prop:=
 ∃bY,ga (ev e f)=some (g,bY)/\(args.toList.map (ev e)++bY).length<=fn.ntmps/\dOk nt o.dst/\gj ops e o=some true/\cP ⟨n,r⟩ P c ⟨gd 0 (args.toList.map (ev e)++bY),h,n,fn.ntmps⟩ (iG P fn.results.toList λv h' n'=>dt P ops nt post (put e o.dst v) h' n' K)
@[congr] theorem zaa{r:Option RI}{ops:Array Oper}{nt:Nat}{o:Oper}{post:List Oper}{f:Operand}{g:FuncId}{fn:Func}{c:Code}{args:Array Operand}{e e':Env}{h h':bE}{n n':Nat}{K:Env->bE->Nat->Prop}{mk:Mark (o,post,c,K)}(h1:e=e')(h2:h=h')(h3:n=n'):yn r P ops nt o post f g fn c args e h n K mk=yn r P ops nt o post f g fn c args e' h' n' K mk:=by rw[h1,h2,h3]
theorem xH{r:Option RI}{ops:Array Oper}{nt:Nat}{o:Oper}{post:List Oper}{f:Operand}{g:FuncId}{fn:Func}{c:Code}{args:Array Operand}{e:Env}{h:bE}{n:Nat}{K:Env->bE->Nat->Prop}{mk:Mark (o,post,c,K)}(bY:List AV)(hf:ga (ev e f)=some (g,bY))(hl:args.toList.length+bY.length<=fn.ntmps)(hd:dOk nt o.dst)(hg:gj ops e o=some true)(hk:cP ⟨n,r⟩ P c ⟨gd 0 (args.toList.map (ev e)++bY),h,n,fn.ntmps⟩ (iG P fn.results.toList λv h' n'=>dt P ops nt post (put e o.dst v) h' n' K)):yn r P ops nt o post f g fn c args e h n K mk:=
 ⟨bY,hf,by rw[nX,iI];exact hl,hd,hg,hk⟩
theorem xI{K:Exit->St->Prop}{id:Nat}{ops:Array Oper}(k:Nat)(g:FuncId)(hm:P.follows .mixedOrders=true)(cu:uR ops k=true)(cy:k<ops.size){fn:Func}{c:Code}(ay:P.funcs[g]?=some fn) (h9:(fn.name == "runtime.NumGoroutine")=false) (hb:fn.body=some c) {f:Operand} {args:Array Operand} {tys:Array TypeId} (ho:(ops.toList.getD k default).op=.call { callee:=.value f,args:=args,argTypes:=tys }) (hk:gk P ops nt (ops.toList.take k) env h n λe' h' n'=>yn fk.ri P ops nt (ops.toList.getD k default) (ops.toList.drop (k+1)) f g fn c args e' h' n' (λe3 h3 n3=>K .normal ⟨e3,h3,n3,nt⟩) .it):cP fk P (.region id ops true) ⟨env,h,n,nt⟩ K:=by
 obtain⟨hc,bp⟩:=Am cu;refine FZ k hm hc hk (λB w0 e' h' n' hK f' listed a w m ee b9 hl fd hs=>?_);obtain⟨bY,hf,bh,a5,bv,hw⟩:=hK
 cases f' with
 |zero=>
  exfalso;have:=qA (yJ.1 fd) (i:=k) ab;have:=(hl k cy).1 this;omega
 |succ f'=>
  have b5:=rP ee hc.down k cy (by
   grind)
  refine⟨λd3=>absurd d3 b5,λx fw=>?_⟩;obtain⟨o,br,d9,he⟩:=om ee fw;have ej:=(cY.1 br).1
  have fx:x=k:=by
   have h1:¬x<k:=λfz=>by
    have:=(hl x ej).2 fz;rw[dF,d9] at this;cases this
   rcases fo k x with h2|h2
   .have:=nk b9 8 x k o br he (bp x ab ej k h2);have:=(hl k cy).1 this;omega
   .omega
  subst fx
  have fb:ops.toList.getD x default=o:=by
   rw[dZ,iW,br];rfl
  rw[fb] at ho bv a5 hw;unfold lJ;rw[br];simp only[];intro w e1;replace hs:=hs.move e1;rw[qy bv hs];simp only[cz];refine jK (λc e=>by rw[ho] at e;cases e) (Hk o f args tys ho hf ay h9 hb bh fk.ri (λ_ h=>h) hw hs a5 _ _ (λv h' n' a' w' m' cx h8=>?_));refine wK (Kr:=λaa ag ao=>K .normal ⟨aa,ag,ao,nt⟩) (λe' h' n' a' w' m' aw a6=>⟨_,m',aw,a6⟩) hc.down bp f' (x+1) (listed.setIfInBounds x true) _ _ _ a' w' m' ab ab ak (b9.set br he) (λj hj=>?_) (by have:=qz d9;omega) cx h8;by_cases fy:x=j
  .simp_all
  .rw[getD_set_ne false fy,hl j hj];omega
end
end Go.Fi
namespace Go.Fi
open Go Go.RowKit
variable[bI]
section
variable{k:Nat}{ri:RI}{P:Program}{K Kd K' i9:Exit->St->Prop}{st st':St}
def tj(k:Nat)(ri:RI)(P:Program)(b:Code)(K Kd:Exit->St->Prop):Exit->St->Prop
 |.normal,s=>fH k ri P b s K Kd
 |e,s=>K e s
def tn(k:Nat)(P:Program)(b:Code)(Kd:Exit->St->Prop):Exit->St->Prop
 |.normal,s=>cP ⟨k,none⟩ P b s Kd
 |e,s=>Kd e s
@[simp ↓]theorem zab(b:Code)(s:St):tj k ri P b K Kd .normal s=fH k ri P b s K Kd:=rfl
@[simp ↓]theorem zac(b:Code)(s:St):tj k ri P b K Kd .ret s=K .ret s:=rfl
@[simp ↓]theorem zad(b:Code)(i:Nat)(s:St):tj k ri P b K Kd (.exit i) s=K (.exit i) s:=rfl
@[simp ↓]theorem zae(b:Code)(s:St):tn k P b Kd .normal s=cP ⟨k,none⟩ P b s Kd:=rfl
@[simp ↓]theorem zaf(b:Code)(s:St):tn k P b Kd .ret s=Kd .ret s:=rfl
@[simp ↓]theorem zag(b:Code)(i:Nat)(s:St):tn k P b Kd (.exit i) s=Kd (.exit i) s:=rfl
@[congr] theorem zah{c:Code}(h:st=st'):fH k ri P c st K Kd=fH k ri P c st' K Kd:=by rw[h]
@[congr] theorem zai{b:Code}{e e':Exit}(h1:e=e')(h2:st=st'):tj k ri P b K Kd e st=tj k ri P b K Kd e' st':=by rw[h1,h2]
@[congr] theorem zaj{b:Code}{e e':Exit}(h1:e=e')(h2:st=st'):tn k P b Kd e st=tn k P b Kd e' st':=by rw[h1,h2]
theorem P4{x y:Code}(h:fH k ri P x st (tj k ri P y K Kd) (tn k P y Kd)):fH k ri P (.seq x y) st K Kd:=
 λB w0 a w m hs=>zB (fe (h B w0 a w m hs) (λe a' w' hx=>by
  rcases hx with ⟨st',m',h1,h2⟩|⟨w1,hl,st',m',h1,h2⟩
  .cases e with
   |normal=>exact h1 B w0 a' w' m' h2
   |_=>exact .inl ⟨st',m',h1,h2⟩
  .cases e with
   |normal=>
    have:=h1 B w1 a' w' m' h2;rw[hl.2.2.1] at this;exact fe this (λe a2 w2 ⟨s2,m2,g1,g2⟩=>.inr ⟨w1,hl,s2,m2,g1,g2⟩)
   |_=>exact .inr ⟨w1,hl,st',m',h1,h2⟩))
theorem P5{id:Nat}{c:Code}(h:fH k ri P c st (jh id K) (jh id Kd)):fH k ri P (.block id c) st K Kd:=
 λB w0 a w m hs=>zC (fe (h B w0 a w m hs) (λe a' w' hx=>by
  rcases hx with ⟨st',m',h1,h2⟩|⟨w1,hl,st',m',h1,h2⟩
  .cases e with
   |exit g0=>
    simp only[Exit.inBlock];simp only[jh] at h1
    grind
   |_=>exact .inl ⟨st',m',h1,h2⟩
  .cases e with
   |exit g0=>
    simp only[Exit.inBlock];simp only[jh] at h1
    grind
   |_=>exact .inr ⟨w1,hl,st',m',h1,h2⟩))
def rn(Kd:Exit->St->Prop):Exit->St->Prop
 |.normal,_=>False
 |e,s=>Kd e s
section
omit [bI]
@[simp ↓]theorem zak(s:St):rn Kd .ret s=Kd .ret s:=rfl
@[simp ↓]theorem zal(i:Nat)(s:St):rn Kd (.exit i) s=Kd (.exit i) s:=rfl
@[congr] theorem zam{e e':Exit}(h1:e=e')(h2:st=st'):rn Kd e st=rn Kd e' st':=by rw[h1,h2]
end
theorem P6{c:Code}{α:Type}(J:α->Prop)(I:α->St)(μ:α->Nat)(x0:α)(hJ:J x0)(h0:Lek ⟨k,some ri⟩ st (I x0))(round:∀x,J x->fH k ri P c (I x) (lN ⟨k,some ri⟩ J I μ x K) (rn Kd)):fH k ri P (.loop c) st K Kd:=by
 intro B w0 a w m hs;refine zD (λk a w=>∃x m,J x/\μ x=k/\Sim B w0 (I x) a w m) (μ x0) aQ ?_
 rintro j a w ⟨x,m,hx,rfl,fp⟩
 refine fe (round x hx B w0 a w m fp) (λe a' w' hq=>?_)
 rcases hq with ⟨st',m',h2,h3⟩|⟨w1,hl,st',m',h2,h3⟩
 .cases e with
  |normal=>
   obtain⟨y,hy,b6,hle⟩:=h2;obtain⟨c4,h4⟩:=hle B w0 a' w' m' h3;exact⟨μ y,b6,y,c4,hy,rfl,h4⟩
  |_=>exact .inl ⟨st',m',h2,h3⟩
 .cases e with
  |normal=>exact h2.elim
  |_=>exact .inr ⟨w1,hl,st',m',h2,h3⟩
def YW2(P:Program)(ri:RI)(nt:Nat)(o:Oper)(f:Operand)(args:Array Operand)(e:Env)(h:bE)(n:Nat)(K Kl:Env->bE->Nat->Prop)(_:Mark (K,Kl)):Prop:=
 (∃ow fl,ev e f=.w ow fl (.yl ri.l))/\Jo P ri (args.toList.map (ev e)) h n (λh' n'=>K (put e o.dst (.w false false (.bool true))) h' n') (λh' n'=>Kl (put e o.dst (.w false false (.bool false))) h' n')
@[congr] theorem zan{nt:Nat}{o:Oper}{f:Operand}{args:Array Operand}{e e':Env}{h h':bE}{n n':Nat}{K Kl:Env->bE->Nat->Prop}{mk:Mark (K,Kl)}(h1:e=e')(h2:h=h')(h3:n=n'):YW2 P ri nt o f args e h n K Kl mk=YW2 P ri nt o f args e' h' n' K Kl mk:=by rw[h1,h2,h3]
theorem P7{nt:Nat}{o:Oper}{f:Operand}{args:Array Operand}{e:Env}{h:bE}{n:Nat}{K Kl:Env->bE->Nat->Prop}{mk:Mark (K,Kl)}(ow fl:Bool)(h1:ev e f=.w ow fl (.yl ri.l))(hl:args.toList.length=ri.ps.size)(b6:∀t∈ri.ps,t<ri.nt)(hk:cP ⟨n,none⟩ P ri.assign ⟨nW ri.env ri.ps.toList (args.toList.map (ev e)),h,n,ri.nt⟩ (vg P n ri.body (λh' n'=>K (put e o.dst (.w false false (.bool true))) h' n') (λh' n'=>Kl (put e o.dst (.w false false (.bool false))) h' n'))):YW2 P ri nt o f args e h n K Kl mk:=
 ⟨⟨ow,fl,h1⟩,by rw[iI];exact hl,b6,hk⟩
theorem P8{id:Nat}{ops:Array Oper}{env:Env}{h:bE}{n nt:Nat}(i:Nat)(hi:i<ops.toList.length){f:Operand}{args:Array Operand}{tys:Array TypeId}(ho:(ops.toList.getD i default).op=.call { callee:=.value f,args:=args,argTypes:=tys })(hg:(ops.toList.getD i default).guard=none)(hd:dOk nt (ops.toList.getD i default).dst)(hk:dt P ops nt (ops.toList.take i) env h n λe' h' n'=>YW2 P ri nt (ops.toList.getD i default) f args e' h' n' (λaa ag ao=>dt P ops nt (ops.toList.drop (i+1)) aa ag ao λe3 h3 n3=>K .normal ⟨e3,h3,n3,nt⟩) (λaa ag ao=>dt P ops nt (ops.toList.drop (i+1)) aa ag ao λe3 h3 n3=>Kd .normal ⟨e3,h3,n3,nt⟩) .it):fH k ri P (.region id ops false) ⟨env,h,n,nt⟩ K Kd:=by
 have e:ops.toList.getD i default=ops.toList[i]:=ak
 have b7:ops.toList=ops.toList.take i++ops.toList.getD i default::ops.toList.drop (i+1):=by rw[e,DU,yO]
 generalize ops.toList.getD i default=o at *;generalize ops.toList.take i=pre at *;generalize ops.toList.drop (i+1)=post at *;intro B w0 a w m hs;refine qv ?_;rw[b7];refine qJ (o::post) ?_ pre env h n a w m hk hs
 rintro e h n a w m ⟨⟨ow,fl,hf⟩,hr⟩ hs
 simp only[iB,Region.wanted,hg,cz];intro w e1;replace hs:=hs.move e1;refine Hm o f args tys ho hf hr hs hd _ _ (λh' n' a' w' m' b4 h8=>?_) (λw1 h' n' a' w' m' hl b4 h8=>?_)
 .exact nj (λ_ _ _ _ _ m aw h8=>.inl ⟨_,m,aw,h8⟩) post _ _ _ _ _ m' b4 h8
 .have:=nj (Q:=λe a' w'=>(∃st' m',K e st'/\Sim B w0 st' a' w' m')\/∃w1:Ctx ⟨k,none⟩,re w0 w1/\∃st' m',Kd e st'/\Sim B w1 st' a' w' m') (w0:=w1) (P:=P) (ops:=ops) (λ_ _ _ _ _ m aw h8=>.inr ⟨w1,hl,_,m,aw,h8⟩) post _ _ _ _ _ m' b4 h8;rw[hl.2.2.1] at this;exact this
end
section
variable{k:Nat}{ri:RI}{B:Base}{m:Mm}{w:World}{h:bE}{n:Nat}{env:Env}{a:Act}{P:Program}
theorem HL{w0:Ctx ⟨k,some ri⟩}{nt:Nat}(o:Oper)(f:Operand)(args:Array Operand)(tys:Array TypeId)(ho:o.op=.call { callee:=.value f,args:=args,argTypes:=tys }){g:FuncId}{bY:List AV}(hf:ga (ev env f)=some (g,bY)){fn:Func}{c:Code}(ay:P.funcs[g]?=some fn) (h9:(fn.name == "runtime.NumGoroutine")=false) (hb:fn.body=some c) (bh:(args.toList.map (ev env)++bY).length<=fn.ntmps) {Kv Kl:AV->bE->Nat->Prop} (hw:fH n ri P c ⟨gd 0 (args.toList.map (ev env)++bY),h,n,fn.ntmps⟩ (iG P fn.results.toList Kv) (iG P fn.results.toList Kl)) (hs:Sim B w0 ⟨env,h,n,nt⟩ a w m) (a5:dOk nt o.dst) (Q:Exit->Act->World->Prop) (K':Act->World->Prop) (hK:∀v h' n' a' w' m',Kv v h' n'->Sim B w0 ⟨put env o.dst v,h',n',nt⟩ a' w' m'->K' a' w') (hKl:∀(w1:Ctx ⟨k,none⟩) v h' n' a' w' m',re w0 w1->Kl v h' n'->Sim B w1 ⟨put env o.dst v,h',n',nt⟩ a' w' m'->K' a' w'):o.wpt P a w K' Q:=by
 refine Hj o f args tys ho hf ay h9 hb bh (some ri) (λ_ h=>h) Q K' (λw1 a1 e1 e2 e3 e4 e5 bl=>fe (e3▸hw B w1 a1 w m bl) (λe a' w' hq=>?_)) hs a5
 rcases hq with ⟨st',m',hk,h8⟩|⟨wl,hl,st',m',hk,h8⟩
 .have fin:∀e:Exit,(e=.normal\/e=.ret)->gC P fn.results.toList st' Kv->yg P B w0 env a n nt o fn K' e a' w':=λe he hk=>
   ⟨he,_,_,w1,w0,st',m',Kv,rfl,rfl,e1,e2,e5,rfl,rfl,rfl,λq hq=>e4▸hq,h8,hk,hK⟩
  cases e with
  |normal=>simp_all
  |ret=>simp_all
  |_=>exact hk.elim
 .obtain⟨l1,l2,l3,l4,⟨fn2,T2,D2,l5⟩,l6⟩:=hl
  have fin:∀e:Exit,(e=.normal\/e=.ret)->gC P fn.results.toList st' Kl->yg P B w0 env a n nt o fn K' e a' w':=λe he hk=>
   ⟨he,_,_,wl,(⟨w0.w,w0.F,w0.r,(ri.l,dm ri fn2 T2 D2 .done (some .ret))::w0.obs.filter (λq=>decide (q.1≠ri.l)),w0.ds,λri h=>au,w0.ok⟩:Ctx ⟨k,none⟩),st',m',Kl,rfl,rfl,l1.trans e1,l2.trans e2,l4.trans e5,rfl,rfl,rfl,
     λq hq=>by
      grind,h8,hk,
     (hKl _ · · · · · · ⟨rfl,rfl,rfl,rfl,⟨fn2,T2,D2,ae⟩,λq hq b5=>eH _ (rF.2 ⟨hq,ak⟩)⟩)⟩
  cases e with
  |normal=>simp_all
  |ret=>simp_all
  |_=>exact hk.elim
end
section
variable{k:Nat}{ri:RI}{P:Program}{K Kd:Exit->St->Prop}{st:St}
theorem HM{c:Operand}{x y:Code}{o f b:Bool}(hv:ev st.env c=.w o f (.bool b))(h:fH k ri P (bif b then x else y) st K Kd):fH k ri P (.cond c x y) st K Kd:=by
 intro B w0 a w m hs;have hc:bJ B (LB m st.heap) m w (ev st.env c) (a.eval c):=ma c (λt _=>hs.env t);rw[hv] at hc;refine vQ hc.kZ ?_;cases b
 .exact h B w0 a w m hs
 .exact h B w0 a w m hs
variable{env:Env}{h:bE}{n nt:Nat}
def vj(ri:RI)(P:Program)(ops:Array Oper)(nt:Nat)(o:Oper)(post:List Oper)(f:Operand)(g:FuncId)(fn:Func)(c:Code)(args:Array Operand)(e:Env)(h:bE)(n:Nat)(K Kd:Env->bE->Nat->Prop)(_:Mark (o,post,c,K,Kd)):Prop:=
 ∃bY,ga (ev e f)=some (g,bY)/\(args.toList.map (ev e)++bY).length<=fn.ntmps/\dOk nt o.dst/\gj ops e o=some true /\
  fH n ri P c ⟨gd 0 (args.toList.map (ev e)++bY),h,n,fn.ntmps⟩ (iG P fn.results.toList λv h' n'=>dt P ops nt post (put e o.dst v) h' n' K) (iG P fn.results.toList λv h' n'=>dt P ops nt post (put e o.dst v) h' n' Kd)
@[congr] theorem zao{ops:Array Oper}{nt:Nat}{o:Oper}{post:List Oper}{f:Operand}{g:FuncId}{fn:Func}{c:Code}{args:Array Operand}{e e':Env}{h h':bE}{n n':Nat}{K Kd:Env->bE->Nat->Prop}{mk:Mark (o,post,c,K,Kd)}(h1:e=e')(h2:h=h')(h3:n=n'):vj ri P ops nt o post f g fn c args e h n K Kd mk=vj ri P ops nt o post f g fn c args e' h' n' K Kd mk:=by rw[h1,h2,h3]
theorem P9{ops:Array Oper}{nt:Nat}{o:Oper}{post:List Oper}{f:Operand}{g:FuncId}{fn:Func}{c:Code}{args:Array Operand}{e:Env}{h:bE}{n:Nat}{K Kd:Env->bE->Nat->Prop}{mk:Mark (o,post,c,K,Kd)}(bY:List AV)(hf:ga (ev e f)=some (g,bY))(hl:args.toList.length+bY.length<=fn.ntmps)(hd:dOk nt o.dst)(hg:gj ops e o=some true)(hk:fH n ri P c ⟨gd 0 (args.toList.map (ev e)++bY),h,n,fn.ntmps⟩ (iG P fn.results.toList λv h' n'=>dt P ops nt post (put e o.dst v) h' n' K) (iG P fn.results.toList λv h' n'=>dt P ops nt post (put e o.dst v) h' n' Kd)):vj ri P ops nt o post f g fn c args e h n K Kd mk:=
 ⟨bY,hf,by rw[nX,iI];exact hl,hd,hg,hk⟩
theorem Qa{id:Nat}{ops:Array Oper}(i:Nat)(g:FuncId){fn:Func}{c:Code}(ay:P.funcs[g]?=some fn) (h9:(fn.name == "runtime.NumGoroutine")=false) (hb:fn.body=some c) (hi:i<ops.toList.length) {f:Operand} {args:Array Operand} {tys:Array TypeId} (ho:(ops.toList.getD i default).op=.call { callee:=.value f,args:=args,argTypes:=tys }) (hk:dt P ops nt (ops.toList.take i) env h n λe' h' n'=>vj ri P ops nt (ops.toList.getD i default) (ops.toList.drop (i+1)) f g fn c args e' h' n' (λe3 h3 n3=>K .normal ⟨e3,h3,n3,nt⟩) (λe3 h3 n3=>Kd .normal ⟨e3,h3,n3,nt⟩) .it):fH k ri P (.region id ops false) ⟨env,h,n,nt⟩ K Kd:=by
 have e:ops.toList.getD i default=ops.toList[i]:=ak
 have b7:ops.toList=ops.toList.take i++ops.toList.getD i default::ops.toList.drop (i+1):=by rw[e,DU,yO]
 generalize ops.toList.getD i default=o at *;generalize ops.toList.take i=pre at *;generalize ops.toList.drop (i+1)=post at *;intro B w0 a w m hs;refine qv ?_;rw[b7];refine qJ (o::post) ?_ pre env h n a w m hk hs
 rintro e h n a w m ⟨bY,hf,bh,a5,bv,hw⟩ hs
 simp only[iB];intro w e1;replace hs:=hs.move e1;rw[qy bv hs];simp only[cz];refine jK (λc e=>by rw[ho] at e;cases e) (HL o f args tys ho hf ay h9 hb bh hw hs a5 _ _ (λv h' n' a' w' m' b4 h8=>?_) (λw1 v h' n' a' w' m' hl b4 h8=>?_))
 .exact nj (λ_ _ _ _ _ m aw h8=>.inl ⟨_,m,aw,h8⟩) post _ _ _ _ _ m' b4 h8
 .have:=nj (Q:=λe a' w'=>(∃st' m',K e st'/\Sim B w0 st' a' w' m')\/∃w1:Ctx ⟨k,none⟩,re w0 w1/\∃st' m',Kd e st'/\Sim B w1 st' a' w' m') (w0:=w1) (P:=P) (ops:=ops) (λ_ _ _ _ _ m aw h8=>.inr ⟨w1,hl,_,m,aw,h8⟩) post _ _ _ _ _ m' b4 h8;rw[hl.2.2.1] at this;exact this
theorem Qb{fk:Fk}{B:Base}{w0:Ctx fk}{a:Act}{w:World}{m:Mm}{Q:Exit->Act->World->Prop}{ops:Array Oper}{e:Env}(k:Nat){id:Nat}{Kp:Env->bE->Nat->Prop}(hm:P.follows .mixedOrders=true)(hc:Chk ops k)(hk:gk P ops nt (ops.toList.take k) e h n Kp)(hs:Sim B w0 ⟨e,h,n,nt⟩ a w m)(dv:∀(e':Env)(h':bE)(n':Nat),Kp e' h' n'->∀(f:Nat)(listed:Array Bool)(a:Act)(w:World)(m:Mm),listed.size=ops.size->Closed ops listed->(∀j,j<ops.size->(listed.getD j false=true↔j<k))->open_ listed<=f->Sim B w0 ⟨e',h',n',nt⟩ a w m->jP w0.r P .any ops Q f listed a w):(Code.region id ops true).wpT w0.r P Q a w:=by
 obtain⟨T,hK⟩:=Ah _ _ _ _ hk
 have hlen:(ops.toList.take k).length=k:=by simp[hc.le]
 rw[hlen] at hK
 refine zE hm λw e1=>?_
 replace hs:=hs.move e1
 have h8:Sim B w0 ⟨e,h,n,nt⟩ a { w with drawn:=w.drawn+1 } m:=by
  have hb:Bel w.heap.size w { w with drawn:=w.drawn+1 }:=(Bel.refl _ _).drew;have hB:=hs.room;exact⟨hs.base,hs.below.trans (hb.mono hB),hs.defers,hs.size,λt=>(hs.env t).mono (Mm.le.refl m) (λ_ _ h=>h) (λb cq _=>hb.block b cq),hs.heap.below hb,hs.dom,hs.ids,hs.fr.mono (Mm.le.refl m) (λ_ _ h=>h) (λb cq _=>hb.block b cq) (bS _)⟩
 obtain⟨h1,h2,h3⟩:=FX (T:=T) hc.le h8.heap h8.dom h8.ids k (bS _)
 have hf:∀i,(Array.replicate ops.size false).getD i false=false:=by
  intro i;rw[dF,yK]
  split<;>rfl
 refine FY (T:=T) hc h3 (λf listed a w m=>dv _ _ _ hK f listed a w m) ops.size _ a _ m ae (λi o ho hl=>by rw[hf] at hl;cases hl) ?_ (λi _ _=>hf i) ⟨h8.base,h8.below,h8.defers,h8.size,h1,λid=>?_,(λi t hi hl=>by rw[hf] at hl;cases hl),λt _=>?_,by rw[h2];exact h8.fr⟩
 .unfold open_
  grind
 .rw[h8.dom];simp_all
 .rw[h2];exact h8.env t
theorem Qc{id:Nat}{ops:Array Oper}(i:Nat)(g:FuncId)(hm:P.follows .mixedOrders=true)(cu:uR ops i=true)(cy:i<ops.size){fn:Func}{c:Code}(ay:P.funcs[g]?=some fn) (h9:(fn.name == "runtime.NumGoroutine")=false) (hb:fn.body=some c) {f:Operand} {args:Array Operand} {tys:Array TypeId} (ho:(ops.toList.getD i default).op=.call { callee:=.value f,args:=args,argTypes:=tys }) (hk:gk P ops nt (ops.toList.take i) env h n λe' h' n'=>vj ri P ops nt (ops.toList.getD i default) (ops.toList.drop (i+1)) f g fn c args e' h' n' (λe3 h3 n3=>K .normal ⟨e3,h3,n3,nt⟩) (λe3 h3 n3=>Kd .normal ⟨e3,h3,n3,nt⟩) .it):fH k ri P (.region id ops true) ⟨env,h,n,nt⟩ K Kd:=by
 obtain⟨hc,bp⟩:=Am cu;intro B w0 a w m hs;refine Qb i hm hc hk hs (λe' h' n' hK f' listed a w m ee b9 hl fd hs=>?_);obtain⟨bY,hf,bh,a5,bv,hw⟩:=hK
 cases f' with
 |zero=>
  exfalso;have:=qA (yJ.1 fd) (i:=i) ab;have:=(hl i cy).1 this;omega
 |succ f'=>
  have b5:=rP ee hc.down i cy (by
   grind)
  refine⟨λd3=>absurd d3 b5,λx fw=>?_⟩;obtain⟨o,br,d9,he⟩:=om ee fw;have ej:=(cY.1 br).1
  have fx:x=i:=by
   have h1:¬x<i:=λfz=>by
    have:=(hl x ej).2 fz;rw[dF,d9] at this;cases this
   rcases fo i x with h2|h2
   .have:=nk b9 8 x i o br he (bp x ab ej i h2);have:=(hl i cy).1 this;omega
   .omega
  subst fx
  have fb:ops.toList.getD x default=o:=by
   rw[dZ,iW,br];rfl
  rw[fb] at ho bv a5 hw;unfold lJ;rw[br];simp only[];intro w e1;replace hs:=hs.move e1;rw[qy bv hs];simp only[cz]
  have dQ:∀j,j<ops.size->((listed.setIfInBounds x true).getD j false=true↔j<x+1):=λj hj=>by
   by_cases fy:x=j
   .simp_all
   .rw[getD_set_ne false fy,hl j hj];omega
  refine jK (λc e=>by rw[ho] at e;cases e) (HL o f args tys ho hf ay h9 hb bh hw hs a5 _ _ (λv h' n' a' w' m' cx h8=>?_) (λw1 v h' n' a' w' m' g9 cx h8=>?_))
  .exact wK (Kr:=λaa ag ao=>K .normal ⟨aa,ag,ao,nt⟩) (λe' h' n' a' w' m' aw a6=>.inl ⟨_,m',aw,a6⟩) hc.down bp f' (x+1) (listed.setIfInBounds x true) _ _ _ a' w' m' ab ab ak (b9.set br he) dQ (by have:=qz d9;omega) cx h8
  .have:=wK (w0:=w1) (Kr:=λaa ag ao=>Kd .normal ⟨aa,ag,ao,nt⟩) (Q:=λe a' w'=>(∃st' m',K e st'/\Sim B w0 st' a' w' m')\/∃w1:Ctx ⟨k,none⟩,re w0 w1/\∃st' m',Kd e st'/\Sim B w1 st' a' w' m') (λe' h' n' a' w' m' aw a6=>.inr ⟨w1,g9,_,m',aw,a6⟩) hc.down bp f' (x+1) (listed.setIfInBounds x true) _ _ _ a' w' m' ab ab ak (b9.set br he) dQ (by have:=qz d9;omega) cx h8;rw[g9.2.2.1] at this;exact this
end
section
variable{fk:Fk}{P:Program}{K:Exit->St->Prop}{st:St}
theorem HN{c:Code}{α:Type}(J:α->Prop)(I:α->St)(μ:α->Nat)(x0:α)(hJ:J x0)(h0:Lek fk st (I x0))(round:∀x,J x->fG fk P c (I x) (lN fk J I μ x K)):fG fk P (.loop c) st K:=by
 intro B w0 a w m hr hd hs;refine zD (λk a w=>∃(w1:Ctx fk)(x:α)(m:Mm),w1.w=w0.w/\w1.r=none/\rh w1/\J x/\μ x=k/\Sim B w1 (I x) a w m) (μ x0) aQ ?_
 rintro k a w ⟨w1,x,m,g1,g2,g3,hx,rfl,fp⟩
 refine fe (round x hx B w1 a w m g2 g3 fp) (λe a' w' ⟨w2,st',m',k1,k2,k3,h2,h3⟩=>?_)
 cases e<;>first
  |exact⟨w2,st',m',k1.trans g1,k2,k3,h2,h3⟩
  |(obtain⟨y,hy,b6,hle⟩:=h2
    obtain⟨c4,h4⟩:=hle B w2 a' w' m' h3
    exact⟨μ y,b6,w2,y,c4,k1.trans g1,k2,k3,hy,rfl,h4⟩)
theorem qK{c:Operand}{x y:Code}{o f b:Bool}(hv:ev st.env c=.w o f (.bool b))(h:fG fk P (bif b then x else y) st K):fG fk P (.cond c x y) st K:=by
 intro B w0 a w m hr hd hs;have hc:bJ B (LB m st.heap) m w (ev st.env c) (a.eval c):=ma c (λt _=>hs.env t);rw[hv] at hc;refine vQ hc.kZ ?_;cases b
 .exact h B w0 a w m hr hd hs
 .exact h B w0 a w m hr hd hs
end
end Go.Fi
namespace Go.Fi
open Go Go.RowKit
variable[bI]
variable{fk:Fk}
def Ds(D:List Nat)(h:bE)(n n':Nat)(x y:AV):Prop:=
 match x,y with
 |.agg a,.agg b=>j0 D h n n' a b
 |_,_=>False
def rj(P:Program)(rs:List ResultVar)(c0:Nat)(E:List (List AV))(v:AV)(D:List Nat)(st:St):Prop:=
 match jZ P st.env st.heap rs with
 |some (vs,c)=>c/\(pZ D st.heap st.nxt (c0+E.length) (oneOf vs) (v.sh c0)\/Ds D st.heap st.nxt (c0+E.length) (oneOf vs) (v.sh c0))/\nS D st.heap st.nxt (c0+E.length) (cV [] c0 (E.map (AV.sh.shL c0)))
 |none=>False
def mkK(P:Program)(rs:List ResultVar)(c0:Nat)(E:List (List AV))(v:AV)(D:List Nat):Exit->St->Prop
 |.normal,s=>rj P rs c0 E v D s
 |.ret,s=>rj P rs c0 E v D s
 |_,_=>False
omit [bI] in
@[simp ↓]theorem Z3(P:Program)(rs:List ResultVar)(c0:Nat)(E:List (List AV))(v:AV)(D:List Nat)(s:St):mkK P rs c0 E v D .normal s=rj P rs c0 E v D s:=rfl
omit [bI] in
@[simp ↓]theorem Z4(P:Program)(rs:List ResultVar)(c0:Nat)(E:List (List AV))(v:AV)(D:List Nat)(s:St):mkK P rs c0 E v D .ret s=rj P rs c0 E v D s:=rfl
section
variable{B:Base}{L:Nat->Prop}{m mm:Mm}{w:World}
omit [bI] in
theorem bJ.down{c:Nat}(hd:∀i,m.dom (i+c)->mm.dom i)(ht:∀i,mm.top i=m.top (i+c))(ha:∀i ver,mm.addr i ver=m.addr (i+c) ver){y:AV}{u:Value}(h:bJ B L m w y u):∀x:AV,x.sh c=y->bJ B L mm w x u:=by
 induction h with
 |@w own full p v hr hf=>
  intro x e
  cases x with
  |w o f q=>simp only[Tp,AV.w.injEq] at e;obtain⟨rfl,rfl,rfl⟩:=e;exact .w hr hf
  |_=>simp[AV.sh] at e
 |@ptr id ver off b C cg ef en gg=>
  intro x e
  cases x with
  |ptr i v o=>simp only[OQ,AV.ptr.injEq] at e;obtain⟨rfl,rfl,rfl⟩:=e;exact .ptr (hd _ cg) (by rw[ht];exact ef) (by rw[ha];exact en) gg
  |_=>simp[AV.sh] at e
 |@mp id b cg ef en=>
  intro x e
  cases x with
  |mp i=>simp only[AV.sh,AV.mp.injEq] at e;subst e;exact .mp (hd _ cg) (by rw[ht];exact ef) (by rw[ha];exact en)
  |_=>simp[AV.sh] at e
 |@msl id ver sz off n cap a cg ef hn h0 h1=>
  intro x e
  cases x with
  |msl i v s o k=>simp only[OR,AV.msl.injEq] at e;obtain⟨rfl,rfl,rfl,rfl,rfl⟩:=e;exact .msl (hd _ cg) (by rw[ht];exact ef) hn (λe=>h0 (by rw[<-ha];exact e)) (λb C e=>h1 b C (by rw[<-ha];exact e))
  |_=>simp[AV.sh] at e
 |@agg cs vs hl _ ih=>
  intro x e
  cases x with
  |agg ds=>
   simp only[OS,AV.agg.injEq,ir] at e;subst e;exact .agg ak (λj p v hp hv=>ih j (p.sh c) v (by rw[im,hp];rfl) hv p rfl)
  |_=>simp[AV.sh] at e
 |@tup cs vs hl _ ih=>
  intro x e
  cases x with
  |tup ds=>
   simp only[OT,AV.tup.injEq,ir] at e;subst e;exact .tup ak (λj p v hp hv=>ih j (p.sh c) v (by rw[im,hp];rfl) hv p rfl)
  |_=>simp[AV.sh] at e
 |@fn f cs vs hl _ ih=>
  intro x e
  cases x with
  |fn g ds=>
   simp only[AV.sh,AV.fn.injEq,ir] at e;obtain⟨rfl,rfl⟩:=e;exact .fn ak (λj p v hp hv=>ih j (p.sh c) v (by rw[im,hp];rfl) hv p rfl)
  |_=>simp[AV.sh] at e
omit [bI] in
theorem HI(c:Nat):∀(E:List (List AV))(n:Nat),cV [] (n+c) (E.map (AV.sh.shL c))=(cV [] n E).map λp=>(p.1+c,AV.sh.shL c p.2)
 |[],n=>rfl
 |x::E,n=>by
  simp only[oU,cV];rw[show n+c+1=(n+1)+c by omega,HI c E (n+1)]
end
theorem xG{P:Program}{f:FuncId}{fn:Func}{c:Code}{args:List PV}{E:List (List AV)}{v:AV}(c0:Nat)(D:List Nat)(hf:P.funcs[f]?=some fn) (h9:(fn.name == "runtime.NumGoroutine")=false) (hb:fn.body=some c) (bh:args.length<=fn.ntmps) (hv:v.frs=true) (hE:∀c∈E,AV.frs.mM c=true) (h:cP fk0 P c ⟨jm 0 args,[],0,fn.ntmps⟩ (mkK P fn.results.toList c0 E v D)):oG P f args E v:=by
 refine⟨⟨fn,hf,h9,by rw[hb];rfl⟩,hv,hE,λG w vs fh hlen bj=>?_⟩;refine vR hf hb ?_
 have a6:Sim ⟨w.heap.size,G⟩ (⟨w,[],none,[],[],λri h=>au,fh⟩:Ctx fk0) ⟨jm 0 args,[],0,fn.ntmps⟩ { tmps:=vs++Array.replicate (fn.ntmps-vs.size) undef,defers:=[] } w ⟨λ_ _=>none,λ_=>0,λ_=>False⟩:=by
  refine⟨rfl,Bel.refl _ _,rfl,ar,λt=>?_,⟨λid cells hin=>(by cases hin),List.Pairwise.nil⟩,λi=>⟨λh=>h.elim,λh=>absurd h (JW i)⟩,λid c hin=>(by cases hin),cG _,(λp hp=>by cases hp),λq hq=>by cases hq⟩;show bJ _ _ _ _ (get (jm 0 args) t) _;rw[xq];split
  .rename_i ht
   have b6:t<args.length:=ab
   refine .w ?_ nofun
   have:(vs++Array.replicate (fn.ntmps-vs.size) undef).getD t undef=vs[t]'ab:=by
    rw[dF,rD ab,du ab];rfl
   rw[this]
   refine (bj t _ _ al (du ab)).imp λb hg=>⟨?_,nofun,λ_=>hg⟩
   rintro⟨id,cells,C,hin,_⟩
   cases hin
  .exact .w (.undef _) nofun
 refine fe (h _ _ _ _ _ a6) (λe a' w' ⟨st',m',hk,hs⟩=>?_)
 have main:rj P fn.results.toList c0 E v D st'->a'.defers=[]/\∀w1,EnvD.E w' w1->∃r,(results fn a'.tmps).run P w1=.ok r w1/\∃u mm,Ending.returned r=.returned u/\Bel w.heap.size w w1/\(∀i,mm.dom i↔i<E.length)/\cX ⟨w.heap.size,G⟩ (cV [] 0 E) mm w1/\bJ ⟨w.heap.size,G⟩ (LB mm (cV [] 0 E)) mm w1 v u:=by
  intro hr;refine⟨hs.defers,λw' e1=>?_⟩;replace hs:=hs.move e1;unfold rj at hr;split at hr
  .rename_i bd d bk;obtain⟨hd,b9,gz⟩:=hr;obtain⟨us,h1,h2,h3⟩:=rX hs _ _ _ bk hd
   have a9:(results fn a'.tmps).run P w'=.ok (if h:us.toArray.size=1 then us.toArray[0] else .tuple us.toArray) w':=by
    have he:results fn a'.tmps=(do
     let vs <-fn.results.mapM (pT a'.tmps)
     pure (if h:vs.size=1 then vs[0] else .tuple vs)):=rfl
    rw[he,tA];simp only[Sem.run_bind,Sem.run_map,h1,Result.andThen_ok,Sem.run_pure]
   have bb:bJ ⟨w.heap.size,G⟩ (LB m' st'.heap) m' w' (oneOf bd) (if h:us.toArray.size=1 then us.toArray[0] else .tuple us.toArray):=by
    have tupc:bd.length≠1->bJ ⟨w.heap.size,G⟩ (LB m' st'.heap) m' w' (.tup bd) (if h:us.toArray.size=1 then us.toArray[0] else .tuple us.toArray):=by
     intro b5;rw[dif_neg ar];exact .tup (by simpa using h2) (λj p u hp hu=>h3 j p u hp (by simpa using hu))
    match bd,h2,h3,tupc with
    |[],h2,h3,tupc=>exact tupc ae
    |[v],h2,h3,tupc=>
     obtain⟨u,rfl⟩:∃u,us=[u]:=DT.1 aV;exact h3 0 v u rfl rfl
    |v::v2::r,h2,h3,tupc=>exact tupc ae
   obtain⟨m2,bo,cf⟩:=Hh (env':=[]) (h':=cV [] c0 (E.map (AV.sh.shL c0))) (n':=c0+E.length) D trivial gz (cG _) hs
   have hu:bJ ⟨w.heap.size,G⟩ (LB m2 (cV [] c0 (E.map (AV.sh.shL c0)))) m2 w' (v.sh c0) (if h:us.toArray.size=1 then us.toArray[0] else .tuple us.toArray):=by
    clear a9;generalize (if h:us.toArray.size=1 then us.toArray[0] else .tuple us.toArray)=uv at bb ⊢
    rcases b9 with b9|b9
    .exact cf _ _ _ b9 bb
    .unfold Ds at b9;split at b9
     .rename_i a b ea eb;rw[ea] at bb;rw[eb];obtain⟨hl,hc⟩:=uC b9
      cases bb with
      |agg h1 h2=>
       refine .agg ab (λj p u hp hu=>?_);obtain⟨x,hx,i7⟩:=hc j p hp;exact cf _ _ _ i7 (h2 j x u hx hu)
     .exact b9.elim
   have ba:∀i,m2.dom i↔i<c0+E.length:=bo.dom
   have hEq:cV [] c0 (E.map (AV.sh.shL c0))=(cV [] 0 E).map λp=>(p.1+c0,AV.sh.shL c0 p.2):=by
    have:=HI c0 E 0
    rwa [eI] at this
   refine⟨_,a9,_,⟨λid ver=>m2.addr (id+c0) ver,λid=>m2.top (id+c0),λid=>id<E.length⟩,rfl,hs.below,λi=>Iff.rfl,?_⟩
   have dx:∀k cl,(k,cl)∈cV [] 0 E->(k+c0,AV.sh.shL c0 cl)∈cV [] c0 (E.map (AV.sh.shL c0)):=λk cl hin=>by
    rw[hEq];exact jH.2 ⟨(k,cl),hin,rfl⟩
   have b6:∀k cl,(k,cl)∈cV [] 0 E->k<E.length:=λk cl hin=>by
    rcases (Ab E [] 0 k cl).1 hin with h|⟨j,h,rfl⟩
    .cases h
    .have:=(eX.1 h).1;omega
   have hLB:LB (⟨λid ver=>m2.addr (id+c0) ver,λid=>m2.top (id+c0),λid=>id<E.length⟩:Mm) (cV [] 0 E)=LB m2 (cV [] c0 (E.map (AV.sh.shL c0))):=by
    funext b
    refine propext ⟨?_,?_⟩
    .rintro⟨id,cl,C,hin,hd,ha⟩
     have hl:=b6 _ _ hin;exact⟨id+c0,AV.sh.shL c0 cl,C,dx _ _ hin,(ba _).2 ab,by rw[ir,iI];exact ha⟩
    .rintro⟨id,cl,C,hin,hd,ha⟩
     rw[hEq] at hin;obtain⟨⟨k,c1⟩,h4,h5⟩:=jH.1 hin
     injection h5 with h5 h6
     subst h5;subst h6;rw[ir,iI] at ha;exact⟨k,c1,C,h4,b6 _ _ h4,ha⟩
   rw[hLB]
   have g6:∀{x:AV}{u:Value},bJ ⟨w.heap.size,G⟩ (LB m2 (cV [] c0 (E.map (AV.sh.shL c0)))) m2 w' (x.sh c0) u->bJ ⟨w.heap.size,G⟩ (LB m2 (cV [] c0 (E.map (AV.sh.shL c0)))) ⟨λid ver=>m2.addr (id+c0) ver,λid=>m2.top (id+c0),λid=>id<E.length⟩ w' x u:=
    λ{x u} hr=>bJ.down (c:=c0) (λi hd=>by have:=(ba _).1 hd;show i<E.length;omega) (λi=>rfl) (λi ver=>rfl) hr x rfl
   refine⟨⟨λid cl hin hd=>?_,?_⟩,g6 hu⟩
   .rw[hLB];have hl:=b6 _ _ hin;obtain⟨e1,e2⟩:=bo.heap.entry (id+c0) (AV.sh.shL c0 cl) (dx _ _ hin) ((ba _).2 ab)
    have hlen:(AV.sh.shL c0 cl).length=cl.length:=by rw[ir,iI]
    rw[hlen] at e1 e2;refine⟨e1,?_⟩
    rcases e2 with ⟨e3,e4⟩|⟨b,C,cs,e,f1,f2,f3,f4,f5,f6⟩|⟨b,es,clk,f1,f2,f3,f4,f5⟩
    .exact .inl ⟨e3,by rw[ir] at e4;simpa using e4⟩
    .exact .inr (.inl ⟨b,C,cs,e,f1,f2,f3,f4,f5,λj p u hp hu=>g6 (f6 j (p.sh c0) u (by rw[ir,im,hp];rfl) hu)⟩)
    .exact .inr (.inr ⟨b,es,clk,f1,by rw[<-FJ];exact f2,f3,f4,λl hl=>f5 l (MM hl)⟩)
   .have hi:=bo.heap.inj;rw[show (St.heap ⟨[],cV [] c0 (E.map (AV.sh.shL c0)),c0+E.length,fn.ntmps⟩)=_ from hEq,List.pairwise_map] at hi;refine tH ?_ hi;intro x y hx hy ⟨b5,i8⟩;refine⟨λe=>b5 (by rw[e]),λb C C' ie ig gl gn=>?_⟩;have h1:=b6 x.1 x.2 hx;have h2:=b6 y.1 y.2 hy
    have l1:(AV.sh.shL c0 x.2).length=x.2.length:=by rw[ir,iI]
    have l2:(AV.sh.shL c0 y.2).length=y.2.length:=by rw[ir,iI]
    exact i8 b C C' ((ba _).2 ab) ((ba _).2 ab) (by rw[l1];exact gl) (by rw[l2];exact gn)
  trivial
 cases e<;>first|exact main hk|exact hk.elim
omit [bI] in
@[simp ↓]theorem Z5(h:bE)(n:Nat)(K:AV->bE->Nat->Prop)(v:AV)(c:List AV)(E:List (List AV)):eK h n K v (c::E)=K v ((n,c)::cV h (n+1) E) (n+(E.length+1)):=by rfl
attribute [simp] rj Ds AV.frs AV.frs.mM
section
variable{D:List Nat}{h r s:bE}{n n' b k t len:Nat}{c x:List AV}{L:List (List AV)}
section
omit [bI]
@[simp]theorem Z6(h:bE)(n:Nat)(c:List AV)(E:List (List AV)):cV h n (c::E)=(n,c)::cV h (n+1) E:=rfl
theorem HJ:∀(L:List (List AV))(r:bE)(b t:Nat),cJ (cV r b L) t=if b<=t/\t<b+L.length then some (nth L (t-b)) else cJ r t
 |[],r,b,t=>by simp[cV];intros;omega
 |c::L,r,b,t=>by
  simp only[cV,cJ,il];by_cases h:b=t
  .subst h;rw[b8 rfl,b8 ⟨bS _,ab⟩,DW];rfl
  .rw[bP h,HJ L r (b+1) t];by_cases h2:b+1<=t/\t<b+1+L.length
   .rw[b8 h2,b8 ⟨ab,ab⟩,show t-b=(t-(b+1))+1 by omega];rfl
   .rw[bP h2,bP ab]
@[simp]theorem PT(h:t<b):cJ (cV r b L) t=cJ r t:=by rw[HJ,bP ab]
end
def TG(h:bE)(b len:Nat):Prop:=∀i,i<len->cJ h (i+b)=none
def TH(D:List Nat)(h:bE)(n n' b:Nat)(L:List (List AV)):Prop:=∀i,i<L.length->jF D h n n' (i+b) (nth L i)
omit [bI] in
theorem HK:∀(L:List (List AV))(r:bE)(b:Nat),nS D h n n' (cV r b L)=(TH D h n n' b L/\TG r b L.length/\nS D h n n' r)
 |[],r,b=>by
  refine propext ⟨λhh=>⟨λi hi=>by simp at hi,λi hi=>by simp at hi,hh⟩,λhh=>hh.2.2⟩
 |c::L,r,b=>by
  show (jF D h n n' b c/\cJ (cV r (b+1) L) b=none/\nS D h n n' (cV r (b+1) L))=_;rw[HK L r (b+1),PT (DX b)];refine propext ⟨λ⟨h1,h2,h3,h4,h5⟩=>⟨λi hi=>?_,λi hi=>?_,h5⟩,λ⟨h1,h2,h3⟩=>⟨?_,?_,λi hi=>?_,λi hi=>?_,h3⟩⟩
  .cases i with
   |zero=>rw[eI];exact h1
   |succ i=>
    have:=h3 i aM;rw[show i+1+b=i+(b+1) by omega];exact this
  .cases i with
   |zero=>rw[eI];exact h2
   |succ i=>rw[show i+1+b=i+(b+1) by omega];exact h4 i aM
  .have:=h1 0 ae;rwa [eI] at this
  .have:=h2 0 ae;rwa [eI] at this
  .have:=h1 (i+1) aM;rw[show i+1+b=i+(b+1) by omega] at this;exact this
  .have:=h2 (i+1) aM
   rwa [show i+1+b=i+(b+1) by omega] at this
attribute [simp] HK
end
def ms1(b:Nat):List Nat->List AV
 |[]=>[]
 |k::r=>.msl b k 1 0 k::ms1 (b+1) r
omit [bI] in
@[simp]theorem Z7(b:Nat):ms1 b []=[]:=rfl
omit [bI] in
@[simp]theorem Z8{α:Type}[Inhabited α](x:α)(k i:Nat)(h:i<k):nth (List.replicate k x) i=x:=by
 simp[nth,dZ,List.getElem?_replicate,h]
end Go.Fi
namespace Go.Fi
open Go Go.RowKit
variable[bI]
section
variable{fk:Fk}{P:Program}{K:Exit->St->Prop}{st:St}{c:Code}
def mZ(R:St->Prop)(K:Exit->St->Prop):Exit->St->Prop
 |.normal,s=>R s
 |e,s=>K e s
def unr(fk:Fk)(P:Program)(c:Code)(K:Exit->St->Prop):Nat->St->Prop
 |0,_=>False
 |n+1,s=>cP fk P c s (mZ (unr fk P c K n) K)
theorem jO(n:Nat)(h:unr fk P c K n st):cP fk P (.loop c) st K:=by
 refine Ag (λx:Nat×St=>unr fk P c K x.1 x.2) (·.2) (·.1) (n,st) h (λB w0 a w m hs=>⟨m,hs⟩) ?_
 rintro⟨k,s⟩ hk
 cases k with
 |zero=>exact hk.elim
 |succ k=>
  refine tZ hk (λe s' h'=>?_)
  cases e<;>first|exact h'|exact⟨(k,s'),h',DX k,λB w0 a w m hs=>⟨m,hs⟩⟩
theorem j4{n:Nat}(h:cP fk P c st (mZ (unr fk P c K n) K)):unr fk P c K (n+1) st:=h
section
omit [bI]
@[simp ↓]theorem za5(R:St->Prop)(s:St):mZ R K .normal s=R s:=rfl
@[simp ↓]theorem za6(R:St->Prop)(s:St):mZ R K .ret s=K .ret s:=rfl
@[simp ↓]theorem za7(R:St->Prop)(i:Nat)(s:St):mZ R K (.exit i) s=K (.exit i) s:=rfl
@[congr] theorem za8{R:St->Prop}{K:Exit->St->Prop}{e e':Exit}{s s':St}(h:e=e')(h2:s=s'):mZ R K e s=mZ R K e' s':=by rw[h,h2]
end
@[congr] theorem za9{n:Nat}{s s':St}(h:s=s'):unr fk P c K n s=unr fk P c K n s':=by rw[h]
omit [bI] in
theorem gN{k:IntKind}{n:Int}(h:(decide (k.min<=n)&&decide (n<=k.max))=true):inI k n:=by simpa[inI] using h
theorem B9{env:Env}{h:bE}{n nt:Nat}:Lek fk ⟨env,h,n,nt⟩ ⟨[],h,n,nt⟩:=
 λB w0 a w m hs=>⟨m,hs.base,hs.below,hs.defers,hs.size,λt=>.w (.undef _) nofun,hs.heap,hs.dom,hs.ids,hs.fr⟩
theorem HX{k:Nat}{K:bE->Nat->Prop}{env:Env}{h:bE}{n nt:Nat}(hk:K h n):ti k K .normal ⟨env,h,n,nt⟩:=HB h n nt B9 hk
theorem Qi{k:Nat}{K Kl:bE->Nat->Prop}{env:Env}{h:bE}{n nt:Nat}(hk:K h n):p9 k K Kl .normal ⟨env,h,n,nt⟩:=O7 h n nt B9 hk
theorem Qj{k:Nat}{K Kl:bE->Nat->Prop}{env:Env}{h:bE}{n nt:Nat}(hk:Kl h n):p9 k K Kl .ret ⟨env,h,n,nt⟩:=O8 h n nt B9 hk
end
section
variable{fk:Fk}{P:Program}{K Kd:Exit->St->Prop}{st:St}{c x y:Code}{k:Nat}{ri:RI}{v:Operand}{o f:Bool}
def rp(fk:Fk)(P:Program)(c:Code)(K:Exit->St->Prop):Nat->St->Prop
 |0,_=>False
 |n+1,s=>fG fk P c s (mZ (rp fk P c K n) K)
theorem H5(n:Nat)(h:rp fk P c K n st):fG fk P (.loop c) st K:=by
 refine HN (λx:Nat×St=>rp fk P c K x.1 x.2) (·.2) (·.1) (n,st) h (λB w0 a w m hs=>⟨m,hs⟩) ?_
 rintro⟨k,s⟩ hk
 cases k with
 |zero=>exact hk.elim
 |succ k=>
  refine Pb hk (λe s' h'=>?_)
  cases e<;>first|exact h'|exact⟨(k,s'),h',DX k,λB w0 a w m hs=>⟨m,hs⟩⟩
theorem H6{n:Nat}(h:fG fk P c st (mZ (rp fk P c K n) K)):rp fk P c K (n+1) st:=h
@[congr] theorem zba{n:Nat}{s s':St}(h:s=s'):rp fk P c K n s=rp fk P c K n s':=by rw[h]
theorem H7(hv:ev st.env v=.w o f (.bool true))(h:fG fk P x st K):fG fk P (.cond v x y) st K:=qK hv h
theorem H8(hv:ev st.env v=.w o f (.bool false))(h:fG fk P y st K):fG fk P (.cond v x y) st K:=qK hv h
def rq(k:Nat)(ri:RI)(P:Program)(c:Code)(K Kd:Exit->St->Prop):Nat->St->Prop
 |0,_=>False
 |n+1,s=>fH k ri P c s (mZ (rq k ri P c K Kd n) K) (rn Kd)
theorem Qt(n:Nat)(h:rq k ri P c K Kd n st):fH k ri P (.loop c) st K Kd:=by
 refine P6 (λx:Nat×St=>rq k ri P c K Kd x.1 x.2) (·.2) (·.1) (n,st) h (λB w0 a w m hs=>⟨m,hs⟩) ?_
 rintro⟨j,s⟩ hk B w0 a w m hs
 cases j with
 |zero=>exact hk.elim
 |succ j=>
  refine fe (hk B w0 a w m hs) (λe a' w' hq=>?_)
  rcases hq with ⟨st',m',h1,h2⟩|h
  .refine .inl ⟨st',m',?_,h2⟩
   cases e<;>first|exact h1|exact⟨(j,st'),h1,DX j,λB w0 a w m hs=>⟨m,hs⟩⟩
  grind
theorem Qu{n:Nat}(h:fH k ri P c st (mZ (rq k ri P c K Kd n) K) (rn Kd)):rq k ri P c K Kd (n+1) st:=h
@[congr] theorem zbb{n:Nat}{s s':St}(h:s=s'):rq k ri P c K Kd n s=rq k ri P c K Kd n s':=by rw[h]
theorem Qv(hv:ev st.env v=.w o f (.bool true))(h:fH k ri P x st K Kd):fH k ri P (.cond v x y) st K Kd:=HM hv h
theorem Qw(hv:ev st.env v=.w o f (.bool false))(h:fH k ri P y st K Kd):fH k ri P (.cond v x y) st K Kd:=HM hv h
end
structure Jr(P:Program)(f:FuncId):Prop where
 ent:se P f
 nz:∀(b cap:Nat)(zs:List Int)(w:World)(cs:Array Value)(e:TypeId),w.heap[b]?=some (.cells cs e (0,0))->zs.length<=cs.size->zs.length<=1000000->(∀j,j<zs.length->cs[j]?=some (.int .i64 (zs.getD j 0))) ->
  iw P f #[.slice (some ⟨b,0,none⟩) zs.length cap] w λo w'=>o=.returned (.tuple #[])/\w'.os=w.os/\w'.output=w.output/\w.heap.size<=w'.heap.size/\(∀k,k<w.heap.size->k≠b->w'.heap[k]?=w.heap[k]?) /\
   w'.heap[b]?=some (.cells (fA cs 0 ((zs.mergeSort λx y=>decide (x<=y)).map (Value.int .i64))) e (0,0))
theorem PF{P:Program}{f:FuncId}(hr:Jr P f){h:bE}{n id:Nat}{l:List Int}(hh:cJ h id=some (iC l))(i0:0<l.length)(hl:l.length<=1000000):vi P f [.msl id l.length 1 0 l.length] h n id (iC (l.mergeSort λx y=>decide (x<=y))) (.tup []):=by
 refine⟨hr.ent,λB m w vs hB hs bg hlen bj=>?_⟩
 obtain⟨v0,rfl⟩:∃v0,vs=#[v0]:=by
  obtain⟨q⟩:=vs
  match q,hlen with
  |[a],_=>exact⟨a,rfl⟩
 have hx:=bj 0 _ v0 rfl rfl;obtain⟨a0,cap,rfl,g8,hd,eg,h3,h4⟩:=hx.mJ;have hin:=fR hh
 have bw:(iC l).length=l.length:=by simp[iC]
 have dw:(l.mergeSort λx y=>decide (x<=y)).length=l.length:=J0 _
 cases ha:m.addr id l.length with
 |none=>obtain⟨rfl,_⟩:=h3 ha;omega
 |some bc=>
  obtain⟨b,C⟩:=bc;obtain⟨h5,h6,h7⟩:=h4 b C ha;have eo:=h5 ab;subst eo;obtain⟨cs,e',hc,hC,hle,hbB,bu⟩:=hs.read hin hd (by rw[bw];exact ha) ab
  have eu:∀j,j<l.length->cs[j]?=some (.int .i64 (l.getD j 0)):=by
   intro j hj
   have dp:j<cs.size:=ab
   have d4:=bu j _ _ (Jp hj) (du dp);rw[du dp,d4.hY]
  refine (hr.nz b cap l w cs e' hc ab hl eu).mono ?_
  rintro o w' ⟨rfl,q1,q2,q3,q4,q5⟩
  have gt:b<w.heap.size:=fj hs ⟨id,iC l,C,hin,hd,by rw[bw];exact ha⟩
  have cm:(iC (l.mergeSort λx y=>decide (x<=y))).length=(iC l).length:=by simp[iC]
  obtain⟨u1,u2,u3,u4⟩:=rM (w':=w') hs hin hd (cells':=iC (l.mergeSort λx y=>decide (x<=y))) ab (b':=b) (C':=C) (λ_=>by rw[bw];exact ha) (.inr ⟨C,by rw[bw];exact ha⟩)
   (λk hk b5=>q4 k hk (λe=>b5 C (by rw[bw,e];exact ha)))
   ⟨_,e',q5,by rw[rK,hC],ab,hbB,λj p v hp hv=>by
     obtain⟨x,hx,rfl⟩:=HA hp;have hj:=(eX.1 hx).1;rw[dw] at hj;rw[rO _ 0 cs ar] at hv;rw[b8 ar,DO,im,hx] at hv
     injection hv with hv;subst hv
     exact gq _ _⟩
  refine⟨_,_,rfl,u2,lC,?_,by rw[mf h id _ (mg hs)];exact u1,by rw[mf h id _ (mg hs)];exact u3,u4,.tup rfl (λj p v hp=>by simp at hp)⟩;exact⟨q1,q2,q3,λk hk=>q4 k ab ab⟩
structure Js(P:Program)(f:FuncId)(C:List Int->List Int):Prop where
 ent:se P f
 le:∀zs,(C zs).length<=zs.length
 nz:∀(b cap:Nat)(zs:List Int)(w:World)(cs:Array Value)(e:TypeId),w.heap[b]?=some (.cells cs e (0,0))->zs.length<=cs.size->zs.length<=cap->zs.length<=1000000->(∀j,j<zs.length->cs[j]?=some (.int .i64 (zs.getD j 0))) ->
  iw P f #[.slice (some ⟨b,0,none⟩) zs.length cap] w λo w'=>o=.returned (.slice (some ⟨b,0,none⟩) (C zs).length cap)/\w'.os=w.os/\w'.output=w.output/\w.heap.size<=w'.heap.size/\(∀k,k<w.heap.size->k≠b->w'.heap[k]?=w.heap[k]?) /\
   w'.heap[b]?=some (.cells (fA cs 0 ((C zs++List.replicate (zs.length-(C zs).length) 0).map (Value.int .i64))) e (0,0))
theorem PG{P:Program}{f:FuncId}{C:List Int->List Int}(hr:Js P f C){h:bE}{n id:Nat}{l:List Int}(hh:cJ h id=some (iC l))(i0:0<l.length)(hl:l.length<=1000000):vi P f [.msl id l.length 1 0 l.length] h n id (iC (C l++List.replicate (l.length-(C l).length) 0)) (.msl id l.length 1 0 (C l).length):=by
 refine⟨hr.ent,λB m w vs hB hs bg hlen bj=>?_⟩
 obtain⟨v0,rfl⟩:∃v0,vs=#[v0]:=by
  obtain⟨q⟩:=vs
  match q,hlen with
  |[a],_=>exact⟨a,rfl⟩
 have hx:=bj 0 _ v0 rfl rfl;obtain⟨a0,cap,rfl,g8,hd,eg,h3,h4⟩:=hx.mJ;have hin:=fR hh
 have bw:(iC l).length=l.length:=by simp[iC]
 have hle:=hr.le l
 have dw:(C l++List.replicate (l.length-(C l).length) 0).length=l.length:=ar
 cases ha:m.addr id l.length with
 |none=>obtain⟨rfl,_⟩:=h3 ha;omega
 |some bc=>
  obtain⟨b,C1⟩:=bc;obtain⟨h5,h6,h7⟩:=h4 b C1 ha;have eo:=h5 ab;subst eo;obtain⟨cs,e',hc,hC,i1,hbB,bu⟩:=hs.read hin hd (by rw[bw];exact ha) ab
  have eu:∀j,j<l.length->cs[j]?=some (.int .i64 (l.getD j 0)):=by
   intro j hj
   have dp:j<cs.size:=ab
   have d4:=bu j _ _ (Jp hj) (du dp);rw[du dp,d4.hY]
  refine (hr.nz b cap l w cs e' hc ab g8 hl eu).mono ?_
  rintro o w' ⟨rfl,q1,q2,q3,q4,q5⟩
  generalize C l++List.replicate (l.length-(C l).length) 0=D at dw q5 ⊢;have i6:bJ B (LB m h) m w (.msl id l.length 1 0 (C l).length) (.slice (some ⟨b,0,none⟩) (C l).length cap):=.msl hd eg ab h3 h4;have gt:b<w.heap.size:=fj hs ⟨id,iC l,C1,hin,hd,by rw[bw];exact ha⟩
  have cm:(iC D).length=(iC l).length:=by simp[iC];exact dw
  obtain⟨u1,u2,u3,u4⟩:=rM (w':=w') hs hin hd (cells':=iC D) ab (b':=b) (C':=C1) (λ_=>by rw[bw];exact ha) (.inr ⟨C1,by rw[bw];exact ha⟩)
   (λk hk b5=>q4 k hk (λe=>b5 C1 (by rw[bw,e];exact ha)))
   ⟨_,e',q5,by rw[rK,hC],ab,hbB,λj p v hp hv=>by
     obtain⟨x,hx,rfl⟩:=HA hp;have hj:=(eX.1 hx).1;rw[dw] at hj;rw[rO _ 0 cs ar] at hv;rw[b8 ar,DO,im,hx] at hv
     injection hv with hv;subst hv
     exact gq _ _⟩
  refine⟨_,_,rfl,u2,lC,?_,by rw[mf h id _ (mg hs)];exact u1,by rw[mf h id _ (mg hs)];exact u3,u4,i6.mono u2 (by rw[mf h id _ (mg hs)];exact u3) u4⟩;exact⟨q1,q2,q3,λk hk=>q4 k ab ab⟩
end Go.Fi
