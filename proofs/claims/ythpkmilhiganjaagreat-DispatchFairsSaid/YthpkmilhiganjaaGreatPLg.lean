/- Lemmas. -/
import Derived.Test.YthpkmilhiganjaaGreatPLf
import Derived.Test.YthpkmilhiganjaaGreatPLd
set_option linter.all false
set_option maxHeartbeats 32000000
set_option maxRecDepth 100000
namespace Go.Fi
open Go Go.RowKit
variable[bE]
variable{fk:Fk}
def gk:Nat->List AV->Env
 |_,[]=>[]
 |i,v::r=>(i,v)::gk (i+1) r
section
omit [bE]
@[simp]theorem Y3(i:Nat):gk i []=[]:=rfl
@[simp]theorem Y4(i:Nat)(v:AV)(r:List AV):gk i (v::r)=(i,v)::gk (i+1) r:=rfl
theorem Bg:∀(l:List AV)(i t:Nat),get (gk i l) t=if i<=t/\t<i+l.length then l.getD (t-i) (.w false false .undef) else .w false false .undef
 |[],i,t=>by simp
 |p::r,i,t=>by
  simp only[gk,get];by_cases h:i=t
  .subst h;simp
  .simp only[h,cP];rw[Bg r (i+1) t]
   grind
end
def gq(P:Program)(rs:List ResultVar)(st:St)(K:AV->bz->Nat->Prop):Prop:=
 match jg P st.env st.heap rs with
 |some (vs,c)=>c/\K (oneOf vs) st.heap st.nxt
 |none=>False
def iE(P:Program)(rs:List ResultVar)(K:AV->bz->Nat->Prop):Exit->St->Prop
 |.normal,s=>gq P rs s K
 |.ret,s=>gq P rs s K
 |_,_=>False
omit [bE] in
@[simp ↓]theorem Y5(P:Program)(rs:List ResultVar)(K:AV->bz->Nat->Prop)(s:St):iE P rs K .normal s=gq P rs s K:=rfl
omit [bE] in
@[simp ↓]theorem Y6(P:Program)(rs:List ResultVar)(K:AV->bz->Nat->Prop)(s:St):iE P rs K .ret s=gq P rs s K:=rfl
section
variable{P:Program}{B:Base}{m:Mm}{w:World}{h:bz}{n:Nat}{env:Env}{a:Act}{L:Nat->Prop}
section
omit [bE]
theorem wY{n:Nat}:∀{cs:List AV},(∀(j:Nat)(x:AV),cs[j]?=some x->x.lt n=true)->AV.lt.ltL n cs=true
 |[],_=>rfl
 |x::r,h=>by
  simp only[AV.lt.ltL,fe];exact⟨h 0 x rfl,wY λj y hy=>h (j+1) y ak⟩
theorem bG.CE{x:AV}{v:Value}(h:bG B L m w x v)(hd:∀i,m.dom i->i<n):x.lt n=true:=by
 induction h with
 |w _ _=>rfl
 |ptr c8 _ _ _=>simp_all
 |mp c8 _ _=>simp_all
 |msl c8 _ _ _ _=>simp_all
 |@agg cs vs hl _ ih=>
  simp only[AV.lt]
  refine wY λj y hy=>?_
  have hj:j<vs.size:=by have:=(fg.1 hy).1;omega
  exact ih j y _ hy (dE hj)
 |@tup cs vs hl _ ih=>
  simp only[AV.lt]
  refine wY λj y hy=>?_
  have hj:j<vs.size:=by have:=(fg.1 hy).1;omega
  exact ih j y _ hy (dE hj)
 |@fn f cs vs hl _ ih=>
  simp only[AV.lt]
  refine wY λj y hy=>?_
  have hj:j<vs.size:=by have:=(fg.1 hy).1;omega
  exact ih j y _ hy (dE hj)
theorem ua:∀(env:Env)(t:Nat),(∃v,(t,v)∈env)\/get env t=.w false false .undef
 |[],_=>.inr rfl
 |(k,v)::r,t=>by
  simp only[get];by_cases h:k=t
  .simp_all
  .rcases ua r t with ⟨u,hu⟩|hu
   .exact .inl ⟨u,eY _ hu⟩
   simp_all
end
def xJ(P:Program)(B:Base){fk:Fk}(w0:Ctx fk)(env:Env)(a:Act)(n nt:Nat)(o:Oper)(fn:Func)(K':Act->World->Prop)(e:Exit)(a':Act)(w':World):Prop:=
 (e=.normal\/e=.ret)/\∃(ba fk2:Fk)(w1:Ctx ba)(w2:Ctx fk2)(st':St)(m':Mm)(KV:AV->bz->Nat->Prop),ba.k=n/\fk2.k=fk.k/\w1.w=w0.w/\w1.F=w0.F++(env.map λp=>(get env p.1,a.tmps.getD p.1 undef))/\w1.ds=[] /\
  w2.w=w0.w/\w2.F=w0.F/\w2.ds=w0.ds/\(∀q∈w2.obs,q∈w1.obs)/\Sim B w1 st' a' w' m'/\gq P fn.results.toList st' KV/\∀v h' n' a' w' m',KV v h' n'->Sim B w2 ⟨put env o.dst v,h',n',nt⟩ a' w' m'->K' a' w'
theorem GG{w0:Ctx fk}{nt:Nat}(o:Oper)(f:Operand)(args:Array Operand)(tys:Array TypeId)(ho:o.op=.call { callee:=.value f,args:=args,argTypes:=tys }){g:FuncId}{bT:List AV}(hf:fU (ev env f)=some (g,bT)){fn:Func}{c:Code}(ay:P.funcs[g]?=some fn) (h9:(fn.name == "runtime.NumGoroutine")=false) (hb:fn.body=some c) (b7:(args.toList.map (ev env)++bT).length<=fn.ntmps) (r:Option RI) (f7:∀ri,r=some ri->fk.ri=some ri) (Q:Exit->Act->World->Prop) (K':Act->World->Prop) (hw:∀(w1:Ctx ⟨n,r⟩)(a1:Act),w1.w=w0.w->w1.F=w0.F++(env.map λp=>(get env p.1,a.tmps.getD p.1 undef))->w1.r=none->w1.obs=w0.obs->w1.ds=[]->Sim B w1 ⟨gk 0 (args.toList.map (ev env)++bT),h,n,fn.ntmps⟩ a1 w m->c.wpT none P (xJ P B w0 env a n nt o fn K') a1 w) (hs:Sim B w0 ⟨env,h,n,nt⟩ a w m) (aa:dOk nt o.dst):o.wpt P a w K' Q:=by
 have fi:∀x:Operand,bG B (LB m h) m w (ev env x) (a.eval x):=λx=>mR x (λt _=>hs.env t)
 have bn:=fi f
 have ek:∃cv:Array Value,a.eval f=.func (.func g) #[] cv/\bT.length=cv.size/\∀(j:Nat)(p:AV)(v:Value),bT[j]?=some p->cv[j]?=some v->bG B (LB m h) m w p v:=by
  unfold fU at hf;split at hf
  .rename_i g' bp e
   injection hf with hf;injection hf with h1 h2;subst h1;subst h2
   rw[e] at bn;generalize hv:a.eval f=vf at bn
   cases bn with|fn h1 h2=>grind
  .rename_i own f' g' bp e
   injection hf with hf;injection hf with h1 h2;subst h1;subst h2
   rw[e] at bn;generalize hv:a.eval f=vf at bn
   cases bn with
   |w h1 _=>
    cases h1 with
    |fn h1 h2=>
     refine⟨_,rfl,ak,λj p v hp hv=>?_⟩;obtain⟨q,hq,rfl⟩:=gv hp;exact .w (h2 j q v hq hv) nofun
  .cases hf
 obtain⟨cv,db,b6,gb⟩:=ek
 have d3:∀(j:Nat)(x:AV)(v:Value),(args.toList.map (ev env)++bT)[j]?=some x->(args.map a.eval++cv)[j]?=some v->bG B (LB m h) m w x v:=by
  grind
 have hlen:(args.toList.map (ev env)++bT).length=(args.map a.eval++cv).size:=by simp[b6]
 generalize f9:args.map a.eval++cv=vs at d3 hlen;generalize g0:args.toList.map (ev env)++bT=avs at d3 hlen b7 hw
 have aq:(execOp a.eval o).run P w=.ok (.enter g vs) w:=by
  have eo:¬fn.name = "runtime.NumGoroutine" := by simp_all
  simp[execOp,ho,resolve,db,Deferred.ofValue,invoke,callFunc,ay,eo,hb,<-f9]
 unfold Oper.wpt;rw[aq,Oper.BD]
 have bq:∀i,m.dom i->i<n:=λi hd=>(hs.dom i).1 hd
 refine u7 ay hb ?_
 have a5:Sim B (⟨w0.w,w0.F++env.map λp=>(get env p.1,a.tmps.getD p.1 undef),none,w0.obs,[],λri h=>(let ⟨fn,T,D,h1,h2,h3⟩:=w0.dj ri (f7 ri h);⟨fn,T,D,h1,h2,λt v ht=>js.2 (.inl (h3 t v ht))⟩),w0.ok⟩:Ctx ⟨n,r⟩) ⟨gk 0 avs,h,n,fn.ntmps⟩ { tmps:=vs++Array.replicate (fn.ntmps-vs.size) undef,defers:=[] } w m:=by
  refine⟨hs.base,hs.below,rfl,ar,λt=>?_,hs.heap,hs.dom,hs.ids,bU _,λp hp=>?_,hs.fr.2.2⟩
  .show bG _ _ _ _ (get (gk 0 avs) t) _;rw[Bg];split
   .rename_i ht
    have b5:t<avs.length:=ab
    have:(vs++Array.replicate (fn.ntmps-vs.size) undef).getD t undef=vs[t]'ab:=by
     rw[dC,sY ab,dE ab];rfl
    rw[this];exact d3 t _ _ al (dE ab)
   .exact .w (.undef _) nofun
  .rcases js.1 hp with hp|hp
   .exact⟨AV.rQ hs.fr.1 (hs.fr.2.1 p hp).1,(hs.fr.2.1 p hp).2⟩
   .obtain⟨q,_,rfl⟩:=ja.1 hp;exact⟨(hs.env q.1).CE bq,hs.env q.1⟩
 have main:∀{ba fk2:Fk}(w1:Ctx ba)(w2:Ctx fk2)(st':St)(a':Act)(w':World)(m':Mm)(KV:AV->bz->Nat->Prop),ba.k=n->fk2.k=fk.k->w1.w=w0.w->w1.F=w0.F++(env.map λp=>(get env p.1,a.tmps.getD p.1 undef))->w1.ds=[] ->
  w2.w=w0.w->w2.F=w0.F->w2.ds=w0.ds->(∀q∈w2.obs,q∈w1.obs)->Sim B w1 st' a' w' m'->gq P fn.results.toList st' KV ->
  (∀v h' n' a' w' m',KV v h' n'->Sim B w2 ⟨put env o.dst v,h',n',nt⟩ a' w' m'->K' a' w') ->
  a'.defers=[]/\∀w1,EnvD.E w' w1->∃v,(results fn a'.tmps).run P w1=.ok v w1/\K' (a.put o.dst v) w1:=by
  intro ba fk2 w1 w2 st' a' w' m' KV d7 q1 ed hF1 c2 q2 q3 q4 q5 h8 hr hKK;refine⟨by have:=h8.defers;rw[c2] at this;exact this,λw' e1=>?_⟩;replace h8:=h8.move e1;unfold gq at hr;split at hr
  .rename_i bh d bg;obtain⟨hd,b4⟩:=hr;obtain⟨us,h1,h2,h3⟩:=rq h8 _ _ _ bg hd
   have aq:(results fn a'.tmps).run P w'=.ok (if h:us.toArray.size=1 then us.toArray[0] else .tuple us.toArray) w':=by
    have he:results fn a'.tmps=(do
     let vs <-fn.results.mapM (pE a'.tmps)
     pure (if h:vs.size=1 then vs[0] else .tuple vs)):=rfl
    rw[he,sL];simp only[Sem.run_bind,Sem.run_map,h1,Result.andThen_ok,Sem.run_pure]
   have b':bG B (LB m' st'.heap) m' w' (oneOf bh) (if h:us.toArray.size=1 then us.toArray[0] else .tuple us.toArray):=by
    have tupc:bh.length≠1->bG B (LB m' st'.heap) m' w' (.tup bh) (if h:us.toArray.size=1 then us.toArray[0] else .tuple us.toArray):=by
     intro b9;rw[dif_neg ar];exact .tup (by simpa using h2) (λj p u hp hu=>h3 j p u hp (by simpa using hu))
    match bh,h2,h3,tupc with
    |[],h2,h3,tupc=>exact tupc ae
    |[v],h2,h3,tupc=>
     obtain⟨u,rfl⟩:∃u,us=[u]:=Dd.1 aV;exact h3 0 v u rfl rfl
    |v::v2::r,h2,h3,tupc=>exact tupc ae
   refine⟨_,aq,?_⟩;have c9:=h8.fr.2.1
   have hold:∀t,bG B (LB m' st'.heap) m' w' (get env t) (a.tmps.getD t undef):=by
    intro t
    rcases ua env t with ⟨v,hv⟩|hu
    .exact (c9 (get env t,a.tmps.getD t undef) (by rw[hF1];exact js.2 (.inr (ja.2 ⟨(t,v),hv,rfl⟩)))).2
    .rw[hu];exact .w (.undef _) nofun
   refine hKK (oneOf bh) st'.heap st'.nxt _ _ m' b4 ⟨(by rw[q2,<-ed];exact h8.base),(by rw[q2,<-ed];exact h8.below),(by rw[kX,q4];exact hs.defers),(by rw[kU];exact hs.size),?_,h8.heap,h8.dom,h8.ids,?_,λp hp=>?_,λq hq=>h8.fr.2.2 q (q5 q hq)⟩
   .exact nJ env a o.dst _ _ (by rw[hs.size];exact aa) b' hold
   .have h1:=hs.fr.1;have h2:=h8.fr.1;rw[d7] at h2;rw[q1];exact dN h1 h2
   .rw[q3] at hp;exact⟨by rw[q1];exact (hs.fr.2.1 p hp).1,(c9 p (by rw[hF1];exact js.2 (.inl hp))).2⟩
  trivial
 refine eT (hw _ _ rfl rfl rfl rfl rfl a5) (λe a' w' hq=>?_);obtain⟨he,ba,fk2,w1,w2,st',m',KV,q1,q2,q3,q4,q5,q6,q7,q8,q9,h8,hr,hK⟩:=hq;have fin:=main w1 w2 st' a' w' m' KV q1 q2 q3 q4 q5 q6 q7 q8 q9 h8 hr hK
 rcases he with rfl|rfl
 .exact fin
 .exact fin
theorem GH{w0:Ctx fk}{nt:Nat}(o:Oper)(f:Operand)(args:Array Operand)(tys:Array TypeId)(ho:o.op=.call { callee:=.value f,args:=args,argTypes:=tys }){g:FuncId}{bT:List AV}(hf:fU (ev env f)=some (g,bT)){fn:Func}{c:Code}(ay:P.funcs[g]?=some fn) (h9:(fn.name == "runtime.NumGoroutine")=false) (hb:fn.body=some c) (b7:(args.toList.map (ev env)++bT).length<=fn.ntmps) (r:Option RI) (f7:∀ri,r=some ri->fk.ri=some ri) {Kv:AV->bz->Nat->Prop} (hw:cK ⟨n,r⟩ P c ⟨gk 0 (args.toList.map (ev env)++bT),h,n,fn.ntmps⟩ (iE P fn.results.toList Kv)) (hs:Sim B w0 ⟨env,h,n,nt⟩ a w m) (aa:dOk nt o.dst) (Q:Exit->Act->World->Prop) (K':Act->World->Prop) (hK:∀v h' n' a' w' m',Kv v h' n'->Sim B w0 ⟨put env o.dst v,h',n',nt⟩ a' w' m'->K' a' w'):o.wpt P a w K' Q:=
 GG o f args tys ho hf ay h9 hb b7 r f7 Q K' (λw1 a1 e1 e2 e3 e4 e5 bi=>eT (e3▸hw B w1 a1 w m bi) (λe a' w' ⟨st',m',hk,h8⟩=>by
  have fin:∀e:Exit,(e=.normal\/e=.ret)->gq P fn.results.toList st' Kv->xJ P B w0 env a n nt o fn K' e a' w':=λe he hk=>
   ⟨he,_,_,w1,w0,st',m',Kv,rfl,rfl,e1,e2,e5,rfl,rfl,rfl,λq hq=>e4▸hq,h8,hk,hK⟩
  cases e with
  |normal=>simp_all
  |ret=>simp_all
  |_=>exact hk.elim)) hs aa
end
section
variable{P:Program}{B:Base}{m:Mm}{w w':World}{h:bz}{n:Nat}{env:Env}{a:Act}{L:Nat->Prop}
section
omit [bE]
theorem Rep.nD{G:Nat->Prop}{p:PV}{v:Value}(hc:∀a v,w.cell? a=some v->w'.cell? a=some v)(h:Rep G w p v):Rep G w' p v:=by
 induction h with
 |undef v=>exact .undef v
 |jE b=>exact .jE b
 |bool b=>exact .bool b
 |int k n=>exact .int k n
 |str s=>exact .str s
 |agg hl _ ih=>exact .agg hl ih
 |tup hl _ ih=>exact .tup hl ih
 |slnil=>exact .slnil
 |sl vals hn ei hg hr ih=>exact .sl vals hn (λj hj=>hc _ _ (ei j hj)) hg ih
 |slz hn=>exact .slz hn
 |ip vals ei hg hr ih=>exact .ip vals (λj hj=>hc _ _ (ei j hj)) hg ih
 |gN=>exact .gN
 |lh=>exact .lh
 |ifc _ ih=>exact .ifc ih
 |fn hl _ ih=>exact .fn hl ih
 |yl l=>exact .yl l
theorem bG.nD{x:AV}{v:Value}(hc:∀a v,w.cell? a=some v->w'.cell? a=some v)(h:bG B L m w x v):bG B L m w' x v:=by
 induction h with
 |w hr hf=>exact .w (hr.nD hc) hf
 |ptr hd ht ha hC=>exact .ptr hd ht ha hC
 |mp hd ht ha=>exact .mp hd ht ha
 |msl hd ht hn h0 h1=>exact .msl hd ht hn h0 h1
 |agg hl _ ih=>exact .agg hl ih
 |tup hl _ ih=>exact .tup hl ih
 |fn hl _ ih=>exact .fn hl ih
theorem wZ{l:Nat}{o o':Obj}(hl:w.heap[l]?=some o)(ho:o.isCells=false)(ad:Addr)(v:Value)(hc:w.cell? ad=some v):(w.putObj l o').cell? ad=some v:=by
 by_cases e:ad.block=l
 .unfold World.cell? at hc;rw[e,hl] at hc
  cases o<;>simp_all[Obj.isCells]
 .rw[<-hc];exact World.cell?_of_block (World.putObj_heap_other e)
theorem OC{k l:Nat}{o o':Obj}(hl:w.heap[l]?=some o)(hk:k<=l):Bel k w (w.putObj l o'):=
 ⟨rfl,rfl,ae,λi hi=>World.putObj_heap_other ab⟩
end
theorem Sim.put{ba:Fk}{w0:Ctx fk}{w1:Ctx ba}{st:St}{l:Nat}{o o':Obj}(hs:Sim B w0 st a w m)(hl:w.heap[l]?=some o)(ho:o.isCells=false)(i4:∀es clk,o≠.map es clk)(hB:B.n<=l)(hw:w1.w=w0.w){a':Act}(ht:a'.tmps=a.tmps)(hd:a'.defers=marks w1.ds)(c9:pg B w1 (LB m st.heap) m (w.putObj l o') st.nxt):Sim B w1 st a' (w.putObj l o') m:=by
 have hc:∀ad v,w.cell? ad=some v->(w.putObj l o').cell? ad=some v:=λad v h=>wZ hl ho ad v h
 refine⟨by rw[hw];exact hs.base,by rw[hw];exact hs.below.trans (OC hl hB),hd,by rw[ht];exact hs.size,λt=>by rw[ht];exact (hs.env t).nD hc,⟨λid c hin ge=>?_,hs.heap.inj⟩,hs.dom,hs.ids,c9⟩;obtain⟨h1,h2⟩:=hs.heap.entry id c hin ge;refine⟨h1,?_⟩
 rcases h2 with h2|⟨b,C,cs,e,e1,e2,e3,e4,e5,e6⟩|⟨b,es,clk,e1,e2,e3,e4,e5⟩
 .exact .inl h2
 .refine .inr (.inl ⟨b,C,cs,e,e1,?_,e3,e4,e5,λj p v hp hv=>(e6 j p v hp hv).nD hc⟩);rw[<-e2];refine World.putObj_heap_other (λbw=>?_);subst bw;rw[hl] at e2;cases e2;cases ho
 .refine .inr (.inr ⟨b,es,clk,e1,e2,?_,e4,e5⟩);rw[<-e3];refine World.putObj_heap_other (λbw=>?_);simp_all
theorem Sim.lay{ba:Fk}{w0:Ctx fk}{w1:Ctx ba}{st:St}(o:Obj)(hs:Sim B w0 st a w m)(hw:w1.w=w0.w){a':Act}(ht:a'.tmps=a.tmps)(hd:a'.defers=marks w1.ds)(c9:pg B w1 (LB m st.heap) m (w.alloc o) st.nxt):Sim B w1 st a' (w.alloc o) m:=by
 have hb:Bel w.heap.size w (w.alloc o):=(Bel.refl _ w).alloc (bU _) o;exact⟨by rw[hw];exact hs.base,by rw[hw];exact hs.below.trans (hb.mono hs.room),hd,by rw[ht];exact hs.size,λt=>by rw[ht];exact (hs.env t).mono (Mm.le.refl m) (λ_ _ h=>h) (λb co _=>hb.block b co),hs.heap.below hb,hs.dom,hs.ids,c9⟩
end
def nE(env:Env):List Nat->List AV->Env
 |t::ts,v::vs=>nE ((t,v)::env) ts vs
 |_,_=>env
omit [bE] in
@[simp]theorem Y7(env:Env)(vs:List AV):nE env [] vs=env:=by cases vs<;>rfl
omit [bE] in
@[simp]theorem OE(env:Env)(t:Nat)(ts:List Nat)(v:AV)(vs:List AV):nE env (t::ts) (v::vs)=nE ((t,v)::env) ts vs:=rfl
def sw(k:Nat)(K:bz->Nat->Prop):Exit->St->Prop
 |.normal,s=>∃h' n' aw,Lek ⟨k,none⟩ s ⟨[],h',n',aw⟩/\K h' n'
 |_,_=>False
def uM(P:Program)(k:Nat)(body:Code)(K:bz->Nat->Prop):Exit->St->Prop
 |.normal,s=>cK ⟨k,none⟩ P body s (sw k K)
 |_,_=>False
def Round(P:Program)(ri:RI)(avs:List AV)(h:bz)(n:Nat)(K:bz->Nat->Prop):Prop:=
 avs.length=ri.ps.size/\(∀t∈ri.ps,t<ri.nt)/\cK ⟨n,none⟩ P ri.assign ⟨nE ri.env ri.ps.toList avs,h,n,ri.nt⟩ (uM P n ri.body K)
def qM{k:Nat}{ri:RI}(w0:Ctx ⟨k,some ri⟩)(w1:Ctx ⟨k,none⟩):Prop:=
 w1.w=w0.w/\w1.F=w0.F/\w1.r=w0.r/\w1.ds=w0.ds/\(∃fn T D,(ri.l,dj ri fn T D .done (some .ret))∈w1.obs)/\∀q∈w0.obs,q.1≠ri.l->q∈w1.obs
def pH(k:Nat)(K Kl:bz->Nat->Prop):Exit->St->Prop
 |.normal,s=>∃h' n' aw,Lek ⟨k,none⟩ s ⟨[],h',n',aw⟩/\K h' n'
 |.ret,s=>∃h' n' aw,Lek ⟨k,none⟩ s ⟨[],h',n',aw⟩/\Kl h' n'
 |_,_=>False
def uN(P:Program)(k:Nat)(body:Code)(K Kl:bz->Nat->Prop):Exit->St->Prop
 |.normal,s=>cK ⟨k,none⟩ P body s (pH k K Kl)
 |_,_=>False
def I0(P:Program)(ri:RI)(avs:List AV)(h:bz)(n:Nat)(K Kl:bz->Nat->Prop):Prop:=
 avs.length=ri.ps.size/\(∀t∈ri.ps,t<ri.nt)/\cK ⟨n,none⟩ P ri.assign ⟨nE ri.env ri.ps.toList avs,h,n,ri.nt⟩ (uN P n ri.body K Kl)
@[simp ↓]theorem Y8(P:Program)(k:Nat)(body:Code)(K Kl:bz->Nat->Prop)(s:St):uN P k body K Kl .normal s=cK ⟨k,none⟩ P body s (pH k K Kl):=rfl
@[congr] theorem Y9{k:Nat}{K Kl:bz->Nat->Prop}{e e':Exit}{s s':St}(h1:e=e')(h2:s=s'):pH k K Kl e s=pH k K Kl e' s':=by rw[h1,h2]
@[congr] theorem Za{P:Program}{k:Nat}{body:Code}{K Kl:bz->Nat->Prop}{e e':Exit}{s s':St}(h1:e=e')(h2:s=s'):uN P k body K Kl e s=uN P k body K Kl e' s':=by rw[h1,h2]
theorem OF{k:Nat}{K Kl:bz->Nat->Prop}{s:St}(h':bz)(n':Nat)(aw:Nat)(hle:Lek ⟨k,none⟩ s ⟨[],h',n',aw⟩)(hk:K h' n'):pH k K Kl .normal s:=⟨h',n',aw,hle,hk⟩
theorem OG{k:Nat}{K Kl:bz->Nat->Prop}{s:St}(h':bz)(n':Nat)(aw:Nat)(hle:Lek ⟨k,none⟩ s ⟨[],h',n',aw⟩)(hk:Kl h' n'):pH k K Kl .ret s:=⟨h',n',aw,hle,hk⟩
section
variable{P:Program}{B:Base}{m:Mm}{w:World}{h:bz}{n:Nat}{env:Env}{a:Act}{L:Nat->Prop}
section
omit [bE]
theorem GJ:∀(ps:List Nat)(avs:List AV)(vals:List Value)(e:Env)(T:Array Value),ps.length=avs.length->avs.length=vals.length->(∀t∈ps,t<T.size)->(∀(j:Nat)(x:AV)(v:Value),avs[j]?=some x->vals[j]?=some v->bG B L m w x v)->(∀t,bG B L m w (get e t) (T.getD t undef))->((ps.zip vals).foldl (λtmps (p:Nat×Value)=>tmps.setIfInBounds p.1 p.2) T).size=T.size/\∀t,bG B L m w (get (nE e ps avs) t) (((ps.zip vals).foldl (λtmps (p:Nat×Value)=>tmps.setIfInBounds p.1 p.2) T).getD t undef)
 |[],[],[],e,T,_,_,_,_,he=>⟨rfl,by simpa using he⟩
 |p::ps,x::avs,v::vals,e,T,h1,h2,b5,hr,he=>by
  simp only[List.zip_cons_cons,CX,OE];have hp:=b5 p ae;have:=GJ ps avs vals ((p,x)::e) (T.setIfInBounds p v) ak ak (λt ht=>al) (λj y u hy hu=>hr (j+1) y u ak ak) (λt=>?_)
  .simp_all
  .simp only[get];rw[dC,iX];by_cases gp:p=t
   .subst gp;simp only[cz];rw[cu hp];exact hr 0 x v rfl rfl
   simp_all
 |[],_::_,_,_,_,h1,_,_,_,_=>by cases h1
 |_::_,[],_,_,_,h1,_,_,_,_=>by cases h1
 |[],[],_::_,_,_,_,h2,_,_,_=>by cases h2
 |_::_,_::_,[],_,_,_,h2,_,_,_=>by cases h2
theorem bG.Tj{o f:Bool}{l:Nat}{v:Value}(h:bG B L m w (.w o f (.yl l)) v):v=.func (.yield l) #[] #[]:=by
 cases h with|w h _=>cases h;rfl
theorem OH(ps:Array Tmp)(vals:Array Value)(T:Array Value):(ps.zip vals).foldl (λtmps (t,a)=>tmps.setIfInBounds t a) T=(ps.toList.zip vals.toList).foldl (λtmps (p:Nat×Value)=>tmps.setIfInBounds p.1 p.2) T:=by
 rw[<-Array.foldl_toList,Array.toList_zip]
end
theorem GK{k:Nat}{ri:RI}{w0:Ctx ⟨k,some ri⟩}{nt:Nat}(o:Oper)(f:Operand)(args:Array Operand)(tys:Array TypeId)(ho:o.op=.call { callee:=.value f,args:=args,argTypes:=tys }){ow fl:Bool}(hf:ev env f=.w ow fl (.yl ri.l)){Kv Kl:bz->Nat->Prop}(hw:I0 P ri (args.toList.map (ev env)) h n Kv Kl)(hs:Sim B w0 ⟨env,h,n,nt⟩ a w m)(aa:dOk nt o.dst)(Q:Exit->Act->World->Prop)(K':Act->World->Prop)(hK:∀h' n' a' w' m',Kv h' n'->Sim B w0 ⟨put env o.dst (.w false false (.bool true)),h',n',nt⟩ a' w' m'->K' a' w')(hKl:∀(w1:Ctx ⟨k,none⟩) h' n' a' w' m',qM w0 w1->Kl h' n'->Sim B w1 ⟨put env o.dst (.w false false (.bool false)),h',n',nt⟩ a' w' m'->K' a' w'):o.wpT w0.r P a w K' Q:=by
 obtain⟨hlen,b5,hw⟩:=hw
 have fi:∀x:Operand,bG B (LB m h) m w (ev env x) (a.eval x):=λx=>mR x (λt _=>hs.env t)
 have db:a.eval f=.func (.yield ri.l) #[] #[]:=by have:=fi f;rw[hf] at this;exact this.Tj
 obtain⟨fn,T,D,hin,hT,ej⟩:=w0.dj ri rfl;obtain⟨hBl,en,hLl,hl⟩:=hs.fr.2.2 _ hin;have du:(dj ri fn T D .ready none).isCells=false:=rfl
 have bq:∀i,m.dom i->i<n:=λi hd=>(hs.dom i).1 hd
 generalize bk:args.map a.eval=vals
 have gt:vals.size=ri.ps.size:=by rw[<-bk,<-hlen];simp
 have aq:(execOp a.eval o).run P w=.ok (.round ri.l fn ((ri.ps.zip vals).foldl (λtmps (t,a)=>tmps.setIfInBounds t a) T) ri.assign ri.body) w:=by
  have hy:=run_yield (P:=P) (args:=vals) (r:={ state:=.ready,pending:=none,fn:=fn,tmps:=T,params:=ri.ps,assign:=ri.assign,body:=ri.body,defers:=D }) hl gt;simp[execOp,ho,resolve,db,Deferred.ofValue,invoke,callFunc,bk,hy]
 refine jS (λc e=>(by rw[ho] at e;cases e)) ?_;unfold Oper.wpt;rw[aq,Oper.QW];refine JR ?_;obtain⟨F1,hF1⟩:∃F1,w0.F++env.map (λp=>(get env p.1,a.tmps.getD p.1 undef))=F1:=⟨_,rfl⟩
 have hF:∀p∈F1,p.1.lt n=true/\bG B (LB m h) m w p.1 p.2:=by
  intro p hp;rw[<-hF1] at hp
  rcases js.1 hp with hp|hp
  .exact⟨AV.rQ hs.fr.1 (hs.fr.2.1 p hp).1,(hs.fr.2.1 p hp).2⟩
  .obtain⟨q,_,rfl⟩:=ja.1 hp;exact⟨(hs.env q.1).CE bq,hs.env q.1⟩
 have hTe:∀t,bG B (LB m h) m w (get ri.env t) (T.getD t undef):=by
  intro t
  rcases ua ri.env t with ⟨v,hv⟩|hu
  .exact (hs.fr.2.1 _ (ej t v hv)).2
  .rw[hu];exact .w (.undef _) nofun
 have dm:=GJ (B:=B) (L:=LB m h) (m:=m) (w:=w) ri.ps.toList (args.toList.map (ev env)) vals.toList ri.env T (by rw[hlen];simp) (by rw[<-bk];simp) (λt ht=>by rw[hT];simp_all)
  (λj x v hx hv=>by
    rw[<-bk] at hv;rw[jm] at hx
    grind) hTe
 rw[OH];generalize gz:(ri.ps.toList.zip vals.toList).foldl (λtmps (p:Nat×Value)=>tmps.setIfInBounds p.1 p.2) T=T' at dm ⊢
 have a5:Sim B (⟨w0.w,F1,some ri.l,w0.obs,[],λri h=>au,w0.ok⟩:Ctx ⟨n,none⟩) ⟨nE ri.env ri.ps.toList (args.toList.map (ev env)),h,n,ri.nt⟩ { tmps:=T',defers:=[] } w m:=
  ⟨hs.base,hs.below,rfl,dm.1.trans hT,dm.2,hs.heap,hs.dom,hs.ids,bU _,hF,hs.fr.2.2⟩
 refine eT (hw _ _ _ _ _ a5) (λe a1 w1 ⟨st1,m1,d7,bi⟩=>?_)
 cases e with
 |normal=>
  intro w1 e1;replace bi:=bi.move e1;obtain⟨_,cw,hLl1,dp⟩:=bi.fr.2.2 _ hin;replace dp:w1.heap[ri.l]?=some (dj ri fn T D .ready none):=dp;replace cw:ri.l<w1.heap.size:=cw;refine⟨_,run_beginRound dp rfl,?_⟩
  have bl:Sim B (⟨w0.w,F1,some ri.l,(ri.l,dj ri fn T D .busy none)::w0.obs.filter (λq=>decide (q.1≠ri.l)),[],λri h=>au,w0.ok⟩:Ctx ⟨n,none⟩) st1 a1 (w1.putObj ri.l (dj ri fn T D .busy none)) m1:=by
   refine Sim.put (w1:=(⟨w0.w,F1,some ri.l,(ri.l,dj ri fn T D .busy none)::w0.obs.filter (λq=>decide (q.1≠ri.l)),[],λri h=>au,w0.ok⟩:Ctx ⟨n,none⟩)) (o':=dj ri fn T D .busy none) bi dp du (λ_ _ h=>au) hBl rfl rfl (by exact bi.defers) ⟨bi.fr.1,λp hp=>⟨(bi.fr.2.1 p hp).1,(bi.fr.2.1 p hp).2.nD (λad v h=>wZ dp du ad v h)⟩,λq hq=>?_⟩
   rcases dU.1 hq with e|hq
   .subst e;exact⟨hBl,al,hLl1,World.putObj_heap_same cw⟩
   .obtain⟨hq,b9⟩:=tc.1 hq;obtain⟨o1,o2,o3,o4⟩:=bi.fr.2.2 q hq;exact⟨o1,by simpa using o2,o3,(World.putObj_heap_other ak).trans o4⟩
  have fin:∀(s:LoopState)(j:Option Code)(st3:St)(a3:Act)(w3:World)(m3:Mm),Sim B (⟨w0.w,F1,some ri.l,(ri.l,dj ri fn T D .busy none)::w0.obs.filter (λq=>decide (q.1≠ri.l)),[],λri h=>au,w0.ok⟩:Ctx ⟨n,none⟩) st3 a3 w3 m3 ->
   ∀h' n' aw,Lek ⟨n,none⟩ st3 ⟨[],h',n',aw⟩->∃m4,(Bel B.n w0.w (w3.putObj ri.l (dj ri fn T D s j)))/\(∀t,bG B (LB m4 h') m4 (w3.putObj ri.l (dj ri fn T D s j)) (get env t) (a.tmps.getD t undef)) /\
    Sim B (⟨w0.w,F1,some ri.l,[],[],λri h=>au,w0.ok⟩:Ctx ⟨n,none⟩) ⟨[],h',n',aw⟩ a3 (w3.putObj ri.l (dj ri fn T D s j)) m4/\n<=n' /\
    (∀p∈w0.F,bG B (LB m4 h') m4 (w3.putObj ri.l (dj ri fn T D s j)) p.1 p.2)/\w3.heap[ri.l]?=some (dj ri fn T D .busy none)/\ri.l<w3.heap.size/\¬LB m4 h' ri.l /\
    (∀q∈w0.obs,q.1≠ri.l->B.n<=q.1/\q.1<(w3.putObj ri.l (dj ri fn T D s j)).heap.size/\¬LB m4 h' q.1/\(w3.putObj ri.l (dj ri fn T D s j)).heap[q.1]?=some q.2):=by
   intro s j st3 a3 w3 m3 cg h' n' aw hle;obtain⟨m4,d2⟩:=hle _ _ _ _ _ cg;obtain⟨_,bc,hLl4,c5⟩:=d2.fr.2.2 (ri.l,dj ri fn T D .busy none) ae;replace c5:w3.heap[ri.l]?=some (dj ri fn T D .busy none):=c5;replace bc:ri.l<w3.heap.size:=bc;have dv:(dj ri fn T D .busy none).isCells=false:=rfl
   have d5:∀ad v,w3.cell? ad=some v->(w3.putObj ri.l (dj ri fn T D s j)).cell? ad=some v:=λad v h=>wZ c5 dv ad v h
   have c3:=d2.fr.2.1
   have hold:∀t,bG B (LB m4 h') m4 (w3.putObj ri.l (dj ri fn T D s j)) (get env t) (a.tmps.getD t undef):=by
    intro t
    rcases ua env t with ⟨v,hv⟩|hu
    .refine ((c3 (get env t,a.tmps.getD t undef) ?_).2).nD d5;rw[<-hF1]
     grind
    .rw[hu];exact .w (.undef _) nofun
   have a4:Sim B (⟨w0.w,F1,some ri.l,[],[],λri h=>au,w0.ok⟩:Ctx ⟨n,none⟩) ⟨[],h',n',aw⟩ a3 (w3.putObj ri.l (dj ri fn T D s j)) m4:=
    Sim.put (w1:=(⟨w0.w,F1,some ri.l,[],[],λri h=>au,w0.ok⟩:Ctx ⟨n,none⟩)) (o':=dj ri fn T D s j) d2 c5 dv (λ_ _ h=>au) hBl rfl rfl (by exact d2.defers) ⟨d2.fr.1,λp hp=>⟨(c3 p hp).1,(c3 p hp).2.nD d5⟩,λq hq=>by cases hq⟩
   refine⟨m4,a4.below,hold,a4,d2.fr.1,λp hp=>?_,c5,bc,hLl4,λq hq b9=>?_⟩
   .refine ((c3 p ?_).2).nD d5;rw[<-hF1]
    grind
   .obtain⟨o1,o2,o3,o4⟩:=d2.fr.2.2 q (eY _ (tc.2 ⟨hq,ak⟩));exact⟨o1,by simpa using o2,o3,(World.putObj_heap_other b9).trans o4⟩
  refine eT (d7 _ _ _ _ _ bl) (λe a3 w3 ⟨st3,m3,em,cg⟩=>?_)
  cases e with
  |normal=>
   intro w3 e3;replace cg:=cg.move e3;obtain⟨h',n',aw,hle,b4⟩:=em;obtain⟨m4,bw,hold,a4,ep,hF0,c5,bc,hLl4,bt⟩:=fin .ready none st3 a3 w3 m3 cg h' n' aw hle;refine⟨_,_,run_endRound none c5,?_⟩;show K' (a.put o.dst (.bool true)) _;refine hK h' n' _ _ m4 b4 ⟨a4.base,bw,by rw[kX];exact hs.defers,by rw[kU];exact hs.size,?_,a4.heap,a4.dom,a4.ids,dN hs.fr.1 ep,λp hp=>⟨(hs.fr.2.1 p hp).1,hF0 p hp⟩,λq hq=>?_⟩
   .exact nJ env a o.dst _ _ (by rw[hs.size];exact aa) (il true) hold
   .by_cases fw:q.1=ri.l
    .obtain⟨o1,o2,o3,o4⟩:=hs.fr.2.2 q hq;rw[fw] at o4 o1 ⊢;rw[hl] at o4;refine⟨o1,al,hLl4,?_⟩;rw[<-o4];exact World.putObj_heap_same bc
    .exact bt q hq fw
  |ret=>
   intro w3 e3;replace cg:=cg.move e3;obtain⟨h',n',aw,hle,b4⟩:=em;obtain⟨m4,bw,hold,a4,ep,hF0,c5,bc,hLl4,bt⟩:=fin .done (some .ret) st3 a3 w3 m3 cg h' n' aw hle;refine⟨_,_,run_endRound (some .ret) c5,?_⟩;show K' (a.put o.dst (.bool false)) _;refine hKl (⟨w0.w,w0.F,w0.r,(ri.l,dj ri fn T D .done (some .ret))::w0.obs.filter (λq=>decide (q.1≠ri.l)),w0.ds,λri h=>au,w0.ok⟩:Ctx ⟨k,none⟩) h' n' _ _ m4 ⟨rfl,rfl,rfl,rfl,⟨fn,T,D,ae⟩,λq hq b9=>eY _ (tc.2 ⟨hq,ak⟩)⟩ b4
    ⟨a4.base,bw,by rw[kX];exact hs.defers,by rw[kU];exact hs.size,?_,a4.heap,a4.dom,a4.ids,dN hs.fr.1 ep,λp hp=>⟨(hs.fr.2.1 p hp).1,hF0 p hp⟩,λq hq=>?_⟩
   .exact nJ env a o.dst _ _ (by rw[hs.size];exact aa) (il false) hold
   .rcases dU.1 hq with e|hq
    .subst e;exact⟨hBl,al,hLl4,World.putObj_heap_same bc⟩
    .obtain⟨hq,b9⟩:=tc.1 hq;exact bt q hq ak
  |_=>exact em.elim
 |_=>exact d7.elim
theorem OI{k:Nat}{ri:RI}{w0:Ctx ⟨k,some ri⟩}{nt:Nat}(o:Oper)(f:Operand)(args:Array Operand)(tys:Array TypeId)(ho:o.op=.call { callee:=.value f,args:=args,argTypes:=tys }){ow fl:Bool}(hf:ev env f=.w ow fl (.yl ri.l)){Kv:AV->bz->Nat->Prop}(hw:Round P ri (args.toList.map (ev env)) h n (λh' n'=>Kv (.w false false (.bool true)) h' n'))(hs:Sim B w0 ⟨env,h,n,nt⟩ a w m)(aa:dOk nt o.dst)(Q:Exit->Act->World->Prop)(K':Act->World->Prop)(hK:∀v h' n' a' w' m',Kv v h' n'->Sim B w0 ⟨put env o.dst v,h',n',nt⟩ a' w' m'->K' a' w'):o.wpT w0.r P a w K' Q:=by
 obtain⟨hlen,b5,hw⟩:=hw;refine GK (Kl:=λ_ _=>False) o f args tys ho hf ⟨hlen,b5,tA hw (λe s hq=>?_)⟩ hs aa Q K' (λh' n' a' w' m' hk h8=>hK _ _ _ _ _ m' hk h8) (λ_ _ _ _ _ _ _ hk=>hk.elim)
 cases e with
 |normal=>
  refine tA hq (λe s hq=>?_)
  cases e with
  |normal=>exact hq
  |_=>exact hq.elim
 |_=>exact hq.elim
end
def qN{fk:Fk}(w0:Ctx fk):Prop:=w0.ds.Nodup/\∀D∈w0.ds,(D,Obj.deferred (some []))∈w0.obs
def fN(fk:Fk)(P:Program)(c:Code)(st:St)(K:Exit->St->Prop):Prop:=
 ∀(B:Base)(w0:Ctx fk)(a:Act)(w:World)(m:Mm),w0.r=none->qN w0->Sim B w0 st a w m ->
  c.wpT none P (λe a' w'=>∃(w1:Ctx fk)(st':St)(m':Mm),w1.w=w0.w/\w1.r=none/\qN w1/\K e st'/\Sim B w1 st' a' w' m') a w
def fF(k:Nat)(ri:RI)(P:Program)(c:Code)(st:St)(K Kd:Exit->St->Prop):Prop:=
 ∀(B:Base)(w0:Ctx ⟨k,some ri⟩)(a:Act)(w:World)(m:Mm),Sim B w0 st a w m ->
  c.wpT w0.r P (λe a' w'=>(∃st' m',K e st'/\Sim B w0 st' a' w' m')\/∃w1:Ctx ⟨k,none⟩,qM w0 w1/\∃st' m',Kd e st'/\Sim B w1 st' a' w' m') a w
theorem GM{k:Nat}{ri:RI}{P:Program}{K Kd:Exit->St->Prop}{st:St}{c:Code}(h:cK ⟨k,some ri⟩ P c st K):fF k ri P c st K Kd:=
 λB w0 a w m hs=>eT (h B w0 a w m hs) (λ_ _ _ hx=>.inl hx)
section
variable{P:Program}{K:Exit->St->Prop}{st st':St}
theorem Bh{c:Code}(h:cK fk P c st K):fN fk P c st K:=λB w0 a w m hr hd hs=>by
 have:=h B w0 a w m hs;rw[hr] at this;exact eT this (λe a' w' ⟨st',m',h1,h2⟩=>⟨w0,st',m',rfl,hr,hd,h1,h2⟩)
def xK(fk:Fk)(P:Program)(b:Code)(K:Exit->St->Prop):Exit->St->Prop
 |.normal,s=>fN fk P b s K
 |e,s=>K e s
theorem Bi{x y:Code}(h:fN fk P x st (xK fk P y K)):fN fk P (.seq x y) st K:=
 λB w0 a w m hr hd hs=>yz (eT (h B w0 a w m hr hd hs) (λe a' w' ⟨w1,st',m',g1,g2,g3,h1,h2⟩=>by
  cases e with
  |normal=>exact eT (h1 B w1 a' w' m' g2 g3 h2) (λe a2 w2 ⟨w3,s3,m3,k1,k2,k3,k4,k5⟩=>⟨w3,s3,m3,k1.trans g1,k2,k3,k4,k5⟩)
  |_=>exact⟨w1,st',m',g1,g2,g3,h1,h2⟩))
theorem Bj{id:Nat}{c:Code}(h:fN fk P c st (iB id K)):fN fk P (.block id c) st K:=
 λB w0 a w m hr hd hs=>yA (eT (h B w0 a w m hr hd hs) (λe a' w' ⟨w1,st',m',g1,g2,g3,h1,h2⟩=>by
  cases e with
  |exit fx=>
   simp only[Exit.inBlock];split<;>simp_all
  |_=>exact⟨w1,st',m',g1,g2,g3,h1,h2⟩))
theorem OJ{c:Code}{K':Exit->St->Prop}(h:fN fk P c st K)(hk:∀e s,K e s->K' e s):fN fk P c st K':=
 λB w0 a w m hr hd hs=>eT (h B w0 a w m hr hd hs) (λe a' w' ⟨w1,st',m',g1,g2,g3,h1,h2⟩=>⟨w1,st',m',g1,g2,g3,hk _ _ h1,h2⟩)
theorem GN{g:Operand}{ps:Array Tmp}{assign body:Code}{env:Env}{h:bz}{n nt:Nat}{gf:FuncId}{bT:List AV}(hf:fU (ev env g)=some (gf,bT)){fn:Func}{c:Code}(ay:P.funcs[gf]?=some fn) (h9:(fn.name == "runtime.NumGoroutine")=false) (hb:fn.body=some c) (b7:bT.length+1<=fn.ntmps) (hw:∀l,fF n ⟨l,env,nt,ps,assign,body⟩ P c ⟨gk 0 (.w false false (.yl l)::bT),h,n,fn.ntmps⟩ (iE P fn.results.toList λ_ h' n'=>K .normal ⟨env,h',n',nt⟩) (iE P fn.results.toList λ_ h' n'=>K .ret ⟨env,h',n',nt⟩)):fN fk P (.rangeFunc g ps assign body) ⟨env,h,n,nt⟩ K:=by
 intro B w0 a w m hr hd hs;refine JS ?_;intro w e0 fni;replace hs:=hs.move e0;have bn:bG B (LB m h) m w (ev env g) (a.eval g):=mR g (λt _=>hs.env t)
 have ek:∃cv:Array Value,a.eval g=.func (.func gf) #[] cv/\bT.length=cv.size/\∀(j:Nat)(p:AV)(v:Value),bT[j]?=some p->cv[j]?=some v->bG B (LB m h) m w p v:=by
  unfold fU at hf;split at hf
  .rename_i g' bp e
   injection hf with hf;injection hf with h1 h2;subst h1;subst h2
   rw[e] at bn;generalize hv:a.eval g=vf at bn
   cases bn with|fn h1 h2=>grind
  .rename_i own f' g' bp e
   injection hf with hf;injection hf with h1 h2;subst h1;subst h2
   rw[e] at bn;generalize hv:a.eval g=vf at bn
   cases bn with
   |w h1 _=>
    cases h1 with
    |fn h1 h2=>
     refine⟨_,rfl,ak,λj p v hp hv=>?_⟩;obtain⟨q,hq,rfl⟩:=gv hp;exact .w (h2 j q v hq hv) nofun
  .cases hf
 obtain⟨cv,db,b6,gb⟩:=ek
 have bq:∀i,m.dom i->i<n:=λi hd=>(hs.dom i).1 hd
 obtain⟨ri,d8⟩:∃ri:RI,ri=⟨w.heap.size+1,env,nt,ps,assign,body⟩:=⟨_,rfl⟩;obtain⟨D,hD⟩:∃D,D=w.heap.size:=⟨_,rfl⟩
 have d9:ri.l=w.heap.size+1:=by rw[d8]
 have bi:Sim B (⟨w0.w,[],none,[(D,.deferred (some []))],w0.ds,λri h=>au,w0.ok⟩:Ctx ⟨0,none⟩) ⟨env,h,n,nt⟩ a (w.alloc (.deferred (some []))) m:=by
  refine Sim.lay (w1:=(⟨w0.w,[],none,[(D,.deferred (some []))],w0.ds,λri h=>au,w0.ok⟩:Ctx ⟨0,none⟩)) (.deferred (some [])) hs rfl rfl (by exact hs.defers) ⟨cG _,(λp hp=>by cases hp),λq hq=>?_⟩;simp only[sV] at hq;subst hq;rw[hD];exact⟨hs.room,ae,λhl=>by have:=fo hs.heap hl;omega,World.alloc_heap_new w _⟩
 have ga:Bel w.heap.size w (w.alloc (.deferred (some []))):=(Bel.refl _ w).alloc (bU _) _;have eg:Bel (w.alloc (.deferred (some []))).heap.size (w.alloc (.deferred (some []))) ((w.alloc (.deferred (some []))).alloc (dj ri fni a.tmps D .ready none)):=(Bel.refl _ _).alloc (bU _) _
 have cf:∀b,b<w.heap.size->((w.alloc (.deferred (some []))).alloc (dj ri fni a.tmps D .ready none)).heap[b]?=w.heap[b]?:=λb hb=>(eg.block b ar).trans (ga.block b hb)
 have br:∀x v,bG B (LB m h) m w x v->bG B (LB m h) m ((w.alloc (.deferred (some []))).alloc (dj ri fni a.tmps D .ready none)) x v:=λx v hr=>hr.mono (Mm.le.refl m) (λ_ _ h=>h) (λb co _=>cf b co)
 have ao:HZ ⟨n,some ri⟩ (w0.F++env.map (λp=>(get env p.1,a.tmps.getD p.1 undef))) ((ri.l,dj ri fni a.tmps D .ready none)::(D,.deferred (some []))::w0.obs):=λfy e=>by
  cases e;exact⟨fni,a.tmps,D,ae,by rw[d8];exact hs.size,λt v hv=>js.2 (.inr (ja.2 ⟨(t,v),by rw[d8] at hv;exact hv,by rw[d8]⟩))⟩
 have bl:Sim B (⟨w0.w,w0.F++env.map (λp=>(get env p.1,a.tmps.getD p.1 undef)),none,(ri.l,dj ri fni a.tmps D .ready none)::(D,.deferred (some []))::w0.obs,w0.ds,
  ao,w0.ok⟩:Ctx ⟨n,some ri⟩)
  ⟨env,h,n,nt⟩ a ((w.alloc (.deferred (some []))).alloc (dj ri fni a.tmps D .ready none)) m:=by
  refine Sim.lay (w1:=(⟨w0.w,w0.F++env.map (λp=>(get env p.1,a.tmps.getD p.1 undef)),none,(ri.l,dj ri fni a.tmps D .ready none)::(D,.deferred (some []))::w0.obs,w0.ds,ao,w0.ok⟩:Ctx ⟨n,some ri⟩)) _ bi rfl rfl (by exact hs.defers) ⟨bU _,λp hp=>?_,λq hq=>?_⟩
  .rcases js.1 hp with hp|hp
   .exact⟨AV.rQ hs.fr.1 (hs.fr.2.1 p hp).1,br _ _ (hs.fr.2.1 p hp).2⟩
   .obtain⟨q,_,rfl⟩:=ja.1 hp;exact⟨(hs.env q.1).CE bq,br _ _ (hs.env q.1)⟩
  .rcases dU.1 hq with e|hq
   .subst e;refine⟨by simp only[d9];have:=hs.room;omega,al,λhl=>by have:=fo hs.heap hl;omega,?_⟩;simp only[d9];have:=World.alloc_heap_new (w.alloc (.deferred (some []))) (dj ri fni a.tmps D .ready none)
    rwa [World.size_alloc] at this
   .rcases dU.1 hq with e|hq
    .subst e
     have e:∀k,k=w.heap.size->((w.alloc (.deferred (some []))).alloc (dj ri fni a.tmps D .ready none)).heap[k]?=some (.deferred (some [])):=λk hk=>by
      rw[hk];exact (eg.block _ ae).trans (World.alloc_heap_new w _)
     exact⟨by simp only[hD];exact hs.room,ar,λhl=>by have:=fo hs.heap hl;omega,e D hD⟩
    .obtain⟨o1,o2,o3,o4⟩:=hs.fr.2.2 q hq
     grind
 have ey:((w.alloc (.deferred (some []))).alloc (.loop { state:=.ready,pending:=none,fn:=fni,tmps:=a.tmps,params:=ps,assign,body,defers:=w.heap.size }))=(w.alloc (.deferred (some []))).alloc (dj ri fni a.tmps D .ready none):=by
  rw[d8,hD];rfl
 have cq:=run_enterLoop_outer (P:=P) (w:=w) fni a.tmps ps assign body;rw[ey] at cq;clear eg;generalize (w.alloc (.deferred (some []))).alloc (dj ri fni a.tmps D .ready none)=W2 at bl cf br cq;refine⟨w.heap.size+1,[{ target:=.collected w.heap.size,args:=#[] }],W2,{ target:=.fn (.func gf) cv,args:=#[.func (.yield (w.heap.size+1)) #[] #[]] },W2,gf,#[.func (.yield (w.heap.size+1)) #[] #[]]++cv,W2,cq,?_,?_,?_⟩
 .have he:a.eval (.const (.func (.yield (w.heap.size+1)) #[] #[]))=.func (.yield (w.heap.size+1)) #[] #[]:=rfl;simp[resolve,rangeCall,db,he,Deferred.ofValue]
 .have eo:¬fn.name = "runtime.NumGoroutine" := by simp_all
  simp[invoke,callFunc,ay,eo,hb]
 .refine u7 ay hb ?_
  have hlen:(AV.w false false (.yl ri.l)::bT).length=(#[Value.func (.yield (w.heap.size+1)) #[] #[]]++cv).size:=ak
  have d3:∀(j:Nat)(x:AV)(v:Value),(AV.w false false (.yl ri.l)::bT)[j]?=some x->(#[Value.func (.yield (w.heap.size+1)) #[] #[]]++cv)[j]?=some v->bG B (LB m h) m W2 x v:=by
   intro j x v hx hv
   cases j with
   |zero=>
    rw[sY ae] at hv;simp at hx hv;subst hx;subst hv;rw[d9];exact .w (.yl _) nofun
   |succ j=>
    rw[TP ae] at hv
    grind
  generalize (#[Value.func (.yield (w.heap.size+1)) #[] #[]]++cv)=vs at hlen d3;have fh:=hw ri.l;rw[show (⟨ri.l,env,nt,ps,assign,body⟩:RI)=ri from by rw[d8]] at fh
  have er:(AV.w false false (.yl ri.l)::bT).length<=fn.ntmps:=aE
  generalize i0:AV.w false false (.yl ri.l)::bT=avs at hlen d3 fh er
  have a5:Sim B (⟨w0.w,w0.F++env.map (λp=>(get env p.1,a.tmps.getD p.1 undef)),none,(ri.l,dj ri fni a.tmps D .ready none)::(D,.deferred (some []))::w0.obs,[],
   ao,w0.ok⟩:Ctx ⟨n,some ri⟩)
    ⟨gk 0 avs,h,n,fn.ntmps⟩ { tmps:=vs++Array.replicate (fn.ntmps-vs.size) undef,defers:=[] } W2 m:=by
   refine⟨bl.base,bl.below,rfl,ar,λt=>?_,bl.heap,bl.dom,bl.ids,bl.fr⟩;show bG _ _ _ _ (get (gk 0 avs) t) _;rw[Bg];split
   .rename_i ht
    have b5:t<avs.length:=ab
    have:(vs++Array.replicate (fn.ntmps-vs.size) undef).getD t undef=vs[t]'ab:=by
     rw[dC,sY ab,dE ab];rfl
    rw[this];exact d3 t _ _ al (dE ab)
   .exact .w (.undef _) nofun
  have main:∀{ba:Fk}(w1:Ctx ba)(fn2:FuncId)(T2:Array Value)(D2:Nat)(s:LoopState)(j:Option Code)(st':St)(a':Act)(w':World)(m':Mm)(Kv:bz->Nat->Prop),ba.k=n->w1.w=w0.w->(∀p∈w0.F++env.map (λp=>(get env p.1,a.tmps.getD p.1 undef)),p∈w1.F)->w1.ds=[] ->
   (ri.l,dj ri fn2 T2 D2 s j)∈w1.obs->s≠.busy->(∀q∈(D,Obj.deferred (some []))::w0.obs,q∈w1.obs)->Sim B w1 st' a' w' m'->gq P fn.results.toList st' (λ_ h' n'=>Kv h' n') ->
   a'.defers=[]/\∃v w4,(results fn a'.tmps).run P w'=.ok v w'/\(Instr.endLoop (w.heap.size+1)).run P w'=.ok j w4/\∃(w2:Ctx fk)(h':bz)(n':Nat)(m2:Mm),w2.w=w0.w/\w2.r=none/\qN w2/\Kv h' n'/\Sim B w2 ⟨env,h',n',nt⟩ { a with defers:=[{ target:=.collected w.heap.size,args:=#[] }]++a.defers } w4 m2:=by
   intro ba w1 fn2 T2 D2 s j st' a' w' m' Kv d7 ed hF1 c2 ez gr dx h8 bu;refine⟨by have:=h8.defers;rw[c2] at this;exact this,?_⟩;unfold gq at bu;split at bu
   .rename_i bh d bg;obtain⟨gc,b4⟩:=bu;obtain⟨us,h1,h2,h3⟩:=rq h8 _ _ _ bg gc
    have aq:(results fn a'.tmps).run P w'=.ok (if h:us.toArray.size=1 then us.toArray[0] else .tuple us.toArray) w':=by
     have he:results fn a'.tmps=(do
      let vs <-fn.results.mapM (pE a'.tmps)
      pure (if h:vs.size=1 then vs[0] else .tuple vs)):=rfl
     rw[he,sL];simp only[Sem.run_bind,Sem.run_map,h1,Result.andThen_ok,Sem.run_pure]
    obtain⟨hBl,en,hLl,hl⟩:=h8.fr.2.2 (ri.l,dj ri fn2 T2 D2 s j) ez
    replace hl:w'.heap[w.heap.size+1]?=some (dj ri fn2 T2 D2 s j):=by rw[<-d9];exact hl
    replace en:w.heap.size+1<w'.heap.size:=by rw[<-d9];exact en
    have du:(dj ri fn2 T2 D2 s j).isCells=false:=rfl;refine⟨_,w'.putObj (w.heap.size+1) (dj ri fn2 T2 D2 .exhausted j),aq,run_endLoop hl gr,?_⟩
    have d5:∀ad v,w'.cell? ad=some v->(w'.putObj (w.heap.size+1) (dj ri fn2 T2 D2 .exhausted j)).cell? ad=some v:=λad v h=>wZ hl du ad v h
    have dk:=h8.fr.2.1
    have hold:∀t,bG B (LB m' st'.heap) m' (w'.putObj (w.heap.size+1) (dj ri fn2 T2 D2 .exhausted j)) (get env t) (a.tmps.getD t undef):=by
     intro t
     rcases ua env t with ⟨v,hv⟩|hu
     .exact ((dk (get env t,a.tmps.getD t undef) (hF1 _ (js.2 (.inr (ja.2 ⟨(t,v),hv,rfl⟩))))).2).nD d5
     .rw[hu];exact .w (.undef _) nofun
    have a4:Sim B (⟨w0.w,[],none,[],[],λri h=>au,w0.ok⟩:Ctx ⟨0,none⟩) st' a' (w'.putObj (w.heap.size+1) (dj ri fn2 T2 D2 .exhausted j)) m':=
     Sim.put (w1:=(⟨w0.w,[],none,[],[],λri h=>au,w0.ok⟩:Ctx ⟨0,none⟩)) (o':=dj ri fn2 T2 D2 .exhausted j) h8 hl du (λ_ _ h=>au) (by rw[<-d9];exact hBl) ed.symm rfl (by have:=h8.defers;rw[c2] at this;exact this) ⟨cG _,(λp hp=>by cases hp),λq hq=>by cases hq⟩
    have bt:∀q,q∈(D,Obj.deferred (some []))::w0.obs->B.n<=q.1/\q.1<(w'.putObj (w.heap.size+1) (dj ri fn2 T2 D2 .exhausted j)).heap.size/\¬LB m' st'.heap q.1/\(w'.putObj (w.heap.size+1) (dj ri fn2 T2 D2 .exhausted j)).heap[q.1]?=some q.2:=by
     intro q hq
     have b9:q.1≠w.heap.size+1:=by
      rcases dU.1 hq with e|hq
      .subst e;simp only[hD];omega
      .have:=(hs.fr.2.2 q hq).2.1;omega
     obtain⟨o1,o2,o3,o4⟩:=h8.fr.2.2 q (dx q hq);exact⟨o1,by simpa using o2,o3,(World.putObj_heap_other b9).trans o4⟩
    refine⟨⟨w0.w,w0.F,none,(D,.deferred (some []))::w0.obs,D::w0.ds,λfy e=>?_,w0.ok⟩,st'.heap,st'.nxt,m',rfl,rfl,⟨?_,?_⟩,b4,⟨a4.base,a4.below,?_,hs.size,hold,a4.heap,a4.dom,a4.ids,dN hs.fr.1 (by have:=h8.fr.1;rw[d7] at this;exact this),λp hp=>?_,bt⟩⟩
    .obtain⟨f1,T1,D1,g1,g2,g3⟩:=w0.dj fy e;exact⟨f1,T1,D1,eY _ g1,g2,g3⟩
    .refine List.nodup_cons.2 ⟨λhin=>?_,hd.1⟩;have:=(hs.fr.2.2 _ (hd.2 D hin)).2.1;simp only[hD] at this;omega
    .intro D' da
     rcases dU.1 da with e|da
     .subst e;simp
     .exact eY _ (hd.2 D' da)
    .show [_]++a.defers=marks (D::w0.ds);rw[hs.defers,hD];rfl
    .exact⟨(hs.fr.2.1 p hp).1,((dk p (hF1 p (js.2 (.inl hp)))).2).nD d5⟩
   trivial
  refine eT (fh _ _ _ _ _ a5) (λe a' w' hq=>?_)
  have fin1:∀(st':St)(m':Mm),gq P fn.results.toList st' (λ_ h' n'=>K .normal ⟨env,h',n',nt⟩)->Sim B (⟨w0.w,w0.F++env.map (λp=>(get env p.1,a.tmps.getD p.1 undef)),none,(ri.l,dj ri fni a.tmps D .ready none)::(D,.deferred (some []))::w0.obs,[],ao,w0.ok⟩:Ctx ⟨n,some ri⟩) st' a' w' m' ->
   a'.defers=[]/\∀w1x,EnvD.E w' w1x->∃v,(results fn a'.tmps).run P w1x=.ok v w1x/\BE P (w.heap.size+1) none (λe a' w'=>∃(w1:Ctx fk)(st':St)(m':Mm),w1.w=w0.w/\w1.r=none/\qN w1/\K e st'/\Sim B w1 st' a' w' m') { a with defers:=[{ target:=.collected w.heap.size,args:=#[] }]++a.defers } (.returned v) w1x:=by
   intro st' m' bu h8;refine⟨(main (⟨w0.w,w0.F++env.map (λp=>(get env p.1,a.tmps.getD p.1 undef)),none,(ri.l,dj ri fni a.tmps D .ready none)::(D,.deferred (some []))::w0.obs,[],ao,w0.ok⟩:Ctx ⟨n,some ri⟩) fni a.tmps D .ready none st' a' w' m' (λh' n'=>K .normal ⟨env,h',n',nt⟩) rfl rfl (λp hp=>hp) rfl ae ae (λq hq=>eY _ hq) h8 bu).1,λw1x e1=>?_⟩;obtain⟨_,v,_,h2,_⟩:=main (⟨w0.w,w0.F++env.map (λp=>(get env p.1,a.tmps.getD p.1 undef)),none,(ri.l,dj ri fni a.tmps D .ready none)::(D,.deferred (some []))::w0.obs,[],ao,w0.ok⟩:Ctx ⟨n,some ri⟩) fni a.tmps D .ready none st' a' w1x m' (λh' n'=>K .normal ⟨env,h',n',nt⟩) rfl rfl (λp hp=>hp) rfl ae ae (λq hq=>eY _ hq) (h8.move e1) bu;refine⟨v,h2,λw2x e2=>?_⟩;obtain⟨_,_,w4,_,h3,w2,h',n',m2,g1,g2,g3,g4,g5⟩:=main (⟨w0.w,w0.F++env.map (λp=>(get env p.1,a.tmps.getD p.1 undef)),none,(ri.l,dj ri fni a.tmps D .ready none)::(D,.deferred (some []))::w0.obs,[],ao,w0.ok⟩:Ctx ⟨n,some ri⟩) fni a.tmps D .ready none st' a' w2x m' (λh' n'=>K .normal ⟨env,h',n',nt⟩) rfl rfl (λp hp=>hp) rfl ae ae (λq hq=>eY _ hq) ((h8.move e1).move e2) bu
   grind
  have fin2:∀(w1:Ctx ⟨n,none⟩)(st':St)(m':Mm),qM (⟨w0.w,w0.F++env.map (λp=>(get env p.1,a.tmps.getD p.1 undef)),none,(ri.l,dj ri fni a.tmps D .ready none)::(D,.deferred (some []))::w0.obs,[],ao,w0.ok⟩:Ctx ⟨n,some ri⟩) w1 ->
   gq P fn.results.toList st' (λ_ h' n'=>K .ret ⟨env,h',n',nt⟩)->Sim B w1 st' a' w' m' ->
   a'.defers=[]/\∀w1x,EnvD.E w' w1x->∃v,(results fn a'.tmps).run P w1x=.ok v w1x/\BE P (w.heap.size+1) none (λe a' w'=>∃(w1:Ctx fk)(st':St)(m':Mm),w1.w=w0.w/\w1.r=none/\qN w1/\K e st'/\Sim B w1 st' a' w' m') { a with defers:=[{ target:=.collected w.heap.size,args:=#[] }]++a.defers } (.returned v) w1x:=by
   rintro w1 st' m' ⟨l1,l2,l3,l4,⟨fn2,T2,D2,l5⟩,l6⟩ bu h8
   have ex:∀q∈(D,Obj.deferred (some []))::w0.obs,q∈w1.obs:=λq hq=>l6 q (eY _ hq) (by
    rcases dU.1 hq with e|hq
    .simp_all
    .have:=(hs.fr.2.2 q hq).2.1;omega)
   refine⟨(main w1 fn2 T2 D2 .done (some .ret) st' a' w' m' (λh' n'=>K .ret ⟨env,h',n',nt⟩) rfl l1 (λp hp=>by rw[l2];exact hp) l4 l5 ae ex h8 bu).1,λw1x e1=>?_⟩;obtain⟨_,v,_,h2,_⟩:=main w1 fn2 T2 D2 .done (some .ret) st' a' w1x m' (λh' n'=>K .ret ⟨env,h',n',nt⟩) rfl l1 (λp hp=>by rw[l2];exact hp) l4 l5 ae ex (h8.move e1) bu;refine⟨v,h2,λw2x e2=>?_⟩;obtain⟨_,_,w4,_,h3,w2,h',n',m2,g1,g2,g3,g4,g5⟩:=main w1 fn2 T2 D2 .done (some .ret) st' a' w2x m' (λh' n'=>K .ret ⟨env,h',n',nt⟩) rfl l1 (λp hp=>by rw[l2];exact hp) l4 l5 ae ex ((h8.move e1).move e2) bu;exact⟨some .ret,w4,h3,Dn ⟨w2,_,m2,g1,g2,g3,g4,g5⟩⟩
  rcases hq with ⟨st',m',hk,h8⟩|⟨w1,hl,st',m',hk,h8⟩
  .cases e with
   |normal=>exact fin1 st' m' hk h8
   |ret=>exact fin1 st' m' hk h8
   |_=>exact hk.elim
  .cases e with
   |normal=>exact fin2 w1 st' m' hl hk h8
   |ret=>exact fin2 w1 st' m' hl hk h8
   |_=>exact hk.elim
theorem GO{g:Operand}{ps:Array Tmp}{assign body:Code}{env:Env}{h:bz}{n nt:Nat}{gf:FuncId}{bT:List AV}(hf:fU (ev env g)=some (gf,bT)){fn:Func}{c:Code}(ay:P.funcs[gf]?=some fn) (h9:(fn.name == "runtime.NumGoroutine")=false) (hb:fn.body=some c) (b7:bT.length+1<=fn.ntmps) (hw:∀l,cK ⟨n,some ⟨l,env,nt,ps,assign,body⟩⟩ P c ⟨gk 0 (.w false false (.yl l)::bT),h,n,fn.ntmps⟩ (iE P fn.results.toList λ_ h' n'=>K .normal ⟨env,h',n',nt⟩)):fN fk P (.rangeFunc g ps assign body) ⟨env,h,n,nt⟩ K:=
 GN hf ay h9 hb b7 (λl=>GM (hw l))
theorem Bl{f:FuncId}{fn:Func}{c:Code}{args:List PV}{res:PV}{fr:Bool}(hf:P.funcs[f]?=some fn) (h9:(fn.name == "runtime.NumGoroutine")=false) (hb:fn.body=some c) (b7:args.length<=fn.ntmps) (h:fN fk0 P c ⟨iT 0 args,[],0,fn.ntmps⟩ (si P fn.results.toList res fr)):bX P f args res fr:=by
 refine⟨⟨fn,hf,h9,by rw[hb];rfl⟩,λG w vs et hlen cy=>?_⟩;refine Dp hf hb ?_
 have a5:Sim ⟨w.heap.size,G⟩ (⟨w,[],none,[],[],λri h=>au,et⟩:Ctx fk0) ⟨iT 0 args,[],0,fn.ntmps⟩ { tmps:=vs++Array.replicate (fn.ntmps-vs.size) undef,defers:=[] } w ⟨λ_ _=>none,λ_=>0,λ_=>False⟩:=by
  refine⟨rfl,Bel.refl _ _,rfl,ar,λt=>?_,⟨λid cells hin=>(by cases hin),List.Pairwise.nil⟩,λi=>⟨λh=>h.elim,λh=>absurd h (oJ i)⟩,λid c hin=>(by cases hin),cG _,(λp hp=>by cases hp),λq hq=>by cases hq⟩;show bG _ _ _ _ (get (iT 0 args) t) _;rw[wR];split
  .rename_i ht
   have b5:t<args.length:=ab
   refine .w ?_ nofun
   have:(vs++Array.replicate (fn.ntmps-vs.size) undef).getD t undef=vs[t]'ab:=by
    rw[dC,sY ab,dE ab];rfl
   rw[this]
   refine (cy t _ _ al (dE ab)).imp λb hg=>⟨?_,nofun,λ_=>hg⟩
   rintro⟨id,cells,C,hin,_⟩
   cases hin
  .exact .w (.undef _) nofun
 refine eT (h _ _ _ _ _ rfl ⟨List.nodup_nil,λD h=>au⟩ a5) (λe a' w' ⟨w1,st',m',g1,g2,g3,hk,hs⟩=>?_)
 have main:oD P fn.results.toList st' res fr->∀(ds:List Nat)(w1:Ctx fk0)(a1:Act)(W:World),w1.w=w->w1.ds=ds->qN w1->Sim ⟨w.heap.size,G⟩ w1 st' a1 W m' ->
  o6 P fn a1.tmps (λe w'=>∃v,e=.returned v/\Bel w.heap.size w w'/\Rep (λb=>(b<w.heap.size->G b)/\(fr=true->w.heap.size<=b)) w' res v) (marks ds) W:=by
  intro hr ds
  induction ds with
  |nil=>
   intro w1 a1 W fb e9 aa hs;intro W e1;replace hs:=hs.move e1;unfold oD at hr;split at hr
   .rename_i bh d bg;obtain⟨hd,gg,c9⟩:=hr;obtain⟨us,h1,h2,h3⟩:=rq hs _ _ _ bg hd
    have aq:(results fn a1.tmps).run P W=.ok (if h:us.toArray.size=1 then us.toArray[0] else .tuple us.toArray) W:=by
     have he:results fn a1.tmps=(do
      let vs <-fn.results.mapM (pE a1.tmps)
      pure (if h:vs.size=1 then vs[0] else .tuple vs)):=rfl
     rw[he,sL];simp only[Sem.run_bind,Sem.run_map,h1,Result.andThen_ok,Sem.run_pure]
    have b':bG ⟨w.heap.size,G⟩ (LB m' st'.heap) m' W (oneOf bh) (if h:us.toArray.size=1 then us.toArray[0] else .tuple us.toArray):=by
     have tupc:bh.length≠1->bG ⟨w.heap.size,G⟩ (LB m' st'.heap) m' W (.tup bh) (if h:us.toArray.size=1 then us.toArray[0] else .tuple us.toArray):=by
      intro b9;rw[dif_neg ar];exact .tup (by simpa using h2) (λj p u hp hu=>h3 j p u hp (by simpa using hu))
     match bh,h2,h3,tupc with
     |[],h2,h3,tupc=>exact tupc ae
     |[v],h2,h3,tupc=>
      obtain⟨u,rfl⟩:∃u,us=[u]:=Dd.1 aV;exact h3 0 v u rfl rfl
     |v::v2::r,h2,h3,tupc=>exact tupc ae
    refine⟨_,aq,_,rfl,?_,?_⟩
    .have bw:=hs.below;rw[fb] at bw;exact bw
    exact nI (B:=⟨w.heap.size,G⟩) hs.heap (λid cs e=>fZ e) fr (λb hb=>⟨λhl=>by simp only at hb;omega,λ_=>hb⟩) (λhf b hg=>⟨hg.2.2,λh=>by rw[hf] at h;cases h⟩) 6 _ _ _ gg c9 b'
   trivial
  |cons D ds ih=>
   intro w1 a1 W fb e9 aa hs;intro W e1;replace hs:=hs.move e1;obtain⟨hBD,hDl,hLD,hDh⟩:=hs.fr.2.2 _ (aa.2 D (by rw[e9];simp));refine⟨D,_,rfl,run_takeDeferred hDh,?_⟩;have fv:=aa.1;rw[e9] at fv;obtain⟨i3,gn⟩:=List.nodup_cons.1 fv;refine ih (⟨w1.w,[],none,w1.obs.filter (λq=>decide (q.1≠D)),ds,λri h=>au,w1.ok⟩:Ctx fk0) { a1 with defers:=marks ds } _ fb rfl ⟨gn,λD' da=>tc.2 ⟨aa.2 D' (by rw[e9];simp[da]),ak⟩⟩ ?_;refine Sim.put (w1:=(⟨w1.w,[],none,w1.obs.filter (λq=>decide (q.1≠D)),ds,λri h=>au,w1.ok⟩:Ctx fk0)) (o':=.deferred none) hs hDh rfl (λ_ _ h=>au) hBD rfl rfl rfl ⟨cG _,(λp hp=>by cases hp),λq hq=>?_⟩;obtain⟨hq,b9⟩:=tc.1 hq;obtain⟨o1,o2,o3,o4⟩:=hs.fr.2.2 q hq;exact⟨o1,by simpa using o2,o3,(World.putObj_heap_other ak).trans o4⟩
 cases e with
 |normal=>
  show o6 _ _ _ _ a'.defers _;rw[hs.defers];exact main hk _ _ _ _ g1 rfl g3 hs
 |ret=>
  show o6 _ _ _ _ a'.defers _;rw[hs.defers];exact main hk _ _ _ _ g1 rfl g3 hs
 |_=>exact hk.elim
end
section
variable{P:Program}{K:Exit->St->Prop}{st st':St}
end
section
variable{P:Program}{K:Exit->St->Prop}
theorem rA{ops:Array Oper}{nt:Nat}{B:Base}{w0:Ctx fk}{Kr:Env->bz->Nat->Prop}{Q:Exit->Act->World->Prop}(rest:List Oper)(hQ:∀e h n a w m,Kr e h n->Sim B w0 ⟨e,h,n,nt⟩ a w m->ir w0.r P ops Q rest a w):∀(os:List Oper)(e:Env)(h:bz)(n:Nat)(a:Act)(w:World)(m:Mm),dq P ops nt os e h n Kr->Sim B w0 ⟨e,h,n,nt⟩ a w m->ir w0.r P ops Q (os++rest) a w
 |[],e,h,n,a,w,m,hk,hs=>hQ e h n a w m hk hs
 |o::os,e,h,n,a,w,m,hk,hs=>by
  simp only[dq] at hk;split at hk
  .rename_i g hg;have hw:=pW hg hs;simp only[lP,ir,hw];intro w e1;replace hs:=hs.move e1
   cases g with
   |true=>
    simp only[cz];exact jS (vE (hk.2.1 rfl)) (vG w0 o (K:=λv h' n'=>dq P ops nt os (put e o.dst v) h' n' Kr) (hk.2.1 rfl) hs hk.1 Q _ (λv h' n' a' w' m' ax h8=>rA rest hQ os _ _ _ _ _ m' ax h8))
   |false=>
    simp only[dB,cP];refine rA rest hQ os _ _ _ _ _ m (hk.2.2 rfl) ⟨hs.base,hs.below,by rw[kX];exact hs.defers,by rw[kU];exact hs.size,?_,hs.heap,hs.dom,hs.ids,hs.fr⟩;exact nJ e a o.dst _ _ (by rw[hs.size];exact hk.1) (.tup rfl (λj p v hp=>by simp at hp)) hs.env
  trivial
def YW(P:Program)(ri:RI)(nt:Nat)(e:Env)(h:bz)(n:Nat)(o:Oper)(K:Env->bz->Nat->Prop):Prop:=
 match o.op with
 |.call { callee:=.value f,args:=args,argTypes:=_ }=>dOk nt o.dst/\(∃ow fl,ev e f=.w ow fl (.yl ri.l)) /\
   Round P ri (args.toList.map (ev e)) h n (λh' n'=>K (put e o.dst (.w false false (.bool true))) h' n')
 |_=>False
def gYW(P:Program)(ri:RI)(ops:Array Oper)(nt:Nat)(e:Env)(h:bz)(n:Nat)(o:Oper)(K:Env->bz->Nat->Prop):Prop:=
 match gd ops e o with
 |some g=>dOk nt o.dst/\(g=true->YW P ri nt e h n o K)/\(g=false->K (put e o.dst (.tup [])) h n)
 |none=>False
theorem OL{k:Nat}{ri:RI}{id:Nat}{ops:Array Oper}{env:Env}{h:bz}{n nt:Nat}(pre:List Oper)(o:Oper)(post:List Oper)(bf:ops.toList=pre++o::post)(hk:dq P ops nt pre env h n λe' h' n'=>gYW P ri ops nt e' h' n' o λa6 a9 ag=>dq P ops nt post a6 a9 ag λe3 h3 n3=>K .normal ⟨e3,h3,n3,nt⟩):cK ⟨k,some ri⟩ P (.region id ops false) ⟨env,h,n,nt⟩ K:=by
 intro B w0 a w m hs;refine qY ?_;rw[bf];refine rA (o::post) ?_ pre env h n a w m hk hs;intro e h n a w m hy hs;unfold gYW at hy;split at hy
 .rename_i g hg;have hw:=pW hg hs;simp only[ir,hw];intro w e1;replace hs:=hs.move e1
  have bj:∀a6 a9 ag cm d4 bv,(dq P ops nt post a6 a9 ag λe3 h3 n3=>K .normal ⟨e3,h3,n3,nt⟩)->Sim B w0 ⟨a6,a9,ag,nt⟩ cm d4 bv->ir w0.r P ops (λe a' w'=>∃st' m',K e st'/\Sim B w0 st' a' w' m') post cm d4:=
   λa6 a9 ag cm d4 bv ax h8=>nK (λ_ _ _ _ _ m ax h8=>⟨_,m,ax,h8⟩) post _ _ _ _ _ bv ax h8
  cases g with
  |true=>
   simp only[cz];have ee:=hy.2.1 rfl;unfold YW at ee;split at ee
   .rename_i f args tys ho;obtain⟨aa,⟨ow,fl,hf⟩,hr⟩:=ee;exact OI o f args tys ho hf (Kv:=λv h' n'=>v=.w false false (.bool true)/\dq P ops nt post (put e o.dst (.w false false (.bool true))) h' n' λe3 h3 n3=>K .normal ⟨e3,h3,n3,nt⟩)
     ⟨hr.1,hr.2.1,tA hr.2.2 (λe s hk=>by
       cases e with
       |normal=>exact tA hk (λe s hk=>by
         cases e with
         |normal=>
          obtain⟨h',n',aw,h1,h2⟩:=hk;exact⟨h',n',aw,h1,rfl,h2⟩
         |_=>exact hk.elim)
       |_=>exact hk.elim)⟩ hs aa _ _ (λv h' n' a' w' m' b4 h8=>by
        obtain⟨rfl,b4⟩:=b4
        exact bj _ _ _ _ _ m' b4 h8)
   .exact ee.elim
  |false=>
   simp only[dB,cP];refine bj _ _ _ _ _ m (hy.2.2 rfl) ⟨hs.base,hs.below,by rw[kX];exact hs.defers,by rw[kU];exact hs.size,?_,hs.heap,hs.dom,hs.ids,hs.fr⟩;exact nJ e a o.dst _ _ (by rw[hs.size];exact hy.1) (.tup rfl (λj p v hp=>by simp at hp)) hs.env
 trivial
def IW(P:Program)(nt:Nat)(e:Env)(h:bz)(n:Nat)(o:Oper)(g:FuncId)(bT:List AV)(fn:Func)(c:Code)(args:List AV)(K:Env->bz->Nat->Prop):Prop:=
 dOk nt o.dst/\o.guard=none/\cK ⟨n,none⟩ P c ⟨gk 0 (args++bT),h,n,fn.ntmps⟩ (iE P fn.results.toList λv h' n'=>K (put e o.dst v) h' n')
theorem OM{id:Nat}{ops:Array Oper}{env:Env}{h:bz}{n nt:Nat}(pre:List Oper)(o:Oper)(post:List Oper)(bf:ops.toList=pre++o::post){f:Operand}{args:Array Operand}{tys:Array TypeId}(ho:o.op=.call { callee:=.value f,args:=args,argTypes:=tys }){g:FuncId}{fn:Func}{c:Code}(ay:P.funcs[g]?=some fn) (h9:(fn.name == "runtime.NumGoroutine")=false) (hb:fn.body=some c) (hk:dq P ops nt pre env h n λe' h' n'=>∃bT,fU (ev e' f)=some (g,bT)/\(args.toList.map (ev e')++bT).length<=fn.ntmps/\IW P nt e' h' n' o g bT fn c (args.toList.map (ev e')) λa6 a9 ag=>dq P ops nt post a6 a9 ag λe3 h3 n3=>K .normal ⟨e3,h3,n3,nt⟩):cK fk P (.region id ops false) ⟨env,h,n,nt⟩ K:=by
 intro B w0 a w m hs;refine qY ?_;rw[bf];refine rA (o::post) ?_ pre env h n a w m hk hs
 rintro e h n a w m ⟨bT,hf,b7,aa,c4,hw⟩ hs
 have bj:∀a6 a9 ag cm d4 bv,(dq P ops nt post a6 a9 ag λe3 h3 n3=>K .normal ⟨e3,h3,n3,nt⟩)->Sim B w0 ⟨a6,a9,ag,nt⟩ cm d4 bv->ir w0.r P ops (λe a' w'=>∃st' m',K e st'/\Sim B w0 st' a' w' m') post cm d4:=
  λa6 a9 ag cm d4 bv ax h8=>nK (λ_ _ _ _ _ m ax h8=>⟨_,m,ax,h8⟩) post _ _ _ _ _ bv ax h8
 simp only[ir,Region.wanted,c4,cz];intro w e1;replace hs:=hs.move e1;exact jS (λc e=>by rw[ho] at e;cases e) (GH o f args tys ho hf ay h9 hb b7 none (λ_ h=>au) hw hs aa _ _ (λv h' n' a' w' m' b4 h8=>bj _ _ _ _ _ m' b4 h8))
end
def EqV(x:AV)(E:List (List AV))(v:AV):Prop:=x=v/\E=[]
def EqE(x:AV)(h':bz)(n':Nat)(v:AV)(h:bz)(n:Nat):Prop:=x=v/\h'=h/\n'=n
section
omit [bE]
@[congr] theorem Zw{x x' v:AV}{E E':List (List AV)}(h:x=x')(h2:E=E'):EqV x E v=EqV x' E' v:=by rw[h,h2]
@[congr] theorem Zx{x x' v:AV}{h h' h0:bz}{n n' n0:Nat}(e1:x=x')(e2:h=h')(e3:n=n'):EqE x h n v h0 n0=EqE x' h' n' v h0 n0:=by rw[e1,e2,e3]
theorem CH{o f:Bool}{p:PV}{h:bz}{n:Nat}:EqE (.w o f p) h n (.w o f p) h n:=⟨rfl,rfl,rfl⟩
end
section
variable{P:Program}{ops:Array Oper}{nt:Nat}{env:Env}{h:bz}{n:Nat}
theorem G5{op:Op}{K K':AV->List (List AV)->Prop}(hq:de P env h n op K)(hk:∀v E,K v E->K' v E):de P env h n op K':=by
 unfold de at *;split
 .rename_i f args tys;simp only at hq;split at hq
  .rename_i g bT e;unfold rO at *;split at hq
   .rename_i pvs e2
    rcases hq with ⟨res,fr,h1,h2,h3⟩|⟨E,v,h1,h3⟩
    .exact .inl ⟨res,fr,h1,h2,hk _ _ h3⟩
    .exact .inr ⟨E,v,h1,hk _ _ h3⟩
   .exact hq.elim
  .exact hq.elim
 grind
omit [bE] in
theorem Ph{t:TypeId}{ad x:Operand}{K K':AV->bz->Nat->Prop}(hq:nZ P env h n t ad x K)(hk:∀v h' n',K v h' n'->K' v h' n'):nZ P env h n t ad x K':=by
 unfold nZ at *
 grind
omit [bE] in
theorem Pj{args:List Operand}{tys:List TypeId}{K K':AV->bz->Nat->Prop}(hq:nY P env h n args tys K)(hk:∀v h' n',K v h' n'->K' v h' n'):nY P env h n args tys K':=by
 unfold nY at *;split at hq
 .split at hq
  .split at hq
   .split at hq
    .split at hq
     .exact⟨hq.1,hk _ _ _ hq.2⟩
     .exact hq.elim
    .rename_i own k cells e;generalize hb:(own&&decide (k=0)&&cells.isEmpty)=bb at hq ⊢;cases bb
     .simp only[cond_false] at hq ⊢;split at hq
      .exact⟨hq.1,hk _ _ _ hq.2⟩
      .exact hq.elim
     .exact⟨hq.1,hk _ _ _ hq.2⟩
    .exact hq.elim
   .exact hq.elim
  .exact hq.elim
 trivial
theorem Pk{src dst:TypeId}{x:Operand}{K K':AV->bz->Nat->Prop}(hq:qy P env h n src dst x K)(hk:∀v h' n',K v h' n'->K' v h' n'):qy P env h n src dst x K':=by
 unfold qy at *;split at hq
 .simp_all
 .exact G5 hq λv E hK=>hk _ _ _ hK
omit [bE] in
theorem Pl{t:TypeId}{x k v:Operand}{K K':AV->bz->Nat->Prop}(hq:oe P env h n t x k v K)(hk:∀v h' n',K v h' n'->K' v h' n'):oe P env h n t x k v K':=by
 unfold oe at *
 grind
omit [bE] in
theorem Pm{args:List Operand}{tys:List TypeId}{K K':AV->bz->Nat->Prop}(hq:n9 P env h n args tys K)(hk:∀v h' n',K v h' n'->K' v h' n'):n9 P env h n args tys K':=by
 unfold n9 at *
 grind
theorem Pn{op:Op}{K K':AV->bz->Nat->Prop}(hq:df P env h n op K)(hk:∀v h' n',K v h' n'->K' v h' n'):df P env h n op K':=by
 unfold df at *;split
 .exact Ph hq hk
 .exact Pj hq hk
 .exact Pm hq hk
 .exact Pk hq hk
 .exact⟨hq.1,hk _ _ _ hq.2⟩
 .exact Pl hq hk
 .rename_i h1 h2 h3 h4 h5 h6;split at hq
  .simp_all
  .simp_all
  .simp_all
  .simp_all
  .simp_all
  .grind
  .exact G5 hq λv E hK=>hk _ _ _ hK
section
variable{op:Op}{b:Bool}{v:AV}
theorem Bt{K:AV->bz->Nat->Prop}{mk:Mark K}(hx:b=true->df P env h n op λv' h' n'=>EqE v' h' n' v h n)(hk:K (gdV b v) h n):gE (some b) P env h n op K mk:=by
 refine⟨λhb=>?_,λhb=>?_⟩
 .refine Pn (hx hb) ?_
  rintro v' h' n' ⟨rfl,rfl,rfl⟩
  rw[hb,Ok] at hk;exact hk
 simp_all
end
end
theorem bJ{P:Program}{g:FuncId}{args c6:List PV}{K:PV->Bool->Prop}{K2:List (List AV)->AV->Prop}{res:PV}{fr:Bool}{mk:Mark (K,K2)}(h:bX P g args res fr)(e:c6=args)(hk:K res fr):CW P g c6 K K2 mk:=.inl ⟨res,fr,e▸h,hk⟩
section
variable{P:Program}{K:Exit->St->Prop}
@[simp ↓]theorem Zy(b:Code)(s:St):xK fk P b K .normal s=fN fk P b s K:=rfl
@[simp ↓]theorem Zz(b:Code)(s:St):xK fk P b K .ret s=K .ret s:=rfl
@[simp ↓]theorem ZA(b:Code)(id:Nat)(s:St):xK fk P b K (.exit id) s=K (.exit id) s:=rfl
@[congr] theorem ZB{c:Code}{st st':St}(h:st=st'):fN fk P c st K=fN fk P c st' K:=by rw[h]
def xL(P:Program)(ri:RI)(avs:List AV)(h:bz)(n:Nat)(K:bz->Nat->Prop)(_:Mark (ri,K)):Prop:=Round P ri avs h n K
@[congr] theorem ZC{ri:RI}{avs d':List AV}{h h':bz}{n n':Nat}{K:bz->Nat->Prop}{mk:Mark (ri,K)}(e1:avs=d')(e2:h=h')(e3:n=n'):xL P ri avs h n K mk=xL P ri d' h' n' K mk:=by rw[e1,e2,e3]
theorem G6{ri:RI}{avs:List AV}{h:bz}{n:Nat}{K:bz->Nat->Prop}{mk:Mark (ri,K)}(h1:avs.length=ri.ps.size)(h2:∀t∈ri.ps,t<ri.nt)(hk:cK ⟨n,none⟩ P ri.assign ⟨nE ri.env ri.ps.toList avs,h,n,ri.nt⟩ (uM P n ri.body K)):xL P ri avs h n K mk:=⟨h1,h2,hk⟩
@[simp ↓]theorem ZD(k:Nat)(body:Code)(K:bz->Nat->Prop)(s:St):uM P k body K .normal s=cK ⟨k,none⟩ P body s (sw k K):=rfl
theorem Po{k:Nat}{K:bz->Nat->Prop}{s:St}(h':bz)(n':Nat)(aw:Nat)(hle:Lek ⟨k,none⟩ s ⟨[],h',n',aw⟩)(hk:K h' n'):sw k K .normal s:=⟨h',n',aw,hle,hk⟩
@[congr] theorem ZE{k:Nat}{K:bz->Nat->Prop}{e e':Exit}{s s':St}(h1:e=e')(h2:s=s'):sw k K e s=sw k K e' s':=by rw[h1,h2]
@[congr] theorem ZF{k:Nat}{body:Code}{K:bz->Nat->Prop}{e e':Exit}{s s':St}(h1:e=e')(h2:s=s'):uM P k body K e s=uM P k body K e' s':=by rw[h1,h2]
section
variable{ri:RI}{ops:Array Oper}{nt:Nat}{e:Env}{h:bz}{n:Nat}{dst:Option Tmp}{op:Op}{ty:TypeId}{pos:String}{after:Array Edge}{j:Nat}{want:Bool}{Kr:Env->bz->Nat->Prop}
def yM(P:Program)(ri:RI)(nt:Nat)(e:Env)(h:bz)(n:Nat)(o:Oper)(K:Env->bz->Nat->Prop)(_:Mark K):Prop:=YW P ri nt e h n o K
@[congr] theorem ZG{e e':Env}{h h':bz}{n n':Nat}{o:Oper}{K:Env->bz->Nat->Prop}{mk:Mark K}(e1:e=e')(e2:h=h')(e3:n=n'):yM P ri nt e h n o K mk=yM P ri nt e' h' n' o K mk:=by rw[e1,e2,e3]
def gY(P:Program)(ri:RI)(ops:Array Oper)(nt:Nat)(e:Env)(h:bz)(n:Nat)(o:Oper)(K:Env->bz->Nat->Prop)(_:Mark K):Prop:=gYW P ri ops nt e h n o K
@[congr] theorem ZH{e e':Env}{h h':bz}{n n':Nat}{o:Oper}{K:Env->bz->Nat->Prop}{mk:Mark K}(e1:e=e')(e2:h=h')(e3:n=n'):gY P ri ops nt e h n o K mk=gY P ri ops nt e' h' n' o K mk:=by rw[e1,e2,e3]
def gYm(g:Option Bool)(P:Program)(ri:RI)(nt:Nat)(e:Env)(h:bz)(n:Nat)(o:Oper)(K:Env->bz->Nat->Prop)(_:Mark K):Prop:=gW g (YW P ri nt e h n o K) (K (put e o.dst (.tup [])) h n)
@[congr] theorem ZI{g g':Option Bool}{e:Env}{h:bz}{n:Nat}{o:Oper}{K:Env->bz->Nat->Prop}{mk:Mark K}(e0:g=g'):gYm g P ri nt e h n o K mk=gYm g' P ri nt e h n o K mk:=by rw[e0]
@[simp]theorem ZJ{o:Oper}{mk:Mark Kr}:gYm (some true) P ri nt e h n o Kr mk=YW P ri nt e h n o Kr:=by unfold gYm;exact AZ _ _
@[simp ↓]theorem ZK{mk:Mark Kr}:gY P ri ops nt e h n ⟨dst,op,ty,pos,after,some (j,want)⟩ Kr mk=(dOk nt dst/\gYm (gOf ops e j want) P ri nt e h n ⟨dst,op,ty,pos,after,some (j,want)⟩ Kr .it):=by
 unfold gY gYW;rw[A7]
 cases gOf ops e j want<;>simp[gYm,gW]
@[simp ↓]theorem ZL{f:Operand}{args:Array Operand}{tys:Array TypeId}{g:Option (Nat×Bool)}:YW P ri nt e h n ⟨dst,.call ⟨.value f,args,tys⟩,ty,pos,after,g⟩ Kr=(dOk nt dst/\(∃ow fl,ev e f=.w ow fl (.yl ri.l))/\xL P ri (args.toList.map (ev e)) h n (λh' n'=>Kr (put e dst (.w false false (.bool true))) h' n') .it):=rfl
end
theorem G7{k:Nat}{ri:RI}{id:Nat}{ops:Array Oper}{env:Env}{h:bz}{n nt:Nat}(i:Nat)(hi:i<ops.toList.length)(hk:dq P ops nt (ops.toList.take i) env h n λe' h' n'=>gY P ri ops nt e' h' n' (ops.toList.getD i default) (λa6 a9 ag=>dq P ops nt (ops.toList.drop (i+1)) a6 a9 ag λe3 h3 n3=>K .normal ⟨e3,h3,n3,nt⟩) .it):cK ⟨k,some ri⟩ P (.region id ops false) ⟨env,h,n,nt⟩ K:=by
 refine OL (ops.toList.take i) (ops.toList.getD i default) (ops.toList.drop (i+1)) ?_ hk
 have e:ops.toList.getD i default=ops.toList[i]:=ak
 rw[e,Dg,yd]
end
section
variable{P:Program}{K:Exit->St->Prop}
def I6(fk:Fk)(P:Program)(ops:Array Oper)(nt:Nat)(os:List Oper)(e:Env)(h:bz)(n:Nat)(K:Env->bz->Nat->Prop)(_:Mark (os,K)):Prop:=
 ∃e2 h2 n2,Lek fk ⟨e,h,n,nt⟩ ⟨e2,h2,n2,nt⟩/\dq P ops nt os e2 h2 n2 K
@[congr] theorem ZM{ops:Array Oper}{nt:Nat}{os:List Oper}{e e':Env}{h h':bz}{n n':Nat}{K:Env->bz->Nat->Prop}{mk:Mark (os,K)}(h1:e=e')(h2:h=h')(h3:n=n'):I6 fk P ops nt os e h n K mk=I6 fk P ops nt os e' h' n' K mk:=by rw[h1,h2,h3]
end
section
variable{P:Program}{K:Exit->St->Prop}
def xM(P:Program)(ops:Array Oper)(nt:Nat)(o:Oper)(post:List Oper)(g:FuncId)(fn:Func)(c:Code)(args:Array Operand)(e:Env)(h:bz)(n:Nat)(K:Env->bz->Nat->Prop)(_:Mark (o,post,c,K)):Prop:=
 ∃bT,fU (ev e (.func g))=some (g,bT)/\(args.toList.map (ev e)++bT).length<=fn.ntmps/\IW P nt e h n o g bT fn c (args.toList.map (ev e)) λa6 a9 ag=>dq P ops nt post a6 a9 ag K
@[congr] theorem ZN{ops:Array Oper}{nt:Nat}{o:Oper}{post:List Oper}{g:FuncId}{fn:Func}{c:Code}{args:Array Operand}{e e':Env}{h h':bz}{n n':Nat}{K:Env->bz->Nat->Prop}{mk:Mark (o,post,c,K)}(h1:e=e')(h2:h=h')(h3:n=n'):xM P ops nt o post g fn c args e h n K mk=xM P ops nt o post g fn c args e' h' n' K mk:=by rw[h1,h2,h3]
theorem Bu{ops:Array Oper}{nt:Nat}{o:Oper}{post:List Oper}{g:FuncId}{fn:Func}{c:Code}{args:Array Operand}{e:Env}{h:bz}{n:Nat}{K:Env->bz->Nat->Prop}{mk:Mark (o,post,c,K)}(hl:args.toList.length<=fn.ntmps)(hd:dOk nt o.dst)(hg:o.guard=none)(hk:cK ⟨n,none⟩ P c ⟨gk 0 (args.toList.map (ev e)),h,n,fn.ntmps⟩ (iE P fn.results.toList λv h' n'=>dq P ops nt post (put e o.dst v) h' n' K)):xM P ops nt o post g fn c args e h n K mk:=
 ⟨[],rfl,by rw[Js,jq];exact hl,hd,hg,by rw[Js];exact hk⟩
theorem rG{id:Nat}{ops:Array Oper}{env:Env}{h:bz}{n nt:Nat}(i:Nat){g:FuncId}{fn:Func}{c:Code}(ay:P.funcs[g]?=some fn) (h9:(fn.name == "runtime.NumGoroutine")=false) (hb:fn.body=some c) (hi:i<ops.toList.length) {args:Array Operand} {tys:Array TypeId} (ho:(ops.toList.getD i default).op=.call { callee:=.value (.func g),args:=args,argTypes:=tys }) (hk:dq P ops nt (ops.toList.take i) env h n λe' h' n'=>xM P ops nt (ops.toList.getD i default) (ops.toList.drop (i+1)) g fn c args e' h' n' (λe3 h3 n3=>K .normal ⟨e3,h3,n3,nt⟩) .it):cK fk P (.region id ops false) ⟨env,h,n,nt⟩ K:=by
 refine OM (ops.toList.take i) (ops.toList.getD i default) (ops.toList.drop (i+1)) ?_ ho ay h9 hb hk
 have e:ops.toList.getD i default=ops.toList[i]:=ak
 rw[e,Dg,yd]
end
def Ty(P:Program)(f:FuncId)(args:List AV)(h:bz)(n:Nat)(id:Nat)(c:List AV)(v:AV):Prop:=
 BM P f/\∀(B:Base)(m:Mm)(w:World)(vs:Array Value),B.n<=w.heap.size->cQ B h m w->(∀i c,(i,c)∈h->m.dom i)->args.length=vs.size->(∀(j:Nat)(p:AV)(u:Value),args[j]?=some p->vs[j]?=some u->bG B (LB m h) m w p u) ->
  j1 P f vs w λe w'=>∃u m',e=.returned u/\EPost B h m w n (dm h id c) n v u w' m'
section
variable{P:Program}{B:Base}{env:Env}{h:bz}{n nt:Nat}{a:Act}{w:World}{m:Mm}
def I9(P:Program)(ops:Array Oper)(nt:Nat)(o:Oper)(post:List Oper)(g:FuncId)(args:Array Operand)(e:Env)(h:bz)(n:Nat)(K:Env->bz->Nat->Prop)(_:Mark (o,post,K)):Prop:=
 dOk nt o.dst/\o.guard=none/\∃id c v,Ty P g (args.toList.map (ev e)) h n id c v/\dq P ops nt post (put e o.dst v) (dm h id c) n K
omit [bE] in
@[congr] theorem zal[bE]{ops:Array Oper}{nt:Nat}{o:Oper}{post:List Oper}{g:FuncId}{args:Array Operand}{e e':Env}{h h':bz}{n n':Nat}{K:Env->bz->Nat->Prop}{mk:Mark (o,post,K)}(h1:e=e')(h2:h=h')(h3:n=n'):I9 P ops nt o post g args e h n K mk=I9 P ops nt o post g args e' h' n' K mk:=by rw[h1,h2,h3]
end
section
variable{P:Program}{K:Exit->St->Prop}
def IWY(r:Option RI)(P:Program)(nt:Nat)(e:Env)(h:bz)(n:Nat)(o:Oper)(g:FuncId)(bT:List AV)(fn:Func)(c:Code)(args:List AV)(K:Env->bz->Nat->Prop):Prop:=
 dOk nt o.dst/\o.guard=none/\cK ⟨n,r⟩ P c ⟨gk 0 (args++bT),h,n,fn.ntmps⟩ (iE P fn.results.toList λv h' n'=>K (put e o.dst v) h' n')
def Ja(r:Option RI)(P:Program)(ops:Array Oper)(nt:Nat)(o:Oper)(post:List Oper)(f:Operand)(g:FuncId)(fn:Func)(c:Code)(args:Array Operand)(e:Env)(h:bz)(n:Nat)(K:Env->bz->Nat->Prop)(_:Mark (o,post,c,K)):Prop:=
 ∃bT,fU (ev e f)=some (g,bT)/\(args.toList.map (ev e)++bT).length<=fn.ntmps/\IWY r P nt e h n o g bT fn c (args.toList.map (ev e)) λa6 a9 ag=>dq P ops nt post a6 a9 ag K
@[congr] theorem zam{r:Option RI}{ops:Array Oper}{nt:Nat}{o:Oper}{post:List Oper}{f:Operand}{g:FuncId}{fn:Func}{c:Code}{args:Array Operand}{e e':Env}{h h':bz}{n n':Nat}{K:Env->bz->Nat->Prop}{mk:Mark (o,post,c,K)}(h1:e=e')(h2:h=h')(h3:n=n'):Ja r P ops nt o post f g fn c args e h n K mk=Ja r P ops nt o post f g fn c args e' h' n' K mk:=by rw[h1,h2,h3]
end
section
variable{P:Program}{env:Env}{h:bz}{n nt:Nat}
end
section
variable{P:Program}{env:Env}{h:bz}{n nt:Nat}
def xO(r:Option RI)(P:Program)(ops:Array Oper)(nt:Nat)(o:Oper)(post:List Oper)(f:Operand)(g:FuncId)(fn:Func)(c:Code)(args:Array Operand)(e:Env)(h:bz)(n:Nat)(K:Env->bz->Nat->Prop)(_:Mark (o,post,c,K)):Prop:=
 ∃bT,fU (ev e f)=some (g,bT)/\(args.toList.map (ev e)++bT).length<=fn.ntmps/\dOk nt o.dst/\gd ops e o=some true/\cK ⟨n,r⟩ P c ⟨gk 0 (args.toList.map (ev e)++bT),h,n,fn.ntmps⟩ (iE P fn.results.toList λv h' n'=>dq P ops nt post (put e o.dst v) h' n' K)
@[congr] theorem zan{r:Option RI}{ops:Array Oper}{nt:Nat}{o:Oper}{post:List Oper}{f:Operand}{g:FuncId}{fn:Func}{c:Code}{args:Array Operand}{e e':Env}{h h':bz}{n n':Nat}{K:Env->bz->Nat->Prop}{mk:Mark (o,post,c,K)}(h1:e=e')(h2:h=h')(h3:n=n'):xO r P ops nt o post f g fn c args e h n K mk=xO r P ops nt o post f g fn c args e' h' n' K mk:=by rw[h1,h2,h3]
theorem Hg{r:Option RI}{ops:Array Oper}{nt:Nat}{o:Oper}{post:List Oper}{f:Operand}{g:FuncId}{fn:Func}{c:Code}{args:Array Operand}{e:Env}{h:bz}{n:Nat}{K:Env->bz->Nat->Prop}{mk:Mark (o,post,c,K)}(bT:List AV)(hf:fU (ev e f)=some (g,bT))(hl:args.toList.length+bT.length<=fn.ntmps)(hd:dOk nt o.dst)(hg:gd ops e o=some true)(hk:cK ⟨n,r⟩ P c ⟨gk 0 (args.toList.map (ev e)++bT),h,n,fn.ntmps⟩ (iE P fn.results.toList λv h' n'=>dq P ops nt post (put e o.dst v) h' n' K)):xO r P ops nt o post f g fn c args e h n K mk:=
 ⟨bT,hf,by rw[uW,jq];exact hl,hd,hg,hk⟩
theorem Hh{K:Exit->St->Prop}{id:Nat}{ops:Array Oper}(k:Nat)(g:FuncId)(hm:P.follows .mixedOrders=true)(cp:uw ops k=true)(ct:k<ops.size){fn:Func}{c:Code}(ay:P.funcs[g]?=some fn) (h9:(fn.name == "runtime.NumGoroutine")=false) (hb:fn.body=some c) {f:Operand} {args:Array Operand} {tys:Array TypeId} (ho:(ops.toList.getD k default).op=.call { callee:=.value f,args:=args,argTypes:=tys }) (hk:gh P ops nt (ops.toList.take k) env h n λe' h' n'=>xO fk.ri P ops nt (ops.toList.getD k default) (ops.toList.drop (k+1)) f g fn c args e' h' n' (λe3 h3 n3=>K .normal ⟨e3,h3,n3,nt⟩) .it):cK fk P (.region id ops true) ⟨env,h,n,nt⟩ K:=by
 obtain⟨hc,bm⟩:=zm cp;refine Ep k hm hc hk (λB w0 e' h' n' hK f' listed a w m dy b6 hl ew hs=>?_);obtain⟨bT,hf,b7,aa,c4,hw⟩:=hK
 cases f' with
 |zero=>
  exfalso;have:=pY (x9.1 ew) (i:=k) ab;have:=(hl k ct).1 this;omega
 |succ f'=>
  have b9:=qZ dy hc.down k ct (by
   grind)
  refine⟨λcx=>absurd cx b9,λx fd=>?_⟩;obtain⟨o,bo,d6,he⟩:=nL dy fd;have e8:=(cT.1 bo).1
  have fm:x=k:=by
   have h1:¬x<k:=λfq=>by
    have:=(hl x e8).2 fq;rw[dC,d6] at this;cases this
   rcases eX k x with h2|h2
   .have:=mV b6 8 x k o bo he (bm x ab e8 k h2);have:=(hl k ct).1 this;omega
   .omega
  subst fm
  have eu:ops.toList.getD x default=o:=by
   rw[dT,jo,bo];rfl
  rw[eu] at ho c4 aa hw;unfold lg;rw[bo];simp only[];intro w e1;replace hs:=hs.move e1;rw[pW c4 hs];simp only[cz];refine jS (λc e=>by rw[ho] at e;cases e) (GH o f args tys ho hf ay h9 hb b7 fk.ri (λ_ h=>h) hw hs aa _ _ (λv h' n' a' w' m' dl h8=>?_));refine vI (Kr:=λa6 a9 ag=>K .normal ⟨a6,a9,ag,nt⟩) (λe' h' n' a' w' m' ax a5=>⟨_,m',ax,a5⟩) hc.down bm f' (x+1) (listed.setIfInBounds x true) _ _ _ a' w' m' ab ab ak (b6.set bo he) (λj hj=>?_) (by have:=pX d6;omega) dl h8;by_cases fp:x=j
  .simp_all
  .rw[getD_set_ne false fp,hl j hj];omega
end
end Go.Fi
namespace Go.Fi
open Go Go.RowKit
variable[bE]
section
variable{k:Nat}{ri:RI}{P:Program}{K Kd K' gy:Exit->St->Prop}{st st':St}
def sB(k:Nat)(ri:RI)(P:Program)(b:Code)(K Kd:Exit->St->Prop):Exit->St->Prop
 |.normal,s=>fF k ri P b s K Kd
 |e,s=>K e s
def sD(k:Nat)(P:Program)(b:Code)(Kd:Exit->St->Prop):Exit->St->Prop
 |.normal,s=>cK ⟨k,none⟩ P b s Kd
 |e,s=>Kd e s
@[simp ↓]theorem za6(b:Code)(s:St):sB k ri P b K Kd .normal s=fF k ri P b s K Kd:=rfl
@[simp ↓]theorem za7(b:Code)(s:St):sB k ri P b K Kd .ret s=K .ret s:=rfl
@[simp ↓]theorem za8(b:Code)(i:Nat)(s:St):sB k ri P b K Kd (.exit i) s=K (.exit i) s:=rfl
@[simp ↓]theorem za9(b:Code)(s:St):sD k P b Kd .normal s=cK ⟨k,none⟩ P b s Kd:=rfl
@[simp ↓]theorem zba(b:Code)(s:St):sD k P b Kd .ret s=Kd .ret s:=rfl
@[simp ↓]theorem zbb(b:Code)(i:Nat)(s:St):sD k P b Kd (.exit i) s=Kd (.exit i) s:=rfl
@[congr] theorem zbc{c:Code}(h:st=st'):fF k ri P c st K Kd=fF k ri P c st' K Kd:=by rw[h]
@[congr] theorem zbd{b:Code}{e e':Exit}(h1:e=e')(h2:st=st'):sB k ri P b K Kd e st=sB k ri P b K Kd e' st':=by rw[h1,h2]
@[congr] theorem zbe{b:Code}{e e':Exit}(h1:e=e')(h2:st=st'):sD k P b Kd e st=sD k P b Kd e' st':=by rw[h1,h2]
theorem P7{x y:Code}(h:fF k ri P x st (sB k ri P y K Kd) (sD k P y Kd)):fF k ri P (.seq x y) st K Kd:=
 λB w0 a w m hs=>yz (eT (h B w0 a w m hs) (λe a' w' hx=>by
  rcases hx with ⟨st',m',h1,h2⟩|⟨w1,hl,st',m',h1,h2⟩
  .cases e with
   |normal=>exact h1 B w0 a' w' m' h2
   |_=>exact .inl ⟨st',m',h1,h2⟩
  .cases e with
   |normal=>
    have:=h1 B w1 a' w' m' h2;rw[hl.2.2.1] at this;exact eT this (λe a2 w2 ⟨s2,m2,g1,g2⟩=>.inr ⟨w1,hl,s2,m2,g1,g2⟩)
   |_=>exact .inr ⟨w1,hl,st',m',h1,h2⟩))
theorem P8{id:Nat}{c:Code}(h:fF k ri P c st (iB id K) (iB id Kd)):fF k ri P (.block id c) st K Kd:=
 λB w0 a w m hs=>yA (eT (h B w0 a w m hs) (λe a' w' hx=>by
  rcases hx with ⟨st',m',h1,h2⟩|⟨w1,hl,st',m',h1,h2⟩
  .cases e with
   |exit fx=>
    simp only[Exit.inBlock];simp only[iB] at h1
    grind
   |_=>exact .inl ⟨st',m',h1,h2⟩
  .cases e with
   |exit fx=>
    simp only[Exit.inBlock];simp only[iB] at h1
    grind
   |_=>exact .inr ⟨w1,hl,st',m',h1,h2⟩))
def qQ(Kd:Exit->St->Prop):Exit->St->Prop
 |.normal,_=>False
 |e,s=>Kd e s
section
omit [bE]
@[simp ↓]theorem zbf(s:St):qQ Kd .ret s=Kd .ret s:=rfl
@[simp ↓]theorem zbg(i:Nat)(s:St):qQ Kd (.exit i) s=Kd (.exit i) s:=rfl
@[congr] theorem zbh{e e':Exit}(h1:e=e')(h2:st=st'):qQ Kd e st=qQ Kd e' st':=by rw[h1,h2]
end
theorem P9{c:Code}{α:Type}(J:α->Prop)(I:α->St)(μ:α->Nat)(x0:α)(hJ:J x0)(h0:Lek ⟨k,some ri⟩ st (I x0))(round:∀x,J x->fF k ri P c (I x) (j5 ⟨k,some ri⟩ J I μ x K) (qQ Kd)):fF k ri P (.loop c) st K Kd:=by
 intro B w0 a w m hs;refine yB (λk a w=>∃x m,J x/\μ x=k/\Sim B w0 (I x) a w m) (μ x0) aQ ?_
 rintro j a w ⟨x,m,hx,rfl,f8⟩
 refine eT (round x hx B w0 a w m f8) (λe a' w' hq=>?_)
 rcases hq with ⟨st',m',h2,h3⟩|⟨w1,hl,st',m',h2,h3⟩
 .cases e with
  |normal=>
   obtain⟨y,hy,b5,hle⟩:=h2;obtain⟨bv,h4⟩:=hle B w0 a' w' m' h3;exact⟨μ y,b5,y,bv,hy,rfl,h4⟩
  |_=>exact .inl ⟨st',m',h2,h3⟩
 .cases e with
  |normal=>exact h2.elim
  |_=>exact .inr ⟨w1,hl,st',m',h2,h3⟩
def YW2(P:Program)(ri:RI)(nt:Nat)(o:Oper)(f:Operand)(args:Array Operand)(e:Env)(h:bz)(n:Nat)(K Kl:Env->bz->Nat->Prop)(_:Mark (K,Kl)):Prop:=
 (∃ow fl,ev e f=.w ow fl (.yl ri.l))/\I0 P ri (args.toList.map (ev e)) h n (λh' n'=>K (put e o.dst (.w false false (.bool true))) h' n') (λh' n'=>Kl (put e o.dst (.w false false (.bool false))) h' n')
@[congr] theorem zbi{nt:Nat}{o:Oper}{f:Operand}{args:Array Operand}{e e':Env}{h h':bz}{n n':Nat}{K Kl:Env->bz->Nat->Prop}{mk:Mark (K,Kl)}(h1:e=e')(h2:h=h')(h3:n=n'):YW2 P ri nt o f args e h n K Kl mk=YW2 P ri nt o f args e' h' n' K Kl mk:=by rw[h1,h2,h3]
theorem Qa{nt:Nat}{o:Oper}{f:Operand}{args:Array Operand}{e:Env}{h:bz}{n:Nat}{K Kl:Env->bz->Nat->Prop}{mk:Mark (K,Kl)}(ow fl:Bool)(h1:ev e f=.w ow fl (.yl ri.l))(hl:args.toList.length=ri.ps.size)(b5:∀t∈ri.ps,t<ri.nt)(hk:cK ⟨n,none⟩ P ri.assign ⟨nE ri.env ri.ps.toList (args.toList.map (ev e)),h,n,ri.nt⟩ (uN P n ri.body (λh' n'=>K (put e o.dst (.w false false (.bool true))) h' n') (λh' n'=>Kl (put e o.dst (.w false false (.bool false))) h' n'))):YW2 P ri nt o f args e h n K Kl mk:=
 ⟨⟨ow,fl,h1⟩,by rw[jq];exact hl,b5,hk⟩
theorem Qb{id:Nat}{ops:Array Oper}{env:Env}{h:bz}{n nt:Nat}(i:Nat)(hi:i<ops.toList.length){f:Operand}{args:Array Operand}{tys:Array TypeId}(ho:(ops.toList.getD i default).op=.call { callee:=.value f,args:=args,argTypes:=tys })(hg:(ops.toList.getD i default).guard=none)(hd:dOk nt (ops.toList.getD i default).dst)(hk:dq P ops nt (ops.toList.take i) env h n λe' h' n'=>YW2 P ri nt (ops.toList.getD i default) f args e' h' n' (λa6 a9 ag=>dq P ops nt (ops.toList.drop (i+1)) a6 a9 ag λe3 h3 n3=>K .normal ⟨e3,h3,n3,nt⟩) (λa6 a9 ag=>dq P ops nt (ops.toList.drop (i+1)) a6 a9 ag λe3 h3 n3=>Kd .normal ⟨e3,h3,n3,nt⟩) .it):fF k ri P (.region id ops false) ⟨env,h,n,nt⟩ K Kd:=by
 have e:ops.toList.getD i default=ops.toList[i]:=ak
 have bf:ops.toList=ops.toList.take i++ops.toList.getD i default::ops.toList.drop (i+1):=by rw[e,Dg,yd]
 generalize ops.toList.getD i default=o at *;generalize ops.toList.take i=pre at *;generalize ops.toList.drop (i+1)=post at *;intro B w0 a w m hs;refine qY ?_;rw[bf];refine rA (o::post) ?_ pre env h n a w m hk hs
 rintro e h n a w m ⟨⟨ow,fl,hf⟩,hr⟩ hs
 simp only[ir,Region.wanted,hg,cz];intro w e1;replace hs:=hs.move e1;refine GK o f args tys ho hf hr hs hd _ _ (λh' n' a' w' m' b4 h8=>?_) (λw1 h' n' a' w' m' hl b4 h8=>?_)
 .exact nK (λ_ _ _ _ _ m ax h8=>.inl ⟨_,m,ax,h8⟩) post _ _ _ _ _ m' b4 h8
 .have:=nK (Q:=λe a' w'=>(∃st' m',K e st'/\Sim B w0 st' a' w' m')\/∃w1:Ctx ⟨k,none⟩,qM w0 w1/\∃st' m',Kd e st'/\Sim B w1 st' a' w' m') (w0:=w1) (P:=P) (ops:=ops) (λ_ _ _ _ _ m ax h8=>.inr ⟨w1,hl,_,m,ax,h8⟩) post _ _ _ _ _ m' b4 h8;rw[hl.2.2.1] at this;exact this
end
section
variable{k:Nat}{ri:RI}{B:Base}{m:Mm}{w:World}{h:bz}{n:Nat}{env:Env}{a:Act}{P:Program}
theorem Hz{w0:Ctx ⟨k,some ri⟩}{nt:Nat}(o:Oper)(f:Operand)(args:Array Operand)(tys:Array TypeId)(ho:o.op=.call { callee:=.value f,args:=args,argTypes:=tys }){g:FuncId}{bT:List AV}(hf:fU (ev env f)=some (g,bT)){fn:Func}{c:Code}(ay:P.funcs[g]?=some fn) (h9:(fn.name == "runtime.NumGoroutine")=false) (hb:fn.body=some c) (b7:(args.toList.map (ev env)++bT).length<=fn.ntmps) {Kv Kl:AV->bz->Nat->Prop} (hw:fF n ri P c ⟨gk 0 (args.toList.map (ev env)++bT),h,n,fn.ntmps⟩ (iE P fn.results.toList Kv) (iE P fn.results.toList Kl)) (hs:Sim B w0 ⟨env,h,n,nt⟩ a w m) (aa:dOk nt o.dst) (Q:Exit->Act->World->Prop) (K':Act->World->Prop) (hK:∀v h' n' a' w' m',Kv v h' n'->Sim B w0 ⟨put env o.dst v,h',n',nt⟩ a' w' m'->K' a' w') (hKl:∀(w1:Ctx ⟨k,none⟩) v h' n' a' w' m',qM w0 w1->Kl v h' n'->Sim B w1 ⟨put env o.dst v,h',n',nt⟩ a' w' m'->K' a' w'):o.wpt P a w K' Q:=by
 refine GG o f args tys ho hf ay h9 hb b7 (some ri) (λ_ h=>h) Q K' (λw1 a1 e1 e2 e3 e4 e5 bi=>eT (e3▸hw B w1 a1 w m bi) (λe a' w' hq=>?_)) hs aa
 rcases hq with ⟨st',m',hk,h8⟩|⟨wl,hl,st',m',hk,h8⟩
 .have fin:∀e:Exit,(e=.normal\/e=.ret)->gq P fn.results.toList st' Kv->xJ P B w0 env a n nt o fn K' e a' w':=λe he hk=>
   ⟨he,_,_,w1,w0,st',m',Kv,rfl,rfl,e1,e2,e5,rfl,rfl,rfl,λq hq=>e4▸hq,h8,hk,hK⟩
  cases e with
  |normal=>simp_all
  |ret=>simp_all
  |_=>exact hk.elim
 .obtain⟨l1,l2,l3,l4,⟨fn2,T2,D2,l5⟩,l6⟩:=hl
  have fin:∀e:Exit,(e=.normal\/e=.ret)->gq P fn.results.toList st' Kl->xJ P B w0 env a n nt o fn K' e a' w':=λe he hk=>
   ⟨he,_,_,wl,(⟨w0.w,w0.F,w0.r,(ri.l,dj ri fn2 T2 D2 .done (some .ret))::w0.obs.filter (λq=>decide (q.1≠ri.l)),w0.ds,λri h=>au,w0.ok⟩:Ctx ⟨k,none⟩),st',m',Kl,rfl,rfl,l1.trans e1,l2.trans e2,l4.trans e5,rfl,rfl,rfl,
     λq hq=>by
      grind,h8,hk,
     (hKl _ · · · · · · ⟨rfl,rfl,rfl,rfl,⟨fn2,T2,D2,ae⟩,λq hq b9=>eY _ (tc.2 ⟨hq,ak⟩)⟩)⟩
  cases e with
  |normal=>simp_all
  |ret=>simp_all
  |_=>exact hk.elim
end
section
variable{k:Nat}{ri:RI}{P:Program}{K Kd:Exit->St->Prop}{st:St}
theorem HA{c:Operand}{x y:Code}{o f b:Bool}(hv:ev st.env c=.w o f (.bool b))(h:fF k ri P (bif b then x else y) st K Kd):fF k ri P (.cond c x y) st K Kd:=by
 intro B w0 a w m hs;have hc:bG B (LB m st.heap) m w (ev st.env c) (a.eval c):=mR c (λt _=>hs.env t);rw[hv] at hc;refine u6 hc.j3 ?_;cases b
 .exact h B w0 a w m hs
 .exact h B w0 a w m hs
variable{env:Env}{h:bz}{n nt:Nat}
def uQ(ri:RI)(P:Program)(ops:Array Oper)(nt:Nat)(o:Oper)(post:List Oper)(f:Operand)(g:FuncId)(fn:Func)(c:Code)(args:Array Operand)(e:Env)(h:bz)(n:Nat)(K Kd:Env->bz->Nat->Prop)(_:Mark (o,post,c,K,Kd)):Prop:=
 ∃bT,fU (ev e f)=some (g,bT)/\(args.toList.map (ev e)++bT).length<=fn.ntmps/\dOk nt o.dst/\gd ops e o=some true /\
  fF n ri P c ⟨gk 0 (args.toList.map (ev e)++bT),h,n,fn.ntmps⟩ (iE P fn.results.toList λv h' n'=>dq P ops nt post (put e o.dst v) h' n' K) (iE P fn.results.toList λv h' n'=>dq P ops nt post (put e o.dst v) h' n' Kd)
@[congr] theorem zbj{ops:Array Oper}{nt:Nat}{o:Oper}{post:List Oper}{f:Operand}{g:FuncId}{fn:Func}{c:Code}{args:Array Operand}{e e':Env}{h h':bz}{n n':Nat}{K Kd:Env->bz->Nat->Prop}{mk:Mark (o,post,c,K,Kd)}(h1:e=e')(h2:h=h')(h3:n=n'):uQ ri P ops nt o post f g fn c args e h n K Kd mk=uQ ri P ops nt o post f g fn c args e' h' n' K Kd mk:=by rw[h1,h2,h3]
theorem Qc{ops:Array Oper}{nt:Nat}{o:Oper}{post:List Oper}{f:Operand}{g:FuncId}{fn:Func}{c:Code}{args:Array Operand}{e:Env}{h:bz}{n:Nat}{K Kd:Env->bz->Nat->Prop}{mk:Mark (o,post,c,K,Kd)}(bT:List AV)(hf:fU (ev e f)=some (g,bT))(hl:args.toList.length+bT.length<=fn.ntmps)(hd:dOk nt o.dst)(hg:gd ops e o=some true)(hk:fF n ri P c ⟨gk 0 (args.toList.map (ev e)++bT),h,n,fn.ntmps⟩ (iE P fn.results.toList λv h' n'=>dq P ops nt post (put e o.dst v) h' n' K) (iE P fn.results.toList λv h' n'=>dq P ops nt post (put e o.dst v) h' n' Kd)):uQ ri P ops nt o post f g fn c args e h n K Kd mk:=
 ⟨bT,hf,by rw[uW,jq];exact hl,hd,hg,hk⟩
theorem Qd{id:Nat}{ops:Array Oper}(i:Nat)(g:FuncId){fn:Func}{c:Code}(ay:P.funcs[g]?=some fn) (h9:(fn.name == "runtime.NumGoroutine")=false) (hb:fn.body=some c) (hi:i<ops.toList.length) {f:Operand} {args:Array Operand} {tys:Array TypeId} (ho:(ops.toList.getD i default).op=.call { callee:=.value f,args:=args,argTypes:=tys }) (hk:dq P ops nt (ops.toList.take i) env h n λe' h' n'=>uQ ri P ops nt (ops.toList.getD i default) (ops.toList.drop (i+1)) f g fn c args e' h' n' (λe3 h3 n3=>K .normal ⟨e3,h3,n3,nt⟩) (λe3 h3 n3=>Kd .normal ⟨e3,h3,n3,nt⟩) .it):fF k ri P (.region id ops false) ⟨env,h,n,nt⟩ K Kd:=by
 have e:ops.toList.getD i default=ops.toList[i]:=ak
 have bf:ops.toList=ops.toList.take i++ops.toList.getD i default::ops.toList.drop (i+1):=by rw[e,Dg,yd]
 generalize ops.toList.getD i default=o at *;generalize ops.toList.take i=pre at *;generalize ops.toList.drop (i+1)=post at *;intro B w0 a w m hs;refine qY ?_;rw[bf];refine rA (o::post) ?_ pre env h n a w m hk hs
 rintro e h n a w m ⟨bT,hf,b7,aa,c4,hw⟩ hs
 simp only[ir];intro w e1;replace hs:=hs.move e1;rw[pW c4 hs];simp only[cz];refine jS (λc e=>by rw[ho] at e;cases e) (Hz o f args tys ho hf ay h9 hb b7 hw hs aa _ _ (λv h' n' a' w' m' b4 h8=>?_) (λw1 v h' n' a' w' m' hl b4 h8=>?_))
 .exact nK (λ_ _ _ _ _ m ax h8=>.inl ⟨_,m,ax,h8⟩) post _ _ _ _ _ m' b4 h8
 .have:=nK (Q:=λe a' w'=>(∃st' m',K e st'/\Sim B w0 st' a' w' m')\/∃w1:Ctx ⟨k,none⟩,qM w0 w1/\∃st' m',Kd e st'/\Sim B w1 st' a' w' m') (w0:=w1) (P:=P) (ops:=ops) (λ_ _ _ _ _ m ax h8=>.inr ⟨w1,hl,_,m,ax,h8⟩) post _ _ _ _ _ m' b4 h8;rw[hl.2.2.1] at this;exact this
theorem Qe{fk:Fk}{B:Base}{w0:Ctx fk}{a:Act}{w:World}{m:Mm}{Q:Exit->Act->World->Prop}{ops:Array Oper}{e:Env}(k:Nat){id:Nat}{Kp:Env->bz->Nat->Prop}(hm:P.follows .mixedOrders=true)(hc:Chk ops k)(hk:gh P ops nt (ops.toList.take k) e h n Kp)(hs:Sim B w0 ⟨e,h,n,nt⟩ a w m)(dr:∀(e':Env)(h':bz)(n':Nat),Kp e' h' n'->∀(f:Nat)(listed:Array Bool)(a:Act)(w:World)(m:Mm),listed.size=ops.size->Closed ops listed->(∀j,j<ops.size->(listed.getD j false=true↔j<k))->open_ listed<=f->Sim B w0 ⟨e',h',n',nt⟩ a w m->jD w0.r P .any ops Q f listed a w):(Code.region id ops true).wpT w0.r P Q a w:=by
 obtain⟨T,hK⟩:=zj _ _ _ _ hk
 have hlen:(ops.toList.take k).length=k:=by simp[hc.le]
 rw[hlen] at hK
 refine yC hm λw e1=>?_
 replace hs:=hs.move e1
 have h8:Sim B w0 ⟨e,h,n,nt⟩ a { w with drawn:=w.drawn+1 } m:=by
  have hb:Bel w.heap.size w { w with drawn:=w.drawn+1 }:=(Bel.refl _ _).drew;have hB:=hs.room;exact⟨hs.base,hs.below.trans (hb.mono hB),hs.defers,hs.size,λt=>(hs.env t).mono (Mm.le.refl m) (λ_ _ h=>h) (λb co _=>hb.block b co),hs.heap.below hb,hs.dom,hs.ids,hs.fr.mono (Mm.le.refl m) (λ_ _ h=>h) (λb co _=>hb.block b co) (bU _)⟩
 obtain⟨h1,h2,h3⟩:=En (T:=T) hc.le h8.heap h8.dom h8.ids k (bU _)
 have hf:∀i,(Array.replicate ops.size false).getD i false=false:=by
  intro i;rw[dC,ya]
  split<;>rfl
 refine Eo (T:=T) hc h3 (λf listed a w m=>dr _ _ _ hK f listed a w m) ops.size _ a _ m ae (λi o ho hl=>by rw[hf] at hl;cases hl) ?_ (λi _ _=>hf i) ⟨h8.base,h8.below,h8.defers,h8.size,h1,λid=>?_,(λi t hi hl=>by rw[hf] at hl;cases hl),λt _=>?_,by rw[h2];exact h8.fr⟩
 .unfold open_
  grind
 .rw[h8.dom];simp_all
 .rw[h2];exact h8.env t
theorem Qf{id:Nat}{ops:Array Oper}(i:Nat)(g:FuncId)(hm:P.follows .mixedOrders=true)(cp:uw ops i=true)(ct:i<ops.size){fn:Func}{c:Code}(ay:P.funcs[g]?=some fn) (h9:(fn.name == "runtime.NumGoroutine")=false) (hb:fn.body=some c) {f:Operand} {args:Array Operand} {tys:Array TypeId} (ho:(ops.toList.getD i default).op=.call { callee:=.value f,args:=args,argTypes:=tys }) (hk:gh P ops nt (ops.toList.take i) env h n λe' h' n'=>uQ ri P ops nt (ops.toList.getD i default) (ops.toList.drop (i+1)) f g fn c args e' h' n' (λe3 h3 n3=>K .normal ⟨e3,h3,n3,nt⟩) (λe3 h3 n3=>Kd .normal ⟨e3,h3,n3,nt⟩) .it):fF k ri P (.region id ops true) ⟨env,h,n,nt⟩ K Kd:=by
 obtain⟨hc,bm⟩:=zm cp;intro B w0 a w m hs;refine Qe i hm hc hk hs (λe' h' n' hK f' listed a w m dy b6 hl ew hs=>?_);obtain⟨bT,hf,b7,aa,c4,hw⟩:=hK
 cases f' with
 |zero=>
  exfalso;have:=pY (x9.1 ew) (i:=i) ab;have:=(hl i ct).1 this;omega
 |succ f'=>
  have b9:=qZ dy hc.down i ct (by
   grind)
  refine⟨λcx=>absurd cx b9,λx fd=>?_⟩;obtain⟨o,bo,d6,he⟩:=nL dy fd;have e8:=(cT.1 bo).1
  have fm:x=i:=by
   have h1:¬x<i:=λfq=>by
    have:=(hl x e8).2 fq;rw[dC,d6] at this;cases this
   rcases eX i x with h2|h2
   .have:=mV b6 8 x i o bo he (bm x ab e8 i h2);have:=(hl i ct).1 this;omega
   .omega
  subst fm
  have eu:ops.toList.getD x default=o:=by
   rw[dT,jo,bo];rfl
  rw[eu] at ho c4 aa hw;unfold lg;rw[bo];simp only[];intro w e1;replace hs:=hs.move e1;rw[pW c4 hs];simp only[cz]
  have dm:∀j,j<ops.size->((listed.setIfInBounds x true).getD j false=true↔j<x+1):=λj hj=>by
   by_cases fp:x=j
   .simp_all
   .rw[getD_set_ne false fp,hl j hj];omega
  refine jS (λc e=>by rw[ho] at e;cases e) (Hz o f args tys ho hf ay h9 hb b7 hw hs aa _ _ (λv h' n' a' w' m' dl h8=>?_) (λw1 v h' n' a' w' m' fu dl h8=>?_))
  .exact vI (Kr:=λa6 a9 ag=>K .normal ⟨a6,a9,ag,nt⟩) (λe' h' n' a' w' m' ax a5=>.inl ⟨_,m',ax,a5⟩) hc.down bm f' (x+1) (listed.setIfInBounds x true) _ _ _ a' w' m' ab ab ak (b6.set bo he) dm (by have:=pX d6;omega) dl h8
  .have:=vI (w0:=w1) (Kr:=λa6 a9 ag=>Kd .normal ⟨a6,a9,ag,nt⟩) (Q:=λe a' w'=>(∃st' m',K e st'/\Sim B w0 st' a' w' m')\/∃w1:Ctx ⟨k,none⟩,qM w0 w1/\∃st' m',Kd e st'/\Sim B w1 st' a' w' m') (λe' h' n' a' w' m' ax a5=>.inr ⟨w1,fu,_,m',ax,a5⟩) hc.down bm f' (x+1) (listed.setIfInBounds x true) _ _ _ a' w' m' ab ab ak (b6.set bo he) dm (by have:=pX d6;omega) dl h8;rw[fu.2.2.1] at this;exact this
end
section
variable{fk:Fk}{P:Program}{K:Exit->St->Prop}{st:St}
theorem Qg{c:Code}{α:Type}(J:α->Prop)(I:α->St)(μ:α->Nat)(x0:α)(hJ:J x0)(h0:Lek fk st (I x0))(round:∀x,J x->fN fk P c (I x) (j5 fk J I μ x K)):fN fk P (.loop c) st K:=by
 intro B w0 a w m hr hd hs;refine yB (λk a w=>∃(w1:Ctx fk)(x:α)(m:Mm),w1.w=w0.w/\w1.r=none/\qN w1/\J x/\μ x=k/\Sim B w1 (I x) a w m) (μ x0) aQ ?_
 rintro k a w ⟨w1,x,m,g1,g2,g3,hx,rfl,f8⟩
 refine eT (round x hx B w1 a w m g2 g3 f8) (λe a' w' ⟨w2,st',m',k1,k2,k3,h2,h3⟩=>?_)
 cases e<;>first
  |exact⟨w2,st',m',k1.trans g1,k2,k3,h2,h3⟩
  |(obtain⟨y,hy,b5,hle⟩:=h2
    obtain⟨bv,h4⟩:=hle B w2 a' w' m' h3
    exact⟨μ y,b5,w2,y,bv,k1.trans g1,k2,k3,hy,rfl,h4⟩)
theorem HB{c:Operand}{x y:Code}{o f b:Bool}(hv:ev st.env c=.w o f (.bool b))(h:fN fk P (bif b then x else y) st K):fN fk P (.cond c x y) st K:=by
 intro B w0 a w m hr hd hs;have hc:bG B (LB m st.heap) m w (ev st.env c) (a.eval c):=mR c (λt _=>hs.env t);rw[hv] at hc;refine u6 hc.j3 ?_;cases b
 .exact h B w0 a w m hr hd hs
 .exact h B w0 a w m hr hd hs
end
end Go.Fi
namespace Go.Fi
open Go Go.RowKit
variable[bE]
variable{fk:Fk}
def CI(D:List Nat)(h:bz)(n n':Nat)(x y:AV):Prop:=
 match x,y with
 |.agg a,.agg b=>gF D h n n' a b
 |_,_=>False
def qO(P:Program)(rs:List ResultVar)(c0:Nat)(E:List (List AV))(v:AV)(D:List Nat)(st:St):Prop:=
 match jg P st.env st.heap rs with
 |some (vs,c)=>c/\(oF D st.heap st.nxt (c0+E.length) (oneOf vs) (v.sh c0)\/CI D st.heap st.nxt (c0+E.length) (oneOf vs) (v.sh c0))/\ji D st.heap st.nxt (c0+E.length) (ck [] c0 (E.map (AV.sh.shL c0)))
 |none=>False
def mkK(P:Program)(rs:List ResultVar)(c0:Nat)(E:List (List AV))(v:AV)(D:List Nat):Exit->St->Prop
 |.normal,s=>qO P rs c0 E v D s
 |.ret,s=>qO P rs c0 E v D s
 |_,_=>False
omit [bE] in
@[simp ↓]theorem ZO(P:Program)(rs:List ResultVar)(c0:Nat)(E:List (List AV))(v:AV)(D:List Nat)(s:St):mkK P rs c0 E v D .normal s=qO P rs c0 E v D s:=rfl
omit [bE] in
@[simp ↓]theorem ZP(P:Program)(rs:List ResultVar)(c0:Nat)(E:List (List AV))(v:AV)(D:List Nat)(s:St):mkK P rs c0 E v D .ret s=qO P rs c0 E v D s:=rfl
section
variable{B:Base}{L:Nat->Prop}{m mm:Mm}{w:World}
omit [bE] in
theorem bG.down{c:Nat}(hd:∀i,m.dom (i+c)->mm.dom i)(ht:∀i,mm.top i=m.top (i+c))(ha:∀i ver,mm.addr i ver=m.addr (i+c) ver){y:AV}{u:Value}(h:bG B L m w y u):∀x:AV,x.sh c=y->bG B L mm w x u:=by
 induction h with
 |@w own full p v hr hf=>
  intro x e
  cases x with
  |w o f q=>simp only[Tb,AV.w.injEq] at e;obtain⟨rfl,rfl,rfl⟩:=e;exact .w hr hf
  |_=>simp[AV.sh] at e
 |@ptr id ver off b C c8 e7 ef fz=>
  intro x e
  cases x with
  |ptr i v o=>simp only[Om,AV.ptr.injEq] at e;obtain⟨rfl,rfl,rfl⟩:=e;exact .ptr (hd _ c8) (by rw[ht];exact e7) (by rw[ha];exact ef) fz
  |_=>simp[AV.sh] at e
 |@mp id b c8 e7 ef=>
  intro x e
  cases x with
  |mp i=>simp only[AV.sh,AV.mp.injEq] at e;subst e;exact .mp (hd _ c8) (by rw[ht];exact e7) (by rw[ha];exact ef)
  |_=>simp[AV.sh] at e
 |@msl id ver sz off n cap a c8 e7 hn h0 h1=>
  intro x e
  cases x with
  |msl i v s o k=>simp only[Gk,AV.msl.injEq] at e;obtain⟨rfl,rfl,rfl,rfl,rfl⟩:=e;exact .msl (hd _ c8) (by rw[ht];exact e7) hn (λe=>h0 (by rw[<-ha];exact e)) (λb C e=>h1 b C (by rw[<-ha];exact e))
  |_=>simp[AV.sh] at e
 |@agg cs vs hl _ ih=>
  intro x e
  cases x with
  |agg ds=>
   simp only[On,AV.agg.injEq,gZ] at e;subst e;exact .agg ak (λj p v hp hv=>ih j (p.sh c) v (by rw[jm,hp];rfl) hv p rfl)
  |_=>simp[AV.sh] at e
 |@tup cs vs hl _ ih=>
  intro x e
  cases x with
  |tup ds=>
   simp only[Oo,AV.tup.injEq,gZ] at e;subst e;exact .tup ak (λj p v hp hv=>ih j (p.sh c) v (by rw[jm,hp];rfl) hv p rfl)
  |_=>simp[AV.sh] at e
 |@fn f cs vs hl _ ih=>
  intro x e
  cases x with
  |fn g ds=>
   simp only[AV.sh,AV.fn.injEq,gZ] at e;obtain⟨rfl,rfl⟩:=e;exact .fn ak (λj p v hp hv=>ih j (p.sh c) v (by rw[jm,hp];rfl) hv p rfl)
  |_=>simp[AV.sh] at e
omit [bE] in
theorem G8(c:Nat):∀(E:List (List AV))(n:Nat),ck [] (n+c) (E.map (AV.sh.shL c))=(ck [] n E).map λp=>(p.1+c,AV.sh.shL c p.2)
 |[],n=>rfl
 |x::E,n=>by
  simp only[jr,ck];rw[show n+c+1=(n+1)+c by omega,G8 c E (n+1)]
end
theorem uh{P:Program}{f:FuncId}{fn:Func}{c:Code}{args:List PV}{E:List (List AV)}{v:AV}(c0:Nat)(D:List Nat)(hf:P.funcs[f]?=some fn) (h9:(fn.name == "runtime.NumGoroutine")=false) (hb:fn.body=some c) (b7:args.length<=fn.ntmps) (hv:v.frs=true) (hE:∀c∈E,AV.frs.j4 c=true) (h:cK fk0 P c ⟨iT 0 args,[],0,fn.ntmps⟩ (mkK P fn.results.toList c0 E v D)):mf P f args E v:=by
 refine⟨⟨fn,hf,h9,by rw[hb];rfl⟩,hv,hE,λG w vs et hlen cy=>?_⟩;refine u7 hf hb ?_
 have a5:Sim ⟨w.heap.size,G⟩ (⟨w,[],none,[],[],λri h=>au,et⟩:Ctx fk0) ⟨iT 0 args,[],0,fn.ntmps⟩ { tmps:=vs++Array.replicate (fn.ntmps-vs.size) undef,defers:=[] } w ⟨λ_ _=>none,λ_=>0,λ_=>False⟩:=by
  refine⟨rfl,Bel.refl _ _,rfl,ar,λt=>?_,⟨λid cells hin=>(by cases hin),List.Pairwise.nil⟩,λi=>⟨λh=>h.elim,λh=>absurd h (oJ i)⟩,λid c hin=>(by cases hin),cG _,(λp hp=>by cases hp),λq hq=>by cases hq⟩;show bG _ _ _ _ (get (iT 0 args) t) _;rw[wR];split
  .rename_i ht
   have b5:t<args.length:=ab
   refine .w ?_ nofun
   have:(vs++Array.replicate (fn.ntmps-vs.size) undef).getD t undef=vs[t]'ab:=by
    rw[dC,sY ab,dE ab];rfl
   rw[this]
   refine (cy t _ _ al (dE ab)).imp λb hg=>⟨?_,nofun,λ_=>hg⟩
   rintro⟨id,cells,C,hin,_⟩
   cases hin
  .exact .w (.undef _) nofun
 refine eT (h _ _ _ _ _ a5) (λe a' w' ⟨st',m',hk,hs⟩=>?_)
 have main:qO P fn.results.toList c0 E v D st'->a'.defers=[]/\∀w1,EnvD.E w' w1->∃r,(results fn a'.tmps).run P w1=.ok r w1/\∃u mm,Ending.returned r=.returned u/\Bel w.heap.size w w1/\(∀i,mm.dom i↔i<E.length)/\cQ ⟨w.heap.size,G⟩ (ck [] 0 E) mm w1/\bG ⟨w.heap.size,G⟩ (LB mm (ck [] 0 E)) mm w1 v u:=by
  intro hr;refine⟨hs.defers,λw' e1=>?_⟩;replace hs:=hs.move e1;unfold qO at hr;split at hr
  .rename_i bh d bg;obtain⟨hd,b6,gi⟩:=hr;obtain⟨us,h1,h2,h3⟩:=rq hs _ _ _ bg hd
   have aq:(results fn a'.tmps).run P w'=.ok (if h:us.toArray.size=1 then us.toArray[0] else .tuple us.toArray) w':=by
    have he:results fn a'.tmps=(do
     let vs <-fn.results.mapM (pE a'.tmps)
     pure (if h:vs.size=1 then vs[0] else .tuple vs)):=rfl
    rw[he,sL];simp only[Sem.run_bind,Sem.run_map,h1,Result.andThen_ok,Sem.run_pure]
   have b':bG ⟨w.heap.size,G⟩ (LB m' st'.heap) m' w' (oneOf bh) (if h:us.toArray.size=1 then us.toArray[0] else .tuple us.toArray):=by
    have tupc:bh.length≠1->bG ⟨w.heap.size,G⟩ (LB m' st'.heap) m' w' (.tup bh) (if h:us.toArray.size=1 then us.toArray[0] else .tuple us.toArray):=by
     intro b9;rw[dif_neg ar];exact .tup (by simpa using h2) (λj p u hp hu=>h3 j p u hp (by simpa using hu))
    match bh,h2,h3,tupc with
    |[],h2,h3,tupc=>exact tupc ae
    |[v],h2,h3,tupc=>
     obtain⟨u,rfl⟩:∃u,us=[u]:=Dd.1 aV;exact h3 0 v u rfl rfl
    |v::v2::r,h2,h3,tupc=>exact tupc ae
   obtain⟨m2,bl,c7⟩:=GC (env':=[]) (h':=ck [] c0 (E.map (AV.sh.shL c0))) (n':=c0+E.length) D trivial gi (cG _) hs
   have hu:bG ⟨w.heap.size,G⟩ (LB m2 (ck [] c0 (E.map (AV.sh.shL c0)))) m2 w' (v.sh c0) (if h:us.toArray.size=1 then us.toArray[0] else .tuple us.toArray):=by
    clear aq;generalize (if h:us.toArray.size=1 then us.toArray[0] else .tuple us.toArray)=uv at b' ⊢
    rcases b6 with b6|b6
    .exact c7 _ _ _ b6 b'
    .unfold CI at b6;split at b6
     .rename_i a b ea eb;rw[ea] at b';rw[eb];obtain⟨hl,hc⟩:=tY b6
      cases b' with
      |agg h1 h2=>
       refine .agg ab (λj p u hp hu=>?_);obtain⟨x,hx,gu⟩:=hc j p hp;exact c7 _ _ _ gu (h2 j x u hx hu)
     .exact b6.elim
   have b8:∀i,m2.dom i↔i<c0+E.length:=bl.dom
   have hEq:ck [] c0 (E.map (AV.sh.shL c0))=(ck [] 0 E).map λp=>(p.1+c0,AV.sh.shL c0 p.2):=by
    have:=G8 c0 E 0
    rwa [dJ] at this
   refine⟨_,aq,_,⟨λid ver=>m2.addr (id+c0) ver,λid=>m2.top (id+c0),λid=>id<E.length⟩,rfl,hs.below,λi=>Iff.rfl,?_⟩
   have dt:∀k cl,(k,cl)∈ck [] 0 E->(k+c0,AV.sh.shL c0 cl)∈ck [] c0 (E.map (AV.sh.shL c0)):=λk cl hin=>by
    rw[hEq];exact ja.2 ⟨(k,cl),hin,rfl⟩
   have b5:∀k cl,(k,cl)∈ck [] 0 E->k<E.length:=λk cl hin=>by
    rcases (zc E [] 0 k cl).1 hin with h|⟨j,h,rfl⟩
    .cases h
    .have:=(fg.1 h).1;omega
   have hLB:LB (⟨λid ver=>m2.addr (id+c0) ver,λid=>m2.top (id+c0),λid=>id<E.length⟩:Mm) (ck [] 0 E)=LB m2 (ck [] c0 (E.map (AV.sh.shL c0))):=by
    funext b
    refine propext ⟨?_,?_⟩
    .rintro⟨id,cl,C,hin,hd,ha⟩
     have hl:=b5 _ _ hin;exact⟨id+c0,AV.sh.shL c0 cl,C,dt _ _ hin,(b8 _).2 ab,by rw[gZ,jq];exact ha⟩
    .rintro⟨id,cl,C,hin,hd,ha⟩
     rw[hEq] at hin;obtain⟨⟨k,c1⟩,h4,h5⟩:=ja.1 hin
     injection h5 with h5 h6
     subst h5;subst h6;rw[gZ,jq] at ha;exact⟨k,c1,C,h4,b5 _ _ h4,ha⟩
   rw[hLB]
   have ft:∀{x:AV}{u:Value},bG ⟨w.heap.size,G⟩ (LB m2 (ck [] c0 (E.map (AV.sh.shL c0)))) m2 w' (x.sh c0) u->bG ⟨w.heap.size,G⟩ (LB m2 (ck [] c0 (E.map (AV.sh.shL c0)))) ⟨λid ver=>m2.addr (id+c0) ver,λid=>m2.top (id+c0),λid=>id<E.length⟩ w' x u:=
    λ{x u} hr=>bG.down (c:=c0) (λi hd=>by have:=(b8 _).1 hd;show i<E.length;omega) (λi=>rfl) (λi ver=>rfl) hr x rfl
   refine⟨⟨λid cl hin hd=>?_,?_⟩,ft hu⟩
   .rw[hLB];have hl:=b5 _ _ hin;obtain⟨e1,e2⟩:=bl.heap.entry (id+c0) (AV.sh.shL c0 cl) (dt _ _ hin) ((b8 _).2 ab)
    have hlen:(AV.sh.shL c0 cl).length=cl.length:=by rw[gZ,jq]
    rw[hlen] at e1 e2;refine⟨e1,?_⟩
    rcases e2 with ⟨e3,e4⟩|⟨b,C,cs,e,f1,f2,f3,f4,f5,f6⟩|⟨b,es,clk,f1,f2,f3,f4,f5⟩
    .exact .inl ⟨e3,by rw[gZ] at e4;simpa using e4⟩
    .exact .inr (.inl ⟨b,C,cs,e,f1,f2,f3,f4,f5,λj p u hp hu=>ft (f6 j (p.sh c0) u (by rw[gZ,jm,hp];rfl) hu)⟩)
    .exact .inr (.inr ⟨b,es,clk,f1,by rw[<-Ea];exact f2,f3,f4,λl hl=>f5 l (KE hl)⟩)
   .have hi:=bl.heap.inj;rw[show (St.heap ⟨[],ck [] c0 (E.map (AV.sh.shL c0)),c0+E.length,fn.ntmps⟩)=_ from hEq,List.pairwise_map] at hi;refine sJ ?_ hi;intro x y hx hy ⟨b9,gx⟩;refine⟨λe=>b9 (by rw[e]),λb C C' i1 i2 g6 g7=>?_⟩;have h1:=b5 x.1 x.2 hx;have h2:=b5 y.1 y.2 hy
    have l1:(AV.sh.shL c0 x.2).length=x.2.length:=by rw[gZ,jq]
    have l2:(AV.sh.shL c0 y.2).length=y.2.length:=by rw[gZ,jq]
    exact gx b C C' ((b8 _).2 ab) ((b8 _).2 ab) (by rw[l1];exact g6) (by rw[l2];exact g7)
  trivial
 cases e<;>first|exact main hk|exact hk.elim
omit [bE] in
@[simp ↓]theorem ZQ(h:bz)(n:Nat)(K:AV->bz->Nat->Prop)(v:AV)(c:List AV)(E:List (List AV)):eK h n K v (c::E)=K v ((n,c)::ck h (n+1) E) (n+(E.length+1)):=by rfl
attribute [simp] qO CI AV.frs AV.frs.j4
section
variable{D:List Nat}{h r s:bz}{n n' b k t len:Nat}{c x:List AV}{L:List (List AV)}
section
omit [bE]
@[simp]theorem ZR(h:bz)(n:Nat)(c:List AV)(E:List (List AV)):ck h n (c::E)=(n,c)::ck h (n+1) E:=rfl
theorem G9:∀(L:List (List AV))(r:bz)(b:Nat)(x:List AV),ck r b (L++[x])=ck ((L.length+b,x)::r) b L
 |[],r,b,x=>by simp[ck]
 |c::L,r,b,x=>by
  simp only[lP,ck,fS];rw[G9 L r (b+1) x,show L.length+(b+1)=L.length+1+b by omega]
@[simp]theorem Pp:∀(L:List (List AV))(r s:bz)(b:Nat),ck r b L++s=ck (r++s) b L
 |[],r,s,b=>rfl
 |c::L,r,s,b=>by simp[ck,Pp L r s (b+1)]
theorem xh:∀(L:List (List AV))(r:bz)(b t:Nat),bY (ck r b L) t=if b<=t/\t<b+L.length then some (nth L (t-b)) else bY r t
 |[],r,b,t=>by simp[ck];intros;omega
 |c::L,r,b,t=>by
  simp only[ck,bY,fS];by_cases h:b=t
  .subst h;rw[cu rfl,cu ⟨bU _,ab⟩,Nat.sub_self];rfl
  .rw[bN h,xh L r (b+1) t];by_cases h2:b+1<=t/\t<b+1+L.length
   .rw[cu h2,cu ⟨ab,ab⟩,show t-b=(t-(b+1))+1 by omega];rfl
   .rw[bN h2,bN ab]
@[simp]theorem Pq{i:Nat}(h:i<L.length):bY (ck r b L) (i+b)=some (nth L i):=by
 rw[xh,cu ⟨ab,ab⟩,Jt]
@[simp]theorem Pr(h:t<b):bY (ck r b L) t=bY r t:=by rw[xh,bN ab]
@[simp]theorem ZS(h:L.length+b<=t):bY (ck r b L) t=bY r t:=by rw[xh,bN ab]
@[simp]theorem Ps:∀{L:List (List AV)}{r:bz}{b i:Nat}(_:i<L.length),dm (ck r b L) (i+b) c=ck r b (L.set i c)
 |[],r,b,i,h=>by simp at h
 |d::L,r,b,i,h=>by
  cases i with
  |zero=>simp[ck,dm]
  |succ i=>
   simp only[ck,dm,Jx];rw[bN ab,show i+1+b=i+(b+1) by omega,Ps av]
@[simp]theorem Pt:∀{L:List (List AV)}{r:bz}{b t:Nat}(_:t<b),dm (ck r b L) t c=ck (dm r t c) b L
 |[],r,b,t,h=>rfl
 |d::L,r,b,t,h=>by
  simp only[ck,dm];rw[bN ab,Pt ab]
end
def iW(h:bz)(b:Nat)(L:List (List AV)):Prop:=∀i,i<L.length->bY h (i+b)=some (nth L i)
section
omit [bE]
@[simp]theorem ZT:iW (ck r b L) b L=True:=eq_true λi hi=>Pq hi
@[simp]theorem ZU(h:k<b):iW ((k,c)::r) b L=iW r b L:=by
 unfold iW;refine propext ⟨λhh i hi=>?_,λhh i hi=>?_⟩
 .have:=hh i hi;simp only[bY] at this;rwa [bN ab] at this
 .simp only[bY];rw[bN ab];exact hh i hi
@[simp]theorem ZV(h:L.length+b<=k):iW ((k,c)::r) b L=iW r b L:=by
 unfold iW;refine propext ⟨λhh i hi=>?_,λhh i hi=>?_⟩
 .have:=hh i hi;simp only[bY] at this;rwa [bN ab] at this
 .simp only[bY];rw[bN ab];exact hh i hi
end
def pJ(h:bz)(b len:Nat):Prop:=∀i,i<len->bY h (i+b)=none
section
omit [bE]
@[simp]theorem ZW:pJ [] b len=True:=eq_true λi hi=>rfl
@[simp]theorem ZX(h:k<b):pJ ((k,c)::r) b len=pJ r b len:=by
 unfold pJ;refine propext ⟨λhh i hi=>?_,λhh i hi=>?_⟩
 .have:=hh i hi;simp only[bY] at this;rwa [bN ab] at this
 .simp only[bY];rw[bN ab];exact hh i hi
@[simp]theorem ZY(h:len+b<=k):pJ ((k,c)::r) b len=pJ r b len:=by
 unfold pJ;refine propext ⟨λhh i hi=>?_,λhh i hi=>?_⟩
 .have:=hh i hi;simp only[bY] at this;rwa [bN ab] at this
 .simp only[bY];rw[bN ab];exact hh i hi
end
def I7(D:List Nat)(h:bz)(n n' b:Nat)(L:List (List AV)):Prop:=∀i,i<L.length->gS D h n n' (i+b) (nth L i)
omit [bE] in
theorem Ha:∀(L:List (List AV))(r:bz)(b:Nat),ji D h n n' (ck r b L)=(I7 D h n n' b L/\pJ r b L.length/\ji D h n n' r)
 |[],r,b=>by
  refine propext ⟨λhh=>⟨λi hi=>by simp at hi,λi hi=>by simp at hi,hh⟩,λhh=>hh.2.2⟩
 |c::L,r,b=>by
  show (gS D h n n' b c/\bY (ck r (b+1) L) b=none/\ji D h n n' (ck r (b+1) L))=_;rw[Ha L r (b+1),Pr (Dh b)];refine propext ⟨λ⟨h1,h2,h3,h4,h5⟩=>⟨λi hi=>?_,λi hi=>?_,h5⟩,λ⟨h1,h2,h3⟩=>⟨?_,?_,λi hi=>?_,λi hi=>?_,h3⟩⟩
  .cases i with
   |zero=>rw[dJ];exact h1
   |succ i=>
    have:=h3 i aM;rw[show i+1+b=i+(b+1) by omega];exact this
  .cases i with
   |zero=>rw[dJ];exact h2
   |succ i=>rw[show i+1+b=i+(b+1) by omega];exact h4 i aM
  .have:=h1 0 ae;rwa [dJ] at this
  .have:=h2 0 ae;rwa [dJ] at this
  .have:=h1 (i+1) aM;rw[show i+1+b=i+(b+1) by omega] at this;exact this
  .have:=h2 (i+1) aM
   rwa [show i+1+b=i+(b+1) by omega] at this
attribute [simp] Ha
def qP(L:List (List AV)):Prop:=∀c∈L,∀D h n n',gF D h n n' c c
section
omit [bE]
@[simp]theorem ZZ{i:Nat}(h:qP L)(h2:∀D h n n',gF D h n n' x x):qP (L.set i x)=True:=eq_true λc hc=>by
 rcases List.mem_or_eq_of_mem_set hc with h1|h1
 .exact h c h1
 .subst h1;exact h2
@[simp]theorem Z0{k:Nat}(h:qP L):qP (L.take k)=True:=eq_true λc hc=>h c (List.mem_of_mem_take hc)
@[simp]theorem Z1(h1:iW h b L)(h2:qP L)(h3:L.length+b<=n')(h4:∀d∈D,d<b):I7 D h n n' b L=True:=eq_true λi hi=>by
 simp only[gS,h1 i hi];refine⟨ab,λhd=>by have:=h4 _ hd;omega,h2 _ ?_ _ _ _ _⟩;simp[nth,dT,dO hi]
end
end
def ms1(b:Nat):List Nat->List AV
 |[]=>[]
 |k::r=>.msl b k 1 0 k::ms1 (b+1) r
section
omit [bE]
@[simp]theorem Z2(b:Nat):ms1 b []=[]:=rfl
@[simp]theorem Pu:∀(ls:List Nat)(b:Nat),(ms1 b ls).length=ls.length
 |[],b=>rfl
 |k::r,b=>by simp[ms1,Pu r]
theorem Hb:∀(ls:List Nat)(b k:Nat),ms1 b (ls++[k])=ms1 b ls++[.msl (ls.length+b) k 1 0 k]
 |[],b,k=>by simp[ms1]
 |a::ls,b,k=>by
  simp only[lP,ms1,Hb ls (b+1) k,fS];rw[show ls.length+(b+1)=ls.length+1+b by omega]
theorem Hc:∀(ls:List Nat)(b i:Nat),(ms1 b ls)[i]?=(ls[i]?).map λk=>AV.msl (i+b) k 1 0 k
 |[],b,i=>by simp
 |a::ls,b,i=>by
  cases i with
  |zero=>simp[ms1]
  |succ i=>
   simp only[ms1,sG];rw[Hc ls (b+1) i,show i+(b+1)=i+1+b by omega]
@[simp]theorem Z3(ls:List Nat)(b i:Nat)(h:i<ls.length):jF (ms1 b ls) i=.msl (i+b) (nth ls i) 1 0 (nth ls i):=by
 simp[jF,nth,dT,Hc,dO h]
theorem Hd:∀(ls:List Nat)(b n:Nat),ls.length+b<=n->AV.lt.ltL n (ms1 b ls)=true
 |[],b,n,_=>rfl
 |k::r,b,n,h=>by
  simp only[fS] at h;simp only[ms1,AV.lt.ltL,AV.lt,fe,decide_eq_true_eq];exact⟨ab,Hd r (b+1) n ab⟩
@[simp]theorem Z4{D:List Nat}{h:bz}{n n' b:Nat}{ls:List Nat}(hl:ls.length+b<=n'):gF D h n n' (ms1 b ls) (ms1 b ls)=True:=eq_true (Be (Hd ls b n' hl))
@[simp]theorem Pv:∀(ls:List Nat)(b n:Nat),AV.sh.shL n (ms1 b ls)=ms1 (b+n) ls
 |[],b,n=>rfl
 |k::r,b,n=>by
  simp only[ms1,Oq,Gk,Pv r (b+1) n];rw[show b+1+n=b+n+1 by omega]
@[simp]theorem Pw:∀(ls:List Nat)(b:Nat),AV.frs.j4 (ms1 b ls)=true
 |[],b=>rfl
 |k::r,b=>by simp[ms1,AV.frs.j4,AV.frs,Pw r]
theorem He{h:bz}{d:Nat}(hd:0<d):∀(L:List (List PV))(b:Nat),iW h b (L.map λc=>c.map (AV.w false false))->(ms1 b (L.map List.length)).mapM (frz h d)=some (L.map λc=>.sl c.length c)
 |[],b,_=>rfl
 |c::L,b,hf=>by
  obtain⟨e,rfl⟩:∃e,d=e+1:=⟨d-1,ab⟩;have h0:=hf 0 ae;rw[dJ] at h0
  have h1:=He hd L (b+1) (λi hi=>by
   have:=hf (i+1) aM;rw[show i+1+b=i+(b+1) by omega] at this
   simpa[nth] using this)
  simp only[jr,ms1,sK,h1]
  have:frz h (e+1) (.msl b c.length 1 0 c.length)=some (.sl c.length c):=by
   simp only[frz,h0];simp[nth,qw]
  rw[this];rfl
theorem Hf{h:bz}{d:Nat}:∀(L:List (List PV))(b:Nat),(∀c∈L,gA c=true)->iW h b (L.map λc=>c.map (AV.w false false))->(ms1 b (L.map List.length)).all (eh h (d+1))=true
 |[],b,_,_=>rfl
 |c::L,b,dg,hf=>by
  have h0:=hf 0 ae;rw[dJ] at h0
  have h1:=Hf (d:=d) L (b+1) (λc hc=>dg c (eY _ hc)) (λi hi=>by
   have:=hf (i+1) aM;rw[show i+1+b=i+(b+1) by omega] at this
   simpa[nth] using this)
  simp only[jr,ms1,De,h1,ia];simp only[eh,h0];simp only[jr,nth,List.getD_cons_zero];exact rz h d false false c (dg c iZ)
@[simp]theorem Z5{α β:Type}[Inhabited α][Inhabited β](f:α->β)(l:List α)(i:Nat)(h:i<l.length):nth (l.map f) i=f (nth l i):=by
 simp[nth,dT,dO h]
@[simp]theorem Z6{α:Type}[Inhabited α](x:α)(k i:Nat)(h:i<k):nth (List.replicate k x) i=x:=by
 simp[nth,dT,List.getElem?_replicate,h]
end
theorem oW{P:Program}{K:Exit->St->Prop}{c:Code}{id:Nat}{env:Env}{h:bz}{n nt:Nat}{α β:Type}(n':α->Nat)(nf:β->Nat)(J:α->Prop)(ks:List Nat)(mods:α->Env)(ec:List Nat)(hm:α->bz)(μ:α->Nat)(F:β->Prop)(fks:List Nat)(fmods:β->Env)(fhks:List Nat)(fhm:β->bz)(x0:α)(hJ:J x0)(h0:Lek fk ⟨env,h,n,nt⟩ ⟨mods x0++fE env ks,hm x0++fX h ec,n' x0,nt⟩)(round:∀x,J x->cK fk P c ⟨mods x++fE env ks,hm x++fX h ec,n' x,nt⟩ (j5 fk J (λx=>⟨mods x++fE env ks,hm x++fX h ec,n' x,nt⟩) μ x (mD fk id F (λy=>⟨fmods y++fE env fks,fhm y++fX h fhks,nf y,nt⟩) K)))(after:∀y,F y->K .normal ⟨fmods y++fE env fks,fhm y++fX h fhks,nf y,nt⟩):cK fk P (.block id (.loop c)) ⟨env,h,n,nt⟩ K:=by
 refine gw (Ba (vH J (λx=>⟨mods x++fE env ks,hm x++fX h ec,n' x,nt⟩) μ x0 hJ h0 round) (λe s hk=>?_))
 cases e<;>first
  |exact hk.elim
  |exact⟨s,Lek.refl s,hk⟩
  |(simp only[mD] at hk
    simp only[iB];split at hk
    .rename_i el;obtain⟨y,hy,hle⟩:=hk;exact⟨_,hle,by rw[cu el];exact after y hy⟩
    .rename_i el
     exact⟨s,Lek.refl s,by rw[bN el];exact hk⟩)
def dI(s:Nat)(h:bz)(n:Nat):List (List AV)->bz
 |[]=>h
 |c::E=>(n,c)::dI s h (n+s) E
section
variable{D:List Nat}{h r q:bz}{n n' b k t len s:Nat}{c x:List AV}{L:List (List AV)}
section
omit [bE]
@[simp]theorem zao(h:bz)(n:Nat):dI s h n []=h:=rfl
theorem Jc:∀(L:List (List AV))(r:bz)(b:Nat)(x:List AV),dI s r b (L++[x])=dI s ((L.length*s+b,x)::r) b L
 |[],r,b,x=>by simp[dI]
 |c::L,r,b,x=>by
  simp only[lP,dI,fS];rw[Jc L r (b+s) x,eU,show L.length*s+(b+s)=L.length*s+1*s+b by omega]
@[simp]theorem PH:∀(L:List (List AV))(r q:bz)(b:Nat),dI s r b L++q=dI s (r++q) b L
 |[],r,q,b=>rfl
 |c::L,r,q,b=>by simp[dI,PH L r q (b+s)]
theorem Hi(hs:0<s):∀{L:List (List AV)}{r:bz}{b i:Nat},i<L.length->bY (dI s r b L) (i*s+b)=some (nth L i)
 |[],r,b,i,h=>by simp at h
 |c::L,r,b,0,h=>by simp[dI,bY,nth]
 |c::L,r,b,i+1,h=>by
  have hp:0<(i+1)*s:=Nat.mul_pos ab hs;simp only[dI,bY];rw[bN ab,show (i+1)*s+b=i*s+(b+s) by rw[eU];omega,Hi hs av];rfl
@[simp]theorem PM{i:Nat}(h:i<L.length)(hs:0<s):bY (dI s r b L) (i*s+b)=some (nth L i):=Hi hs h
@[simp]theorem Hj:∀{L:List (List AV)}{r:bz}{b:Nat},t<b->bY (dI s r b L) t=bY r t
 |[],r,b,_=>rfl
 |c::L,r,b,h=>by
  simp only[dI,bY];rw[bN ab,Hj ab]
@[simp]theorem PN:∀{L:List (List AV)}{r:bz}{b:Nat},L.length*s+b<t+s->bY (dI s r b L) t=bY r t
 |[],r,b,_=>rfl
 |c::L,r,b,h=>by
  rw[fS,eU] at h;simp only[dI,bY];have:0<=L.length*s:=cG _;rw[bN ab,PN ab]
theorem Hk(hs:0<s):∀{L:List (List AV)}{r:bz}{b i:Nat},i<L.length->dm (dI s r b L) (i*s+b) c=dI s r b (L.set i c)
 |[],r,b,i,h=>by simp at h
 |d::L,r,b,0,h=>by simp[dI,dm]
 |d::L,r,b,i+1,h=>by
  have hp:0<(i+1)*s:=Nat.mul_pos ab hs;simp only[dI,dm,Jx];rw[bN ab,show (i+1)*s+b=i*s+(b+s) by rw[eU];omega,Hk hs av]
@[simp]theorem zap{i:Nat}(h:i<L.length)(hs:0<s):dm (dI s r b L) (i*s+b) c=dI s r b (L.set i c):=Hk hs h
@[simp]theorem PQ:∀{L:List (List AV)}{r:bz}{b:Nat},t<b->dm (dI s r b L) t c=dI s (dm r t c) b L
 |[],r,b,_=>rfl
 |d::L,r,b,h=>by
  simp only[dI,dm];rw[bN ab,PQ ab]
end
def jN(s:Nat)(h:bz)(b:Nat)(L:List (List AV)):Prop:=∀i,i<L.length->bY h (i*s+b)=some (nth L i)
section
omit [bE]
@[simp]theorem zaq(hs:0<s):jN s (dI s r b L) b L=True:=eq_true λi hi=>PM hi hs
@[simp]theorem zar(h:k<b):jN s ((k,c)::r) b L=jN s r b L:=by
 unfold jN;refine propext ⟨λhh i hi=>?_,λhh i hi=>?_⟩
 .have:=hh i hi;simp only[bY] at this;rwa [bN ab] at this
 .simp only[bY];rw[bN ab];exact hh i hi
theorem ui{i len s:Nat}(h:i<len):i*s+s<=len*s:=by
 have:(i+1)*s<=len*s:=qT s h;rw[eU] at this;omega
@[simp]theorem zas(h:L.length*s+b<k+s):jN s ((k,c)::r) b L=jN s r b L:=by
 unfold jN;refine propext ⟨λhh i hi=>?_,λhh i hi=>?_⟩
 .have:=hh i hi;have h2:=ui (s:=s) hi;simp only[bY] at this;rwa [bN ab] at this
 .have h2:=ui (s:=s) hi;simp only[bY];rw[bN ab];exact hh i hi
end
def oG(s:Nat)(h:bz)(b len:Nat):Prop:=∀i,i<len->bY h (i*s+b)=none
section
omit [bE]
@[simp]theorem zat:oG s [] b len=True:=eq_true λi hi=>rfl
@[simp]theorem zau(h:k<b):oG s ((k,c)::r) b len=oG s r b len:=by
 unfold oG;refine propext ⟨λhh i hi=>?_,λhh i hi=>?_⟩
 .have:=hh i hi;simp only[bY] at this;rwa [bN ab] at this
 .simp only[bY];rw[bN ab];exact hh i hi
@[simp]theorem zav(h:len*s+b<k+s):oG s ((k,c)::r) b len=oG s r b len:=by
 unfold oG;refine propext ⟨λhh i hi=>?_,λhh i hi=>?_⟩
 .have:=hh i hi;have h2:=ui (s:=s) hi;simp only[bY] at this;rwa [bN ab] at this
 .have h2:=ui (s:=s) hi;simp only[bY];rw[bN ab];exact hh i hi
end
def CM(s:Nat)(D:List Nat)(h:bz)(n n' b:Nat)(L:List (List AV)):Prop:=∀i,i<L.length->gS D h n n' (i*s+b) (nth L i)
section
omit [bE]
theorem Hl(hs:0<s):∀(L:List (List AV))(r:bz)(b:Nat),ji D h n n' (dI s r b L)=(CM s D h n n' b L/\oG s r b L.length/\ji D h n n' r)
 |[],r,b=>by
  refine propext ⟨λhh=>⟨λi hi=>by simp at hi,λi hi=>by simp at hi,hh⟩,λhh=>hh.2.2⟩
 |c::L,r,b=>by
  show (gS D h n n' b c/\bY (dI s r (b+s) L) b=none/\ji D h n n' (dI s r (b+s) L))=_;rw[Hl hs L r (b+s),Hj ab]
  have e:∀i,(i+1)*s+b=i*s+(b+s):=λi=>by rw[eU];omega
  refine propext ⟨λ⟨h1,h2,h3,h4,h5⟩=>⟨λi hi=>?_,λi hi=>?_,h5⟩,λ⟨h1,h2,h3⟩=>⟨?_,?_,λi hi=>?_,λi hi=>?_,h3⟩⟩
  .cases i with
   |zero=>rw[pO,dJ];exact h1
   |succ i=>
    have:=h3 i aM;rw[e];exact this
  .cases i with
   |zero=>rw[pO,dJ];exact h2
   |succ i=>rw[e];exact h4 i aM
  .have:=h1 0 ae;rwa [pO,dJ] at this
  .have:=h2 0 ae;rwa [pO,dJ] at this
  .have:=h1 (i+1) aM;rw[e] at this;exact this
  .have:=h2 (i+1) aM
   rwa [e] at this
@[simp]theorem zaw{s:Nat}:ji D h n n' (dI (s+1) r b L)=(CM (s+1) D h n n' b L/\oG (s+1) r b L.length/\ji D h n n' r):=Hl (Nat.succ_pos s) L r b
@[simp]theorem zax(h1:jN s h b L)(h2:qP L)(h3:L.length*s+b<n'+s)(h4:∀d∈D,d<b):CM s D h n n' b L=True:=eq_true λi hi=>by
 have h5:=ui (s:=s) hi;simp only[gS,h1 i hi];refine⟨ab,λhd=>by have:=h4 _ hd;omega,h2 _ ?_ _ _ _ _⟩;simp[nth,dT,dO hi]
end
end
def msS(s b:Nat):List Nat->List AV
 |[]=>[]
 |k::r=>.msl b k 1 0 k::msS s (b+s) r
section
variable{s:Nat}
section
omit [bE]
@[simp]theorem zay(b:Nat):msS s b []=[]:=rfl
@[simp]theorem PR:∀(ls:List Nat)(b:Nat),(msS s b ls).length=ls.length
 |[],b=>rfl
 |k::r,b=>by simp[msS,PR r]
theorem Hm:∀(ls:List Nat)(b k:Nat),msS s b (ls++[k])=msS s b ls++[.msl (ls.length*s+b) k 1 0 k]
 |[],b,k=>by simp[msS]
 |a::ls,b,k=>by
  simp only[lP,msS,Hm ls (b+s) k,fS];rw[eU,show ls.length*s+(b+s)=ls.length*s+1*s+b by omega]
theorem Hn:∀(ls:List Nat)(b i:Nat),(msS s b ls)[i]?=(ls[i]?).map λk=>AV.msl (i*s+b) k 1 0 k
 |[],b,i=>by simp
 |a::ls,b,i=>by
  cases i with
  |zero=>simp[msS]
  |succ i=>
   simp only[msS,sG];rw[Hn ls (b+s) i,eU,show i*s+(b+s)=i*s+1*s+b by omega]
@[simp]theorem zaz(ls:List Nat)(b i:Nat)(h:i<ls.length):jF (msS s b ls) i=.msl (i*s+b) (nth ls i) 1 0 (nth ls i):=by
 simp[jF,nth,dT,Hn,dO h]
theorem Ho:∀(ls:List Nat)(b n:Nat),ls.length*s+b<n+s->AV.lt.ltL n (msS s b ls)=true
 |[],b,n,_=>rfl
 |k::r,b,n,h=>by
  rw[fS,eU] at h;have:0<=r.length*s:=cG _;simp only[msS,AV.lt.ltL,AV.lt,fe,decide_eq_true_eq];exact⟨ab,Ho r (b+s) n ab⟩
@[simp]theorem za0{D:List Nat}{h:bz}{n n' b:Nat}{ls:List Nat}(hl:ls.length*s+b<n'+s):gF D h n n' (msS s b ls) (msS s b ls)=True:=eq_true (Be (Ho ls b n' hl))
theorem Hq{h:bz}{d:Nat}(hd:0<d):∀(L:List (List PV))(b:Nat),jN s h b (L.map λc=>c.map (AV.w false false))->(msS s b (L.map List.length)).mapM (frz h d)=some (L.map λc=>.sl c.length c)
 |[],b,_=>rfl
 |c::L,b,hf=>by
  obtain⟨e,rfl⟩:∃e,d=e+1:=⟨d-1,ab⟩;have h0:=hf 0 ae;rw[pO,dJ] at h0
  have h1:=Hq hd L (b+s) (λi hi=>by
   have:=hf (i+1) aM;rw[eU,show i*s+1*s+b=i*s+(b+s) by omega] at this
   simpa[nth] using this)
  simp only[jr,msS,sK,h1]
  have:frz h (e+1) (.msl b c.length 1 0 c.length)=some (.sl c.length c):=by
   simp only[frz,h0];simp[nth,qw]
  rw[this];rfl
theorem Hr{h:bz}{d:Nat}:∀(L:List (List PV))(b:Nat),(∀c∈L,gA c=true)->jN s h b (L.map λc=>c.map (AV.w false false))->(msS s b (L.map List.length)).all (eh h (d+1))=true
 |[],b,_,_=>rfl
 |c::L,b,dg,hf=>by
  have h0:=hf 0 ae;rw[pO,dJ] at h0
  have h1:=Hr (d:=d) L (b+s) (λc hc=>dg c (eY _ hc)) (λi hi=>by
   have:=hf (i+1) aM;rw[eU,show i*s+1*s+b=i*s+(b+s) by omega] at this
   simpa[nth] using this)
  simp only[jr,msS,De,h1,ia];simp only[eh,h0];simp only[jr,nth,List.getD_cons_zero];exact rz h d false false c (dg c iZ)
end
end
end Go.Fi
namespace Go.Fi
open Go Go.RowKit
variable[bE]
section
variable{fk:Fk}{P:Program}{K:Exit->St->Prop}{st:St}{c:Code}
def mM(R:St->Prop)(K:Exit->St->Prop):Exit->St->Prop
 |.normal,s=>R s
 |e,s=>K e s
def unr(fk:Fk)(P:Program)(c:Code)(K:Exit->St->Prop):Nat->St->Prop
 |0,_=>False
 |n+1,s=>cK fk P c s (mM (unr fk P c K n) K)
theorem jB(n:Nat)(h:unr fk P c K n st):cK fk P (.loop c) st K:=by
 refine vH (λx:Nat×St=>unr fk P c K x.1 x.2) (·.2) (·.1) (n,st) h (λB w0 a w m hs=>⟨m,hs⟩) ?_
 rintro⟨k,s⟩ hk
 cases k with
 |zero=>exact hk.elim
 |succ k=>
  refine tA hk (λe s' h'=>?_)
  cases e<;>first|exact h'|exact⟨(k,s'),h',Dh k,λB w0 a w m hs=>⟨m,hs⟩⟩
theorem jO{n:Nat}(h:cK fk P c st (mM (unr fk P c K n) K)):unr fk P c K (n+1) st:=h
section
omit [bE]
@[simp ↓]theorem za1(R:St->Prop)(s:St):mM R K .normal s=R s:=rfl
@[simp ↓]theorem za2(R:St->Prop)(s:St):mM R K .ret s=K .ret s:=rfl
@[simp ↓]theorem za3(R:St->Prop)(i:Nat)(s:St):mM R K (.exit i) s=K (.exit i) s:=rfl
@[congr] theorem za4{R:St->Prop}{K:Exit->St->Prop}{e e':Exit}{s s':St}(h:e=e')(h2:s=s'):mM R K e s=mM R K e' s':=by rw[h,h2]
end
@[congr] theorem za5{n:Nat}{s s':St}(h:s=s'):unr fk P c K n s=unr fk P c K n s':=by rw[h]
omit [bE] in
theorem fR{k:IntKind}{n:Int}(h:(decide (k.min<=n)&&decide (n<=k.max))=true):inI k n:=by simpa[inI] using h
theorem Bv{env:Env}{h:bz}{n nt:Nat}:Lek fk ⟨env,h,n,nt⟩ ⟨[],h,n,nt⟩:=
 λB w0 a w m hs=>⟨m,hs.base,hs.below,hs.defers,hs.size,λt=>.w (.undef _) nofun,hs.heap,hs.dom,hs.ids,hs.fr⟩
theorem Ht{k:Nat}{K:bz->Nat->Prop}{env:Env}{h:bz}{n nt:Nat}(hk:K h n):sw k K .normal ⟨env,h,n,nt⟩:=Po h n nt Bv hk
theorem PS{k:Nat}{K Kl:bz->Nat->Prop}{env:Env}{h:bz}{n nt:Nat}(hk:K h n):pH k K Kl .normal ⟨env,h,n,nt⟩:=OF h n nt Bv hk
theorem PT{k:Nat}{K Kl:bz->Nat->Prop}{env:Env}{h:bz}{n nt:Nat}(hk:Kl h n):pH k K Kl .ret ⟨env,h,n,nt⟩:=OG h n nt Bv hk
end
section
variable{fk:Fk}{P:Program}{K Kd:Exit->St->Prop}{st:St}{c x y:Code}{k:Nat}{ri:RI}{v:Operand}{o f:Bool}
def qR(fk:Fk)(P:Program)(c:Code)(K:Exit->St->Prop):Nat->St->Prop
 |0,_=>False
 |n+1,s=>fN fk P c s (mM (qR fk P c K n) K)
theorem HC(n:Nat)(h:qR fk P c K n st):fN fk P (.loop c) st K:=by
 refine Qg (λx:Nat×St=>qR fk P c K x.1 x.2) (·.2) (·.1) (n,st) h (λB w0 a w m hs=>⟨m,hs⟩) ?_
 rintro⟨k,s⟩ hk
 cases k with
 |zero=>exact hk.elim
 |succ k=>
  refine OJ hk (λe s' h'=>?_)
  cases e<;>first|exact h'|exact⟨(k,s'),h',Dh k,λB w0 a w m hs=>⟨m,hs⟩⟩
theorem HD{n:Nat}(h:fN fk P c st (mM (qR fk P c K n) K)):qR fk P c K (n+1) st:=h
@[congr] theorem zbk{n:Nat}{s s':St}(h:s=s'):qR fk P c K n s=qR fk P c K n s':=by rw[h]
theorem HF(hv:ev st.env v=.w o f (.bool true))(h:fN fk P x st K):fN fk P (.cond v x y) st K:=HB hv h
theorem HG(hv:ev st.env v=.w o f (.bool false))(h:fN fk P y st K):fN fk P (.cond v x y) st K:=HB hv h
def qS(k:Nat)(ri:RI)(P:Program)(c:Code)(K Kd:Exit->St->Prop):Nat->St->Prop
 |0,_=>False
 |n+1,s=>fF k ri P c s (mM (qS k ri P c K Kd n) K) (qQ Kd)
theorem Qh(n:Nat)(h:qS k ri P c K Kd n st):fF k ri P (.loop c) st K Kd:=by
 refine P9 (λx:Nat×St=>qS k ri P c K Kd x.1 x.2) (·.2) (·.1) (n,st) h (λB w0 a w m hs=>⟨m,hs⟩) ?_
 rintro⟨j,s⟩ hk B w0 a w m hs
 cases j with
 |zero=>exact hk.elim
 |succ j=>
  refine eT (hk B w0 a w m hs) (λe a' w' hq=>?_)
  rcases hq with ⟨st',m',h1,h2⟩|h
  .refine .inl ⟨st',m',?_,h2⟩
   cases e<;>first|exact h1|exact⟨(j,st'),h1,Dh j,λB w0 a w m hs=>⟨m,hs⟩⟩
  grind
theorem Qi{n:Nat}(h:fF k ri P c st (mM (qS k ri P c K Kd n) K) (qQ Kd)):qS k ri P c K Kd (n+1) st:=h
@[congr] theorem zbl{n:Nat}{s s':St}(h:s=s'):qS k ri P c K Kd n s=qS k ri P c K Kd n s':=by rw[h]
theorem Qj(hv:ev st.env v=.w o f (.bool true))(h:fF k ri P x st K Kd):fF k ri P (.cond v x y) st K Kd:=HA hv h
theorem Qk(hv:ev st.env v=.w o f (.bool false))(h:fF k ri P y st K Kd):fF k ri P (.cond v x y) st K Kd:=HA hv h
end
end Go.Fi
