/- Lemmas. -/
import Derived.Test.YthpkmilhiganjaaGreatPLf
import Derived.Test.YthpkmilhiganjaaGreatPLd
set_option linter.all false
set_option maxHeartbeats 32000000
set_option maxRecDepth 100000
namespace Go.Fi
open Go Go.RowKit
variable[av]
variable{fk:Fk}
def dR:Nat->List AV->Env
 |_,[]=>[]
 |i,v::r=>(i,v)::dR (i+1) r
section
omit [av]
@[simp]theorem Yg(i:Nat):dR i []=[]:=rfl
@[simp]theorem Yh(i:Nat)(v:AV)(r:List AV):dR i (v::r)=(i,v)::dR (i+1) r:=rfl
theorem Bj:∀(l:List AV)(i t:Nat),get (dR i l) t=if i<=t/\t<i+l.length then l.getD (t-i) (.w false false .undef) else .w false false .undef
 |[],i,t=>by simp
 |p::r,i,t=>by
  simp only[dR,get];by_cases h:i=t
  .subst h;simp
  .simp only[h,a9];rw[Bj r (i+1) t]
   grind
end
def dC(P:Program)(rs:List ResultVar)(st:St)(K:AV->ak->Nat->Prop):Prop:=
 match eX P st.env st.heap rs with
 |some (vs,c)=>c/\K (oneOf vs) st.heap st.nxt
 |none=>False
def fp(P:Program)(rs:List ResultVar)(K:AV->ak->Nat->Prop):Exit->St->Prop
 |.normal,s=>dC P rs s K
 |.ret,s=>dC P rs s K
 |_,_=>False
omit [av] in
@[simp ↓]theorem Yi(P:Program)(rs:List ResultVar)(K:AV->ak->Nat->Prop)(s:St):fp P rs K .normal s=dC P rs s K:=rfl
omit [av] in
@[simp ↓]theorem Yj(P:Program)(rs:List ResultVar)(K:AV->ak->Nat->Prop)(s:St):fp P rs K .ret s=dC P rs s K:=rfl
section
variable{P:Program}{B:Base}{m:Mm}{w:World}{h:ak}{n:Nat}{env:Env}{a:Act}{L:Nat->Prop}
section
omit [av]
theorem wZ{n:Nat}:∀{cs:List AV},(∀(j:Nat)(x:AV),cs[j]?=some x->x.lt n=true)->AV.lt.ltL n cs=true
 |[],_=>rfl
 |x::r,h=>by
  simp only[AV.lt.ltL,bU];exact⟨h 0 x rfl,wZ λj y hy=>h (j+1) y (by grind)⟩
theorem aA.CJ{x:AV}{v:Value}(h:aA B L m w x v)(hd:∀i,m.dom i->i<n):x.lt n=true:=by
 induction h with
 |w _ _=>rfl
 |ptr c7 _ _ _=>simp_all
 |mp c7 _ _=>simp_all
 |msl c7 _ _ _ _=>simp_all
 |@agg cs vs hl _ ih=>
  simp only[AV.lt]
  refine wZ λj y hy=>?_
  have hj:j<vs.size:=by have:=(dM.1 hy).1;omega
  exact ih j y _ hy (cJ hj)
 |@tup cs vs hl _ ih=>
  simp only[AV.lt]
  refine wZ λj y hy=>?_
  have hj:j<vs.size:=by have:=(dM.1 hy).1;omega
  exact ih j y _ hy (cJ hj)
 |@fn f cs vs hl _ ih=>
  simp only[AV.lt]
  refine wZ λj y hy=>?_
  have hj:j<vs.size:=by have:=(dM.1 hy).1;omega
  exact ih j y _ hy (cJ hj)
theorem tW:∀(env:Env)(t:Nat),(∃v,(t,v)∈env)\/get env t=.w false false .undef
 |[],_=>.inr rfl
 |(k,v)::r,t=>by
  simp only[get];by_cases h:k=t
  .simp_all
  .rcases tW r t with ⟨u,hu⟩|hu
   .exact .inl ⟨u,dm _ hu⟩
   simp_all
end
def xL(P:Program)(B:Base){fk:Fk}(w0:Ctx fk)(env:Env)(a:Act)(n nt:Nat)(o:Oper)(fn:Func)(K':Act->World->Prop)(e:Exit)(a':Act)(w':World):Prop:=
 (e=.normal\/e=.ret)/\∃(az fk2:Fk)(w1:Ctx az)(w2:Ctx fk2)(st':St)(m':Mm)(KV:AV->ak->Nat->Prop),az.k=n/\fk2.k=fk.k/\w1.w=w0.w/\w1.F=w0.F++(env.map λp=>(get env p.1,a.tmps.getD p.1 undef))/\w1.ds=[] /\
  w2.w=w0.w/\w2.F=w0.F/\w2.ds=w0.ds/\(∀q∈w2.obs,q∈w1.obs)/\Sim B w1 st' a' w' m'/\dC P fn.results.toList st' KV/\∀v h' n' a' w' m',KV v h' n'->Sim B w2 ⟨put env o.dst v,h',n',nt⟩ a' w' m'->K' a' w'
theorem Gw{w0:Ctx fk}{nt:Nat}(o:Oper)(f:Operand)(args:Array Operand)(tys:Array TypeId)(ho:o.op=.call { callee:=.value f,args:=args,argTypes:=tys }){g:FuncId}{aH:List AV}(hf:fo (ev env f)=some (g,aH)){fn:Func}{c:Code}(al:P.funcs[g]?=some fn) (h9:(fn.name == "runtime.NumGoroutine")=false) (hb:fn.body=some c) (au:(args.toList.map (ev env)++aH).length<=fn.ntmps) (r:Option RI) (er:∀ri,r=some ri->fk.ri=some ri) (Q:Exit->Act->World->Prop) (K':Act->World->Prop) (hw:∀(w1:Ctx ⟨n,r⟩)(a1:Act),w1.w=w0.w->w1.F=w0.F++(env.map λp=>(get env p.1,a.tmps.getD p.1 undef))->w1.r=none->w1.obs=w0.obs->w1.ds=[]->Sim B w1 ⟨dR 0 (args.toList.map (ev env)++aH),h,n,fn.ntmps⟩ a1 w m->c.wpT none P (xL P B w0 env a n nt o fn K') a1 w) (hs:Sim B w0 ⟨env,h,n,nt⟩ a w m) (a8:dOk nt o.dst):o.wpt P a w K' Q:=by
 have f7:∀x:Operand,aA B (LB m h) m w (ev env x) (a.eval x):=λx=>lQ x (λt _=>hs.env t)
 have bc:=f7 f
 have eb:∃cv:Array Value,a.eval f=.func (.func g) #[] cv/\aH.length=cv.size/\∀(j:Nat)(p:AV)(v:Value),aH[j]?=some p->cv[j]?=some v->aA B (LB m h) m w p v:=by
  unfold fo at hf;split at hf
  .rename_i g' bg e
   injection hf with hf;injection hf with h1 h2;subst h1;subst h2
   rw[e] at bc;generalize hv:a.eval f=vf at bc
   cases bc with|fn h1 h2=>grind
  .rename_i own f' g' bg e
   injection hf with hf;injection hf with h1 h2;subst h1;subst h2
   rw[e] at bc;generalize hv:a.eval f=vf at bc
   cases bc with
   |w h1 _=>
    cases h1 with
    |fn h1 h2=>
     refine⟨_,rfl,by grind,λj p v hp hv=>?_⟩;obtain⟨q,hq,rfl⟩:=fP hp;exact .w (h2 j q v hq hv) nofun
  .cases hf
 obtain⟨cv,d',bi,fz⟩:=eb
 have cy:∀(j:Nat)(x:AV)(v:Value),(args.toList.map (ev env)++aH)[j]?=some x->(args.map a.eval++cv)[j]?=some v->aA B (LB m h) m w x v:=by
  grind
 have hlen:(args.toList.map (ev env)++aH).length=(args.map a.eval++cv).size:=by simp[bi]
 generalize ew:args.map a.eval++cv=vs at cy hlen;generalize fv:args.toList.map (ev env)++aH=avs at cy hlen au hw
 have aj:(execOp a.eval o).run P w=.ok (.enter g vs) w:=by
  have ef:¬fn.name = "runtime.NumGoroutine" := by simp_all
  simp[execOp,ho,resolve,d',Deferred.ofValue,invoke,callFunc,al,ef,hb,<-ew]
 unfold Oper.wpt;rw[aj,Oper.BE]
 have bj:∀i,m.dom i->i<n:=λi hd=>(hs.dom i).1 hd
 refine u6 al hb ?_
 have a5:Sim B (⟨w0.w,w0.F++env.map λp=>(get env p.1,a.tmps.getD p.1 undef),none,w0.obs,[],λri h=>(let ⟨fn,T,D,h1,h2,h3⟩:=w0.bJ ri (er ri h);⟨fn,T,D,h1,h2,λt v ht=>iR.2 (.inl (h3 t v ht))⟩),w0.ok⟩:Ctx ⟨n,r⟩) ⟨dR 0 avs,h,n,fn.ntmps⟩ { tmps:=vs++Array.replicate (fn.ntmps-vs.size) undef,defers:=[] } w m:=by
  refine⟨hs.base,hs.below,rfl,by simp;omega,λt=>?_,hs.heap,hs.dom,hs.ids,aE _,λp hp=>?_,hs.fr.2.2⟩
  .show aA _ _ _ _ (get (dR 0 avs) t) _;rw[Bj];split
   .rename_i ht
    have aq:t<avs.length:=by omega
    have:(vs++Array.replicate (fn.ntmps-vs.size) undef).getD t undef=vs[t]'(by omega):=by
     rw[ck,sS (by omega),cJ (by omega)];rfl
    rw[this];exact cy t _ _ (by simp_all) (cJ (by omega))
   .exact .w (.undef _) nofun
  .rcases iR.1 hp with hp|hp
   .exact⟨AV.rO hs.fr.1 (hs.fr.2.1 p hp).1,(hs.fr.2.1 p hp).2⟩
   .obtain⟨q,_,rfl⟩:=dW.1 hp;exact⟨(hs.env q.1).CJ bj,hs.env q.1⟩
 have main:∀{az fk2:Fk}(w1:Ctx az)(w2:Ctx fk2)(st':St)(a':Act)(w':World)(m':Mm)(KV:AV->ak->Nat->Prop),az.k=n->fk2.k=fk.k->w1.w=w0.w->w1.F=w0.F++(env.map λp=>(get env p.1,a.tmps.getD p.1 undef))->w1.ds=[] ->
  w2.w=w0.w->w2.F=w0.F->w2.ds=w0.ds->(∀q∈w2.obs,q∈w1.obs)->Sim B w1 st' a' w' m'->dC P fn.results.toList st' KV ->
  (∀v h' n' a' w' m',KV v h' n'->Sim B w2 ⟨put env o.dst v,h',n',nt⟩ a' w' m'->K' a' w') ->
  a'.defers=[]/\∀w1,EnvD.E w' w1->∃v,(results fn a'.tmps).run P w1=.ok v w1/\K' (a.put o.dst v) w1:=by
  intro az fk2 w1 w2 st' a' w' m' KV d4 q1 dx hF1 c2 q2 q3 q4 q5 h8 hr hKK;refine⟨by have:=h8.defers;rw[c2] at this;exact this,λw' e1=>?_⟩;replace h8:=h8.move e1;unfold dC at hr;split at hr
  .rename_i ay d b6;obtain⟨hd,ao⟩:=hr;obtain⟨us,h1,h2,h3⟩:=rp h8 _ _ _ b6 hd
   have aj:(results fn a'.tmps).run P w'=.ok (if h:us.toArray.size=1 then us.toArray[0] else .tuple us.toArray) w':=by
    have he:results fn a'.tmps=(do
     let vs <-fn.results.mapM (pD a'.tmps)
     pure (if h:vs.size=1 then vs[0] else .tuple vs)):=rfl
    rw[he,sK];simp only[Sem.run_bind,Sem.run_map,h1,Result.andThen_ok,Sem.run_pure]
   have bo:aA B (LB m' st'.heap) m' w' (oneOf ay) (if h:us.toArray.size=1 then us.toArray[0] else .tuple us.toArray):=by
    have tupc:ay.length≠1->aA B (LB m' st'.heap) m' w' (.tup ay) (if h:us.toArray.size=1 then us.toArray[0] else .tuple us.toArray):=by
     intro ax;rw[dif_neg (by simp;omega)];exact .tup (by simpa using h2) (λj p u hp hu=>h3 j p u hp (by simpa using hu))
    match ay,h2,h3,tupc with
    |[],h2,h3,tupc=>exact tupc (by simp)
    |[v],h2,h3,tupc=>
     obtain⟨u,rfl⟩:∃u,us=[u]:=Dg.1 (by simpa using h2.symm);exact h3 0 v u rfl rfl
    |v::v2::r,h2,h3,tupc=>exact tupc (by simp)
   refine⟨_,aj,?_⟩;have c8:=h8.fr.2.1
   have hold:∀t,aA B (LB m' st'.heap) m' w' (get env t) (a.tmps.getD t undef):=by
    intro t
    rcases tW env t with ⟨v,hv⟩|hu
    .exact (c8 (get env t,a.tmps.getD t undef) (by rw[hF1];exact iR.2 (.inr (dW.2 ⟨(t,v),hv,rfl⟩)))).2
    .rw[hu];exact .w (.undef _) nofun
   refine hKK (oneOf ay) st'.heap st'.nxt _ _ m' ao ⟨(by rw[q2,<-dx];exact h8.base),(by rw[q2,<-dx];exact h8.below),(by rw[jQ,q4];exact hs.defers),(by rw[jP];exact hs.size),?_,h8.heap,h8.dom,h8.ids,?_,λp hp=>?_,λq hq=>h8.fr.2.2 q (q5 q hq)⟩
   .exact na env a o.dst _ _ (by rw[hs.size];exact a8) bo hold
   .have h1:=hs.fr.1;have h2:=h8.fr.1;rw[d4] at h2;rw[q1];exact bN h1 h2
   .rw[q3] at hp;exact⟨by rw[q1];exact (hs.fr.2.1 p hp).1,(c8 p (by rw[hF1];exact iR.2 (.inl hp))).2⟩
  trivial
 refine dH (hw _ _ rfl rfl rfl rfl rfl a5) (λe a' w' hq=>?_);obtain⟨he,az,fk2,w1,w2,st',m',KV,q1,q2,q3,q4,q5,q6,q7,q8,q9,h8,hr,hK⟩:=hq;have fin:=main w1 w2 st' a' w' m' KV q1 q2 q3 q4 q5 q6 q7 q8 q9 h8 hr hK
 rcases he with rfl|rfl
 .exact fin
 .exact fin
theorem Gx{w0:Ctx fk}{nt:Nat}(o:Oper)(f:Operand)(args:Array Operand)(tys:Array TypeId)(ho:o.op=.call { callee:=.value f,args:=args,argTypes:=tys }){g:FuncId}{aH:List AV}(hf:fo (ev env f)=some (g,aH)){fn:Func}{c:Code}(al:P.funcs[g]?=some fn) (h9:(fn.name == "runtime.NumGoroutine")=false) (hb:fn.body=some c) (au:(args.toList.map (ev env)++aH).length<=fn.ntmps) (r:Option RI) (er:∀ri,r=some ri->fk.ri=some ri) {Kv:AV->ak->Nat->Prop} (hw:bm ⟨n,r⟩ P c ⟨dR 0 (args.toList.map (ev env)++aH),h,n,fn.ntmps⟩ (fp P fn.results.toList Kv)) (hs:Sim B w0 ⟨env,h,n,nt⟩ a w m) (a8:dOk nt o.dst) (Q:Exit->Act->World->Prop) (K':Act->World->Prop) (hK:∀v h' n' a' w' m',Kv v h' n'->Sim B w0 ⟨put env o.dst v,h',n',nt⟩ a' w' m'->K' a' w'):o.wpt P a w K' Q:=
 Gw o f args tys ho hf al h9 hb au r er Q K' (λw1 a1 e1 e2 e3 e4 e5 b7=>dH (e3▸hw B w1 a1 w m b7) (λe a' w' ⟨st',m',hk,h8⟩=>by
  have fin:∀e:Exit,(e=.normal\/e=.ret)->dC P fn.results.toList st' Kv->xL P B w0 env a n nt o fn K' e a' w':=λe he hk=>
   ⟨he,_,_,w1,w0,st',m',Kv,rfl,rfl,e1,e2,e5,rfl,rfl,rfl,λq hq=>e4▸hq,h8,hk,hK⟩
  cases e with
  |normal=>simp_all
  |ret=>simp_all
  |_=>exact hk.elim)) hs a8
end
section
variable{P:Program}{B:Base}{m:Mm}{w w':World}{h:ak}{n:Nat}{env:Env}{a:Act}{L:Nat->Prop}
section
omit [av]
theorem Rep.mR{G:Nat->Prop}{p:PV}{v:Value}(hc:∀a v,w.cell? a=some v->w'.cell? a=some v)(h:Rep G w p v):Rep G w' p v:=by
 induction h with
 |undef v=>exact .undef v
 |ja b=>exact .ja b
 |bool b=>exact .bool b
 |int k n=>exact .int k n
 |str s=>exact .str s
 |agg hl _ ih=>exact .agg hl ih
 |tup hl _ ih=>exact .tup hl ih
 |slnil=>exact .slnil
 |sl vals hn e9 hg hr ih=>exact .sl vals hn (λj hj=>hc _ _ (e9 j hj)) hg ih
 |slz hn=>exact .slz hn
 |ip vals e9 hg hr ih=>exact .ip vals (λj hj=>hc _ _ (e9 j hj)) hg ih
 |fQ=>exact .fQ
 |jX=>exact .jX
 |ifc _ ih=>exact .ifc ih
 |fn hl _ ih=>exact .fn hl ih
 |yl l=>exact .yl l
theorem aA.mR{x:AV}{v:Value}(hc:∀a v,w.cell? a=some v->w'.cell? a=some v)(h:aA B L m w x v):aA B L m w' x v:=by
 induction h with
 |w hr hf=>exact .w (hr.mR hc) hf
 |ptr hd ht ha hC=>exact .ptr hd ht ha hC
 |mp hd ht ha=>exact .mp hd ht ha
 |msl hd ht hn h0 h1=>exact .msl hd ht hn h0 h1
 |agg hl _ ih=>exact .agg hl ih
 |tup hl _ ih=>exact .tup hl ih
 |fn hl _ ih=>exact .fn hl ih
theorem w9{l:Nat}{o o':Obj}(hl:w.heap[l]?=some o)(ho:o.isCells=false)(ad:Addr)(v:Value)(hc:w.cell? ad=some v):(w.putObj l o').cell? ad=some v:=by
 by_cases e:ad.block=l
 .unfold World.cell? at hc;rw[e,hl] at hc
  cases o<;>simp_all[Obj.isCells]
 .rw[<-hc];exact World.cell?_of_block (World.putObj_heap_other e)
theorem N8{k l:Nat}{o o':Obj}(hl:w.heap[l]?=some o)(hk:k<=l):Bel k w (w.putObj l o'):=
 ⟨rfl,rfl,by simp,λi hi=>World.putObj_heap_other (by omega)⟩
end
theorem Sim.put{az:Fk}{w0:Ctx fk}{w1:Ctx az}{st:St}{l:Nat}{o o':Obj}(hs:Sim B w0 st a w m)(hl:w.heap[l]?=some o)(ho:o.isCells=false)(gu:∀es clk,o≠.map es clk)(hB:B.n<=l)(hw:w1.w=w0.w){a':Act}(ht:a'.tmps=a.tmps)(hd:a'.defers=marks w1.ds)(c8:pb B w1 (LB m st.heap) m (w.putObj l o') st.nxt):Sim B w1 st a' (w.putObj l o') m:=by
 have hc:∀ad v,w.cell? ad=some v->(w.putObj l o').cell? ad=some v:=λad v h=>w9 hl ho ad v h
 refine⟨by rw[hw];exact hs.base,by rw[hw];exact hs.below.trans (N8 hl hB),hd,by rw[ht];exact hs.size,λt=>by rw[ht];exact (hs.env t).mR hc,⟨λid c hin g6=>?_,hs.heap.inj⟩,hs.dom,hs.ids,c8⟩;obtain⟨h1,h2⟩:=hs.heap.entry id c hin g6;refine⟨h1,?_⟩
 rcases h2 with h2|⟨b,C,cs,e,e1,e2,e3,e4,e5,e6⟩|⟨b,es,clk,e1,e2,e3,e4,e5⟩
 .exact .inl h2
 .refine .inr (.inl ⟨b,C,cs,e,e1,?_,e3,e4,e5,λj p v hp hv=>(e6 j p v hp hv).mR hc⟩);rw[<-e2];refine World.putObj_heap_other (λbv=>?_);subst bv;rw[hl] at e2;cases e2;cases ho
 .refine .inr (.inr ⟨b,es,clk,e1,e2,?_,e4,e5⟩);rw[<-e3];refine World.putObj_heap_other (λbv=>?_);simp_all
theorem Sim.lay{az:Fk}{w0:Ctx fk}{w1:Ctx az}{st:St}(o:Obj)(hs:Sim B w0 st a w m)(hw:w1.w=w0.w){a':Act}(ht:a'.tmps=a.tmps)(hd:a'.defers=marks w1.ds)(c8:pb B w1 (LB m st.heap) m (w.alloc o) st.nxt):Sim B w1 st a' (w.alloc o) m:=by
 have hb:Bel w.heap.size w (w.alloc o):=(Bel.refl _ w).alloc (aE _) o;exact⟨by rw[hw];exact hs.base,by rw[hw];exact hs.below.trans (hb.mono hs.room),hd,by rw[ht];exact hs.size,λt=>by rw[ht];exact (hs.env t).mono (Mm.le.refl m) (λ_ _ h=>h) (λb cj _=>hb.block b cj),hs.heap.below hb,hs.dom,hs.ids,c8⟩
end
def mT(env:Env):List Nat->List AV->Env
 |t::ts,v::vs=>mT ((t,v)::env) ts vs
 |_,_=>env
omit [av] in
@[simp]theorem Yk(env:Env)(vs:List AV):mT env [] vs=env:=by cases vs<;>rfl
omit [av] in
@[simp]theorem N9(env:Env)(t:Nat)(ts:List Nat)(v:AV)(vs:List AV):mT env (t::ts) (v::vs)=mT ((t,v)::env) ts vs:=rfl
def su(k:Nat)(K:ak->Nat->Prop):Exit->St->Prop
 |.normal,s=>∃h' n' ag,Lek ⟨k,none⟩ s ⟨[],h',n',ag⟩/\K h' n'
 |_,_=>False
def uE(P:Program)(k:Nat)(body:Code)(K:ak->Nat->Prop):Exit->St->Prop
 |.normal,s=>bm ⟨k,none⟩ P body s (su k K)
 |_,_=>False
def Round(P:Program)(ri:RI)(avs:List AV)(h:ak)(n:Nat)(K:ak->Nat->Prop):Prop:=
 avs.length=ri.ps.size/\(∀t∈ri.ps,t<ri.nt)/\bm ⟨n,none⟩ P ri.assign ⟨mT ri.env ri.ps.toList avs,h,n,ri.nt⟩ (uE P n ri.body K)
def qP{k:Nat}{ri:RI}(w0:Ctx ⟨k,some ri⟩)(w1:Ctx ⟨k,none⟩):Prop:=
 w1.w=w0.w/\w1.F=w0.F/\w1.r=w0.r/\w1.ds=w0.ds/\(∃fn T D,(ri.l,bJ ri fn T D .done (some .ret))∈w1.obs)/\∀q∈w0.obs,q.1≠ri.l->q∈w1.obs
def pG(k:Nat)(K Kl:ak->Nat->Prop):Exit->St->Prop
 |.normal,s=>∃h' n' ag,Lek ⟨k,none⟩ s ⟨[],h',n',ag⟩/\K h' n'
 |.ret,s=>∃h' n' ag,Lek ⟨k,none⟩ s ⟨[],h',n',ag⟩/\Kl h' n'
 |_,_=>False
def uG(P:Program)(k:Nat)(body:Code)(K Kl:ak->Nat->Prop):Exit->St->Prop
 |.normal,s=>bm ⟨k,none⟩ P body s (pG k K Kl)
 |_,_=>False
def CL(P:Program)(ri:RI)(avs:List AV)(h:ak)(n:Nat)(K Kl:ak->Nat->Prop):Prop:=
 avs.length=ri.ps.size/\(∀t∈ri.ps,t<ri.nt)/\bm ⟨n,none⟩ P ri.assign ⟨mT ri.env ri.ps.toList avs,h,n,ri.nt⟩ (uG P n ri.body K Kl)
@[simp ↓]theorem Yl(P:Program)(k:Nat)(body:Code)(K Kl:ak->Nat->Prop)(s:St):uG P k body K Kl .normal s=bm ⟨k,none⟩ P body s (pG k K Kl):=rfl
@[congr] theorem Ym{k:Nat}{K Kl:ak->Nat->Prop}{e e':Exit}{s s':St}(h1:e=e')(h2:s=s'):pG k K Kl e s=pG k K Kl e' s':=by rw[h1,h2]
@[congr] theorem Yn{P:Program}{k:Nat}{body:Code}{K Kl:ak->Nat->Prop}{e e':Exit}{s s':St}(h1:e=e')(h2:s=s'):uG P k body K Kl e s=uG P k body K Kl e' s':=by rw[h1,h2]
theorem Gy{k:Nat}{K Kl:ak->Nat->Prop}{s:St}(h':ak)(n':Nat)(ag:Nat)(hle:Lek ⟨k,none⟩ s ⟨[],h',n',ag⟩)(hk:K h' n'):pG k K Kl .normal s:=⟨h',n',ag,hle,hk⟩
theorem Gz{k:Nat}{K Kl:ak->Nat->Prop}{s:St}(h':ak)(n':Nat)(ag:Nat)(hle:Lek ⟨k,none⟩ s ⟨[],h',n',ag⟩)(hk:Kl h' n'):pG k K Kl .ret s:=⟨h',n',ag,hle,hk⟩
section
variable{P:Program}{B:Base}{m:Mm}{w:World}{h:ak}{n:Nat}{env:Env}{a:Act}{L:Nat->Prop}
section
omit [av]
theorem GA:∀(ps:List Nat)(avs:List AV)(vals:List Value)(e:Env)(T:Array Value),ps.length=avs.length->avs.length=vals.length->(∀t∈ps,t<T.size)->(∀(j:Nat)(x:AV)(v:Value),avs[j]?=some x->vals[j]?=some v->aA B L m w x v)->(∀t,aA B L m w (get e t) (T.getD t undef))->((ps.zip vals).foldl (λtmps (p:Nat×Value)=>tmps.setIfInBounds p.1 p.2) T).size=T.size/\∀t,aA B L m w (get (mT e ps avs) t) (((ps.zip vals).foldl (λtmps (p:Nat×Value)=>tmps.setIfInBounds p.1 p.2) T).getD t undef)
 |[],[],[],e,T,_,_,_,_,he=>⟨rfl,by simpa using he⟩
 |p::ps,x::avs,v::vals,e,T,h1,h2,aq,hr,he=>by
  simp only[List.zip_cons_cons,Da,N9];have hp:=aq p (by simp);have:=GA ps avs vals ((p,x)::e) (T.setIfInBounds p v) (by grind) (by grind) (λt ht=>by simp_all) (λj y u hy hu=>hr (j+1) y u (by grind) (by grind)) (λt=>?_)
  .simp_all
  .simp only[get];rw[ck,iH];by_cases gh:p=t
   .subst gh;simp only[aX];rw[aB hp];exact hr 0 x v rfl rfl
   simp_all
 |[],_::_,_,_,_,h1,_,_,_,_=>by cases h1
 |_::_,[],_,_,_,h1,_,_,_,_=>by cases h1
 |[],[],_::_,_,_,_,h2,_,_,_=>by cases h2
 |_::_,_::_,[],_,_,_,h2,_,_,_=>by cases h2
theorem aA.Sg{o f:Bool}{l:Nat}{v:Value}(h:aA B L m w (.w o f (.yl l)) v):v=.func (.yield l) #[] #[]:=by
 cases h with|w h _=>cases h;rfl
theorem Oa(ps:Array Tmp)(vals:Array Value)(T:Array Value):(ps.zip vals).foldl (λtmps (t,a)=>tmps.setIfInBounds t a) T=(ps.toList.zip vals.toList).foldl (λtmps (p:Nat×Value)=>tmps.setIfInBounds p.1 p.2) T:=by
 rw[<-Array.foldl_toList,Array.toList_zip]
end
theorem GB{k:Nat}{ri:RI}{w0:Ctx ⟨k,some ri⟩}{nt:Nat}(o:Oper)(f:Operand)(args:Array Operand)(tys:Array TypeId)(ho:o.op=.call { callee:=.value f,args:=args,argTypes:=tys }){ow fl:Bool}(hf:ev env f=.w ow fl (.yl ri.l)){Kv Kl:ak->Nat->Prop}(hw:CL P ri (args.toList.map (ev env)) h n Kv Kl)(hs:Sim B w0 ⟨env,h,n,nt⟩ a w m)(a8:dOk nt o.dst)(Q:Exit->Act->World->Prop)(K':Act->World->Prop)(hK:∀h' n' a' w' m',Kv h' n'->Sim B w0 ⟨put env o.dst (.w false false (.bool true)),h',n',nt⟩ a' w' m'->K' a' w')(hKl:∀(w1:Ctx ⟨k,none⟩) h' n' a' w' m',qP w0 w1->Kl h' n'->Sim B w1 ⟨put env o.dst (.w false false (.bool false)),h',n',nt⟩ a' w' m'->K' a' w'):o.wpT w0.r P a w K' Q:=by
 obtain⟨hlen,aq,hw⟩:=hw
 have f7:∀x:Operand,aA B (LB m h) m w (ev env x) (a.eval x):=λx=>lQ x (λt _=>hs.env t)
 have d':a.eval f=.func (.yield ri.l) #[] #[]:=by have:=f7 f;rw[hf] at this;exact this.Sg
 obtain⟨fn,T,D,hin,hT,ea⟩:=w0.bJ ri rfl;obtain⟨hBl,ee,hLl,hl⟩:=hs.fr.2.2 _ hin;have dj:(bJ ri fn T D .ready none).isCells=false:=rfl
 have bj:∀i,m.dom i->i<n:=λi hd=>(hs.dom i).1 hd
 generalize b':args.map a.eval=vals
 have gb:vals.size=ri.ps.size:=by rw[<-b',<-hlen];simp
 have aj:(execOp a.eval o).run P w=.ok (.round ri.l fn ((ri.ps.zip vals).foldl (λtmps (t,a)=>tmps.setIfInBounds t a) T) ri.assign ri.body) w:=by
  have hy:=run_yield (P:=P) (args:=vals) (r:={ state:=.ready,pending:=none,fn:=fn,tmps:=T,params:=ri.ps,assign:=ri.assign,body:=ri.body,defers:=D }) hl gb;simp[execOp,ho,resolve,d',Deferred.ofValue,invoke,callFunc,b',hy]
 refine jo (λc e=>(by rw[ho] at e;cases e)) ?_;unfold Oper.wpt;rw[aj,Oper.P4];refine Jn ?_;obtain⟨F1,hF1⟩:∃F1,w0.F++env.map (λp=>(get env p.1,a.tmps.getD p.1 undef))=F1:=⟨_,rfl⟩
 have hF:∀p∈F1,p.1.lt n=true/\aA B (LB m h) m w p.1 p.2:=by
  intro p hp;rw[<-hF1] at hp
  rcases iR.1 hp with hp|hp
  .exact⟨AV.rO hs.fr.1 (hs.fr.2.1 p hp).1,(hs.fr.2.1 p hp).2⟩
  .obtain⟨q,_,rfl⟩:=dW.1 hp;exact⟨(hs.env q.1).CJ bj,hs.env q.1⟩
 have hTe:∀t,aA B (LB m h) m w (get ri.env t) (T.getD t undef):=by
  intro t
  rcases tW ri.env t with ⟨v,hv⟩|hu
  .exact (hs.fr.2.1 _ (ea t v hv)).2
  .rw[hu];exact .w (.undef _) nofun
 have bP:=GA (B:=B) (L:=LB m h) (m:=m) (w:=w) ri.ps.toList (args.toList.map (ev env)) vals.toList ri.env T (by rw[hlen];simp) (by rw[<-b'];simp) (λt ht=>by rw[hT];simp_all)
  (λj x v hx hv=>by
    rw[<-b'] at hv;rw[gD] at hx
    grind) hTe
 rw[Oa];generalize gg:(ri.ps.toList.zip vals.toList).foldl (λtmps (p:Nat×Value)=>tmps.setIfInBounds p.1 p.2) T=T' at bP ⊢
 have a5:Sim B (⟨w0.w,F1,some ri.l,w0.obs,[],λri h=>(by cases h),w0.ok⟩:Ctx ⟨n,none⟩) ⟨mT ri.env ri.ps.toList (args.toList.map (ev env)),h,n,ri.nt⟩ { tmps:=T',defers:=[] } w m:=
  ⟨hs.base,hs.below,rfl,bP.1.trans hT,bP.2,hs.heap,hs.dom,hs.ids,aE _,hF,hs.fr.2.2⟩
 refine dH (hw _ _ _ _ _ a5) (λe a1 w1 ⟨st1,m1,d4,b7⟩=>?_)
 cases e with
 |normal=>
  intro w1 e1;replace b7:=b7.move e1;obtain⟨_,cq,hLl1,dc⟩:=b7.fr.2.2 _ hin;replace dc:w1.heap[ri.l]?=some (bJ ri fn T D .ready none):=dc;replace cq:ri.l<w1.heap.size:=cq;refine⟨_,run_beginRound dc rfl,?_⟩
  have bh:Sim B (⟨w0.w,F1,some ri.l,(ri.l,bJ ri fn T D .busy none)::w0.obs.filter (λq=>decide (q.1≠ri.l)),[],λri h=>(by cases h),w0.ok⟩:Ctx ⟨n,none⟩) st1 a1 (w1.putObj ri.l (bJ ri fn T D .busy none)) m1:=by
   refine Sim.put (w1:=(⟨w0.w,F1,some ri.l,(ri.l,bJ ri fn T D .busy none)::w0.obs.filter (λq=>decide (q.1≠ri.l)),[],λri h=>(by cases h),w0.ok⟩:Ctx ⟨n,none⟩)) (o':=bJ ri fn T D .busy none) b7 dc dj (λ_ _ h=>by cases h) hBl rfl rfl (by exact b7.defers) ⟨b7.fr.1,λp hp=>⟨(b7.fr.2.1 p hp).1,(b7.fr.2.1 p hp).2.mR (λad v h=>w9 dc dj ad v h)⟩,λq hq=>?_⟩
   rcases cD.1 hq with e|hq
   .subst e;exact⟨hBl,by simp_all,hLl1,World.putObj_heap_same cq⟩
   .obtain⟨hq,ax⟩:=jm.1 hq;obtain⟨o1,o2,o3,o4⟩:=b7.fr.2.2 q hq;exact⟨o1,by simpa using o2,o3,(World.putObj_heap_other (by grind)).trans o4⟩
  have fin:∀(s:LoopState)(j:Option Code)(st3:St)(a3:Act)(w3:World)(m3:Mm),Sim B (⟨w0.w,F1,some ri.l,(ri.l,bJ ri fn T D .busy none)::w0.obs.filter (λq=>decide (q.1≠ri.l)),[],λri h=>(by cases h),w0.ok⟩:Ctx ⟨n,none⟩) st3 a3 w3 m3 ->
   ∀h' n' ag,Lek ⟨n,none⟩ st3 ⟨[],h',n',ag⟩->∃m4,(Bel B.n w0.w (w3.putObj ri.l (bJ ri fn T D s j)))/\(∀t,aA B (LB m4 h') m4 (w3.putObj ri.l (bJ ri fn T D s j)) (get env t) (a.tmps.getD t undef)) /\
    Sim B (⟨w0.w,F1,some ri.l,[],[],λri h=>(by cases h),w0.ok⟩:Ctx ⟨n,none⟩) ⟨[],h',n',ag⟩ a3 (w3.putObj ri.l (bJ ri fn T D s j)) m4/\n<=n' /\
    (∀p∈w0.F,aA B (LB m4 h') m4 (w3.putObj ri.l (bJ ri fn T D s j)) p.1 p.2)/\w3.heap[ri.l]?=some (bJ ri fn T D .busy none)/\ri.l<w3.heap.size/\¬LB m4 h' ri.l /\
    (∀q∈w0.obs,q.1≠ri.l->B.n<=q.1/\q.1<(w3.putObj ri.l (bJ ri fn T D s j)).heap.size/\¬LB m4 h' q.1/\(w3.putObj ri.l (bJ ri fn T D s j)).heap[q.1]?=some q.2):=by
   intro s j st3 a3 w3 m3 cf h' n' ag hle;obtain⟨m4,cx⟩:=hle _ _ _ _ _ cf;obtain⟨_,b4,hLl4,c5⟩:=cx.fr.2.2 (ri.l,bJ ri fn T D .busy none) (by simp);replace c5:w3.heap[ri.l]?=some (bJ ri fn T D .busy none):=c5;replace b4:ri.l<w3.heap.size:=b4;have dk:(bJ ri fn T D .busy none).isCells=false:=rfl
   have d2:∀ad v,w3.cell? ad=some v->(w3.putObj ri.l (bJ ri fn T D s j)).cell? ad=some v:=λad v h=>w9 c5 dk ad v h
   have c3:=cx.fr.2.1
   have hold:∀t,aA B (LB m4 h') m4 (w3.putObj ri.l (bJ ri fn T D s j)) (get env t) (a.tmps.getD t undef):=by
    intro t
    rcases tW env t with ⟨v,hv⟩|hu
    .refine ((c3 (get env t,a.tmps.getD t undef) ?_).2).mR d2;rw[<-hF1]
     grind
    .rw[hu];exact .w (.undef _) nofun
   have a4:Sim B (⟨w0.w,F1,some ri.l,[],[],λri h=>(by cases h),w0.ok⟩:Ctx ⟨n,none⟩) ⟨[],h',n',ag⟩ a3 (w3.putObj ri.l (bJ ri fn T D s j)) m4:=
    Sim.put (w1:=(⟨w0.w,F1,some ri.l,[],[],λri h=>(by cases h),w0.ok⟩:Ctx ⟨n,none⟩)) (o':=bJ ri fn T D s j) cx c5 dk (λ_ _ h=>by cases h) hBl rfl rfl (by exact cx.defers) ⟨cx.fr.1,λp hp=>⟨(c3 p hp).1,(c3 p hp).2.mR d2⟩,λq hq=>by cases hq⟩
   refine⟨m4,a4.below,hold,a4,cx.fr.1,λp hp=>?_,c5,b4,hLl4,λq hq ax=>?_⟩
   .refine ((c3 p ?_).2).mR d2;rw[<-hF1]
    grind
   .obtain⟨o1,o2,o3,o4⟩:=cx.fr.2.2 q (dm _ (jm.2 ⟨hq,by grind⟩));exact⟨o1,by simpa using o2,o3,(World.putObj_heap_other ax).trans o4⟩
  refine dH (d4 _ _ _ _ _ bh) (λe a3 w3 ⟨st3,m3,ec,cf⟩=>?_)
  cases e with
  |normal=>
   intro w3 e3;replace cf:=cf.move e3;obtain⟨h',n',ag,hle,ao⟩:=ec;obtain⟨m4,bv,hold,a4,eg,hF0,c5,b4,hLl4,bl⟩:=fin .ready none st3 a3 w3 m3 cf h' n' ag hle;refine⟨_,_,run_endRound none c5,?_⟩;show K' (a.put o.dst (.bool true)) _;refine hK h' n' _ _ m4 ao ⟨a4.base,bv,by rw[jQ];exact hs.defers,by rw[jP];exact hs.size,?_,a4.heap,a4.dom,a4.ids,bN hs.fr.1 eg,λp hp=>⟨(hs.fr.2.1 p hp).1,hF0 p hp⟩,λq hq=>?_⟩
   .exact na env a o.dst _ _ (by rw[hs.size];exact a8) (gJ true) hold
   .by_cases fj:q.1=ri.l
    .obtain⟨o1,o2,o3,o4⟩:=hs.fr.2.2 q hq;rw[fj] at o4 o1 ⊢;rw[hl] at o4;refine⟨o1,by simp_all,hLl4,?_⟩;rw[<-o4];exact World.putObj_heap_same b4
    .exact bl q hq fj
  |ret=>
   intro w3 e3;replace cf:=cf.move e3;obtain⟨h',n',ag,hle,ao⟩:=ec;obtain⟨m4,bv,hold,a4,eg,hF0,c5,b4,hLl4,bl⟩:=fin .done (some .ret) st3 a3 w3 m3 cf h' n' ag hle;refine⟨_,_,run_endRound (some .ret) c5,?_⟩;show K' (a.put o.dst (.bool false)) _;refine hKl (⟨w0.w,w0.F,w0.r,(ri.l,bJ ri fn T D .done (some .ret))::w0.obs.filter (λq=>decide (q.1≠ri.l)),w0.ds,λri h=>(by cases h),w0.ok⟩:Ctx ⟨k,none⟩) h' n' _ _ m4 ⟨rfl,rfl,rfl,rfl,⟨fn,T,D,by simp⟩,λq hq ax=>dm _ (jm.2 ⟨hq,by grind⟩)⟩ ao
    ⟨a4.base,bv,by rw[jQ];exact hs.defers,by rw[jP];exact hs.size,?_,a4.heap,a4.dom,a4.ids,bN hs.fr.1 eg,λp hp=>⟨(hs.fr.2.1 p hp).1,hF0 p hp⟩,λq hq=>?_⟩
   .exact na env a o.dst _ _ (by rw[hs.size];exact a8) (gJ false) hold
   .rcases cD.1 hq with e|hq
    .subst e;exact⟨hBl,by simp_all,hLl4,World.putObj_heap_same b4⟩
    .obtain⟨hq,ax⟩:=jm.1 hq;exact bl q hq (by grind)
  |_=>exact ec.elim
 |_=>exact d4.elim
theorem Ob{k:Nat}{ri:RI}{w0:Ctx ⟨k,some ri⟩}{nt:Nat}(o:Oper)(f:Operand)(args:Array Operand)(tys:Array TypeId)(ho:o.op=.call { callee:=.value f,args:=args,argTypes:=tys }){ow fl:Bool}(hf:ev env f=.w ow fl (.yl ri.l)){Kv:AV->ak->Nat->Prop}(hw:Round P ri (args.toList.map (ev env)) h n (λh' n'=>Kv (.w false false (.bool true)) h' n'))(hs:Sim B w0 ⟨env,h,n,nt⟩ a w m)(a8:dOk nt o.dst)(Q:Exit->Act->World->Prop)(K':Act->World->Prop)(hK:∀v h' n' a' w' m',Kv v h' n'->Sim B w0 ⟨put env o.dst v,h',n',nt⟩ a' w' m'->K' a' w'):o.wpT w0.r P a w K' Q:=by
 obtain⟨hlen,aq,hw⟩:=hw;refine GB (Kl:=λ_ _=>False) o f args tys ho hf ⟨hlen,aq,tj hw (λe s hq=>?_)⟩ hs a8 Q K' (λh' n' a' w' m' hk h8=>hK _ _ _ _ _ m' hk h8) (λ_ _ _ _ _ _ _ hk=>hk.elim)
 cases e with
 |normal=>
  refine tj hq (λe s hq=>?_)
  cases e with
  |normal=>exact hq
  |_=>exact hq.elim
 |_=>exact hq.elim
end
def qQ{fk:Fk}(w0:Ctx fk):Prop:=w0.ds.Nodup/\∀D∈w0.ds,(D,Obj.deferred (some []))∈w0.obs
def dV(fk:Fk)(P:Program)(c:Code)(st:St)(K:Exit->St->Prop):Prop:=
 ∀(B:Base)(w0:Ctx fk)(a:Act)(w:World)(m:Mm),w0.r=none->qQ w0->Sim B w0 st a w m ->
  c.wpT none P (λe a' w'=>∃(w1:Ctx fk)(st':St)(m':Mm),w1.w=w0.w/\w1.r=none/\qQ w1/\K e st'/\Sim B w1 st' a' w' m') a w
def dJ(k:Nat)(ri:RI)(P:Program)(c:Code)(st:St)(K Kd:Exit->St->Prop):Prop:=
 ∀(B:Base)(w0:Ctx ⟨k,some ri⟩)(a:Act)(w:World)(m:Mm),Sim B w0 st a w m ->
  c.wpT w0.r P (λe a' w'=>(∃st' m',K e st'/\Sim B w0 st' a' w' m')\/∃w1:Ctx ⟨k,none⟩,qP w0 w1/\∃st' m',Kd e st'/\Sim B w1 st' a' w' m') a w
theorem gq{k:Nat}{ri:RI}{P:Program}{K Kd:Exit->St->Prop}{st:St}{c:Code}(h:bm ⟨k,some ri⟩ P c st K):dJ k ri P c st K Kd:=
 λB w0 a w m hs=>dH (h B w0 a w m hs) (λ_ _ _ hx=>.inl hx)
section
variable{P:Program}{K:Exit->St->Prop}{st st':St}
theorem cO{c:Code}(h:bm fk P c st K):dV fk P c st K:=λB w0 a w m hr hd hs=>by
 have:=h B w0 a w m hs;rw[hr] at this;exact dH this (λe a' w' ⟨st',m',h1,h2⟩=>⟨w0,st',m',rfl,hr,hd,h1,h2⟩)
def xM(fk:Fk)(P:Program)(b:Code)(K:Exit->St->Prop):Exit->St->Prop
 |.normal,s=>dV fk P b s K
 |e,s=>K e s
theorem cP{x y:Code}(h:dV fk P x st (xM fk P y K)):dV fk P (.seq x y) st K:=
 λB w0 a w m hr hd hs=>yE (dH (h B w0 a w m hr hd hs) (λe a' w' ⟨w1,st',m',g1,g2,g3,h1,h2⟩=>by
  cases e with
  |normal=>exact dH (h1 B w1 a' w' m' g2 g3 h2) (λe a2 w2 ⟨w3,s3,m3,k1,k2,k3,k4,k5⟩=>⟨w3,s3,m3,k1.trans g1,k2,k3,k4,k5⟩)
  |_=>exact⟨w1,st',m',g1,g2,g3,h1,h2⟩))
theorem l8{id:Nat}{c:Code}(h:dV fk P c st (iB id K)):dV fk P (.block id c) st K:=
 λB w0 a w m hr hd hs=>yG (dH (h B w0 a w m hr hd hs) (λe a' w' ⟨w1,st',m',g1,g2,g3,h1,h2⟩=>by
  cases e with
  |exit fm=>
   simp only[Exit.inBlock];split<;>simp_all
  |_=>exact⟨w1,st',m',g1,g2,g3,h1,h2⟩))
theorem Oc{c:Code}{K':Exit->St->Prop}(h:dV fk P c st K)(hk:∀e s,K e s->K' e s):dV fk P c st K':=
 λB w0 a w m hr hd hs=>dH (h B w0 a w m hr hd hs) (λe a' w' ⟨w1,st',m',g1,g2,g3,h1,h2⟩=>⟨w1,st',m',g1,g2,g3,hk _ _ h1,h2⟩)
theorem Od{c:Code}(hle:Lek fk st st')(h:dV fk P c st' K):dV fk P c st K:=
 λB w0 a w m hr hd hs=>let ⟨m',h8⟩:=hle B w0 a w m hs;h B w0 a w m' hr hd h8
theorem Bl{g:Operand}{ps:Array Tmp}{assign body:Code}{env:Env}{h:ak}{n nt:Nat}{gf:FuncId}{aH:List AV}(hf:fo (ev env g)=some (gf,aH)){fn:Func}{c:Code}(al:P.funcs[gf]?=some fn) (h9:(fn.name == "runtime.NumGoroutine")=false) (hb:fn.body=some c) (au:aH.length+1<=fn.ntmps) (hw:∀l,dJ n ⟨l,env,nt,ps,assign,body⟩ P c ⟨dR 0 (.w false false (.yl l)::aH),h,n,fn.ntmps⟩ (fp P fn.results.toList λ_ h' n'=>K .normal ⟨env,h',n',nt⟩) (fp P fn.results.toList λ_ h' n'=>K .ret ⟨env,h',n',nt⟩)):dV fk P (.rangeFunc g ps assign body) ⟨env,h,n,nt⟩ K:=by
 intro B w0 a w m hr hd hs;refine Jo ?_;intro w e0 fni;replace hs:=hs.move e0;have bc:aA B (LB m h) m w (ev env g) (a.eval g):=lQ g (λt _=>hs.env t)
 have eb:∃cv:Array Value,a.eval g=.func (.func gf) #[] cv/\aH.length=cv.size/\∀(j:Nat)(p:AV)(v:Value),aH[j]?=some p->cv[j]?=some v->aA B (LB m h) m w p v:=by
  unfold fo at hf;split at hf
  .rename_i g' bg e
   injection hf with hf;injection hf with h1 h2;subst h1;subst h2
   rw[e] at bc;generalize hv:a.eval g=vf at bc
   cases bc with|fn h1 h2=>grind
  .rename_i own f' g' bg e
   injection hf with hf;injection hf with h1 h2;subst h1;subst h2
   rw[e] at bc;generalize hv:a.eval g=vf at bc
   cases bc with
   |w h1 _=>
    cases h1 with
    |fn h1 h2=>
     refine⟨_,rfl,by grind,λj p v hp hv=>?_⟩;obtain⟨q,hq,rfl⟩:=fP hp;exact .w (h2 j q v hq hv) nofun
  .cases hf
 obtain⟨cv,d',bi,fz⟩:=eb
 have bj:∀i,m.dom i->i<n:=λi hd=>(hs.dom i).1 hd
 obtain⟨ri,d5⟩:∃ri:RI,ri=⟨w.heap.size+1,env,nt,ps,assign,body⟩:=⟨_,rfl⟩;obtain⟨D,hD⟩:∃D,D=w.heap.size:=⟨_,rfl⟩
 have d6:ri.l=w.heap.size+1:=by rw[d5]
 have b7:Sim B (⟨w0.w,[],none,[(D,.deferred (some []))],w0.ds,λri h=>(by cases h),w0.ok⟩:Ctx ⟨0,none⟩) ⟨env,h,n,nt⟩ a (w.alloc (.deferred (some []))) m:=by
  refine Sim.lay (w1:=(⟨w0.w,[],none,[(D,.deferred (some []))],w0.ds,λri h=>(by cases h),w0.ok⟩:Ctx ⟨0,none⟩)) (.deferred (some [])) hs rfl rfl (by exact hs.defers) ⟨aK _,(λp hp=>by cases hp),λq hq=>?_⟩;simp only[pT] at hq;subst hq;rw[hD];exact⟨hs.room,by simp,λhl=>by have:=dN hs.heap hl;omega,World.alloc_heap_new w _⟩
 have fy:Bel w.heap.size w (w.alloc (.deferred (some []))):=(Bel.refl _ w).alloc (aE _) _;have e8:Bel (w.alloc (.deferred (some []))).heap.size (w.alloc (.deferred (some []))) ((w.alloc (.deferred (some []))).alloc (bJ ri fni a.tmps D .ready none)):=(Bel.refl _ _).alloc (aE _) _
 have c9:∀b,b<w.heap.size->((w.alloc (.deferred (some []))).alloc (bJ ri fni a.tmps D .ready none)).heap[b]?=w.heap[b]?:=λb hb=>(e8.block b (by simp;omega)).trans (fy.block b hb)
 have bk:∀x v,aA B (LB m h) m w x v->aA B (LB m h) m ((w.alloc (.deferred (some []))).alloc (bJ ri fni a.tmps D .ready none)) x v:=λx v hr=>hr.mono (Mm.le.refl m) (λ_ _ h=>h) (λb cj _=>c9 b cj)
 have af:Hx ⟨n,some ri⟩ (w0.F++env.map (λp=>(get env p.1,a.tmps.getD p.1 undef))) ((ri.l,bJ ri fni a.tmps D .ready none)::(D,.deferred (some []))::w0.obs):=λfq e=>by
  cases e;exact⟨fni,a.tmps,D,by simp,by rw[d5];exact hs.size,λt v hv=>iR.2 (.inr (dW.2 ⟨(t,v),by rw[d5] at hv;exact hv,by rw[d5]⟩))⟩
 have bh:Sim B (⟨w0.w,w0.F++env.map (λp=>(get env p.1,a.tmps.getD p.1 undef)),none,(ri.l,bJ ri fni a.tmps D .ready none)::(D,.deferred (some []))::w0.obs,w0.ds,
  af,w0.ok⟩:Ctx ⟨n,some ri⟩)
  ⟨env,h,n,nt⟩ a ((w.alloc (.deferred (some []))).alloc (bJ ri fni a.tmps D .ready none)) m:=by
  refine Sim.lay (w1:=(⟨w0.w,w0.F++env.map (λp=>(get env p.1,a.tmps.getD p.1 undef)),none,(ri.l,bJ ri fni a.tmps D .ready none)::(D,.deferred (some []))::w0.obs,w0.ds,af,w0.ok⟩:Ctx ⟨n,some ri⟩)) _ b7 rfl rfl (by exact hs.defers) ⟨aE _,λp hp=>?_,λq hq=>?_⟩
  .rcases iR.1 hp with hp|hp
   .exact⟨AV.rO hs.fr.1 (hs.fr.2.1 p hp).1,bk _ _ (hs.fr.2.1 p hp).2⟩
   .obtain⟨q,_,rfl⟩:=dW.1 hp;exact⟨(hs.env q.1).CJ bj,bk _ _ (hs.env q.1)⟩
  .rcases cD.1 hq with e|hq
   .subst e;refine⟨by simp only[d6];have:=hs.room;omega,by simp_all,λhl=>by have:=dN hs.heap hl;omega,?_⟩;simp only[d6];have:=World.alloc_heap_new (w.alloc (.deferred (some []))) (bJ ri fni a.tmps D .ready none)
    rwa [World.size_alloc] at this
   .rcases cD.1 hq with e|hq
    .subst e
     have e:∀k,k=w.heap.size->((w.alloc (.deferred (some []))).alloc (bJ ri fni a.tmps D .ready none)).heap[k]?=some (.deferred (some [])):=λk hk=>by
      rw[hk];exact (e8.block _ (by simp)).trans (World.alloc_heap_new w _)
     exact⟨by simp only[hD];exact hs.room,by simp;omega,λhl=>by have:=dN hs.heap hl;omega,e D hD⟩
    .obtain⟨o1,o2,o3,o4⟩:=hs.fr.2.2 q hq
     grind
 have en:((w.alloc (.deferred (some []))).alloc (.loop { state:=.ready,pending:=none,fn:=fni,tmps:=a.tmps,params:=ps,assign,body,defers:=w.heap.size }))=(w.alloc (.deferred (some []))).alloc (bJ ri fni a.tmps D .ready none):=by
  rw[d5,hD];rfl
 have co:=run_enterLoop_outer (P:=P) (w:=w) fni a.tmps ps assign body;rw[en] at co;clear e8;generalize (w.alloc (.deferred (some []))).alloc (bJ ri fni a.tmps D .ready none)=W2 at bh c9 bk co;refine⟨w.heap.size+1,[{ target:=.collected w.heap.size,args:=#[] }],W2,{ target:=.fn (.func gf) cv,args:=#[.func (.yield (w.heap.size+1)) #[] #[]] },W2,gf,#[.func (.yield (w.heap.size+1)) #[] #[]]++cv,W2,co,?_,?_,?_⟩
 .have he:a.eval (.const (.func (.yield (w.heap.size+1)) #[] #[]))=.func (.yield (w.heap.size+1)) #[] #[]:=rfl;simp[resolve,rangeCall,d',he,Deferred.ofValue]
 .have ef:¬fn.name = "runtime.NumGoroutine" := by simp_all
  simp[invoke,callFunc,al,ef,hb]
 .refine u6 al hb ?_
  have hlen:(AV.w false false (.yl ri.l)::aH).length=(#[Value.func (.yield (w.heap.size+1)) #[] #[]]++cv).size:=by grind
  have cy:∀(j:Nat)(x:AV)(v:Value),(AV.w false false (.yl ri.l)::aH)[j]?=some x->(#[Value.func (.yield (w.heap.size+1)) #[] #[]]++cv)[j]?=some v->aA B (LB m h) m W2 x v:=by
   intro j x v hx hv
   cases j with
   |zero=>
    rw[sS (by simp)] at hv;simp at hx hv;subst hx;subst hv;rw[d6];exact .w (.yl _) nofun
   |succ j=>
    rw[SG (by simp)] at hv
    grind
  generalize (#[Value.func (.yield (w.heap.size+1)) #[] #[]]++cv)=vs at hlen cy;have ex:=hw ri.l;rw[show (⟨ri.l,env,nt,ps,assign,body⟩:RI)=ri from by rw[d5]] at ex
  have ei:(AV.w false false (.yl ri.l)::aH).length<=fn.ntmps:=by trivial
  generalize gj:AV.w false false (.yl ri.l)::aH=avs at hlen cy ex ei
  have a5:Sim B (⟨w0.w,w0.F++env.map (λp=>(get env p.1,a.tmps.getD p.1 undef)),none,(ri.l,bJ ri fni a.tmps D .ready none)::(D,.deferred (some []))::w0.obs,[],
   af,w0.ok⟩:Ctx ⟨n,some ri⟩)
    ⟨dR 0 avs,h,n,fn.ntmps⟩ { tmps:=vs++Array.replicate (fn.ntmps-vs.size) undef,defers:=[] } W2 m:=by
   refine⟨bh.base,bh.below,rfl,by simp;omega,λt=>?_,bh.heap,bh.dom,bh.ids,bh.fr⟩;show aA _ _ _ _ (get (dR 0 avs) t) _;rw[Bj];split
   .rename_i ht
    have aq:t<avs.length:=by omega
    have:(vs++Array.replicate (fn.ntmps-vs.size) undef).getD t undef=vs[t]'(by omega):=by
     rw[ck,sS (by omega),cJ (by omega)];rfl
    rw[this];exact cy t _ _ (by simp_all) (cJ (by omega))
   .exact .w (.undef _) nofun
  have main:∀{az:Fk}(w1:Ctx az)(fn2:FuncId)(T2:Array Value)(D2:Nat)(s:LoopState)(j:Option Code)(st':St)(a':Act)(w':World)(m':Mm)(Kv:ak->Nat->Prop),az.k=n->w1.w=w0.w->(∀p∈w0.F++env.map (λp=>(get env p.1,a.tmps.getD p.1 undef)),p∈w1.F)->w1.ds=[] ->
   (ri.l,bJ ri fn2 T2 D2 s j)∈w1.obs->s≠.busy->(∀q∈(D,Obj.deferred (some []))::w0.obs,q∈w1.obs)->Sim B w1 st' a' w' m'->dC P fn.results.toList st' (λ_ h' n'=>Kv h' n') ->
   a'.defers=[]/\∃v w4,(results fn a'.tmps).run P w'=.ok v w'/\(Instr.endLoop (w.heap.size+1)).run P w'=.ok j w4/\∃(w2:Ctx fk)(h':ak)(n':Nat)(m2:Mm),w2.w=w0.w/\w2.r=none/\qQ w2/\Kv h' n'/\Sim B w2 ⟨env,h',n',nt⟩ { a with defers:=[{ target:=.collected w.heap.size,args:=#[] }]++a.defers } w4 m2:=by
   intro az w1 fn2 T2 D2 s j st' a' w' m' Kv d4 dx hF1 c2 ep ga dl h8 bp;refine⟨by have:=h8.defers;rw[c2] at this;exact this,?_⟩;unfold dC at bp;split at bp
   .rename_i ay d b6;obtain⟨g0,ao⟩:=bp;obtain⟨us,h1,h2,h3⟩:=rp h8 _ _ _ b6 g0
    have aj:(results fn a'.tmps).run P w'=.ok (if h:us.toArray.size=1 then us.toArray[0] else .tuple us.toArray) w':=by
     have he:results fn a'.tmps=(do
      let vs <-fn.results.mapM (pD a'.tmps)
      pure (if h:vs.size=1 then vs[0] else .tuple vs)):=rfl
     rw[he,sK];simp only[Sem.run_bind,Sem.run_map,h1,Result.andThen_ok,Sem.run_pure]
    obtain⟨hBl,ee,hLl,hl⟩:=h8.fr.2.2 (ri.l,bJ ri fn2 T2 D2 s j) ep
    replace hl:w'.heap[w.heap.size+1]?=some (bJ ri fn2 T2 D2 s j):=by rw[<-d6];exact hl
    replace ee:w.heap.size+1<w'.heap.size:=by rw[<-d6];exact ee
    have dj:(bJ ri fn2 T2 D2 s j).isCells=false:=rfl;refine⟨_,w'.putObj (w.heap.size+1) (bJ ri fn2 T2 D2 .exhausted j),aj,run_endLoop hl ga,?_⟩
    have d2:∀ad v,w'.cell? ad=some v->(w'.putObj (w.heap.size+1) (bJ ri fn2 T2 D2 .exhausted j)).cell? ad=some v:=λad v h=>w9 hl dj ad v h
    have dh:=h8.fr.2.1
    have hold:∀t,aA B (LB m' st'.heap) m' (w'.putObj (w.heap.size+1) (bJ ri fn2 T2 D2 .exhausted j)) (get env t) (a.tmps.getD t undef):=by
     intro t
     rcases tW env t with ⟨v,hv⟩|hu
     .exact ((dh (get env t,a.tmps.getD t undef) (hF1 _ (iR.2 (.inr (dW.2 ⟨(t,v),hv,rfl⟩))))).2).mR d2
     .rw[hu];exact .w (.undef _) nofun
    have a4:Sim B (⟨w0.w,[],none,[],[],λri h=>(by cases h),w0.ok⟩:Ctx ⟨0,none⟩) st' a' (w'.putObj (w.heap.size+1) (bJ ri fn2 T2 D2 .exhausted j)) m':=
     Sim.put (w1:=(⟨w0.w,[],none,[],[],λri h=>(by cases h),w0.ok⟩:Ctx ⟨0,none⟩)) (o':=bJ ri fn2 T2 D2 .exhausted j) h8 hl dj (λ_ _ h=>by cases h) (by rw[<-d6];exact hBl) dx.symm rfl (by have:=h8.defers;rw[c2] at this;exact this) ⟨aK _,(λp hp=>by cases hp),λq hq=>by cases hq⟩
    have bl:∀q,q∈(D,Obj.deferred (some []))::w0.obs->B.n<=q.1/\q.1<(w'.putObj (w.heap.size+1) (bJ ri fn2 T2 D2 .exhausted j)).heap.size/\¬LB m' st'.heap q.1/\(w'.putObj (w.heap.size+1) (bJ ri fn2 T2 D2 .exhausted j)).heap[q.1]?=some q.2:=by
     intro q hq
     have ax:q.1≠w.heap.size+1:=by
      rcases cD.1 hq with e|hq
      .subst e;simp only[hD];omega
      .have:=(hs.fr.2.2 q hq).2.1;omega
     obtain⟨o1,o2,o3,o4⟩:=h8.fr.2.2 q (dl q hq);exact⟨o1,by simpa using o2,o3,(World.putObj_heap_other ax).trans o4⟩
    refine⟨⟨w0.w,w0.F,none,(D,.deferred (some []))::w0.obs,D::w0.ds,λfq e=>?_,w0.ok⟩,st'.heap,st'.nxt,m',rfl,rfl,⟨?_,?_⟩,ao,⟨a4.base,a4.below,?_,hs.size,hold,a4.heap,a4.dom,a4.ids,bN hs.fr.1 (by have:=h8.fr.1;rw[d4] at this;exact this),λp hp=>?_,bl⟩⟩
    .obtain⟨f1,T1,D1,g1,g2,g3⟩:=w0.bJ fq e;exact⟨f1,T1,D1,dm _ g1,g2,g3⟩
    .refine List.nodup_cons.2 ⟨λhin=>?_,hd.1⟩;have:=(hs.fr.2.2 _ (hd.2 D hin)).2.1;simp only[hD] at this;omega
    .intro D' d8
     rcases cD.1 d8 with e|d8
     .subst e;simp
     .exact dm _ (hd.2 D' d8)
    .show [_]++a.defers=marks (D::w0.ds);rw[hs.defers,hD];rfl
    .exact⟨(hs.fr.2.1 p hp).1,((dh p (hF1 p (iR.2 (.inl hp)))).2).mR d2⟩
   trivial
  refine dH (ex _ _ _ _ _ a5) (λe a' w' hq=>?_)
  have fin1:∀(st':St)(m':Mm),dC P fn.results.toList st' (λ_ h' n'=>K .normal ⟨env,h',n',nt⟩)->Sim B (⟨w0.w,w0.F++env.map (λp=>(get env p.1,a.tmps.getD p.1 undef)),none,(ri.l,bJ ri fni a.tmps D .ready none)::(D,.deferred (some []))::w0.obs,[],af,w0.ok⟩:Ctx ⟨n,some ri⟩) st' a' w' m' ->
   a'.defers=[]/\∀w1x,EnvD.E w' w1x->∃v,(results fn a'.tmps).run P w1x=.ok v w1x/\BG P (w.heap.size+1) none (λe a' w'=>∃(w1:Ctx fk)(st':St)(m':Mm),w1.w=w0.w/\w1.r=none/\qQ w1/\K e st'/\Sim B w1 st' a' w' m') { a with defers:=[{ target:=.collected w.heap.size,args:=#[] }]++a.defers } (.returned v) w1x:=by
   intro st' m' bp h8;refine⟨(main (⟨w0.w,w0.F++env.map (λp=>(get env p.1,a.tmps.getD p.1 undef)),none,(ri.l,bJ ri fni a.tmps D .ready none)::(D,.deferred (some []))::w0.obs,[],af,w0.ok⟩:Ctx ⟨n,some ri⟩) fni a.tmps D .ready none st' a' w' m' (λh' n'=>K .normal ⟨env,h',n',nt⟩) rfl rfl (λp hp=>hp) rfl (by simp) (by simp) (λq hq=>dm _ hq) h8 bp).1,λw1x e1=>?_⟩;obtain⟨_,v,_,h2,_⟩:=main (⟨w0.w,w0.F++env.map (λp=>(get env p.1,a.tmps.getD p.1 undef)),none,(ri.l,bJ ri fni a.tmps D .ready none)::(D,.deferred (some []))::w0.obs,[],af,w0.ok⟩:Ctx ⟨n,some ri⟩) fni a.tmps D .ready none st' a' w1x m' (λh' n'=>K .normal ⟨env,h',n',nt⟩) rfl rfl (λp hp=>hp) rfl (by simp) (by simp) (λq hq=>dm _ hq) (h8.move e1) bp;refine⟨v,h2,λw2x e2=>?_⟩;obtain⟨_,_,w4,_,h3,w2,h',n',m2,g1,g2,g3,g4,g5⟩:=main (⟨w0.w,w0.F++env.map (λp=>(get env p.1,a.tmps.getD p.1 undef)),none,(ri.l,bJ ri fni a.tmps D .ready none)::(D,.deferred (some []))::w0.obs,[],af,w0.ok⟩:Ctx ⟨n,some ri⟩) fni a.tmps D .ready none st' a' w2x m' (λh' n'=>K .normal ⟨env,h',n',nt⟩) rfl rfl (λp hp=>hp) rfl (by simp) (by simp) (λq hq=>dm _ hq) ((h8.move e1).move e2) bp
   grind
  have fin2:∀(w1:Ctx ⟨n,none⟩)(st':St)(m':Mm),qP (⟨w0.w,w0.F++env.map (λp=>(get env p.1,a.tmps.getD p.1 undef)),none,(ri.l,bJ ri fni a.tmps D .ready none)::(D,.deferred (some []))::w0.obs,[],af,w0.ok⟩:Ctx ⟨n,some ri⟩) w1 ->
   dC P fn.results.toList st' (λ_ h' n'=>K .ret ⟨env,h',n',nt⟩)->Sim B w1 st' a' w' m' ->
   a'.defers=[]/\∀w1x,EnvD.E w' w1x->∃v,(results fn a'.tmps).run P w1x=.ok v w1x/\BG P (w.heap.size+1) none (λe a' w'=>∃(w1:Ctx fk)(st':St)(m':Mm),w1.w=w0.w/\w1.r=none/\qQ w1/\K e st'/\Sim B w1 st' a' w' m') { a with defers:=[{ target:=.collected w.heap.size,args:=#[] }]++a.defers } (.returned v) w1x:=by
   rintro w1 st' m' ⟨l1,l2,l3,l4,⟨fn2,T2,D2,l5⟩,l6⟩ bp h8
   have em:∀q∈(D,Obj.deferred (some []))::w0.obs,q∈w1.obs:=λq hq=>l6 q (dm _ hq) (by
    rcases cD.1 hq with e|hq
    .simp_all
    .have:=(hs.fr.2.2 q hq).2.1;omega)
   refine⟨(main w1 fn2 T2 D2 .done (some .ret) st' a' w' m' (λh' n'=>K .ret ⟨env,h',n',nt⟩) rfl l1 (λp hp=>by rw[l2];exact hp) l4 l5 (by simp) em h8 bp).1,λw1x e1=>?_⟩;obtain⟨_,v,_,h2,_⟩:=main w1 fn2 T2 D2 .done (some .ret) st' a' w1x m' (λh' n'=>K .ret ⟨env,h',n',nt⟩) rfl l1 (λp hp=>by rw[l2];exact hp) l4 l5 (by simp) em (h8.move e1) bp;refine⟨v,h2,λw2x e2=>?_⟩;obtain⟨_,_,w4,_,h3,w2,h',n',m2,g1,g2,g3,g4,g5⟩:=main w1 fn2 T2 D2 .done (some .ret) st' a' w2x m' (λh' n'=>K .ret ⟨env,h',n',nt⟩) rfl l1 (λp hp=>by rw[l2];exact hp) l4 l5 (by simp) em ((h8.move e1).move e2) bp;exact⟨some .ret,w4,h3,Dn ⟨w2,_,m2,g1,g2,g3,g4,g5⟩⟩
  rcases hq with ⟨st',m',hk,h8⟩|⟨w1,hl,st',m',hk,h8⟩
  .cases e with
   |normal=>exact fin1 st' m' hk h8
   |ret=>exact fin1 st' m' hk h8
   |_=>exact hk.elim
  .cases e with
   |normal=>exact fin2 w1 st' m' hl hk h8
   |ret=>exact fin2 w1 st' m' hl hk h8
   |_=>exact hk.elim
theorem ry{g:Operand}{ps:Array Tmp}{assign body:Code}{env:Env}{h:ak}{n nt:Nat}{gf:FuncId}{aH:List AV}(hf:fo (ev env g)=some (gf,aH)){fn:Func}{c:Code}(al:P.funcs[gf]?=some fn) (h9:(fn.name == "runtime.NumGoroutine")=false) (hb:fn.body=some c) (au:aH.length+1<=fn.ntmps) (hw:∀l,bm ⟨n,some ⟨l,env,nt,ps,assign,body⟩⟩ P c ⟨dR 0 (.w false false (.yl l)::aH),h,n,fn.ntmps⟩ (fp P fn.results.toList λ_ h' n'=>K .normal ⟨env,h',n',nt⟩)):dV fk P (.rangeFunc g ps assign body) ⟨env,h,n,nt⟩ K:=
 Bl hf al h9 hb au (λl=>gq (hw l))
theorem oO{f:FuncId}{fn:Func}{c:Code}{args:List PV}{res:PV}{fr:Bool}(hf:P.funcs[f]?=some fn) (h9:(fn.name == "runtime.NumGoroutine")=false) (hb:fn.body=some c) (au:args.length<=fn.ntmps) (h:dV fk0 P c ⟨iF 0 args,[],0,fn.ntmps⟩ (sd P fn.results.toList res fr)):aC P f args res fr:=by
 refine⟨⟨fn,hf,h9,by rw[hb];rfl⟩,λG w vs ej hlen cw=>?_⟩;refine Dp hf hb ?_
 have a5:Sim ⟨w.heap.size,G⟩ (⟨w,[],none,[],[],λri h=>(by cases h),ej⟩:Ctx fk0) ⟨iF 0 args,[],0,fn.ntmps⟩ { tmps:=vs++Array.replicate (fn.ntmps-vs.size) undef,defers:=[] } w ⟨λ_ _=>none,λ_=>0,λ_=>False⟩:=by
  refine⟨rfl,Bel.refl _ _,rfl,by simp;omega,λt=>?_,⟨λid cells hin=>(by cases hin),List.Pairwise.nil⟩,λi=>⟨λh=>h.elim,λh=>absurd h (ye i)⟩,λid c hin=>(by cases hin),aK _,(λp hp=>by cases hp),λq hq=>by cases hq⟩;show aA _ _ _ _ (get (iF 0 args) t) _;rw[wQ];split
  .rename_i ht
   have aq:t<args.length:=by omega
   refine .w ?_ nofun
   have:(vs++Array.replicate (fn.ntmps-vs.size) undef).getD t undef=vs[t]'(by omega):=by
    rw[ck,sS (by omega),cJ (by omega)];rfl
   rw[this]
   refine (cw t _ _ (by simp_all) (cJ (by omega))).imp λb hg=>⟨?_,nofun,λ_=>hg⟩
   rintro⟨id,cells,C,hin,_⟩
   cases hin
  .exact .w (.undef _) nofun
 refine dH (h _ _ _ _ _ rfl ⟨List.nodup_nil,λD h=>by cases h⟩ a5) (λe a' w' ⟨w1,st',m',g1,g2,g3,hk,hs⟩=>?_)
 have main:nY P fn.results.toList st' res fr->∀(ds:List Nat)(w1:Ctx fk0)(a1:Act)(W:World),w1.w=w->w1.ds=ds->qQ w1->Sim ⟨w.heap.size,G⟩ w1 st' a1 W m' ->
  oX P fn a1.tmps (λe w'=>∃v,e=.returned v/\Bel w.heap.size w w'/\Rep (λb=>(b<w.heap.size->G b)/\(fr=true->w.heap.size<=b)) w' res v) (marks ds) W:=by
  intro hr ds
  induction ds with
  |nil=>
   intro w1 a1 W ey dw a8 hs;intro W e1;replace hs:=hs.move e1;unfold nY at hr;split at hr
   .rename_i ay d b6;obtain⟨hd,g7,c8⟩:=hr;obtain⟨us,h1,h2,h3⟩:=rp hs _ _ _ b6 hd
    have aj:(results fn a1.tmps).run P W=.ok (if h:us.toArray.size=1 then us.toArray[0] else .tuple us.toArray) W:=by
     have he:results fn a1.tmps=(do
      let vs <-fn.results.mapM (pD a1.tmps)
      pure (if h:vs.size=1 then vs[0] else .tuple vs)):=rfl
     rw[he,sK];simp only[Sem.run_bind,Sem.run_map,h1,Result.andThen_ok,Sem.run_pure]
    have bo:aA ⟨w.heap.size,G⟩ (LB m' st'.heap) m' W (oneOf ay) (if h:us.toArray.size=1 then us.toArray[0] else .tuple us.toArray):=by
     have tupc:ay.length≠1->aA ⟨w.heap.size,G⟩ (LB m' st'.heap) m' W (.tup ay) (if h:us.toArray.size=1 then us.toArray[0] else .tuple us.toArray):=by
      intro ax;rw[dif_neg (by simp;omega)];exact .tup (by simpa using h2) (λj p u hp hu=>h3 j p u hp (by simpa using hu))
     match ay,h2,h3,tupc with
     |[],h2,h3,tupc=>exact tupc (by simp)
     |[v],h2,h3,tupc=>
      obtain⟨u,rfl⟩:∃u,us=[u]:=Dg.1 (by simpa using h2.symm);exact h3 0 v u rfl rfl
     |v::v2::r,h2,h3,tupc=>exact tupc (by simp)
    refine⟨_,aj,_,rfl,?_,?_⟩
    .have bv:=hs.below;rw[ey] at bv;exact bv
    exact m9 (B:=⟨w.heap.size,G⟩) hs.heap (λid cs e=>fu e) fr (λb hb=>⟨λhl=>by simp only at hb;omega,λ_=>hb⟩) (λhf b hg=>⟨hg.2.2,λh=>by rw[hf] at h;cases h⟩) 6 _ _ _ g7 c8 bo
   trivial
  |cons D ds ih=>
   intro w1 a1 W ey dw a8 hs;intro W e1;replace hs:=hs.move e1;obtain⟨hBD,hDl,hLD,hDh⟩:=hs.fr.2.2 _ (a8.2 D (by rw[dw];simp));refine⟨D,_,rfl,run_takeDeferred hDh,?_⟩;have fi:=a8.1;rw[dw] at fi;obtain⟨gt,g9⟩:=List.nodup_cons.1 fi;refine ih (⟨w1.w,[],none,w1.obs.filter (λq=>decide (q.1≠D)),ds,λri h=>(by cases h),w1.ok⟩:Ctx fk0) { a1 with defers:=marks ds } _ ey rfl ⟨g9,λD' d8=>jm.2 ⟨a8.2 D' (by rw[dw];simp[d8]),by grind⟩⟩ ?_;refine Sim.put (w1:=(⟨w1.w,[],none,w1.obs.filter (λq=>decide (q.1≠D)),ds,λri h=>(by cases h),w1.ok⟩:Ctx fk0)) (o':=.deferred none) hs hDh rfl (λ_ _ h=>by cases h) hBD rfl rfl rfl ⟨aK _,(λp hp=>by cases hp),λq hq=>?_⟩;obtain⟨hq,ax⟩:=jm.1 hq;obtain⟨o1,o2,o3,o4⟩:=hs.fr.2.2 q hq;exact⟨o1,by simpa using o2,o3,(World.putObj_heap_other (by grind)).trans o4⟩
 cases e with
 |normal=>
  show oX _ _ _ _ a'.defers _;rw[hs.defers];exact main hk _ _ _ _ g1 rfl g3 hs
 |ret=>
  show oX _ _ _ _ a'.defers _;rw[hs.defers];exact main hk _ _ _ _ g1 rfl g3 hs
 |_=>exact hk.elim
end
section
variable{P:Program}{K:Exit->St->Prop}{st st':St}
end
section
variable{P:Program}{K:Exit->St->Prop}
theorem rz{ops:Array Oper}{nt:Nat}{B:Base}{w0:Ctx fk}{Kr:Env->ak->Nat->Prop}{Q:Exit->Act->World->Prop}(rest:List Oper)(hQ:∀e h n a w m,Kr e h n->Sim B w0 ⟨e,h,n,nt⟩ a w m->gO w0.r P ops Q rest a w):∀(os:List Oper)(e:Env)(h:ak)(n:Nat)(a:Act)(w:World)(m:Mm),bV P ops nt os e h n Kr->Sim B w0 ⟨e,h,n,nt⟩ a w m->gO w0.r P ops Q (os++rest) a w
 |[],e,h,n,a,w,m,hk,hs=>hQ e h n a w m hk hs
 |o::os,e,h,n,a,w,m,hk,hs=>by
  simp only[bV] at hk;split at hk
  .rename_i g hg;have hw:=pZ hg hs;simp only[pP,gO,hw];intro w e1;replace hs:=hs.move e1
   cases g with
   |true=>
    simp only[aX];exact jo (vD (hk.2.1 rfl)) (vE w0 o (K:=λv h' n'=>bV P ops nt os (put e o.dst v) h' n' Kr) (hk.2.1 rfl) hs hk.1 Q _ (λv h' n' a' w' m' ai h8=>rz rest hQ os _ _ _ _ _ m' ai h8))
   |false=>
    simp only[bI,a9];refine rz rest hQ os _ _ _ _ _ m (hk.2.2 rfl) ⟨hs.base,hs.below,by rw[jQ];exact hs.defers,by rw[jP];exact hs.size,?_,hs.heap,hs.dom,hs.ids,hs.fr⟩;exact na e a o.dst _ _ (by rw[hs.size];exact hk.1) (.tup rfl (λj p v hp=>by simp at hp)) hs.env
  trivial
def YW(P:Program)(ri:RI)(nt:Nat)(e:Env)(h:ak)(n:Nat)(o:Oper)(K:Env->ak->Nat->Prop):Prop:=
 match o.op with
 |.call { callee:=.value f,args:=args,argTypes:=_ }=>dOk nt o.dst/\(∃ow fl,ev e f=.w ow fl (.yl ri.l)) /\
   Round P ri (args.toList.map (ev e)) h n (λh' n'=>K (put e o.dst (.w false false (.bool true))) h' n')
 |_=>False
def gYW(P:Program)(ri:RI)(ops:Array Oper)(nt:Nat)(e:Env)(h:ak)(n:Nat)(o:Oper)(K:Env->ak->Nat->Prop):Prop:=
 match fB ops e o with
 |some g=>dOk nt o.dst/\(g=true->YW P ri nt e h n o K)/\(g=false->K (put e o.dst (.tup [])) h n)
 |none=>False
theorem Oe{k:Nat}{ri:RI}{id:Nat}{ops:Array Oper}{env:Env}{h:ak}{n nt:Nat}(pre:List Oper)(o:Oper)(post:List Oper)(b5:ops.toList=pre++o::post)(hk:bV P ops nt pre env h n λe' h' n'=>gYW P ri ops nt e' h' n' o λa6 a7 aa=>bV P ops nt post a6 a7 aa λe3 h3 n3=>K .normal ⟨e3,h3,n3,nt⟩):bm ⟨k,some ri⟩ P (.region id ops false) ⟨env,h,n,nt⟩ K:=by
 intro B w0 a w m hs;refine qX ?_;rw[b5];refine rz (o::post) ?_ pre env h n a w m hk hs;intro e h n a w m hy hs;unfold gYW at hy;split at hy
 .rename_i g hg;have hw:=pZ hg hs;simp only[gO,hw];intro w e1;replace hs:=hs.move e1
  have b9:∀a6 a7 aa cg cz bq,(bV P ops nt post a6 a7 aa λe3 h3 n3=>K .normal ⟨e3,h3,n3,nt⟩)->Sim B w0 ⟨a6,a7,aa,nt⟩ cg cz bq->gO w0.r P ops (λe a' w'=>∃st' m',K e st'/\Sim B w0 st' a' w' m') post cg cz:=
   λa6 a7 aa cg cz bq ai h8=>ng (λ_ _ _ _ _ m ai h8=>⟨_,m,ai,h8⟩) post _ _ _ _ _ bq ai h8
  cases g with
  |true=>
   simp only[aX];have dy:=hy.2.1 rfl;unfold YW at dy;split at dy
   .rename_i f args tys ho;obtain⟨a8,⟨ow,fl,hf⟩,hr⟩:=dy;exact Ob o f args tys ho hf (Kv:=λv h' n'=>v=.w false false (.bool true)/\bV P ops nt post (put e o.dst (.w false false (.bool true))) h' n' λe3 h3 n3=>K .normal ⟨e3,h3,n3,nt⟩)
     ⟨hr.1,hr.2.1,tj hr.2.2 (λe s hk=>by
       cases e with
       |normal=>exact tj hk (λe s hk=>by
         cases e with
         |normal=>
          obtain⟨h',n',ag,h1,h2⟩:=hk;exact⟨h',n',ag,h1,rfl,h2⟩
         |_=>exact hk.elim)
       |_=>exact hk.elim)⟩ hs a8 _ _ (λv h' n' a' w' m' ao h8=>by
        obtain⟨rfl,ao⟩:=ao
        exact b9 _ _ _ _ _ m' ao h8)
   .exact dy.elim
  |false=>
   simp only[bI,a9];refine b9 _ _ _ _ _ m (hy.2.2 rfl) ⟨hs.base,hs.below,by rw[jQ];exact hs.defers,by rw[jP];exact hs.size,?_,hs.heap,hs.dom,hs.ids,hs.fr⟩;exact na e a o.dst _ _ (by rw[hs.size];exact hy.1) (.tup rfl (λj p v hp=>by simp at hp)) hs.env
 trivial
def IW(P:Program)(nt:Nat)(e:Env)(h:ak)(n:Nat)(o:Oper)(g:FuncId)(aH:List AV)(fn:Func)(c:Code)(args:List AV)(K:Env->ak->Nat->Prop):Prop:=
 dOk nt o.dst/\o.guard=none/\bm ⟨n,none⟩ P c ⟨dR 0 (args++aH),h,n,fn.ntmps⟩ (fp P fn.results.toList λv h' n'=>K (put e o.dst v) h' n')
theorem Of{id:Nat}{ops:Array Oper}{env:Env}{h:ak}{n nt:Nat}(pre:List Oper)(o:Oper)(post:List Oper)(b5:ops.toList=pre++o::post){f:Operand}{args:Array Operand}{tys:Array TypeId}(ho:o.op=.call { callee:=.value f,args:=args,argTypes:=tys }){g:FuncId}{fn:Func}{c:Code}(al:P.funcs[g]?=some fn) (h9:(fn.name == "runtime.NumGoroutine")=false) (hb:fn.body=some c) (hk:bV P ops nt pre env h n λe' h' n'=>∃aH,fo (ev e' f)=some (g,aH)/\(args.toList.map (ev e')++aH).length<=fn.ntmps/\IW P nt e' h' n' o g aH fn c (args.toList.map (ev e')) λa6 a7 aa=>bV P ops nt post a6 a7 aa λe3 h3 n3=>K .normal ⟨e3,h3,n3,nt⟩):bm fk P (.region id ops false) ⟨env,h,n,nt⟩ K:=by
 intro B w0 a w m hs;refine qX ?_;rw[b5];refine rz (o::post) ?_ pre env h n a w m hk hs
 rintro e h n a w m ⟨aH,hf,au,a8,c4,hw⟩ hs
 have b9:∀a6 a7 aa cg cz bq,(bV P ops nt post a6 a7 aa λe3 h3 n3=>K .normal ⟨e3,h3,n3,nt⟩)->Sim B w0 ⟨a6,a7,aa,nt⟩ cg cz bq->gO w0.r P ops (λe a' w'=>∃st' m',K e st'/\Sim B w0 st' a' w' m') post cg cz:=
  λa6 a7 aa cg cz bq ai h8=>ng (λ_ _ _ _ _ m ai h8=>⟨_,m,ai,h8⟩) post _ _ _ _ _ bq ai h8
 simp only[gO,Region.wanted,c4,aX];intro w e1;replace hs:=hs.move e1;exact jo (λc e=>by rw[ho] at e;cases e) (Gx o f args tys ho hf al h9 hb au none (λ_ h=>by cases h) hw hs a8 _ _ (λv h' n' a' w' m' ao h8=>b9 _ _ _ _ _ m' ao h8))
end
def EqV(x:AV)(E:List (List AV))(v:AV):Prop:=x=v/\E=[]
def EqE(x:AV)(h':ak)(n':Nat)(v:AV)(h:ak)(n:Nat):Prop:=x=v/\h'=h/\n'=n
section
omit [av]
@[congr] theorem YR{x x' v:AV}{E E':List (List AV)}(h:x=x')(h2:E=E'):EqV x E v=EqV x' E' v:=by rw[h,h2]
@[congr] theorem YS{x x' v:AV}{h h' h0:ak}{n n' n0:Nat}(e1:x=x')(e2:h=h')(e3:n=n'):EqE x h n v h0 n0=EqE x' h' n' v h0 n0:=by rw[e1,e2,e3]
theorem Sr{o f:Bool}{p:PV}{h:ak}{n:Nat}:EqE (.w o f p) h n (.w o f p) h n:=⟨rfl,rfl,rfl⟩
theorem OL{a b c:Nat}{h:ak}{n:Nat}:EqE (.ptr a b c) h n (.ptr a b c) h n:=⟨rfl,rfl,rfl⟩
end
section
variable{P:Program}{ops:Array Oper}{nt:Nat}{env:Env}{h:ak}{n:Nat}
theorem GV{op:Op}{K K':AV->List (List AV)->Prop}(hq:bG P env h n op K)(hk:∀v E,K v E->K' v E):bG P env h n op K':=by
 unfold bG at *;split
 .rename_i f args tys;simp only at hq;split at hq
  .rename_i g aH e;unfold rK at *;split at hq
   .rename_i pvs e2
    rcases hq with ⟨res,fr,h1,h2,h3⟩|⟨E,v,h1,h3⟩
    .exact .inl ⟨res,fr,h1,h2,hk _ _ h3⟩
    .exact .inr ⟨E,v,h1,hk _ _ h3⟩
   .exact hq.elim
  .exact hq.elim
 grind
omit [av] in
theorem OM{t:TypeId}{ad x:Operand}{K K':AV->ak->Nat->Prop}(hq:nK P env h n t ad x K)(hk:∀v h' n',K v h' n'->K' v h' n'):nK P env h n t ad x K':=by
 unfold nK at *
 grind
omit [av] in
theorem ON{args:List Operand}{tys:List TypeId}{K K':AV->ak->Nat->Prop}(hq:nJ P env h n args tys K)(hk:∀v h' n',K v h' n'->K' v h' n'):nJ P env h n args tys K':=by
 unfold nJ at *;split at hq
 .split at hq
  .split at hq
   .split at hq
    .split at hq
     .exact⟨hq.1,hk _ _ _ hq.2⟩
     .exact hq.elim
    .rename_i own k cells e;generalize hb:(own&&decide (k=0)&&cells.isEmpty)=bb at hq ⊢;cases bb
     .simp only[cond_false] at hq ⊢;split at hq
      .exact⟨hq.1,hk _ _ _ hq.2⟩
      .exact hq.elim
     .exact⟨hq.1,hk _ _ _ hq.2⟩
    .exact hq.elim
   .exact hq.elim
  .exact hq.elim
 trivial
theorem OO{src dst:TypeId}{x:Operand}{K K':AV->ak->Nat->Prop}(hq:qC P env h n src dst x K)(hk:∀v h' n',K v h' n'->K' v h' n'):qC P env h n src dst x K':=by
 unfold qC at *;split at hq
 .simp_all
 .exact GV hq λv E hK=>hk _ _ _ hK
omit [av] in
theorem OP{t:TypeId}{x k v:Operand}{K K':AV->ak->Nat->Prop}(hq:nM P env h n t x k v K)(hk:∀v h' n',K v h' n'->K' v h' n'):nM P env h n t x k v K':=by
 unfold nM at *
 grind
omit [av] in
theorem OQ{args:List Operand}{tys:List TypeId}{K K':AV->ak->Nat->Prop}(hq:nL P env h n args tys K)(hk:∀v h' n',K v h' n'->K' v h' n'):nL P env h n args tys K':=by
 unfold nL at *
 grind
theorem OR{op:Op}{K K':AV->ak->Nat->Prop}(hq:bH P env h n op K)(hk:∀v h' n',K v h' n'->K' v h' n'):bH P env h n op K':=by
 unfold bH at *;split
 .exact OM hq hk
 .exact ON hq hk
 .exact OQ hq hk
 .exact OO hq hk
 .exact⟨hq.1,hk _ _ _ hq.2⟩
 .exact OP hq hk
 .rename_i h1 h2 h3 h4 h5 h6;split at hq
  .simp_all
  .simp_all
  .simp_all
  .simp_all
  .simp_all
  .grind
  .exact GV hq λv E hK=>hk _ _ _ hK
section
variable{op:Op}{b:Bool}{v:AV}
theorem OS{K:AV->ak->Nat->Prop}{mk:Mark K}(hx:b=true->bH P env h n op λv' h' n'=>EqE v' h' n' v h n)(hk:K (gdV b v) h n):gE (some b) P env h n op K mk:=by
 refine⟨λhb=>?_,λhb=>?_⟩
 .refine OR (hx hb) ?_
  rintro v' h' n' ⟨rfl,rfl,rfl⟩
  rw[hb,NR] at hk;exact hk
 simp_all
end
end
theorem ae{P:Program}{g:FuncId}{args c6:List PV}{K:PV->Bool->Prop}{K2:List (List AV)->AV->Prop}{res:PV}{fr:Bool}{mk:Mark (K,K2)}(h:aC P g args res fr)(e:c6=args)(hk:K res fr):CW P g c6 K K2 mk:=.inl ⟨res,fr,e▸h,hk⟩
section
variable{P:Program}{K:Exit->St->Prop}
@[simp ↓]theorem YT(b:Code)(s:St):xM fk P b K .normal s=dV fk P b s K:=rfl
@[simp ↓]theorem YU(b:Code)(s:St):xM fk P b K .ret s=K .ret s:=rfl
@[simp ↓]theorem YV(b:Code)(id:Nat)(s:St):xM fk P b K (.exit id) s=K (.exit id) s:=rfl
@[congr] theorem YX{c:Code}{st st':St}(h:st=st'):dV fk P c st K=dV fk P c st' K:=by rw[h]
def xN(P:Program)(ri:RI)(avs:List AV)(h:ak)(n:Nat)(K:ak->Nat->Prop)(_:Mark (ri,K)):Prop:=Round P ri avs h n K
@[congr] theorem YY{ri:RI}{avs d7:List AV}{h h':ak}{n n':Nat}{K:ak->Nat->Prop}{mk:Mark (ri,K)}(e1:avs=d7)(e2:h=h')(e3:n=n'):xN P ri avs h n K mk=xN P ri d7 h' n' K mk:=by rw[e1,e2,e3]
theorem rC{ri:RI}{avs:List AV}{h:ak}{n:Nat}{K:ak->Nat->Prop}{mk:Mark (ri,K)}(h1:avs.length=ri.ps.size)(h2:∀t∈ri.ps,t<ri.nt)(hk:bm ⟨n,none⟩ P ri.assign ⟨mT ri.env ri.ps.toList avs,h,n,ri.nt⟩ (uE P n ri.body K)):xN P ri avs h n K mk:=⟨h1,h2,hk⟩
@[simp ↓]theorem YZ(k:Nat)(body:Code)(K:ak->Nat->Prop)(s:St):uE P k body K .normal s=bm ⟨k,none⟩ P body s (su k K):=rfl
theorem tY{k:Nat}{K:ak->Nat->Prop}{s:St}(h':ak)(n':Nat)(ag:Nat)(hle:Lek ⟨k,none⟩ s ⟨[],h',n',ag⟩)(hk:K h' n'):su k K .normal s:=⟨h',n',ag,hle,hk⟩
@[congr] theorem Y0{k:Nat}{K:ak->Nat->Prop}{e e':Exit}{s s':St}(h1:e=e')(h2:s=s'):su k K e s=su k K e' s':=by rw[h1,h2]
@[congr] theorem Y1{k:Nat}{body:Code}{K:ak->Nat->Prop}{e e':Exit}{s s':St}(h1:e=e')(h2:s=s'):uE P k body K e s=uE P k body K e' s':=by rw[h1,h2]
section
variable{ri:RI}{ops:Array Oper}{nt:Nat}{e:Env}{h:ak}{n:Nat}{dst:Option Tmp}{op:Op}{ty:TypeId}{pos:String}{after:Array Edge}{j:Nat}{want:Bool}{Kr:Env->ak->Nat->Prop}
def yM(P:Program)(ri:RI)(nt:Nat)(e:Env)(h:ak)(n:Nat)(o:Oper)(K:Env->ak->Nat->Prop)(_:Mark K):Prop:=YW P ri nt e h n o K
@[congr] theorem Y2{e e':Env}{h h':ak}{n n':Nat}{o:Oper}{K:Env->ak->Nat->Prop}{mk:Mark K}(e1:e=e')(e2:h=h')(e3:n=n'):yM P ri nt e h n o K mk=yM P ri nt e' h' n' o K mk:=by rw[e1,e2,e3]
def gY(P:Program)(ri:RI)(ops:Array Oper)(nt:Nat)(e:Env)(h:ak)(n:Nat)(o:Oper)(K:Env->ak->Nat->Prop)(_:Mark K):Prop:=gYW P ri ops nt e h n o K
@[congr] theorem Y3{e e':Env}{h h':ak}{n n':Nat}{o:Oper}{K:Env->ak->Nat->Prop}{mk:Mark K}(e1:e=e')(e2:h=h')(e3:n=n'):gY P ri ops nt e h n o K mk=gY P ri ops nt e' h' n' o K mk:=by rw[e1,e2,e3]
def gYm(g:Option Bool)(P:Program)(ri:RI)(nt:Nat)(e:Env)(h:ak)(n:Nat)(o:Oper)(K:Env->ak->Nat->Prop)(_:Mark K):Prop:=gW g (YW P ri nt e h n o K) (K (put e o.dst (.tup [])) h n)
@[congr] theorem Y4{g g':Option Bool}{e:Env}{h:ak}{n:Nat}{o:Oper}{K:Env->ak->Nat->Prop}{mk:Mark K}(e0:g=g'):gYm g P ri nt e h n o K mk=gYm g' P ri nt e h n o K mk:=by rw[e0]
@[simp]theorem Y5{o:Oper}{mk:Mark Kr}:gYm (some true) P ri nt e h n o Kr mk=YW P ri nt e h n o Kr:=by unfold gYm;exact Bc _ _
@[simp]theorem Y6{o:Oper}{mk:Mark Kr}:gYm (some false) P ri nt e h n o Kr mk=Kr (put e o.dst (.tup [])) h n:=by unfold gYm;exact Be _ _
@[simp ↓]theorem Y7{mk:Mark Kr}:gY P ri ops nt e h n ⟨dst,op,ty,pos,after,some (j,want)⟩ Kr mk=(dOk nt dst/\gYm (gOf ops e j want) P ri nt e h n ⟨dst,op,ty,pos,after,some (j,want)⟩ Kr .it):=by
 unfold gY gYW;rw[Bf]
 cases gOf ops e j want<;>simp[gYm,gW]
@[simp ↓]theorem Y8{f:Operand}{args:Array Operand}{tys:Array TypeId}{g:Option (Nat×Bool)}:YW P ri nt e h n ⟨dst,.call ⟨.value f,args,tys⟩,ty,pos,after,g⟩ Kr=(dOk nt dst/\(∃ow fl,ev e f=.w ow fl (.yl ri.l))/\xN P ri (args.toList.map (ev e)) h n (λh' n'=>Kr (put e dst (.w false false (.bool true))) h' n') .it):=rfl
end
theorem mf{k:Nat}{ri:RI}{id:Nat}{ops:Array Oper}{env:Env}{h:ak}{n nt:Nat}(i:Nat)(hi:i<ops.toList.length)(hk:bV P ops nt (ops.toList.take i) env h n λe' h' n'=>gY P ri ops nt e' h' n' (ops.toList.getD i default) (λa6 a7 aa=>bV P ops nt (ops.toList.drop (i+1)) a6 a7 aa λe3 h3 n3=>K .normal ⟨e3,h3,n3,nt⟩) .it):bm ⟨k,some ri⟩ P (.region id ops false) ⟨env,h,n,nt⟩ K:=by
 refine Oe (ops.toList.take i) (ops.toList.getD i default) (ops.toList.drop (i+1)) ?_ hk
 have e:ops.toList.getD i default=ops.toList[i]:=by grind
 rw[e,Di,yg]
end
section
variable{P:Program}{K:Exit->St->Prop}
def IB(fk:Fk)(P:Program)(ops:Array Oper)(nt:Nat)(os:List Oper)(e:Env)(h:ak)(n:Nat)(K:Env->ak->Nat->Prop)(_:Mark (os,K)):Prop:=
 ∃e2 h2 n2,Lek fk ⟨e,h,n,nt⟩ ⟨e2,h2,n2,nt⟩/\bV P ops nt os e2 h2 n2 K
@[congr] theorem Y9{ops:Array Oper}{nt:Nat}{os:List Oper}{e e':Env}{h h':ak}{n n':Nat}{K:Env->ak->Nat->Prop}{mk:Mark (os,K)}(h1:e=e')(h2:h=h')(h3:n=n'):IB fk P ops nt os e h n K mk=IB fk P ops nt os e' h' n' K mk:=by rw[h1,h2,h3]
end
section
variable{P:Program}{K:Exit->St->Prop}
def xO(P:Program)(ops:Array Oper)(nt:Nat)(o:Oper)(post:List Oper)(g:FuncId)(fn:Func)(c:Code)(args:Array Operand)(e:Env)(h:ak)(n:Nat)(K:Env->ak->Nat->Prop)(_:Mark (o,post,c,K)):Prop:=
 ∃aH,fo (ev e (.func g))=some (g,aH)/\(args.toList.map (ev e)++aH).length<=fn.ntmps/\IW P nt e h n o g aH fn c (args.toList.map (ev e)) λa6 a7 aa=>bV P ops nt post a6 a7 aa K
@[congr] theorem Za{ops:Array Oper}{nt:Nat}{o:Oper}{post:List Oper}{g:FuncId}{fn:Func}{c:Code}{args:Array Operand}{e e':Env}{h h':ak}{n n':Nat}{K:Env->ak->Nat->Prop}{mk:Mark (o,post,c,K)}(h1:e=e')(h2:h=h')(h3:n=n'):xO P ops nt o post g fn c args e h n K mk=xO P ops nt o post g fn c args e' h' n' K mk:=by rw[h1,h2,h3]
theorem Bv{ops:Array Oper}{nt:Nat}{o:Oper}{post:List Oper}{g:FuncId}{fn:Func}{c:Code}{args:Array Operand}{e:Env}{h:ak}{n:Nat}{K:Env->ak->Nat->Prop}{mk:Mark (o,post,c,K)}(hl:args.toList.length<=fn.ntmps)(hd:dOk nt o.dst)(hg:o.guard=none)(hk:bm ⟨n,none⟩ P c ⟨dR 0 (args.toList.map (ev e)),h,n,fn.ntmps⟩ (fp P fn.results.toList λv h' n'=>bV P ops nt post (put e o.dst v) h' n' K)):xO P ops nt o post g fn c args e h n K mk:=
 ⟨[],rfl,by rw[oo,fI];exact hl,hd,hg,by rw[oo];exact hk⟩
theorem rD{id:Nat}{ops:Array Oper}{env:Env}{h:ak}{n nt:Nat}(i:Nat){g:FuncId}{fn:Func}{c:Code}(al:P.funcs[g]?=some fn) (h9:(fn.name == "runtime.NumGoroutine")=false) (hb:fn.body=some c) (hi:i<ops.toList.length) {args:Array Operand} {tys:Array TypeId} (ho:(ops.toList.getD i default).op=.call { callee:=.value (.func g),args:=args,argTypes:=tys }) (hk:bV P ops nt (ops.toList.take i) env h n λe' h' n'=>xO P ops nt (ops.toList.getD i default) (ops.toList.drop (i+1)) g fn c args e' h' n' (λe3 h3 n3=>K .normal ⟨e3,h3,n3,nt⟩) .it):bm fk P (.region id ops false) ⟨env,h,n,nt⟩ K:=by
 refine Of (ops.toList.take i) (ops.toList.getD i default) (ops.toList.drop (i+1)) ?_ ho al h9 hb hk
 have e:ops.toList.getD i default=ops.toList[i]:=by grind
 rw[e,Di,yg]
end
def Sw(P:Program)(f:FuncId)(args:List AV)(h:ak)(n:Nat)(id:Nat)(c:List AV)(v:AV):Prop:=
 BN P f/\∀(B:Base)(m:Mm)(w:World)(vs:Array Value),B.n<=w.heap.size->bt B h m w->(∀i c,(i,c)∈h->m.dom i)->args.length=vs.size->(∀(j:Nat)(p:AV)(u:Value),args[j]?=some p->vs[j]?=some u->aA B (LB m h) m w p u) ->
  jA P f vs w λe w'=>∃u m',e=.returned u/\EPost B h m w n (bP h id c) n v u w' m'
section
variable{P:Program}{B:Base}{env:Env}{h:ak}{n nt:Nat}{a:Act}{w:World}{m:Mm}
def IG(P:Program)(ops:Array Oper)(nt:Nat)(o:Oper)(post:List Oper)(g:FuncId)(args:Array Operand)(e:Env)(h:ak)(n:Nat)(K:Env->ak->Nat->Prop)(_:Mark (o,post,K)):Prop:=
 dOk nt o.dst/\o.guard=none/\∃id c v,Sw P g (args.toList.map (ev e)) h n id c v/\bV P ops nt post (put e o.dst v) (bP h id c) n K
omit [av] in
@[congr] theorem Zl[av]{ops:Array Oper}{nt:Nat}{o:Oper}{post:List Oper}{g:FuncId}{args:Array Operand}{e e':Env}{h h':ak}{n n':Nat}{K:Env->ak->Nat->Prop}{mk:Mark (o,post,K)}(h1:e=e')(h2:h=h')(h3:n=n'):IG P ops nt o post g args e h n K mk=IG P ops nt o post g args e' h' n' K mk:=by rw[h1,h2,h3]
end
section
variable{P:Program}{K:Exit->St->Prop}
def IWY(r:Option RI)(P:Program)(nt:Nat)(e:Env)(h:ak)(n:Nat)(o:Oper)(g:FuncId)(aH:List AV)(fn:Func)(c:Code)(args:List AV)(K:Env->ak->Nat->Prop):Prop:=
 dOk nt o.dst/\o.guard=none/\bm ⟨n,r⟩ P c ⟨dR 0 (args++aH),h,n,fn.ntmps⟩ (fp P fn.results.toList λv h' n'=>K (put e o.dst v) h' n')
def IH(r:Option RI)(P:Program)(ops:Array Oper)(nt:Nat)(o:Oper)(post:List Oper)(f:Operand)(g:FuncId)(fn:Func)(c:Code)(args:Array Operand)(e:Env)(h:ak)(n:Nat)(K:Env->ak->Nat->Prop)(_:Mark (o,post,c,K)):Prop:=
 ∃aH,fo (ev e f)=some (g,aH)/\(args.toList.map (ev e)++aH).length<=fn.ntmps/\IWY r P nt e h n o g aH fn c (args.toList.map (ev e)) λa6 a7 aa=>bV P ops nt post a6 a7 aa K
@[congr] theorem Zm{r:Option RI}{ops:Array Oper}{nt:Nat}{o:Oper}{post:List Oper}{f:Operand}{g:FuncId}{fn:Func}{c:Code}{args:Array Operand}{e e':Env}{h h':ak}{n n':Nat}{K:Env->ak->Nat->Prop}{mk:Mark (o,post,c,K)}(h1:e=e')(h2:h=h')(h3:n=n'):IH r P ops nt o post f g fn c args e h n K mk=IH r P ops nt o post f g fn c args e' h' n' K mk:=by rw[h1,h2,h3]
end
section
variable{P:Program}{env:Env}{h:ak}{n nt:Nat}
end
section
variable{P:Program}{env:Env}{h:ak}{n nt:Nat}
def xP(r:Option RI)(P:Program)(ops:Array Oper)(nt:Nat)(o:Oper)(post:List Oper)(f:Operand)(g:FuncId)(fn:Func)(c:Code)(args:Array Operand)(e:Env)(h:ak)(n:Nat)(K:Env->ak->Nat->Prop)(_:Mark (o,post,c,K)):Prop:=
 ∃aH,fo (ev e f)=some (g,aH)/\(args.toList.map (ev e)++aH).length<=fn.ntmps/\dOk nt o.dst/\fB ops e o=some true/\bm ⟨n,r⟩ P c ⟨dR 0 (args.toList.map (ev e)++aH),h,n,fn.ntmps⟩ (fp P fn.results.toList λv h' n'=>bV P ops nt post (put e o.dst v) h' n' K)
@[congr] theorem Zn{r:Option RI}{ops:Array Oper}{nt:Nat}{o:Oper}{post:List Oper}{f:Operand}{g:FuncId}{fn:Func}{c:Code}{args:Array Operand}{e e':Env}{h h':ak}{n n':Nat}{K:Env->ak->Nat->Prop}{mk:Mark (o,post,c,K)}(h1:e=e')(h2:h=h')(h3:n=n'):xP r P ops nt o post f g fn c args e h n K mk=xP r P ops nt o post f g fn c args e' h' n' K mk:=by rw[h1,h2,h3]
theorem xi{r:Option RI}{ops:Array Oper}{nt:Nat}{o:Oper}{post:List Oper}{f:Operand}{g:FuncId}{fn:Func}{c:Code}{args:Array Operand}{e:Env}{h:ak}{n:Nat}{K:Env->ak->Nat->Prop}{mk:Mark (o,post,c,K)}(aH:List AV)(hf:fo (ev e f)=some (g,aH))(hl:args.toList.length+aH.length<=fn.ntmps)(hd:dOk nt o.dst)(hg:fB ops e o=some true)(hk:bm ⟨n,r⟩ P c ⟨dR 0 (args.toList.map (ev e)++aH),h,n,fn.ntmps⟩ (fp P fn.results.toList λv h' n'=>bV P ops nt post (put e o.dst v) h' n' K)):xP r P ops nt o post f g fn c args e h n K mk:=
 ⟨aH,hf,by rw[jO,fI];exact hl,hd,hg,hk⟩
theorem xj{K:Exit->St->Prop}{id:Nat}{ops:Array Oper}(k:Nat)(g:FuncId)(hm:P.follows .mixedOrders=true)(cm:um ops k=true)(cp:k<ops.size){fn:Func}{c:Code}(al:P.funcs[g]?=some fn) (h9:(fn.name == "runtime.NumGoroutine")=false) (hb:fn.body=some c) {f:Operand} {args:Array Operand} {tys:Array TypeId} (ho:(ops.toList.getD k default).op=.call { callee:=.value f,args:=args,argTypes:=tys }) (hk:fC P ops nt (ops.toList.take k) env h n λe' h' n'=>xP fk.ri P ops nt (ops.toList.getD k default) (ops.toList.drop (k+1)) f g fn c args e' h' n' (λe3 h3 n3=>K .normal ⟨e3,h3,n3,nt⟩) .it):bm fk P (.region id ops true) ⟨env,h,n,nt⟩ K:=by
 obtain⟨hc,ba⟩:=zu cm;refine Ep k hm hc hk (λB w0 e' h' n' hK f' listed a w m dr bi hl el hs=>?_);obtain⟨aH,hf,au,a8,c4,hw⟩:=hK
 cases f' with
 |zero=>
  exfalso;have:=qb (x9.1 el) (i:=k) (by omega);have:=(hl k cp).1 this;omega
 |succ f'=>
  have ax:=qY dr hc.down k cp (by
   grind)
  refine⟨λcu=>absurd cu ax,λx ez=>?_⟩;obtain⟨o,bd,d3,he⟩:=nh dr ez;have dv:=(bD.1 bd).1
  have f8:x=k:=by
   have h1:¬x<k:=λfh=>by
    have:=(hl x dv).2 fh;rw[ck,d3] at this;cases this
   rcases dF k x with h2|h2
   .have:=lT bi 8 x k o bd he (ba x (by omega) dv k h2);have:=(hl k cp).1 this;omega
   .omega
  subst f8
  have ek:ops.toList.getD x default=o:=by
   rw[bS,iQ,bd];rfl
  rw[ek] at ho c4 a8 hw;unfold jW;rw[bd];simp only[];intro w e1;replace hs:=hs.move e1;rw[pZ c4 hs];simp only[aX];refine jo (λc e=>by rw[ho] at e;cases e) (Gx o f args tys ho hf al h9 hb au fk.ri (λ_ h=>h) hw hs a8 _ _ (λv h' n' a' w' m' db h8=>?_));refine vG (Kr:=λa6 a7 aa=>K .normal ⟨a6,a7,aa,nt⟩) (λe' h' n' a' w' m' ai a5=>⟨_,m',ai,a5⟩) hc.down ba f' (x+1) (listed.setIfInBounds x true) _ _ _ a' w' m' (by omega) (by omega) (by grind) (bi.set bd he) (λj hj=>?_) (by have:=p9 d3;omega) db h8;by_cases f9:x=j
  .simp_all
  .rw[getD_set_ne false f9,hl j hj];omega
end
end Go.Fi
namespace Go.Fi
open Go Go.RowKit
variable[av]
section
variable{k:Nat}{ri:RI}{P:Program}{K Kd K' ge:Exit->St->Prop}{st st':St}
theorem G7{c:Code}(hle:Lek ⟨k,some ri⟩ st st')(h:dJ k ri P c st' K Kd):dJ k ri P c st K Kd:=
 λB w0 a w m hs=>let ⟨m',h8⟩:=hle B w0 a w m hs;h B w0 a w m' h8
def sA(k:Nat)(ri:RI)(P:Program)(b:Code)(K Kd:Exit->St->Prop):Exit->St->Prop
 |.normal,s=>dJ k ri P b s K Kd
 |e,s=>K e s
def sB(k:Nat)(P:Program)(b:Code)(Kd:Exit->St->Prop):Exit->St->Prop
 |.normal,s=>bm ⟨k,none⟩ P b s Kd
 |e,s=>Kd e s
@[simp ↓]theorem Zo(b:Code)(s:St):sA k ri P b K Kd .normal s=dJ k ri P b s K Kd:=rfl
@[simp ↓]theorem Zp(b:Code)(s:St):sA k ri P b K Kd .ret s=K .ret s:=rfl
@[simp ↓]theorem Zq(b:Code)(i:Nat)(s:St):sA k ri P b K Kd (.exit i) s=K (.exit i) s:=rfl
@[simp ↓]theorem Zr(b:Code)(s:St):sB k P b Kd .normal s=bm ⟨k,none⟩ P b s Kd:=rfl
@[simp ↓]theorem Zs(b:Code)(s:St):sB k P b Kd .ret s=Kd .ret s:=rfl
@[simp ↓]theorem Zt(b:Code)(i:Nat)(s:St):sB k P b Kd (.exit i) s=Kd (.exit i) s:=rfl
@[congr] theorem Zu{c:Code}(h:st=st'):dJ k ri P c st K Kd=dJ k ri P c st' K Kd:=by rw[h]
@[congr] theorem Zv{b:Code}{e e':Exit}(h1:e=e')(h2:st=st'):sA k ri P b K Kd e st=sA k ri P b K Kd e' st':=by rw[h1,h2]
@[congr] theorem Zw{b:Code}{e e':Exit}(h1:e=e')(h2:st=st'):sB k P b Kd e st=sB k P b Kd e' st':=by rw[h1,h2]
theorem gL{x y:Code}(h:dJ k ri P x st (sA k ri P y K Kd) (sB k P y Kd)):dJ k ri P (.seq x y) st K Kd:=
 λB w0 a w m hs=>yE (dH (h B w0 a w m hs) (λe a' w' hx=>by
  rcases hx with ⟨st',m',h1,h2⟩|⟨w1,hl,st',m',h1,h2⟩
  .cases e with
   |normal=>exact h1 B w0 a' w' m' h2
   |_=>exact .inl ⟨st',m',h1,h2⟩
  .cases e with
   |normal=>
    have:=h1 B w1 a' w' m' h2;rw[hl.2.2.1] at this;exact dH this (λe a2 w2 ⟨s2,m2,g1,g2⟩=>.inr ⟨w1,hl,s2,m2,g1,g2⟩)
   |_=>exact .inr ⟨w1,hl,st',m',h1,h2⟩))
theorem Bz{id:Nat}{c:Code}(h:dJ k ri P c st (iB id K) (iB id Kd)):dJ k ri P (.block id c) st K Kd:=
 λB w0 a w m hs=>yG (dH (h B w0 a w m hs) (λe a' w' hx=>by
  rcases hx with ⟨st',m',h1,h2⟩|⟨w1,hl,st',m',h1,h2⟩
  .cases e with
   |exit fm=>
    simp only[Exit.inBlock];simp only[iB] at h1
    grind
   |_=>exact .inl ⟨st',m',h1,h2⟩
  .cases e with
   |exit fm=>
    simp only[Exit.inBlock];simp only[iB] at h1
    grind
   |_=>exact .inr ⟨w1,hl,st',m',h1,h2⟩))
def qS(Kd:Exit->St->Prop):Exit->St->Prop
 |.normal,_=>False
 |e,s=>Kd e s
section
omit [av]
@[simp ↓]theorem Zx(s:St):qS Kd .ret s=Kd .ret s:=rfl
@[simp ↓]theorem Zy(i:Nat)(s:St):qS Kd (.exit i) s=Kd (.exit i) s:=rfl
@[congr] theorem Zz{e e':Exit}(h1:e=e')(h2:st=st'):qS Kd e st=qS Kd e' st':=by rw[h1,h2]
end
theorem G8{c:Code}{α:Type}(J:α->Prop)(I:α->St)(μ:α->Nat)(x0:α)(hJ:J x0)(h0:Lek ⟨k,some ri⟩ st (I x0))(round:∀x,J x->dJ k ri P c (I x) (j3 ⟨k,some ri⟩ J I μ x K) (qS Kd)):dJ k ri P (.loop c) st K Kd:=by
 intro B w0 a w m hs;refine yH (λk a w=>∃x m,J x/\μ x=k/\Sim B w0 (I x) a w m) (μ x0) (by obtain⟨m',h⟩:=h0 B w0 a w m hs;grind) ?_
 rintro j a w ⟨x,m,hx,rfl,et⟩
 refine dH (round x hx B w0 a w m et) (λe a' w' hq=>?_)
 rcases hq with ⟨st',m',h2,h3⟩|⟨w1,hl,st',m',h2,h3⟩
 .cases e with
  |normal=>
   obtain⟨y,hy,aq,hle⟩:=h2;obtain⟨bq,h4⟩:=hle B w0 a' w' m' h3;exact⟨μ y,aq,y,bq,hy,rfl,h4⟩
  |_=>exact .inl ⟨st',m',h2,h3⟩
 .cases e with
  |normal=>exact h2.elim
  |_=>exact .inr ⟨w1,hl,st',m',h2,h3⟩
def YW2(P:Program)(ri:RI)(nt:Nat)(o:Oper)(f:Operand)(args:Array Operand)(e:Env)(h:ak)(n:Nat)(K Kl:Env->ak->Nat->Prop)(_:Mark (K,Kl)):Prop:=
 (∃ow fl,ev e f=.w ow fl (.yl ri.l))/\CL P ri (args.toList.map (ev e)) h n (λh' n'=>K (put e o.dst (.w false false (.bool true))) h' n') (λh' n'=>Kl (put e o.dst (.w false false (.bool false))) h' n')
@[congr] theorem ZA{nt:Nat}{o:Oper}{f:Operand}{args:Array Operand}{e e':Env}{h h':ak}{n n':Nat}{K Kl:Env->ak->Nat->Prop}{mk:Mark (K,Kl)}(h1:e=e')(h2:h=h')(h3:n=n'):YW2 P ri nt o f args e h n K Kl mk=YW2 P ri nt o f args e' h' n' K Kl mk:=by rw[h1,h2,h3]
theorem Pa{nt:Nat}{o:Oper}{f:Operand}{args:Array Operand}{e:Env}{h:ak}{n:Nat}{K Kl:Env->ak->Nat->Prop}{mk:Mark (K,Kl)}(ow fl:Bool)(h1:ev e f=.w ow fl (.yl ri.l))(hl:args.toList.length=ri.ps.size)(aq:∀t∈ri.ps,t<ri.nt)(hk:bm ⟨n,none⟩ P ri.assign ⟨mT ri.env ri.ps.toList (args.toList.map (ev e)),h,n,ri.nt⟩ (uG P n ri.body (λh' n'=>K (put e o.dst (.w false false (.bool true))) h' n') (λh' n'=>Kl (put e o.dst (.w false false (.bool false))) h' n'))):YW2 P ri nt o f args e h n K Kl mk:=
 ⟨⟨ow,fl,h1⟩,by rw[fI];exact hl,aq,hk⟩
theorem G9{id:Nat}{ops:Array Oper}{env:Env}{h:ak}{n nt:Nat}(i:Nat)(hi:i<ops.toList.length){f:Operand}{args:Array Operand}{tys:Array TypeId}(ho:(ops.toList.getD i default).op=.call { callee:=.value f,args:=args,argTypes:=tys })(hg:(ops.toList.getD i default).guard=none)(hd:dOk nt (ops.toList.getD i default).dst)(hk:bV P ops nt (ops.toList.take i) env h n λe' h' n'=>YW2 P ri nt (ops.toList.getD i default) f args e' h' n' (λa6 a7 aa=>bV P ops nt (ops.toList.drop (i+1)) a6 a7 aa λe3 h3 n3=>K .normal ⟨e3,h3,n3,nt⟩) (λa6 a7 aa=>bV P ops nt (ops.toList.drop (i+1)) a6 a7 aa λe3 h3 n3=>Kd .normal ⟨e3,h3,n3,nt⟩) .it):dJ k ri P (.region id ops false) ⟨env,h,n,nt⟩ K Kd:=by
 have e:ops.toList.getD i default=ops.toList[i]:=by grind
 have b5:ops.toList=ops.toList.take i++ops.toList.getD i default::ops.toList.drop (i+1):=by rw[e,Di,yg]
 generalize ops.toList.getD i default=o at *;generalize ops.toList.take i=pre at *;generalize ops.toList.drop (i+1)=post at *;intro B w0 a w m hs;refine qX ?_;rw[b5];refine rz (o::post) ?_ pre env h n a w m hk hs
 rintro e h n a w m ⟨⟨ow,fl,hf⟩,hr⟩ hs
 simp only[gO,Region.wanted,hg,aX];intro w e1;replace hs:=hs.move e1;refine GB o f args tys ho hf hr hs hd _ _ (λh' n' a' w' m' ao h8=>?_) (λw1 h' n' a' w' m' hl ao h8=>?_)
 .exact ng (λ_ _ _ _ _ m ai h8=>.inl ⟨_,m,ai,h8⟩) post _ _ _ _ _ m' ao h8
 .have:=ng (Q:=λe a' w'=>(∃st' m',K e st'/\Sim B w0 st' a' w' m')\/∃w1:Ctx ⟨k,none⟩,qP w0 w1/\∃st' m',Kd e st'/\Sim B w1 st' a' w' m') (w0:=w1) (P:=P) (ops:=ops) (λ_ _ _ _ _ m ai h8=>.inr ⟨w1,hl,_,m,ai,h8⟩) post _ _ _ _ _ m' ao h8;rw[hl.2.2.1] at this;exact this
end
section
variable{k:Nat}{ri:RI}{B:Base}{m:Mm}{w:World}{h:ak}{n:Nat}{env:Env}{a:Act}{P:Program}
theorem Ha{w0:Ctx ⟨k,some ri⟩}{nt:Nat}(o:Oper)(f:Operand)(args:Array Operand)(tys:Array TypeId)(ho:o.op=.call { callee:=.value f,args:=args,argTypes:=tys }){g:FuncId}{aH:List AV}(hf:fo (ev env f)=some (g,aH)){fn:Func}{c:Code}(al:P.funcs[g]?=some fn) (h9:(fn.name == "runtime.NumGoroutine")=false) (hb:fn.body=some c) (au:(args.toList.map (ev env)++aH).length<=fn.ntmps) {Kv Kl:AV->ak->Nat->Prop} (hw:dJ n ri P c ⟨dR 0 (args.toList.map (ev env)++aH),h,n,fn.ntmps⟩ (fp P fn.results.toList Kv) (fp P fn.results.toList Kl)) (hs:Sim B w0 ⟨env,h,n,nt⟩ a w m) (a8:dOk nt o.dst) (Q:Exit->Act->World->Prop) (K':Act->World->Prop) (hK:∀v h' n' a' w' m',Kv v h' n'->Sim B w0 ⟨put env o.dst v,h',n',nt⟩ a' w' m'->K' a' w') (hKl:∀(w1:Ctx ⟨k,none⟩) v h' n' a' w' m',qP w0 w1->Kl v h' n'->Sim B w1 ⟨put env o.dst v,h',n',nt⟩ a' w' m'->K' a' w'):o.wpt P a w K' Q:=by
 refine Gw o f args tys ho hf al h9 hb au (some ri) (λ_ h=>h) Q K' (λw1 a1 e1 e2 e3 e4 e5 b7=>dH (e3▸hw B w1 a1 w m b7) (λe a' w' hq=>?_)) hs a8
 rcases hq with ⟨st',m',hk,h8⟩|⟨wl,hl,st',m',hk,h8⟩
 .have fin:∀e:Exit,(e=.normal\/e=.ret)->dC P fn.results.toList st' Kv->xL P B w0 env a n nt o fn K' e a' w':=λe he hk=>
   ⟨he,_,_,w1,w0,st',m',Kv,rfl,rfl,e1,e2,e5,rfl,rfl,rfl,λq hq=>e4▸hq,h8,hk,hK⟩
  cases e with
  |normal=>simp_all
  |ret=>simp_all
  |_=>exact hk.elim
 .obtain⟨l1,l2,l3,l4,⟨fn2,T2,D2,l5⟩,l6⟩:=hl
  have fin:∀e:Exit,(e=.normal\/e=.ret)->dC P fn.results.toList st' Kl->xL P B w0 env a n nt o fn K' e a' w':=λe he hk=>
   ⟨he,_,_,wl,(⟨w0.w,w0.F,w0.r,(ri.l,bJ ri fn2 T2 D2 .done (some .ret))::w0.obs.filter (λq=>decide (q.1≠ri.l)),w0.ds,λri h=>(by cases h),w0.ok⟩:Ctx ⟨k,none⟩),st',m',Kl,rfl,rfl,l1.trans e1,l2.trans e2,l4.trans e5,rfl,rfl,rfl,
     λq hq=>by
      grind,h8,hk,
     (hKl _ · · · · · · ⟨rfl,rfl,rfl,rfl,⟨fn2,T2,D2,by simp⟩,λq hq ax=>dm _ (jm.2 ⟨hq,by grind⟩)⟩)⟩
  cases e with
  |normal=>simp_all
  |ret=>simp_all
  |_=>exact hk.elim
end
section
variable{k:Nat}{ri:RI}{P:Program}{K Kd:Exit->St->Prop}{st:St}
theorem qx{c:Operand}{x y:Code}{o f b:Bool}(hv:ev st.env c=.w o f (.bool b))(h:dJ k ri P (bif b then x else y) st K Kd):dJ k ri P (.cond c x y) st K Kd:=by
 intro B w0 a w m hs;have hc:aA B (LB m st.heap) m w (ev st.env c) (a.eval c):=lQ c (λt _=>hs.env t);rw[hv] at hc;refine u5 hc.jC ?_;cases b
 .exact h B w0 a w m hs
 .exact h B w0 a w m hs
variable{env:Env}{h:ak}{n nt:Nat}
def uI(ri:RI)(P:Program)(ops:Array Oper)(nt:Nat)(o:Oper)(post:List Oper)(f:Operand)(g:FuncId)(fn:Func)(c:Code)(args:Array Operand)(e:Env)(h:ak)(n:Nat)(K Kd:Env->ak->Nat->Prop)(_:Mark (o,post,c,K,Kd)):Prop:=
 ∃aH,fo (ev e f)=some (g,aH)/\(args.toList.map (ev e)++aH).length<=fn.ntmps/\dOk nt o.dst/\fB ops e o=some true /\
  dJ n ri P c ⟨dR 0 (args.toList.map (ev e)++aH),h,n,fn.ntmps⟩ (fp P fn.results.toList λv h' n'=>bV P ops nt post (put e o.dst v) h' n' K) (fp P fn.results.toList λv h' n'=>bV P ops nt post (put e o.dst v) h' n' Kd)
@[congr] theorem ZB{ops:Array Oper}{nt:Nat}{o:Oper}{post:List Oper}{f:Operand}{g:FuncId}{fn:Func}{c:Code}{args:Array Operand}{e e':Env}{h h':ak}{n n':Nat}{K Kd:Env->ak->Nat->Prop}{mk:Mark (o,post,c,K,Kd)}(h1:e=e')(h2:h=h')(h3:n=n'):uI ri P ops nt o post f g fn c args e h n K Kd mk=uI ri P ops nt o post f g fn c args e' h' n' K Kd mk:=by rw[h1,h2,h3]
theorem BA{ops:Array Oper}{nt:Nat}{o:Oper}{post:List Oper}{f:Operand}{g:FuncId}{fn:Func}{c:Code}{args:Array Operand}{e:Env}{h:ak}{n:Nat}{K Kd:Env->ak->Nat->Prop}{mk:Mark (o,post,c,K,Kd)}(aH:List AV)(hf:fo (ev e f)=some (g,aH))(hl:args.toList.length+aH.length<=fn.ntmps)(hd:dOk nt o.dst)(hg:fB ops e o=some true)(hk:dJ n ri P c ⟨dR 0 (args.toList.map (ev e)++aH),h,n,fn.ntmps⟩ (fp P fn.results.toList λv h' n'=>bV P ops nt post (put e o.dst v) h' n' K) (fp P fn.results.toList λv h' n'=>bV P ops nt post (put e o.dst v) h' n' Kd)):uI ri P ops nt o post f g fn c args e h n K Kd mk:=
 ⟨aH,hf,by rw[jO,fI];exact hl,hd,hg,hk⟩
theorem Hb{id:Nat}{ops:Array Oper}(i:Nat)(g:FuncId){fn:Func}{c:Code}(al:P.funcs[g]?=some fn) (h9:(fn.name == "runtime.NumGoroutine")=false) (hb:fn.body=some c) (hi:i<ops.toList.length) {f:Operand} {args:Array Operand} {tys:Array TypeId} (ho:(ops.toList.getD i default).op=.call { callee:=.value f,args:=args,argTypes:=tys }) (hk:bV P ops nt (ops.toList.take i) env h n λe' h' n'=>uI ri P ops nt (ops.toList.getD i default) (ops.toList.drop (i+1)) f g fn c args e' h' n' (λe3 h3 n3=>K .normal ⟨e3,h3,n3,nt⟩) (λe3 h3 n3=>Kd .normal ⟨e3,h3,n3,nt⟩) .it):dJ k ri P (.region id ops false) ⟨env,h,n,nt⟩ K Kd:=by
 have e:ops.toList.getD i default=ops.toList[i]:=by grind
 have b5:ops.toList=ops.toList.take i++ops.toList.getD i default::ops.toList.drop (i+1):=by rw[e,Di,yg]
 generalize ops.toList.getD i default=o at *;generalize ops.toList.take i=pre at *;generalize ops.toList.drop (i+1)=post at *;intro B w0 a w m hs;refine qX ?_;rw[b5];refine rz (o::post) ?_ pre env h n a w m hk hs
 rintro e h n a w m ⟨aH,hf,au,a8,c4,hw⟩ hs
 simp only[gO];intro w e1;replace hs:=hs.move e1;rw[pZ c4 hs];simp only[aX];refine jo (λc e=>by rw[ho] at e;cases e) (Ha o f args tys ho hf al h9 hb au hw hs a8 _ _ (λv h' n' a' w' m' ao h8=>?_) (λw1 v h' n' a' w' m' hl ao h8=>?_))
 .exact ng (λ_ _ _ _ _ m ai h8=>.inl ⟨_,m,ai,h8⟩) post _ _ _ _ _ m' ao h8
 .have:=ng (Q:=λe a' w'=>(∃st' m',K e st'/\Sim B w0 st' a' w' m')\/∃w1:Ctx ⟨k,none⟩,qP w0 w1/\∃st' m',Kd e st'/\Sim B w1 st' a' w' m') (w0:=w1) (P:=P) (ops:=ops) (λ_ _ _ _ _ m ai h8=>.inr ⟨w1,hl,_,m,ai,h8⟩) post _ _ _ _ _ m' ao h8;rw[hl.2.2.1] at this;exact this
theorem Pb{fk:Fk}{B:Base}{w0:Ctx fk}{a:Act}{w:World}{m:Mm}{Q:Exit->Act->World->Prop}{ops:Array Oper}{e:Env}(k:Nat){id:Nat}{Kp:Env->ak->Nat->Prop}(hm:P.follows .mixedOrders=true)(hc:Chk ops k)(hk:fC P ops nt (ops.toList.take k) e h n Kp)(hs:Sim B w0 ⟨e,h,n,nt⟩ a w m)(df:∀(e':Env)(h':ak)(n':Nat),Kp e' h' n'->∀(f:Nat)(listed:Array Bool)(a:Act)(w:World)(m:Mm),listed.size=ops.size->Closed ops listed->(∀j,j<ops.size->(listed.getD j false=true↔j<k))->open_ listed<=f->Sim B w0 ⟨e',h',n',nt⟩ a w m->iZ w0.r P .any ops Q f listed a w):(Code.region id ops true).wpT w0.r P Q a w:=by
 obtain⟨T,hK⟩:=zp _ _ _ _ hk
 have hlen:(ops.toList.take k).length=k:=by simp[hc.le]
 rw[hlen] at hK
 refine yJ hm λw e1=>?_
 replace hs:=hs.move e1
 have h8:Sim B w0 ⟨e,h,n,nt⟩ a { w with drawn:=w.drawn+1 } m:=by
  have hb:Bel w.heap.size w { w with drawn:=w.drawn+1 }:=(Bel.refl _ _).drew;have hB:=hs.room;exact⟨hs.base,hs.below.trans (hb.mono hB),hs.defers,hs.size,λt=>(hs.env t).mono (Mm.le.refl m) (λ_ _ h=>h) (λb cj _=>hb.block b cj),hs.heap.below hb,hs.dom,hs.ids,hs.fr.mono (Mm.le.refl m) (λ_ _ h=>h) (λb cj _=>hb.block b cj) (aE _)⟩
 obtain⟨h1,h2,h3⟩:=En (T:=T) hc.le h8.heap h8.dom h8.ids k (aE _)
 have hf:∀i,(Array.replicate ops.size false).getD i false=false:=by
  intro i;rw[ck,ya]
  split<;>rfl
 refine Eo (T:=T) hc h3 (λf listed a w m=>df _ _ _ hK f listed a w m) ops.size _ a _ m (by simp) (λi o ho hl=>by rw[hf] at hl;cases hl) ?_ (λi _ _=>hf i) ⟨h8.base,h8.below,h8.defers,h8.size,h1,λid=>?_,(λi t hi hl=>by rw[hf] at hl;cases hl),λt _=>?_,by rw[h2];exact h8.fr⟩
 .unfold open_
  grind
 .rw[h8.dom];simp_all
 .rw[h2];exact h8.env t
theorem Hc{id:Nat}{ops:Array Oper}(i:Nat)(g:FuncId)(hm:P.follows .mixedOrders=true)(cm:um ops i=true)(cp:i<ops.size){fn:Func}{c:Code}(al:P.funcs[g]?=some fn) (h9:(fn.name == "runtime.NumGoroutine")=false) (hb:fn.body=some c) {f:Operand} {args:Array Operand} {tys:Array TypeId} (ho:(ops.toList.getD i default).op=.call { callee:=.value f,args:=args,argTypes:=tys }) (hk:fC P ops nt (ops.toList.take i) env h n λe' h' n'=>uI ri P ops nt (ops.toList.getD i default) (ops.toList.drop (i+1)) f g fn c args e' h' n' (λe3 h3 n3=>K .normal ⟨e3,h3,n3,nt⟩) (λe3 h3 n3=>Kd .normal ⟨e3,h3,n3,nt⟩) .it):dJ k ri P (.region id ops true) ⟨env,h,n,nt⟩ K Kd:=by
 obtain⟨hc,ba⟩:=zu cm;intro B w0 a w m hs;refine Pb i hm hc hk hs (λe' h' n' hK f' listed a w m dr bi hl el hs=>?_);obtain⟨aH,hf,au,a8,c4,hw⟩:=hK
 cases f' with
 |zero=>
  exfalso;have:=qb (x9.1 el) (i:=i) (by omega);have:=(hl i cp).1 this;omega
 |succ f'=>
  have ax:=qY dr hc.down i cp (by
   grind)
  refine⟨λcu=>absurd cu ax,λx ez=>?_⟩;obtain⟨o,bd,d3,he⟩:=nh dr ez;have dv:=(bD.1 bd).1
  have f8:x=i:=by
   have h1:¬x<i:=λfh=>by
    have:=(hl x dv).2 fh;rw[ck,d3] at this;cases this
   rcases dF i x with h2|h2
   .have:=lT bi 8 x i o bd he (ba x (by omega) dv i h2);have:=(hl i cp).1 this;omega
   .omega
  subst f8
  have ek:ops.toList.getD x default=o:=by
   rw[bS,iQ,bd];rfl
  rw[ek] at ho c4 a8 hw;unfold jW;rw[bd];simp only[];intro w e1;replace hs:=hs.move e1;rw[pZ c4 hs];simp only[aX]
  have bP:∀j,j<ops.size->((listed.setIfInBounds x true).getD j false=true↔j<x+1):=λj hj=>by
   by_cases f9:x=j
   .simp_all
   .rw[getD_set_ne false f9,hl j hj];omega
  refine jo (λc e=>by rw[ho] at e;cases e) (Ha o f args tys ho hf al h9 hb au hw hs a8 _ _ (λv h' n' a' w' m' db h8=>?_) (λw1 v h' n' a' w' m' fd db h8=>?_))
  .exact vG (Kr:=λa6 a7 aa=>K .normal ⟨a6,a7,aa,nt⟩) (λe' h' n' a' w' m' ai a5=>.inl ⟨_,m',ai,a5⟩) hc.down ba f' (x+1) (listed.setIfInBounds x true) _ _ _ a' w' m' (by omega) (by omega) (by grind) (bi.set bd he) bP (by have:=p9 d3;omega) db h8
  .have:=vG (w0:=w1) (Kr:=λa6 a7 aa=>Kd .normal ⟨a6,a7,aa,nt⟩) (Q:=λe a' w'=>(∃st' m',K e st'/\Sim B w0 st' a' w' m')\/∃w1:Ctx ⟨k,none⟩,qP w0 w1/\∃st' m',Kd e st'/\Sim B w1 st' a' w' m') (λe' h' n' a' w' m' ai a5=>.inr ⟨w1,fd,_,m',ai,a5⟩) hc.down ba f' (x+1) (listed.setIfInBounds x true) _ _ _ a' w' m' (by omega) (by omega) (by grind) (bi.set bd he) bP (by have:=p9 d3;omega) db h8;rw[fd.2.2.1] at this;exact this
end
section
variable{fk:Fk}{P:Program}{K:Exit->St->Prop}{st:St}
theorem Hd{c:Code}{α:Type}(J:α->Prop)(I:α->St)(μ:α->Nat)(x0:α)(hJ:J x0)(h0:Lek fk st (I x0))(round:∀x,J x->dV fk P c (I x) (j3 fk J I μ x K)):dV fk P (.loop c) st K:=by
 intro B w0 a w m hr hd hs;refine yH (λk a w=>∃(w1:Ctx fk)(x:α)(m:Mm),w1.w=w0.w/\w1.r=none/\qQ w1/\J x/\μ x=k/\Sim B w1 (I x) a w m) (μ x0) (by obtain⟨m',h⟩:=h0 B w0 a w m hs;grind) ?_
 rintro k a w ⟨w1,x,m,g1,g2,g3,hx,rfl,et⟩
 refine dH (round x hx B w1 a w m g2 g3 et) (λe a' w' ⟨w2,st',m',k1,k2,k3,h2,h3⟩=>?_)
 cases e<;>first
  |exact⟨w2,st',m',k1.trans g1,k2,k3,h2,h3⟩
  |(obtain⟨y,hy,aq,hle⟩:=h2
    obtain⟨bq,h4⟩:=hle B w2 a' w' m' h3
    exact⟨μ y,aq,w2,y,bq,k1.trans g1,k2,k3,hy,rfl,h4⟩)
theorem oS{c:Operand}{x y:Code}{o f b:Bool}(hv:ev st.env c=.w o f (.bool b))(h:dV fk P (bif b then x else y) st K):dV fk P (.cond c x y) st K:=by
 intro B w0 a w m hr hd hs;have hc:aA B (LB m st.heap) m w (ev st.env c) (a.eval c):=lQ c (λt _=>hs.env t);rw[hv] at hc;refine u5 hc.jC ?_;cases b
 .exact h B w0 a w m hr hd hs
 .exact h B w0 a w m hr hd hs
end
end Go.Fi
namespace Go.Fi
open Go Go.RowKit
variable[av]
variable{fk:Fk}
def qR(P:Program)(rs:List ResultVar)(c0:Nat)(E:List (List AV))(v:AV)(D:List Nat)(st:St):Prop:=
 match eX P st.env st.heap rs with
 |some (vs,c)=>c/\n9 D st.heap st.nxt (c0+E.length) (oneOf vs) (v.sh c0)/\mQ D st.heap st.nxt (c0+E.length) (bu [] c0 (E.map (AV.sh.shL c0)))
 |none=>False
def mkK(P:Program)(rs:List ResultVar)(c0:Nat)(E:List (List AV))(v:AV)(D:List Nat):Exit->St->Prop
 |.normal,s=>qR P rs c0 E v D s
 |.ret,s=>qR P rs c0 E v D s
 |_,_=>False
omit [av] in
@[simp ↓]theorem Zb(P:Program)(rs:List ResultVar)(c0:Nat)(E:List (List AV))(v:AV)(D:List Nat)(s:St):mkK P rs c0 E v D .normal s=qR P rs c0 E v D s:=rfl
omit [av] in
@[simp ↓]theorem Zc(P:Program)(rs:List ResultVar)(c0:Nat)(E:List (List AV))(v:AV)(D:List Nat)(s:St):mkK P rs c0 E v D .ret s=qR P rs c0 E v D s:=rfl
section
variable{B:Base}{L:Nat->Prop}{m mm:Mm}{w:World}
omit [av] in
theorem aA.down{c:Nat}(hd:∀i,m.dom (i+c)->mm.dom i)(ht:∀i,mm.top i=m.top (i+c))(ha:∀i ver,mm.addr i ver=m.addr (i+c) ver){y:AV}{u:Value}(h:aA B L m w y u):∀x:AV,x.sh c=y->aA B L mm w x u:=by
 induction h with
 |@w own full p v hr hf=>
  intro x e
  cases x with
  |w o f q=>simp only[Sa,AV.w.injEq] at e;obtain⟨rfl,rfl,rfl⟩:=e;exact .w hr hf
  |_=>simp[AV.sh] at e
 |@ptr id ver off b C c7 dt e7 ft=>
  intro x e
  cases x with
  |ptr i v o=>simp only[NT,AV.ptr.injEq] at e;obtain⟨rfl,rfl,rfl⟩:=e;exact .ptr (hd _ c7) (by rw[ht];exact dt) (by rw[ha];exact e7) ft
  |_=>simp[AV.sh] at e
 |@mp id b c7 dt e7=>
  intro x e
  cases x with
  |mp i=>simp only[AV.sh,AV.mp.injEq] at e;subst e;exact .mp (hd _ c7) (by rw[ht];exact dt) (by rw[ha];exact e7)
  |_=>simp[AV.sh] at e
 |@msl id ver sz off n cap a c7 dt hn h0 h1=>
  intro x e
  cases x with
  |msl i v s o k=>simp only[NU,AV.msl.injEq] at e;obtain⟨rfl,rfl,rfl,rfl,rfl⟩:=e;exact .msl (hd _ c7) (by rw[ht];exact dt) hn (λe=>h0 (by rw[<-ha];exact e)) (λb C e=>h1 b C (by rw[<-ha];exact e))
  |_=>simp[AV.sh] at e
 |@agg cs vs hl _ ih=>
  intro x e
  cases x with
  |agg ds=>
   simp only[NV,AV.agg.injEq,gp] at e;subst e;exact .agg (by grind) (λj p v hp hv=>ih j (p.sh c) v (by rw[gD,hp];rfl) hv p rfl)
  |_=>simp[AV.sh] at e
 |@tup cs vs hl _ ih=>
  intro x e
  cases x with
  |tup ds=>
   simp only[NW,AV.tup.injEq,gp] at e;subst e;exact .tup (by grind) (λj p v hp hv=>ih j (p.sh c) v (by rw[gD,hp];rfl) hv p rfl)
  |_=>simp[AV.sh] at e
 |@fn f cs vs hl _ ih=>
  intro x e
  cases x with
  |fn g ds=>
   simp only[AV.sh,AV.fn.injEq,gp] at e;obtain⟨rfl,rfl⟩:=e;exact .fn (by grind) (λj p v hp hv=>ih j (p.sh c) v (by rw[gD,hp];rfl) hv p rfl)
  |_=>simp[AV.sh] at e
omit [av] in
theorem GW(c:Nat):∀(E:List (List AV))(n:Nat),bu [] (n+c) (E.map (AV.sh.shL c))=(bu [] n E).map λp=>(p.1+c,AV.sh.shL c p.2)
 |[],n=>rfl
 |x::E,n=>by
  simp only[mV,bu];rw[show n+c+1=(n+1)+c by omega,GW c E (n+1)]
end
theorem xg{P:Program}{f:FuncId}{fn:Func}{c:Code}{args:List PV}{E:List (List AV)}{v:AV}(c0:Nat)(D:List Nat)(hf:P.funcs[f]?=some fn) (h9:(fn.name == "runtime.NumGoroutine")=false) (hb:fn.body=some c) (au:args.length<=fn.ntmps) (hv:v.frs=true) (hE:∀c∈E,AV.frs.j1 c=true) (h:bm fk0 P c ⟨iF 0 args,[],0,fn.ntmps⟩ (mkK P fn.results.toList c0 E v D)):nI P f args E v:=by
 refine⟨⟨fn,hf,h9,by rw[hb];rfl⟩,hv,hE,λG w vs ej hlen cw=>?_⟩;refine u6 hf hb ?_
 have a5:Sim ⟨w.heap.size,G⟩ (⟨w,[],none,[],[],λri h=>(by cases h),ej⟩:Ctx fk0) ⟨iF 0 args,[],0,fn.ntmps⟩ { tmps:=vs++Array.replicate (fn.ntmps-vs.size) undef,defers:=[] } w ⟨λ_ _=>none,λ_=>0,λ_=>False⟩:=by
  refine⟨rfl,Bel.refl _ _,rfl,by simp;omega,λt=>?_,⟨λid cells hin=>(by cases hin),List.Pairwise.nil⟩,λi=>⟨λh=>h.elim,λh=>absurd h (ye i)⟩,λid c hin=>(by cases hin),aK _,(λp hp=>by cases hp),λq hq=>by cases hq⟩;show aA _ _ _ _ (get (iF 0 args) t) _;rw[wQ];split
  .rename_i ht
   have aq:t<args.length:=by omega
   refine .w ?_ nofun
   have:(vs++Array.replicate (fn.ntmps-vs.size) undef).getD t undef=vs[t]'(by omega):=by
    rw[ck,sS (by omega),cJ (by omega)];rfl
   rw[this]
   refine (cw t _ _ (by simp_all) (cJ (by omega))).imp λb hg=>⟨?_,nofun,λ_=>hg⟩
   rintro⟨id,cells,C,hin,_⟩
   cases hin
  .exact .w (.undef _) nofun
 refine dH (h _ _ _ _ _ a5) (λe a' w' ⟨st',m',hk,hs⟩=>?_)
 have main:qR P fn.results.toList c0 E v D st'->a'.defers=[]/\∀w1,EnvD.E w' w1->∃r,(results fn a'.tmps).run P w1=.ok r w1/\∃u mm,Ending.returned r=.returned u/\Bel w.heap.size w w1/\(∀i,mm.dom i↔i<E.length)/\bt ⟨w.heap.size,G⟩ (bu [] 0 E) mm w1/\aA ⟨w.heap.size,G⟩ (LB mm (bu [] 0 E)) mm w1 v u:=by
  intro hr;refine⟨hs.defers,λw' e1=>?_⟩;replace hs:=hs.move e1;unfold qR at hr;split at hr
  .rename_i ay d b6;obtain⟨hd,bi,g8⟩:=hr;obtain⟨us,h1,h2,h3⟩:=rp hs _ _ _ b6 hd
   have aj:(results fn a'.tmps).run P w'=.ok (if h:us.toArray.size=1 then us.toArray[0] else .tuple us.toArray) w':=by
    have he:results fn a'.tmps=(do
     let vs <-fn.results.mapM (pD a'.tmps)
     pure (if h:vs.size=1 then vs[0] else .tuple vs)):=rfl
    rw[he,sK];simp only[Sem.run_bind,Sem.run_map,h1,Result.andThen_ok,Sem.run_pure]
   have bo:aA ⟨w.heap.size,G⟩ (LB m' st'.heap) m' w' (oneOf ay) (if h:us.toArray.size=1 then us.toArray[0] else .tuple us.toArray):=by
    have tupc:ay.length≠1->aA ⟨w.heap.size,G⟩ (LB m' st'.heap) m' w' (.tup ay) (if h:us.toArray.size=1 then us.toArray[0] else .tuple us.toArray):=by
     intro ax;rw[dif_neg (by simp;omega)];exact .tup (by simpa using h2) (λj p u hp hu=>h3 j p u hp (by simpa using hu))
    match ay,h2,h3,tupc with
    |[],h2,h3,tupc=>exact tupc (by simp)
    |[v],h2,h3,tupc=>
     obtain⟨u,rfl⟩:∃u,us=[u]:=Dg.1 (by simpa using h2.symm);exact h3 0 v u rfl rfl
    |v::v2::r,h2,h3,tupc=>exact tupc (by simp)
   obtain⟨m2,bh,d9⟩:=Gv (env':=[]) (h':=bu [] c0 (E.map (AV.sh.shL c0))) (n':=c0+E.length) D trivial g8 (aK _) hs;have hu:=d9 _ _ _ bi bo;have aw:∀i,m2.dom i↔i<c0+E.length:=bh.dom
   have hEq:bu [] c0 (E.map (AV.sh.shL c0))=(bu [] 0 E).map λp=>(p.1+c0,AV.sh.shL c0 p.2):=by
    have:=GW c0 E 0
    rwa [cY] at this
   refine⟨_,aj,_,⟨λid ver=>m2.addr (id+c0) ver,λid=>m2.top (id+c0),λid=>id<E.length⟩,rfl,hs.below,λi=>Iff.rfl,?_⟩
   have dg:∀k cl,(k,cl)∈bu [] 0 E->(k+c0,AV.sh.shL c0 cl)∈bu [] c0 (E.map (AV.sh.shL c0)):=λk cl hin=>by
    rw[hEq];exact dW.2 ⟨(k,cl),hin,rfl⟩
   have aq:∀k cl,(k,cl)∈bu [] 0 E->k<E.length:=λk cl hin=>by
    rcases (zj E [] 0 k cl).1 hin with h|⟨j,h,rfl⟩
    .cases h
    .have:=(dM.1 h).1;omega
   have hLB:LB (⟨λid ver=>m2.addr (id+c0) ver,λid=>m2.top (id+c0),λid=>id<E.length⟩:Mm) (bu [] 0 E)=LB m2 (bu [] c0 (E.map (AV.sh.shL c0))):=by
    funext b
    refine propext ⟨?_,?_⟩
    .rintro⟨id,cl,C,hin,hd,ha⟩
     have hl:=aq _ _ hin;exact⟨id+c0,AV.sh.shL c0 cl,C,dg _ _ hin,(aw _).2 (by omega),by rw[gp,fI];exact ha⟩
    .rintro⟨id,cl,C,hin,hd,ha⟩
     rw[hEq] at hin;obtain⟨⟨k,c1⟩,h4,h5⟩:=dW.1 hin
     injection h5 with h5 h6
     subst h5;subst h6;rw[gp,fI] at ha;exact⟨k,c1,C,h4,aq _ _ h4,ha⟩
   rw[hLB]
   have fb:∀{x:AV}{u:Value},aA ⟨w.heap.size,G⟩ (LB m2 (bu [] c0 (E.map (AV.sh.shL c0)))) m2 w' (x.sh c0) u->aA ⟨w.heap.size,G⟩ (LB m2 (bu [] c0 (E.map (AV.sh.shL c0)))) ⟨λid ver=>m2.addr (id+c0) ver,λid=>m2.top (id+c0),λid=>id<E.length⟩ w' x u:=
    λ{x u} hr=>aA.down (c:=c0) (λi hd=>by have:=(aw _).1 hd;show i<E.length;omega) (λi=>rfl) (λi ver=>rfl) hr x rfl
   refine⟨⟨λid cl hin hd=>?_,?_⟩,fb hu⟩
   .rw[hLB];have hl:=aq _ _ hin;obtain⟨e1,e2⟩:=bh.heap.entry (id+c0) (AV.sh.shL c0 cl) (dg _ _ hin) ((aw _).2 (by omega))
    have hlen:(AV.sh.shL c0 cl).length=cl.length:=by rw[gp,fI]
    rw[hlen] at e1 e2;refine⟨e1,?_⟩
    rcases e2 with ⟨e3,e4⟩|⟨b,C,cs,e,f1,f2,f3,f4,f5,f6⟩|⟨b,es,clk,f1,f2,f3,f4,f5⟩
    .exact .inl ⟨e3,by rw[gp] at e4;simpa using e4⟩
    .exact .inr (.inl ⟨b,C,cs,e,f1,f2,f3,f4,f5,λj p u hp hu=>fb (f6 j (p.sh c0) u (by rw[gp,gD,hp];rfl) hu)⟩)
    .exact .inr (.inr ⟨b,es,clk,f1,by rw[<-Ea];exact f2,f3,f4,λl hl=>f5 l (J4 hl)⟩)
   .have hi:=bh.heap.inj;rw[show (St.heap ⟨[],bu [] c0 (E.map (AV.sh.shL c0)),c0+E.length,fn.ntmps⟩)=_ from hEq,List.pairwise_map] at hi;refine sJ ?_ hi;intro x y hx hy ⟨ax,gc⟩;refine⟨λe=>ax (by rw[e]),λb C C' gn gr fw fx=>?_⟩;have h1:=aq x.1 x.2 hx;have h2:=aq y.1 y.2 hy
    have l1:(AV.sh.shL c0 x.2).length=x.2.length:=by rw[gp,fI]
    have l2:(AV.sh.shL c0 y.2).length=y.2.length:=by rw[gp,fI]
    exact gc b C C' ((aw _).2 (by omega)) ((aw _).2 (by omega)) (by rw[l1];exact fw) (by rw[l2];exact fx)
  trivial
 cases e<;>first|exact main hk|exact hk.elim
omit [av] in
@[simp ↓]theorem Zd(h:ak)(n:Nat)(K:AV->ak->Nat->Prop)(v:AV)(c:List AV)(E:List (List AV)):eK h n K v (c::E)=K v ((n,c)::bu h (n+1) E) (n+(E.length+1)):=by rfl
attribute [simp] qR AV.frs AV.frs.j1
section
variable{D:List Nat}{h r s:ak}{n n' b k t len:Nat}{c x:List AV}{L:List (List AV)}
section
omit [av]
@[simp]theorem Ze(h:ak)(n:Nat)(c:List AV)(E:List (List AV)):bu h n (c::E)=(n,c)::bu h (n+1) E:=rfl
theorem GX:∀(L:List (List AV))(r:ak)(b t:Nat),bf (bu r b L) t=if b<=t/\t<b+L.length then some (nth L (t-b)) else bf r t
 |[],r,b,t=>by simp[bu];intros;omega
 |c::L,r,b,t=>by
  simp only[bu,bf,eI];by_cases h:b=t
  .subst h;rw[aB rfl,aB ⟨aE _,by omega⟩,uU];rfl
  .rw[ar h,GX L r (b+1) t];by_cases h2:b+1<=t/\t<b+1+L.length
   .rw[aB h2,aB ⟨by omega,by omega⟩,show t-b=(t-(b+1))+1 by omega];rfl
   .rw[ar h2,ar (by omega)]
@[simp]theorem OT(h:t<b):bf (bu r b L) t=bf r t:=by rw[GX,ar (by omega)]
end
def Su(h:ak)(b len:Nat):Prop:=∀i,i<len->bf h (i+b)=none
def Sv(D:List Nat)(h:ak)(n n' b:Nat)(L:List (List AV)):Prop:=∀i,i<L.length->iO D h n n' (i+b) (nth L i)
omit [av] in
theorem GY:∀(L:List (List AV))(r:ak)(b:Nat),mQ D h n n' (bu r b L)=(Sv D h n n' b L/\Su r b L.length/\mQ D h n n' r)
 |[],r,b=>by
  refine propext ⟨λhh=>⟨λi hi=>by simp at hi,λi hi=>by simp at hi,hh⟩,λhh=>hh.2.2⟩
 |c::L,r,b=>by
  show (iO D h n n' b c/\bf (bu r (b+1) L) b=none/\mQ D h n n' (bu r (b+1) L))=_;rw[GY L r (b+1),OT (yh b)];refine propext ⟨λ⟨h1,h2,h3,h4,h5⟩=>⟨λi hi=>?_,λi hi=>?_,h5⟩,λ⟨h1,h2,h3⟩=>⟨?_,?_,λi hi=>?_,λi hi=>?_,h3⟩⟩
  .cases i with
   |zero=>rw[cY];exact h1
   |succ i=>
    have:=h3 i (by simpa using hi);rw[show i+1+b=i+(b+1) by omega];exact this
  .cases i with
   |zero=>rw[cY];exact h2
   |succ i=>rw[show i+1+b=i+(b+1) by omega];exact h4 i (by simpa using hi)
  .have:=h1 0 (by simp);rwa [cY] at this
  .have:=h2 0 (by simp);rwa [cY] at this
  .have:=h1 (i+1) (by simpa using hi);rw[show i+1+b=i+(b+1) by omega] at this;exact this
  .have:=h2 (i+1) (by simpa using hi)
   rwa [show i+1+b=i+(b+1) by omega] at this
attribute [simp] GY
end
def ms1(b:Nat):List Nat->List AV
 |[]=>[]
 |k::r=>.msl b k 1 0 k::ms1 (b+1) r
omit [av] in
@[simp]theorem Zf(b:Nat):ms1 b []=[]:=rfl
end Go.Fi
namespace Go.Fi
open Go Go.RowKit
variable[av]
section
variable{fk:Fk}{P:Program}{K:Exit->St->Prop}{st:St}{c:Code}
def lL(R:St->Prop)(K:Exit->St->Prop):Exit->St->Prop
 |.normal,s=>R s
 |e,s=>K e s
def unr(fk:Fk)(P:Program)(c:Code)(K:Exit->St->Prop):Nat->St->Prop
 |0,_=>False
 |n+1,s=>bm fk P c s (lL (unr fk P c K n) K)
theorem iY(n:Nat)(h:unr fk P c K n st):bm fk P (.loop c) st K:=by
 refine zo (λx:Nat×St=>unr fk P c K x.1 x.2) (·.2) (·.1) (n,st) h (λB w0 a w m hs=>⟨m,hs⟩) ?_
 rintro⟨k,s⟩ hk
 cases k with
 |zero=>exact hk.elim
 |succ k=>
  refine tj hk (λe s' h'=>?_)
  cases e<;>first|exact h'|exact⟨(k,s'),h',yh k,λB w0 a w m hs=>⟨m,hs⟩⟩
theorem jj{n:Nat}(h:bm fk P c st (lL (unr fk P c K n) K)):unr fk P c K (n+1) st:=h
section
omit [av]
@[simp ↓]theorem Zg(R:St->Prop)(s:St):lL R K .normal s=R s:=rfl
@[simp ↓]theorem Zh(R:St->Prop)(s:St):lL R K .ret s=K .ret s:=rfl
@[simp ↓]theorem Zi(R:St->Prop)(i:Nat)(s:St):lL R K (.exit i) s=K (.exit i) s:=rfl
@[congr] theorem Zj{R:St->Prop}{K:Exit->St->Prop}{e e':Exit}{s s':St}(h:e=e')(h2:s=s'):lL R K e s=lL R K e' s':=by rw[h,h2]
end
@[congr] theorem Zk{n:Nat}{s s':St}(h:s=s'):unr fk P c K n s=unr fk P c K n s':=by rw[h]
omit [av] in
theorem dz{k:IntKind}{n:Int}(h:(decide (k.min<=n)&&decide (n<=k.max))=true):inI k n:=by simpa[inI] using h
theorem By{env:Env}{h:ak}{n nt:Nat}:Lek fk ⟨env,h,n,nt⟩ ⟨[],h,n,nt⟩:=
 λB w0 a w m hs=>⟨m,hs.base,hs.below,hs.defers,hs.size,λt=>.w (.undef _) nofun,hs.heap,hs.dom,hs.ids,hs.fr⟩
theorem G1{k:Nat}{K:ak->Nat->Prop}{env:Env}{h:ak}{n nt:Nat}(hk:K h n):su k K .normal ⟨env,h,n,nt⟩:=tY h n nt By hk
theorem OY{k:Nat}{K Kl:ak->Nat->Prop}{env:Env}{h:ak}{n nt:Nat}(hk:K h n):pG k K Kl .normal ⟨env,h,n,nt⟩:=Gy h n nt By hk
theorem OZ{k:Nat}{K Kl:ak->Nat->Prop}{env:Env}{h:ak}{n nt:Nat}(hk:Kl h n):pG k K Kl .ret ⟨env,h,n,nt⟩:=Gz h n nt By hk
end
section
variable{fk:Fk}{P:Program}{K Kd:Exit->St->Prop}{st:St}{c x y:Code}{k:Nat}{ri:RI}{v:Operand}{o f:Bool}
def qT(fk:Fk)(P:Program)(c:Code)(K:Exit->St->Prop):Nat->St->Prop
 |0,_=>False
 |n+1,s=>dV fk P c s (lL (qT fk P c K n) K)
theorem He(n:Nat)(h:qT fk P c K n st):dV fk P (.loop c) st K:=by
 refine Hd (λx:Nat×St=>qT fk P c K x.1 x.2) (·.2) (·.1) (n,st) h (λB w0 a w m hs=>⟨m,hs⟩) ?_
 rintro⟨k,s⟩ hk
 cases k with
 |zero=>exact hk.elim
 |succ k=>
  refine Oc hk (λe s' h'=>?_)
  cases e<;>first|exact h'|exact⟨(k,s'),h',yh k,λB w0 a w m hs=>⟨m,hs⟩⟩
theorem Hf{n:Nat}(h:dV fk P c st (lL (qT fk P c K n) K)):qT fk P c K (n+1) st:=h
@[congr] theorem ZC{n:Nat}{s s':St}(h:s=s'):qT fk P c K n s=qT fk P c K n s':=by rw[h]
theorem Hg(hv:ev st.env v=.w o f (.bool true))(h:dV fk P x st K):dV fk P (.cond v x y) st K:=oS hv h
theorem Hh(hv:ev st.env v=.w o f (.bool false))(h:dV fk P y st K):dV fk P (.cond v x y) st K:=oS hv h
def qU(k:Nat)(ri:RI)(P:Program)(c:Code)(K Kd:Exit->St->Prop):Nat->St->Prop
 |0,_=>False
 |n+1,s=>dJ k ri P c s (lL (qU k ri P c K Kd n) K) (qS Kd)
theorem Pd(n:Nat)(h:qU k ri P c K Kd n st):dJ k ri P (.loop c) st K Kd:=by
 refine G8 (λx:Nat×St=>qU k ri P c K Kd x.1 x.2) (·.2) (·.1) (n,st) h (λB w0 a w m hs=>⟨m,hs⟩) ?_
 rintro⟨j,s⟩ hk B w0 a w m hs
 cases j with
 |zero=>exact hk.elim
 |succ j=>
  refine dH (hk B w0 a w m hs) (λe a' w' hq=>?_)
  rcases hq with ⟨st',m',h1,h2⟩|h
  .refine .inl ⟨st',m',?_,h2⟩
   cases e<;>first|exact h1|exact⟨(j,st'),h1,yh j,λB w0 a w m hs=>⟨m,hs⟩⟩
  grind
theorem Pe{n:Nat}(h:dJ k ri P c st (lL (qU k ri P c K Kd n) K) (qS Kd)):qU k ri P c K Kd (n+1) st:=h
@[congr] theorem ZD{n:Nat}{s s':St}(h:s=s'):qU k ri P c K Kd n s=qU k ri P c K Kd n s':=by rw[h]
theorem Pf(hv:ev st.env v=.w o f (.bool true))(h:dJ k ri P x st K Kd):dJ k ri P (.cond v x y) st K Kd:=qx hv h
theorem Pg(hv:ev st.env v=.w o f (.bool false))(h:dJ k ri P y st K Kd):dJ k ri P (.cond v x y) st K Kd:=qx hv h
end
end Go.Fi
