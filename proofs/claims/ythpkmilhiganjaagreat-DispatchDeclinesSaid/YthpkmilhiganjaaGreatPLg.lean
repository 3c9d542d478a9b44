/- Lemmas. -/
import Derived.Test.YthpkmilhiganjaaGreatPLf
import Derived.Test.YthpkmilhiganjaaGreatPLd
set_option linter.all false
set_option maxHeartbeats 32000000
set_option maxRecDepth 100000
namespace Go.Fi
open Go Go.RowKit
variable[ak]
variable{fk:Fk}
def fq:Nat->List AV->Env
 |_,[]=>[]
 |i,v::r=>(i,v)::fq (i+1) r
section
omit [ak]
@[simp]theorem XM(i:Nat):fq i []=[]:=rfl
@[simp]theorem XN(i:Nat)(v:AV)(r:List AV):fq i (v::r)=(i,v)::fq (i+1) r:=rfl
theorem AB:∀(l:List AV)(i t:Nat),get (fq i l) t=if i<=t/\t<i+l.length then l.getD (t-i) (.w false false .undef) else .w false false .undef
 |[],i,t=>by simp
 |p::r,i,t=>by
  simp only[fq,get];by_cases h:i=t
  .subst h;simp
  .simp only[h,aQ];rw[AB r (i+1) t]
   grind
end
def fI(P:Program)(rs:List ResultVar)(st:St)(K:AV->ae->Nat->Prop):Prop:=
 match iM P st.env st.heap rs with
 |some (vs,c)=>c/\K (oneOf vs) st.heap st.nxt
 |none=>False
def gF(P:Program)(rs:List ResultVar)(K:AV->ae->Nat->Prop):Exit->St->Prop
 |.normal,s=>fI P rs s K
 |.ret,s=>fI P rs s K
 |_,_=>False
omit [ak] in
@[simp ↓]theorem XO(P:Program)(rs:List ResultVar)(K:AV->ae->Nat->Prop)(s:St):gF P rs K .normal s=fI P rs s K:=rfl
omit [ak] in
@[simp ↓]theorem XP(P:Program)(rs:List ResultVar)(K:AV->ae->Nat->Prop)(s:St):gF P rs K .ret s=fI P rs s K:=rfl
section
variable{P:Program}{B:Base}{m:Mm}{w:World}{h:ae}{n:Nat}{env:Env}{a:Act}{L:Nat->Prop}
section
omit [ak]
theorem wi{n:Nat}:∀{cs:List AV},(∀(j:Nat)(x:AV),cs[j]?=some x->x.lt n=true)->AV.lt.ltL n cs=true
 |[],_=>rfl
 |x::r,h=>by
  simp only[AV.lt.ltL,di];exact⟨h 0 x rfl,wi λj y hy=>h (j+1) y (by grind)⟩
theorem al.Ca{x:AV}{v:Value}(h:al B L m w x v)(hd:∀i,m.dom i->i<n):x.lt n=true:=by
 induction h with
 |w _ _=>rfl
 |ptr cf _ _ _=>simp_all
 |mp cf _ _=>simp_all
 |msl cf _ _ _ _=>simp_all
 |@agg cs vs hl _ ih=>
  simp only[AV.lt]
  refine wi λj y hy=>?_
  have hj:j<vs.size:=by have:=(dP.1 hy).1;omega
  exact ih j y _ hy (bS hj)
 |@tup cs vs hl _ ih=>
  simp only[AV.lt]
  refine wi λj y hy=>?_
  have hj:j<vs.size:=by have:=(dP.1 hy).1;omega
  exact ih j y _ hy (bS hj)
 |@fn f cs vs hl _ ih=>
  simp only[AV.lt]
  refine wi λj y hy=>?_
  have hj:j<vs.size:=by have:=(dP.1 hy).1;omega
  exact ih j y _ hy (bS hj)
theorem sU:∀(env:Env)(t:Nat),(∃v,(t,v)∈env)\/get env t=.w false false .undef
 |[],_=>.inr rfl
 |(k,v)::r,t=>by
  simp only[get];by_cases h:k=t
  .simp_all
  .rcases sU r t with ⟨u,hu⟩|hu
   .exact .inl ⟨u,dQ _ hu⟩
   simp_all
end
def wX(P:Program)(B:Base){fk:Fk}(w0:Ctx fk)(env:Env)(a:Act)(n nt:Nat)(o:Oper)(fn:Func)(K':Act->World->Prop)(e:Exit)(a':Act)(w':World):Prop:=
 (e=.normal\/e=.ret)/\∃(bh fk2:Fk)(w1:Ctx bh)(w2:Ctx fk2)(st':St)(m':Mm)(KV:AV->ae->Nat->Prop),bh.k=n/\fk2.k=fk.k/\w1.w=w0.w/\w1.F=w0.F++(env.map λp=>(get env p.1,a.tmps.getD p.1 undef))/\w1.ds=[] /\
  w2.w=w0.w/\w2.F=w0.F/\w2.ds=w0.ds/\(∀q∈w2.obs,q∈w1.obs)/\Sim B w1 st' a' w' m'/\fI P fn.results.toList st' KV/\∀v h' n' a' w' m',KV v h' n'->Sim B w2 ⟨put env o.dst v,h',n',nt⟩ a' w' m'->K' a' w'
theorem F0{w0:Ctx fk}{nt:Nat}(o:Oper)(f:Operand)(args:Array Operand)(tys:Array TypeId)(ho:o.op=.call { callee:=.value f,args:=args,argTypes:=tys }){g:FuncId}{aF:List AV}(hf:fp (ev env f)=some (g,aF)){fn:Func}{c:Code}(av:P.funcs[g]?=some fn) (h9:(fn.name == "runtime.NumGoroutine")=false) (hb:fn.body=some c) (b4:(args.toList.map (ev env)++aF).length<=fn.ntmps) (r:Option RI) (ew:∀ri,r=some ri->fk.ri=some ri) (Q:Exit->Act->World->Prop) (K':Act->World->Prop) (hw:∀(w1:Ctx ⟨n,r⟩)(a1:Act),w1.w=w0.w->w1.F=w0.F++(env.map λp=>(get env p.1,a.tmps.getD p.1 undef))->w1.r=none->w1.obs=w0.obs->w1.ds=[]->Sim B w1 ⟨fq 0 (args.toList.map (ev env)++aF),h,n,fn.ntmps⟩ a1 w m->c.wpT none P (wX P B w0 env a n nt o fn K') a1 w) (hs:Sim B w0 ⟨env,h,n,nt⟩ a w m) (af:dOk nt o.dst):o.wpt P a w K' Q:=by
 have f9:∀x:Operand,al B (LB m h) m w (ev env x) (a.eval x):=λx=>lM x (λt _=>hs.env t)
 have bm:=f9 f
 have ee:∃cv:Array Value,a.eval f=.func (.func g) #[] cv/\aF.length=cv.size/\∀(j:Nat)(p:AV)(v:Value),aF[j]?=some p->cv[j]?=some v->al B (LB m h) m w p v:=by
  unfold fp at hf;split at hf
  .rename_i g' bp e
   injection hf with hf;injection hf with h1 h2;subst h1;subst h2
   rw[e] at bm;generalize hv:a.eval f=vf at bm
   cases bm with|fn h1 h2=>grind
  .rename_i own f' g' bp e
   injection hf with hf;injection hf with h1 h2;subst h1;subst h2
   rw[e] at bm;generalize hv:a.eval f=vf at bm
   cases bm with
   |w h1 _=>
    cases h1 with
    |fn h1 h2=>
     refine⟨_,rfl,by grind,λj p v hp hv=>?_⟩;obtain⟨q,hq,rfl⟩:=fS hp;exact .w (h2 j q v hq hv) nofun
  .cases hf
 obtain⟨cv,dc,ay,g7⟩:=ee
 have d3:∀(j:Nat)(x:AV)(v:Value),(args.toList.map (ev env)++aF)[j]?=some x->(args.map a.eval++cv)[j]?=some v->al B (LB m h) m w x v:=by
  grind
 have hlen:(args.toList.map (ev env)++aF).length=(args.map a.eval++cv).size:=by simp[ay]
 generalize ey:args.map a.eval++cv=vs at d3 hlen;generalize fx:args.toList.map (ev env)++aF=avs at d3 hlen b4 hw
 have ao:(execOp a.eval o).run P w=.ok (.enter g vs) w:=by
  have ei:¬fn.name = "runtime.NumGoroutine" := by simp_all
  simp[execOp,ho,resolve,dc,Deferred.ofValue,invoke,callFunc,av,ei,hb,<-ey]
 unfold Oper.wpt;rw[ao,Oper.AZ]
 have bq:∀i,m.dom i->i<n:=λi hd=>(hs.dom i).1 hd
 refine um av hb ?_
 have a5:Sim B (⟨w0.w,w0.F++env.map λp=>(get env p.1,a.tmps.getD p.1 undef),none,w0.obs,[],λri h=>(let ⟨fn,T,D,h1,h2,h3⟩:=w0.bt ri (ew ri h);⟨fn,T,D,h1,h2,λt v ht=>iF.2 (.inl (h3 t v ht))⟩),w0.ok⟩:Ctx ⟨n,r⟩) ⟨fq 0 avs,h,n,fn.ntmps⟩ { tmps:=vs++Array.replicate (fn.ntmps-vs.size) undef,defers:=[] } w m:=by
  refine⟨hs.base,hs.below,rfl,by simp;omega,λt=>?_,hs.heap,hs.dom,hs.ids,aD _,λp hp=>?_,hs.fr.2.2⟩
  .show al _ _ _ _ (get (fq 0 avs) t) _;rw[AB];split
   .rename_i ht
    have ax:t<avs.length:=by omega
    have:(vs++Array.replicate (fn.ntmps-vs.size) undef).getD t undef=vs[t]'(by omega):=by
     rw[bQ,rZ (by omega),bS (by omega)];rfl
    rw[this];exact d3 t _ _ (by simp_all) (bS (by omega))
   .exact .w (.undef _) nofun
  .rcases iF.1 hp with hp|hp
   .exact⟨AV.qQ hs.fr.1 (hs.fr.2.1 p hp).1,(hs.fr.2.1 p hp).2⟩
   .obtain⟨q,_,rfl⟩:=lK.1 hp;exact⟨(hs.env q.1).Ca bq,hs.env q.1⟩
 have main:∀{bh fk2:Fk}(w1:Ctx bh)(w2:Ctx fk2)(st':St)(a':Act)(w':World)(m':Mm)(KV:AV->ae->Nat->Prop),bh.k=n->fk2.k=fk.k->w1.w=w0.w->w1.F=w0.F++(env.map λp=>(get env p.1,a.tmps.getD p.1 undef))->w1.ds=[] ->
  w2.w=w0.w->w2.F=w0.F->w2.ds=w0.ds->(∀q∈w2.obs,q∈w1.obs)->Sim B w1 st' a' w' m'->fI P fn.results.toList st' KV ->
  (∀v h' n' a' w' m',KV v h' n'->Sim B w2 ⟨put env o.dst v,h',n',nt⟩ a' w' m'->K' a' w') ->
  a'.defers=[]/\∀w1,EnvD.E w' w1->∃v,(results fn a'.tmps).run P w1=.ok v w1/\K' (a.put o.dst v) w1:=by
  intro bh fk2 w1 w2 st' a' w' m' KV d7 q1 e7 hF1 c4 q2 q3 q4 q5 h8 hr hKK;refine⟨by have:=h8.defers;rw[c4] at this;exact this,λw' e1=>?_⟩;replace h8:=h8.move e1;unfold fI at hr;split at hr
  .rename_i b' d bd;obtain⟨hd,aw⟩:=hr;obtain⟨us,h1,h2,h3⟩:=qD h8 _ _ _ bd hd
   have ao:(results fn a'.tmps).run P w'=.ok (if h:us.toArray.size=1 then us.toArray[0] else .tuple us.toArray) w':=by
    have he:results fn a'.tmps=(do
     let vs <-fn.results.mapM (oP a'.tmps)
     pure (if h:vs.size=1 then vs[0] else .tuple vs)):=rfl
    rw[he,rR];simp only[Sem.run_bind,Sem.run_map,h1,Result.andThen_ok,Sem.run_pure]
   have b9:al B (LB m' st'.heap) m' w' (oneOf b') (if h:us.toArray.size=1 then us.toArray[0] else .tuple us.toArray):=by
    have tupc:b'.length≠1->al B (LB m' st'.heap) m' w' (.tup b') (if h:us.toArray.size=1 then us.toArray[0] else .tuple us.toArray):=by
     intro b6;rw[dif_neg (by simp;omega)];exact .tup (by simpa using h2) (λj p u hp hu=>h3 j p u hp (by simpa using hu))
    match b',h2,h3,tupc with
    |[],h2,h3,tupc=>exact tupc (by simp)
    |[v],h2,h3,tupc=>
     obtain⟨u,rfl⟩:∃u,us=[u]:=Cq.1 (by simpa using h2.symm);exact h3 0 v u rfl rfl
    |v::v2::r,h2,h3,tupc=>exact tupc (by simp)
   refine⟨_,ao,?_⟩;have cg:=h8.fr.2.1
   have hold:∀t,al B (LB m' st'.heap) m' w' (get env t) (a.tmps.getD t undef):=by
    intro t
    rcases sU env t with ⟨v,hv⟩|hu
    .exact (cg (get env t,a.tmps.getD t undef) (by rw[hF1];exact iF.2 (.inr (lK.2 ⟨(t,v),hv,rfl⟩)))).2
    .rw[hu];exact .w (.undef _) nofun
   refine hKK (oneOf b') st'.heap st'.nxt _ _ m' aw ⟨(by rw[q2,<-e7];exact h8.base),(by rw[q2,<-e7];exact h8.below),(by rw[jM,q4];exact hs.defers),(by rw[jL];exact hs.size),?_,h8.heap,h8.dom,h8.ids,?_,λp hp=>?_,λq hq=>h8.fr.2.2 q (q5 q hq)⟩
   .exact mN env a o.dst _ _ (by rw[hs.size];exact af) b9 hold
   .have h1:=hs.fr.1;have h2:=h8.fr.1;rw[d7] at h2;rw[q1];exact b7 h1 h2
   .rw[q3] at hp;exact⟨by rw[q1];exact (hs.fr.2.1 p hp).1,(cg p (by rw[hF1];exact iF.2 (.inl hp))).2⟩
  trivial
 refine dK (hw _ _ rfl rfl rfl rfl rfl a5) (λe a' w' hq=>?_);obtain⟨he,bh,fk2,w1,w2,st',m',KV,q1,q2,q3,q4,q5,q6,q7,q8,q9,h8,hr,hK⟩:=hq;have fin:=main w1 w2 st' a' w' m' KV q1 q2 q3 q4 q5 q6 q7 q8 q9 h8 hr hK
 rcases he with rfl|rfl
 .exact fin
 .exact fin
theorem F2{w0:Ctx fk}{nt:Nat}(o:Oper)(f:Operand)(args:Array Operand)(tys:Array TypeId)(ho:o.op=.call { callee:=.value f,args:=args,argTypes:=tys }){g:FuncId}{aF:List AV}(hf:fp (ev env f)=some (g,aF)){fn:Func}{c:Code}(av:P.funcs[g]?=some fn) (h9:(fn.name == "runtime.NumGoroutine")=false) (hb:fn.body=some c) (b4:(args.toList.map (ev env)++aF).length<=fn.ntmps) (r:Option RI) (ew:∀ri,r=some ri->fk.ri=some ri) {Kv:AV->ae->Nat->Prop} (hw:aS ⟨n,r⟩ P c ⟨fq 0 (args.toList.map (ev env)++aF),h,n,fn.ntmps⟩ (gF P fn.results.toList Kv)) (hs:Sim B w0 ⟨env,h,n,nt⟩ a w m) (af:dOk nt o.dst) (Q:Exit->Act->World->Prop) (K':Act->World->Prop) (hK:∀v h' n' a' w' m',Kv v h' n'->Sim B w0 ⟨put env o.dst v,h',n',nt⟩ a' w' m'->K' a' w'):o.wpt P a w K' Q:=
 F0 o f args tys ho hf av h9 hb b4 r ew Q K' (λw1 a1 e1 e2 e3 e4 e5 bf=>dK (e3▸hw B w1 a1 w m bf) (λe a' w' ⟨st',m',hk,h8⟩=>by
  have fin:∀e:Exit,(e=.normal\/e=.ret)->fI P fn.results.toList st' Kv->wX P B w0 env a n nt o fn K' e a' w':=λe he hk=>
   ⟨he,_,_,w1,w0,st',m',Kv,rfl,rfl,e1,e2,e5,rfl,rfl,rfl,λq hq=>e4▸hq,h8,hk,hK⟩
  cases e with
  |normal=>simp_all
  |ret=>simp_all
  |_=>exact hk.elim)) hs af
end
section
variable{P:Program}{B:Base}{m:Mm}{w w':World}{h:ae}{n:Nat}{env:Env}{a:Act}{L:Nat->Prop}
section
omit [ak]
theorem Rep.mB{G:Nat->Prop}{p:PV}{v:Value}(hc:∀a v,w.cell? a=some v->w'.cell? a=some v)(h:Rep G w p v):Rep G w' p v:=by
 induction h with
 |undef v=>exact .undef v
 |iI b=>exact .iI b
 |bool b=>exact .bool b
 |int k n=>exact .int k n
 |str s=>exact .str s
 |agg hl _ ih=>exact .agg hl ih
 |tup hl _ ih=>exact .tup hl ih
 |slnil=>exact .slnil
 |sl vals hn ec hg hr ih=>exact .sl vals hn (λj hj=>hc _ _ (ec j hj)) hg ih
 |slz hn=>exact .slz hn
 |ip vals ec hg hr ih=>exact .ip vals (λj hj=>hc _ _ (ec j hj)) hg ih
 |gl=>exact .gl
 |jS=>exact .jS
 |ifc _ ih=>exact .ifc ih
 |fn hl _ ih=>exact .fn hl ih
 |yl l=>exact .yl l
theorem al.mB{x:AV}{v:Value}(hc:∀a v,w.cell? a=some v->w'.cell? a=some v)(h:al B L m w x v):al B L m w' x v:=by
 induction h with
 |w hr hf=>exact .w (hr.mB hc) hf
 |ptr hd ht ha hC=>exact .ptr hd ht ha hC
 |mp hd ht ha=>exact .mp hd ht ha
 |msl hd ht hn h0 h1=>exact .msl hd ht hn h0 h1
 |agg hl _ ih=>exact .agg hl ih
 |tup hl _ ih=>exact .tup hl ih
 |fn hl _ ih=>exact .fn hl ih
theorem wj{l:Nat}{o o':Obj}(hl:w.heap[l]?=some o)(ho:o.isCells=false)(ad:Addr)(v:Value)(hc:w.cell? ad=some v):(w.putObj l o').cell? ad=some v:=by
 by_cases e:ad.block=l
 .unfold World.cell? at hc;rw[e,hl] at hc
  cases o<;>simp_all[Obj.isCells]
 .rw[<-hc];exact World.cell?_of_block (World.putObj_heap_other e)
theorem Nt{k l:Nat}{o o':Obj}(hl:w.heap[l]?=some o)(hk:k<=l):Bel k w (w.putObj l o'):=
 ⟨rfl,rfl,by simp,λi hi=>World.putObj_heap_other (by omega)⟩
end
theorem Sim.put{bh:Fk}{w0:Ctx fk}{w1:Ctx bh}{st:St}{l:Nat}{o o':Obj}(hs:Sim B w0 st a w m)(hl:w.heap[l]?=some o)(ho:o.isCells=false)(gw:∀es clk,o≠.map es clk)(hB:B.n<=l)(hw:w1.w=w0.w){a':Act}(ht:a'.tmps=a.tmps)(hd:a'.defers=marks w1.ds)(cg:oF B w1 (LB m st.heap) m (w.putObj l o') st.nxt):Sim B w1 st a' (w.putObj l o') m:=by
 have hc:∀ad v,w.cell? ad=some v->(w.putObj l o').cell? ad=some v:=λad v h=>wj hl ho ad v h
 refine⟨by rw[hw];exact hs.base,by rw[hw];exact hs.below.trans (Nt hl hB),hd,by rw[ht];exact hs.size,λt=>by rw[ht];exact (hs.env t).mB hc,⟨λid c hin g9=>?_,hs.heap.inj⟩,hs.dom,hs.ids,cg⟩;obtain⟨h1,h2⟩:=hs.heap.entry id c hin g9;refine⟨h1,?_⟩
 rcases h2 with h2|⟨b,C,cs,e,e1,e2,e3,e4,e5,e6⟩|⟨b,es,clk,e1,e2,e3,e4,e5⟩
 .exact .inl h2
 .refine .inr (.inl ⟨b,C,cs,e,e1,?_,e3,e4,e5,λj p v hp hv=>(e6 j p v hp hv).mB hc⟩);rw[<-e2];refine World.putObj_heap_other (λc3=>?_);subst c3;rw[hl] at e2;cases e2;cases ho
 .refine .inr (.inr ⟨b,es,clk,e1,e2,?_,e4,e5⟩);rw[<-e3];refine World.putObj_heap_other (λc3=>?_);simp_all
theorem Sim.lay{bh:Fk}{w0:Ctx fk}{w1:Ctx bh}{st:St}(o:Obj)(hs:Sim B w0 st a w m)(hw:w1.w=w0.w){a':Act}(ht:a'.tmps=a.tmps)(hd:a'.defers=marks w1.ds)(cg:oF B w1 (LB m st.heap) m (w.alloc o) st.nxt):Sim B w1 st a' (w.alloc o) m:=by
 have hb:Bel w.heap.size w (w.alloc o):=(Bel.refl _ w).alloc (aD _) o;exact⟨by rw[hw];exact hs.base,by rw[hw];exact hs.below.trans (hb.mono hs.room),hd,by rw[ht];exact hs.size,λt=>by rw[ht];exact (hs.env t).mono (Mm.le.refl m) (λ_ _ h=>h) (λb co _=>hb.block b co),hs.heap.below hb,hs.dom,hs.ids,cg⟩
end
def mD(env:Env):List Nat->List AV->Env
 |t::ts,v::vs=>mD ((t,v)::env) ts vs
 |_,_=>env
omit [ak] in
@[simp]theorem XQ(env:Env)(vs:List AV):mD env [] vs=env:=by cases vs<;>rfl
omit [ak] in
@[simp]theorem Nu(env:Env)(t:Nat)(ts:List Nat)(v:AV)(vs:List AV):mD env (t::ts) (v::vs)=mD ((t,v)::env) ts vs:=rfl
def rD(k:Nat)(K:ae->Nat->Prop):Exit->St->Prop
 |.normal,s=>∃h' n' aq,Lek ⟨k,none⟩ s ⟨[],h',n',aq⟩/\K h' n'
 |_,_=>False
def tR(P:Program)(k:Nat)(body:Code)(K:ae->Nat->Prop):Exit->St->Prop
 |.normal,s=>aS ⟨k,none⟩ P body s (rD k K)
 |_,_=>False
def Round(P:Program)(ri:RI)(avs:List AV)(h:ae)(n:Nat)(K:ae->Nat->Prop):Prop:=
 avs.length=ri.ps.size/\(∀t∈ri.ps,t<ri.nt)/\aS ⟨n,none⟩ P ri.assign ⟨mD ri.env ri.ps.toList avs,h,n,ri.nt⟩ (tR P n ri.body K)
def qb{k:Nat}{ri:RI}(w0:Ctx ⟨k,some ri⟩)(w1:Ctx ⟨k,none⟩):Prop:=
 w1.w=w0.w/\w1.F=w0.F/\w1.r=w0.r/\w1.ds=w0.ds/\(∃fn T D,(ri.l,bt ri fn T D .done (some .ret))∈w1.obs)/\∀q∈w0.obs,q.1≠ri.l->q∈w1.obs
def oS(k:Nat)(K Kl:ae->Nat->Prop):Exit->St->Prop
 |.normal,s=>∃h' n' aq,Lek ⟨k,none⟩ s ⟨[],h',n',aq⟩/\K h' n'
 |.ret,s=>∃h' n' aq,Lek ⟨k,none⟩ s ⟨[],h',n',aq⟩/\Kl h' n'
 |_,_=>False
def tT(P:Program)(k:Nat)(body:Code)(K Kl:ae->Nat->Prop):Exit->St->Prop
 |.normal,s=>aS ⟨k,none⟩ P body s (oS k K Kl)
 |_,_=>False
def HW(P:Program)(ri:RI)(avs:List AV)(h:ae)(n:Nat)(K Kl:ae->Nat->Prop):Prop:=
 avs.length=ri.ps.size/\(∀t∈ri.ps,t<ri.nt)/\aS ⟨n,none⟩ P ri.assign ⟨mD ri.env ri.ps.toList avs,h,n,ri.nt⟩ (tT P n ri.body K Kl)
@[simp ↓]theorem XR(P:Program)(k:Nat)(body:Code)(K Kl:ae->Nat->Prop)(s:St):tT P k body K Kl .normal s=aS ⟨k,none⟩ P body s (oS k K Kl):=rfl
@[congr] theorem XS{k:Nat}{K Kl:ae->Nat->Prop}{e e':Exit}{s s':St}(h1:e=e')(h2:s=s'):oS k K Kl e s=oS k K Kl e' s':=by rw[h1,h2]
@[congr] theorem XT{P:Program}{k:Nat}{body:Code}{K Kl:ae->Nat->Prop}{e e':Exit}{s s':St}(h1:e=e')(h2:s=s'):tT P k body K Kl e s=tT P k body K Kl e' s':=by rw[h1,h2]
theorem Nv{k:Nat}{K Kl:ae->Nat->Prop}{s:St}(h':ae)(n':Nat)(aq:Nat)(hle:Lek ⟨k,none⟩ s ⟨[],h',n',aq⟩)(hk:K h' n'):oS k K Kl .normal s:=⟨h',n',aq,hle,hk⟩
theorem Nx{k:Nat}{K Kl:ae->Nat->Prop}{s:St}(h':ae)(n':Nat)(aq:Nat)(hle:Lek ⟨k,none⟩ s ⟨[],h',n',aq⟩)(hk:Kl h' n'):oS k K Kl .ret s:=⟨h',n',aq,hle,hk⟩
section
variable{P:Program}{B:Base}{m:Mm}{w:World}{h:ae}{n:Nat}{env:Env}{a:Act}{L:Nat->Prop}
section
omit [ak]
theorem F3:∀(ps:List Nat)(avs:List AV)(vals:List Value)(e:Env)(T:Array Value),ps.length=avs.length->avs.length=vals.length->(∀t∈ps,t<T.size)->(∀(j:Nat)(x:AV)(v:Value),avs[j]?=some x->vals[j]?=some v->al B L m w x v)->(∀t,al B L m w (get e t) (T.getD t undef))->((ps.zip vals).foldl (λtmps (p:Nat×Value)=>tmps.setIfInBounds p.1 p.2) T).size=T.size/\∀t,al B L m w (get (mD e ps avs) t) (((ps.zip vals).foldl (λtmps (p:Nat×Value)=>tmps.setIfInBounds p.1 p.2) T).getD t undef)
 |[],[],[],e,T,_,_,_,_,he=>⟨rfl,by simpa using he⟩
 |p::ps,x::avs,v::vals,e,T,h1,h2,ax,hr,he=>by
  simp only[List.zip_cons_cons,Cm,Nu];have hp:=ax p (by simp);have:=F3 ps avs vals ((p,x)::e) (T.setIfInBounds p v) (by grind) (by grind) (λt ht=>by simp_all) (λj y u hy hu=>hr (j+1) y u (by grind) (by grind)) (λt=>?_)
  .simp_all
  .simp only[get];rw[bQ,iE];by_cases ge:p=t
   .subst ge;simp only[aJ];rw[az hp];exact hr 0 x v rfl rfl
   simp_all
 |[],_::_,_,_,_,h1,_,_,_,_=>by cases h1
 |_::_,[],_,_,_,h1,_,_,_,_=>by cases h1
 |[],[],_::_,_,_,_,h2,_,_,_=>by cases h2
 |_::_,_::_,[],_,_,_,h2,_,_,_=>by cases h2
theorem al.RO{o f:Bool}{l:Nat}{v:Value}(h:al B L m w (.w o f (.yl l)) v):v=.func (.yield l) #[] #[]:=by
 cases h with|w h _=>cases h;rfl
theorem Ny(ps:Array Tmp)(vals:Array Value)(T:Array Value):(ps.zip vals).foldl (λtmps (t,a)=>tmps.setIfInBounds t a) T=(ps.toList.zip vals.toList).foldl (λtmps (p:Nat×Value)=>tmps.setIfInBounds p.1 p.2) T:=by
 rw[<-Array.foldl_toList,Array.toList_zip]
end
theorem F4{k:Nat}{ri:RI}{w0:Ctx ⟨k,some ri⟩}{nt:Nat}(o:Oper)(f:Operand)(args:Array Operand)(tys:Array TypeId)(ho:o.op=.call { callee:=.value f,args:=args,argTypes:=tys }){ow fl:Bool}(hf:ev env f=.w ow fl (.yl ri.l)){Kv Kl:ae->Nat->Prop}(hw:HW P ri (args.toList.map (ev env)) h n Kv Kl)(hs:Sim B w0 ⟨env,h,n,nt⟩ a w m)(af:dOk nt o.dst)(Q:Exit->Act->World->Prop)(K':Act->World->Prop)(hK:∀h' n' a' w' m',Kv h' n'->Sim B w0 ⟨put env o.dst (.w false false (.bool true)),h',n',nt⟩ a' w' m'->K' a' w')(hKl:∀(w1:Ctx ⟨k,none⟩) h' n' a' w' m',qb w0 w1->Kl h' n'->Sim B w1 ⟨put env o.dst (.w false false (.bool false)),h',n',nt⟩ a' w' m'->K' a' w'):o.wpT w0.r P a w K' Q:=by
 obtain⟨hlen,ax,hw⟩:=hw
 have f9:∀x:Operand,al B (LB m h) m w (ev env x) (a.eval x):=λx=>lM x (λt _=>hs.env t)
 have dc:a.eval f=.func (.yield ri.l) #[] #[]:=by have:=f9 f;rw[hf] at this;exact this.RO
 obtain⟨fn,T,D,hin,hT,ed⟩:=w0.bt ri rfl;obtain⟨hBl,eg,hLl,hl⟩:=hs.fr.2.2 _ hin;have dm:(bt ri fn T D .ready none).isCells=false:=rfl
 have bq:∀i,m.dom i->i<n:=λi hd=>(hs.dom i).1 hd
 generalize bi:args.map a.eval=vals
 have gi:vals.size=ri.ps.size:=by rw[<-bi,<-hlen];simp
 have ao:(execOp a.eval o).run P w=.ok (.round ri.l fn ((ri.ps.zip vals).foldl (λtmps (t,a)=>tmps.setIfInBounds t a) T) ri.assign ri.body) w:=by
  have hy:=run_yield (P:=P) (args:=vals) (r:={ state:=.ready,pending:=none,fn:=fn,tmps:=T,params:=ri.ps,assign:=ri.assign,body:=ri.body,defers:=D }) hl gi;simp[execOp,ho,resolve,dc,Deferred.ofValue,invoke,callFunc,bi,hy]
 refine jk (λc e=>(by rw[ho] at e;cases e)) ?_;unfold Oper.wpt;rw[ao,Oper.Ps];refine IK ?_;obtain⟨F1,hF1⟩:∃F1,w0.F++env.map (λp=>(get env p.1,a.tmps.getD p.1 undef))=F1:=⟨_,rfl⟩
 have hF:∀p∈F1,p.1.lt n=true/\al B (LB m h) m w p.1 p.2:=by
  intro p hp;rw[<-hF1] at hp
  rcases iF.1 hp with hp|hp
  .exact⟨AV.qQ hs.fr.1 (hs.fr.2.1 p hp).1,(hs.fr.2.1 p hp).2⟩
  .obtain⟨q,_,rfl⟩:=lK.1 hp;exact⟨(hs.env q.1).Ca bq,hs.env q.1⟩
 have hTe:∀t,al B (LB m h) m w (get ri.env t) (T.getD t undef):=by
  intro t
  rcases sU ri.env t with ⟨v,hv⟩|hu
  .exact (hs.fr.2.1 _ (ed t v hv)).2
  .rw[hu];exact .w (.undef _) nofun
 have bu:=F3 (B:=B) (L:=LB m h) (m:=m) (w:=w) ri.ps.toList (args.toList.map (ev env)) vals.toList ri.env T (by rw[hlen];simp) (by rw[<-bi];simp) (λt ht=>by rw[hT];simp_all)
  (λj x v hx hv=>by
    rw[<-bi] at hv;rw[gH] at hx
    grind) hTe
 rw[Ny];generalize gp:(ri.ps.toList.zip vals.toList).foldl (λtmps (p:Nat×Value)=>tmps.setIfInBounds p.1 p.2) T=T' at bu ⊢
 have a5:Sim B (⟨w0.w,F1,some ri.l,w0.obs,[],λri h=>(by cases h),w0.ok⟩:Ctx ⟨n,none⟩) ⟨mD ri.env ri.ps.toList (args.toList.map (ev env)),h,n,ri.nt⟩ { tmps:=T',defers:=[] } w m:=
  ⟨hs.base,hs.below,rfl,bu.1.trans hT,bu.2,hs.heap,hs.dom,hs.ids,aD _,hF,hs.fr.2.2⟩
 refine dK (hw _ _ _ _ _ a5) (λe a1 w1 ⟨st1,m1,d7,bf⟩=>?_)
 cases e with
 |normal=>
  intro w1 e1;replace bf:=bf.move e1;obtain⟨_,cw,hLl1,dj⟩:=bf.fr.2.2 _ hin;replace dj:w1.heap[ri.l]?=some (bt ri fn T D .ready none):=dj;replace cw:ri.l<w1.heap.size:=cw;refine⟨_,run_beginRound dj rfl,?_⟩
  have bk:Sim B (⟨w0.w,F1,some ri.l,(ri.l,bt ri fn T D .busy none)::w0.obs.filter (λq=>decide (q.1≠ri.l)),[],λri h=>(by cases h),w0.ok⟩:Ctx ⟨n,none⟩) st1 a1 (w1.putObj ri.l (bt ri fn T D .busy none)) m1:=by
   refine Sim.put (w1:=(⟨w0.w,F1,some ri.l,(ri.l,bt ri fn T D .busy none)::w0.obs.filter (λq=>decide (q.1≠ri.l)),[],λri h=>(by cases h),w0.ok⟩:Ctx ⟨n,none⟩)) (o':=bt ri fn T D .busy none) bf dj dm (λ_ _ h=>by cases h) hBl rfl rfl (by exact bf.defers) ⟨bf.fr.1,λp hp=>⟨(bf.fr.2.1 p hp).1,(bf.fr.2.1 p hp).2.mB (λad v h=>wj dj dm ad v h)⟩,λq hq=>?_⟩
   rcases db.1 hq with e|hq
   .subst e;exact⟨hBl,by simp_all,hLl1,World.putObj_heap_same cw⟩
   .obtain⟨hq,b6⟩:=qo.1 hq;obtain⟨o1,o2,o3,o4⟩:=bf.fr.2.2 q hq;exact⟨o1,by simpa using o2,o3,(World.putObj_heap_other (by grind)).trans o4⟩
  have fin:∀(s:LoopState)(j:Option Code)(st3:St)(a3:Act)(w3:World)(m3:Mm),Sim B (⟨w0.w,F1,some ri.l,(ri.l,bt ri fn T D .busy none)::w0.obs.filter (λq=>decide (q.1≠ri.l)),[],λri h=>(by cases h),w0.ok⟩:Ctx ⟨n,none⟩) st3 a3 w3 m3 ->
   ∀h' n' aq,Lek ⟨n,none⟩ st3 ⟨[],h',n',aq⟩->∃m4,(Bel B.n w0.w (w3.putObj ri.l (bt ri fn T D s j)))/\(∀t,al B (LB m4 h') m4 (w3.putObj ri.l (bt ri fn T D s j)) (get env t) (a.tmps.getD t undef)) /\
    Sim B (⟨w0.w,F1,some ri.l,[],[],λri h=>(by cases h),w0.ok⟩:Ctx ⟨n,none⟩) ⟨[],h',n',aq⟩ a3 (w3.putObj ri.l (bt ri fn T D s j)) m4/\n<=n' /\
    (∀p∈w0.F,al B (LB m4 h') m4 (w3.putObj ri.l (bt ri fn T D s j)) p.1 p.2)/\w3.heap[ri.l]?=some (bt ri fn T D .busy none)/\ri.l<w3.heap.size/\¬LB m4 h' ri.l /\
    (∀q∈w0.obs,q.1≠ri.l->B.n<=q.1/\q.1<(w3.putObj ri.l (bt ri fn T D s j)).heap.size/\¬LB m4 h' q.1/\(w3.putObj ri.l (bt ri fn T D s j)).heap[q.1]?=some q.2):=by
   intro s j st3 a3 w3 m3 ck h' n' aq hle;obtain⟨m4,d2⟩:=hle _ _ _ _ _ ck;obtain⟨_,ba,hLl4,c7⟩:=d2.fr.2.2 (ri.l,bt ri fn T D .busy none) (by simp);replace c7:w3.heap[ri.l]?=some (bt ri fn T D .busy none):=c7;replace ba:ri.l<w3.heap.size:=ba;have dp:(bt ri fn T D .busy none).isCells=false:=rfl
   have d5:∀ad v,w3.cell? ad=some v->(w3.putObj ri.l (bt ri fn T D s j)).cell? ad=some v:=λad v h=>wj c7 dp ad v h
   have c5:=d2.fr.2.1
   have hold:∀t,al B (LB m4 h') m4 (w3.putObj ri.l (bt ri fn T D s j)) (get env t) (a.tmps.getD t undef):=by
    intro t
    rcases sU env t with ⟨v,hv⟩|hu
    .refine ((c5 (get env t,a.tmps.getD t undef) ?_).2).mB d5;rw[<-hF1]
     grind
    .rw[hu];exact .w (.undef _) nofun
   have a4:Sim B (⟨w0.w,F1,some ri.l,[],[],λri h=>(by cases h),w0.ok⟩:Ctx ⟨n,none⟩) ⟨[],h',n',aq⟩ a3 (w3.putObj ri.l (bt ri fn T D s j)) m4:=
    Sim.put (w1:=(⟨w0.w,F1,some ri.l,[],[],λri h=>(by cases h),w0.ok⟩:Ctx ⟨n,none⟩)) (o':=bt ri fn T D s j) d2 c7 dp (λ_ _ h=>by cases h) hBl rfl rfl (by exact d2.defers) ⟨d2.fr.1,λp hp=>⟨(c5 p hp).1,(c5 p hp).2.mB d5⟩,λq hq=>by cases hq⟩
   refine⟨m4,a4.below,hold,a4,d2.fr.1,λp hp=>?_,c7,ba,hLl4,λq hq b6=>?_⟩
   .refine ((c5 p ?_).2).mB d5;rw[<-hF1]
    grind
   .obtain⟨o1,o2,o3,o4⟩:=d2.fr.2.2 q (dQ _ (qo.2 ⟨hq,by grind⟩));exact⟨o1,by simpa using o2,o3,(World.putObj_heap_other b6).trans o4⟩
  refine dK (d7 _ _ _ _ _ bk) (λe a3 w3 ⟨st3,m3,ef,ck⟩=>?_)
  cases e with
  |normal=>
   intro w3 e3;replace ck:=ck.move e3;obtain⟨h',n',aq,hle,aw⟩:=ef;obtain⟨m4,c3,hold,a4,ej,hF0,c7,ba,hLl4,bv⟩:=fin .ready none st3 a3 w3 m3 ck h' n' aq hle;refine⟨_,_,run_endRound none c7,?_⟩;show K' (a.put o.dst (.bool true)) _;refine hK h' n' _ _ m4 aw ⟨a4.base,c3,by rw[jM];exact hs.defers,by rw[jL];exact hs.size,?_,a4.heap,a4.dom,a4.ids,b7 hs.fr.1 ej,λp hp=>⟨(hs.fr.2.1 p hp).1,hF0 p hp⟩,λq hq=>?_⟩
   .exact mN env a o.dst _ _ (by rw[hs.size];exact af) (gJ true) hold
   .by_cases fo:q.1=ri.l
    .obtain⟨o1,o2,o3,o4⟩:=hs.fr.2.2 q hq;rw[fo] at o4 o1 ⊢;rw[hl] at o4;refine⟨o1,by simp_all,hLl4,?_⟩;rw[<-o4];exact World.putObj_heap_same ba
    .exact bv q hq fo
  |ret=>
   intro w3 e3;replace ck:=ck.move e3;obtain⟨h',n',aq,hle,aw⟩:=ef;obtain⟨m4,c3,hold,a4,ej,hF0,c7,ba,hLl4,bv⟩:=fin .done (some .ret) st3 a3 w3 m3 ck h' n' aq hle;refine⟨_,_,run_endRound (some .ret) c7,?_⟩;show K' (a.put o.dst (.bool false)) _;refine hKl (⟨w0.w,w0.F,w0.r,(ri.l,bt ri fn T D .done (some .ret))::w0.obs.filter (λq=>decide (q.1≠ri.l)),w0.ds,λri h=>(by cases h),w0.ok⟩:Ctx ⟨k,none⟩) h' n' _ _ m4 ⟨rfl,rfl,rfl,rfl,⟨fn,T,D,by simp⟩,λq hq b6=>dQ _ (qo.2 ⟨hq,by grind⟩)⟩ aw
    ⟨a4.base,c3,by rw[jM];exact hs.defers,by rw[jL];exact hs.size,?_,a4.heap,a4.dom,a4.ids,b7 hs.fr.1 ej,λp hp=>⟨(hs.fr.2.1 p hp).1,hF0 p hp⟩,λq hq=>?_⟩
   .exact mN env a o.dst _ _ (by rw[hs.size];exact af) (gJ false) hold
   .rcases db.1 hq with e|hq
    .subst e;exact⟨hBl,by simp_all,hLl4,World.putObj_heap_same ba⟩
    .obtain⟨hq,b6⟩:=qo.1 hq;exact bv q hq (by grind)
  |_=>exact ef.elim
 |_=>exact d7.elim
theorem Nz{k:Nat}{ri:RI}{w0:Ctx ⟨k,some ri⟩}{nt:Nat}(o:Oper)(f:Operand)(args:Array Operand)(tys:Array TypeId)(ho:o.op=.call { callee:=.value f,args:=args,argTypes:=tys }){ow fl:Bool}(hf:ev env f=.w ow fl (.yl ri.l)){Kv:AV->ae->Nat->Prop}(hw:Round P ri (args.toList.map (ev env)) h n (λh' n'=>Kv (.w false false (.bool true)) h' n'))(hs:Sim B w0 ⟨env,h,n,nt⟩ a w m)(af:dOk nt o.dst)(Q:Exit->Act->World->Prop)(K':Act->World->Prop)(hK:∀v h' n' a' w' m',Kv v h' n'->Sim B w0 ⟨put env o.dst v,h',n',nt⟩ a' w' m'->K' a' w'):o.wpT w0.r P a w K' Q:=by
 obtain⟨hlen,ax,hw⟩:=hw;refine F4 (Kl:=λ_ _=>False) o f args tys ho hf ⟨hlen,ax,sd hw (λe s hq=>?_)⟩ hs af Q K' (λh' n' a' w' m' hk h8=>hK _ _ _ _ _ m' hk h8) (λ_ _ _ _ _ _ _ hk=>hk.elim)
 cases e with
 |normal=>
  refine sd hq (λe s hq=>?_)
  cases e with
  |normal=>exact hq
  |_=>exact hq.elim
 |_=>exact hq.elim
end
def qd{fk:Fk}(w0:Ctx fk):Prop:=w0.ds.Nodup/\∀D∈w0.ds,(D,Obj.deferred (some []))∈w0.obs
def eX(fk:Fk)(P:Program)(c:Code)(st:St)(K:Exit->St->Prop):Prop:=
 ∀(B:Base)(w0:Ctx fk)(a:Act)(w:World)(m:Mm),w0.r=none->qd w0->Sim B w0 st a w m ->
  c.wpT none P (λe a' w'=>∃(w1:Ctx fk)(st':St)(m':Mm),w1.w=w0.w/\w1.r=none/\qd w1/\K e st'/\Sim B w1 st' a' w' m') a w
def eu(k:Nat)(ri:RI)(P:Program)(c:Code)(st:St)(K Kd:Exit->St->Prop):Prop:=
 ∀(B:Base)(w0:Ctx ⟨k,some ri⟩)(a:Act)(w:World)(m:Mm),Sim B w0 st a w m ->
  c.wpT w0.r P (λe a' w'=>(∃st' m',K e st'/\Sim B w0 st' a' w' m')\/∃w1:Ctx ⟨k,none⟩,qb w0 w1/\∃st' m',Kd e st'/\Sim B w1 st' a' w' m') a w
theorem F5{k:Nat}{ri:RI}{P:Program}{K Kd:Exit->St->Prop}{st:St}{c:Code}(h:aS ⟨k,some ri⟩ P c st K):eu k ri P c st K Kd:=
 λB w0 a w m hs=>dK (h B w0 a w m hs) (λ_ _ _ hx=>.inl hx)
section
variable{P:Program}{K:Exit->St->Prop}{st st':St}
theorem mX{c:Code}(h:aS fk P c st K):eX fk P c st K:=λB w0 a w m hr hd hs=>by
 have:=h B w0 a w m hs;rw[hr] at this;exact dK this (λe a' w' ⟨st',m',h1,h2⟩=>⟨w0,st',m',rfl,hr,hd,h1,h2⟩)
def wY(fk:Fk)(P:Program)(b:Code)(K:Exit->St->Prop):Exit->St->Prop
 |.normal,s=>eX fk P b s K
 |e,s=>K e s
theorem mY{x y:Code}(h:eX fk P x st (wY fk P y K)):eX fk P (.seq x y) st K:=
 λB w0 a w m hr hd hs=>xT (dK (h B w0 a w m hr hd hs) (λe a' w' ⟨w1,st',m',g1,g2,g3,h1,h2⟩=>by
  cases e with
  |normal=>exact dK (h1 B w1 a' w' m' g2 g3 h2) (λe a2 w2 ⟨w3,s3,m3,k1,k2,k3,k4,k5⟩=>⟨w3,s3,m3,k1.trans g1,k2,k3,k4,k5⟩)
  |_=>exact⟨w1,st',m',g1,g2,g3,h1,h2⟩))
theorem wm{id:Nat}{c:Code}(h:eX fk P c st (gS id K)):eX fk P (.block id c) st K:=
 λB w0 a w m hr hd hs=>xU (dK (h B w0 a w m hr hd hs) (λe a' w' ⟨w1,st',m',g1,g2,g3,h1,h2⟩=>by
  cases e with
  |exit ft=>
   simp only[Exit.inBlock];split<;>simp_all
  |_=>exact⟨w1,st',m',g1,g2,g3,h1,h2⟩))
theorem NA{c:Code}{K':Exit->St->Prop}(h:eX fk P c st K)(hk:∀e s,K e s->K' e s):eX fk P c st K':=
 λB w0 a w m hr hd hs=>dK (h B w0 a w m hr hd hs) (λe a' w' ⟨w1,st',m',g1,g2,g3,h1,h2⟩=>⟨w1,st',m',g1,g2,g3,hk _ _ h1,h2⟩)
theorem F6{g:Operand}{ps:Array Tmp}{assign body:Code}{env:Env}{h:ae}{n nt:Nat}{gf:FuncId}{aF:List AV}(hf:fp (ev env g)=some (gf,aF)){fn:Func}{c:Code}(av:P.funcs[gf]?=some fn) (h9:(fn.name == "runtime.NumGoroutine")=false) (hb:fn.body=some c) (b4:aF.length+1<=fn.ntmps) (hw:∀l,eu n ⟨l,env,nt,ps,assign,body⟩ P c ⟨fq 0 (.w false false (.yl l)::aF),h,n,fn.ntmps⟩ (gF P fn.results.toList λ_ h' n'=>K .normal ⟨env,h',n',nt⟩) (gF P fn.results.toList λ_ h' n'=>K .ret ⟨env,h',n',nt⟩)):eX fk P (.rangeFunc g ps assign body) ⟨env,h,n,nt⟩ K:=by
 intro B w0 a w m hr hd hs;refine IL ?_;intro w e0 fni;replace hs:=hs.move e0;have bm:al B (LB m h) m w (ev env g) (a.eval g):=lM g (λt _=>hs.env t)
 have ee:∃cv:Array Value,a.eval g=.func (.func gf) #[] cv/\aF.length=cv.size/\∀(j:Nat)(p:AV)(v:Value),aF[j]?=some p->cv[j]?=some v->al B (LB m h) m w p v:=by
  unfold fp at hf;split at hf
  .rename_i g' bp e
   injection hf with hf;injection hf with h1 h2;subst h1;subst h2
   rw[e] at bm;generalize hv:a.eval g=vf at bm
   cases bm with|fn h1 h2=>grind
  .rename_i own f' g' bp e
   injection hf with hf;injection hf with h1 h2;subst h1;subst h2
   rw[e] at bm;generalize hv:a.eval g=vf at bm
   cases bm with
   |w h1 _=>
    cases h1 with
    |fn h1 h2=>
     refine⟨_,rfl,by grind,λj p v hp hv=>?_⟩;obtain⟨q,hq,rfl⟩:=fS hp;exact .w (h2 j q v hq hv) nofun
  .cases hf
 obtain⟨cv,dc,ay,g7⟩:=ee
 have bq:∀i,m.dom i->i<n:=λi hd=>(hs.dom i).1 hd
 obtain⟨ri,d8⟩:∃ri:RI,ri=⟨w.heap.size+1,env,nt,ps,assign,body⟩:=⟨_,rfl⟩;obtain⟨D,hD⟩:∃D,D=w.heap.size:=⟨_,rfl⟩
 have d9:ri.l=w.heap.size+1:=by rw[d8]
 have bf:Sim B (⟨w0.w,[],none,[(D,.deferred (some []))],w0.ds,λri h=>(by cases h),w0.ok⟩:Ctx ⟨0,none⟩) ⟨env,h,n,nt⟩ a (w.alloc (.deferred (some []))) m:=by
  refine Sim.lay (w1:=(⟨w0.w,[],none,[(D,.deferred (some []))],w0.ds,λri h=>(by cases h),w0.ok⟩:Ctx ⟨0,none⟩)) (.deferred (some [])) hs rfl rfl (by exact hs.defers) ⟨aR _,(λp hp=>by cases hp),λq hq=>?_⟩;simp only[oZ] at hq;subst hq;rw[hD];exact⟨hs.room,by simp,λhl=>by have:=dR hs.heap hl;omega,World.alloc_heap_new w _⟩
 have g6:Bel w.heap.size w (w.alloc (.deferred (some []))):=(Bel.refl _ w).alloc (aD _) _;have eh:Bel (w.alloc (.deferred (some []))).heap.size (w.alloc (.deferred (some []))) ((w.alloc (.deferred (some []))).alloc (bt ri fni a.tmps D .ready none)):=(Bel.refl _ _).alloc (aD _) _
 have cj:∀b,b<w.heap.size->((w.alloc (.deferred (some []))).alloc (bt ri fni a.tmps D .ready none)).heap[b]?=w.heap[b]?:=λb hb=>(eh.block b (by simp;omega)).trans (g6.block b hb)
 have br:∀x v,al B (LB m h) m w x v->al B (LB m h) m ((w.alloc (.deferred (some []))).alloc (bt ri fni a.tmps D .ready none)) x v:=λx v hr=>hr.mono (Mm.le.refl m) (λ_ _ h=>h) (λb co _=>cj b co)
 have aj:G0 ⟨n,some ri⟩ (w0.F++env.map (λp=>(get env p.1,a.tmps.getD p.1 undef))) ((ri.l,bt ri fni a.tmps D .ready none)::(D,.deferred (some []))::w0.obs):=λfu e=>by
  cases e;exact⟨fni,a.tmps,D,by simp,by rw[d8];exact hs.size,λt v hv=>iF.2 (.inr (lK.2 ⟨(t,v),by rw[d8] at hv;exact hv,by rw[d8]⟩))⟩
 have bk:Sim B (⟨w0.w,w0.F++env.map (λp=>(get env p.1,a.tmps.getD p.1 undef)),none,(ri.l,bt ri fni a.tmps D .ready none)::(D,.deferred (some []))::w0.obs,w0.ds,
  aj,w0.ok⟩:Ctx ⟨n,some ri⟩)
  ⟨env,h,n,nt⟩ a ((w.alloc (.deferred (some []))).alloc (bt ri fni a.tmps D .ready none)) m:=by
  refine Sim.lay (w1:=(⟨w0.w,w0.F++env.map (λp=>(get env p.1,a.tmps.getD p.1 undef)),none,(ri.l,bt ri fni a.tmps D .ready none)::(D,.deferred (some []))::w0.obs,w0.ds,aj,w0.ok⟩:Ctx ⟨n,some ri⟩)) _ bf rfl rfl (by exact hs.defers) ⟨aD _,λp hp=>?_,λq hq=>?_⟩
  .rcases iF.1 hp with hp|hp
   .exact⟨AV.qQ hs.fr.1 (hs.fr.2.1 p hp).1,br _ _ (hs.fr.2.1 p hp).2⟩
   .obtain⟨q,_,rfl⟩:=lK.1 hp;exact⟨(hs.env q.1).Ca bq,br _ _ (hs.env q.1)⟩
  .rcases db.1 hq with e|hq
   .subst e;refine⟨by simp only[d9];have:=hs.room;omega,by simp_all,λhl=>by have:=dR hs.heap hl;omega,?_⟩;simp only[d9];have:=World.alloc_heap_new (w.alloc (.deferred (some []))) (bt ri fni a.tmps D .ready none)
    rwa [World.size_alloc] at this
   .rcases db.1 hq with e|hq
    .subst e
     have e:∀k,k=w.heap.size->((w.alloc (.deferred (some []))).alloc (bt ri fni a.tmps D .ready none)).heap[k]?=some (.deferred (some [])):=λk hk=>by
      rw[hk];exact (eh.block _ (by simp)).trans (World.alloc_heap_new w _)
     exact⟨by simp only[hD];exact hs.room,by simp;omega,λhl=>by have:=dR hs.heap hl;omega,e D hD⟩
    .obtain⟨o1,o2,o3,o4⟩:=hs.fr.2.2 q hq
     grind
 have er:((w.alloc (.deferred (some []))).alloc (.loop { state:=.ready,pending:=none,fn:=fni,tmps:=a.tmps,params:=ps,assign,body,defers:=w.heap.size }))=(w.alloc (.deferred (some []))).alloc (bt ri fni a.tmps D .ready none):=by
  rw[d8,hD];rfl
 have cq:=run_enterLoop_outer (P:=P) (w:=w) fni a.tmps ps assign body;rw[er] at cq;clear eh;generalize (w.alloc (.deferred (some []))).alloc (bt ri fni a.tmps D .ready none)=W2 at bk cj br cq;refine⟨w.heap.size+1,[{ target:=.collected w.heap.size,args:=#[] }],W2,{ target:=.fn (.func gf) cv,args:=#[.func (.yield (w.heap.size+1)) #[] #[]] },W2,gf,#[.func (.yield (w.heap.size+1)) #[] #[]]++cv,W2,cq,?_,?_,?_⟩
 .have he:a.eval (.const (.func (.yield (w.heap.size+1)) #[] #[]))=.func (.yield (w.heap.size+1)) #[] #[]:=rfl;simp[resolve,rangeCall,dc,he,Deferred.ofValue]
 .have ei:¬fn.name = "runtime.NumGoroutine" := by simp_all
  simp[invoke,callFunc,av,ei,hb]
 .refine um av hb ?_
  have hlen:(AV.w false false (.yl ri.l)::aF).length=(#[Value.func (.yield (w.heap.size+1)) #[] #[]]++cv).size:=by grind
  have d3:∀(j:Nat)(x:AV)(v:Value),(AV.w false false (.yl ri.l)::aF)[j]?=some x->(#[Value.func (.yield (w.heap.size+1)) #[] #[]]++cv)[j]?=some v->al B (LB m h) m W2 x v:=by
   intro j x v hx hv
   cases j with
   |zero=>
    rw[rZ (by simp)] at hv;simp at hx hv;subst hx;subst hv;rw[d9];exact .w (.yl _) nofun
   |succ j=>
    rw[Sn (by simp)] at hv
    grind
  generalize (#[Value.func (.yield (w.heap.size+1)) #[] #[]]++cv)=vs at hlen d3;have ez:=hw ri.l;rw[show (⟨ri.l,env,nt,ps,assign,body⟩:RI)=ri from by rw[d8]] at ez
  have ek:(AV.w false false (.yl ri.l)::aF).length<=fn.ntmps:=by trivial
  generalize gq:AV.w false false (.yl ri.l)::aF=avs at hlen d3 ez ek
  have a5:Sim B (⟨w0.w,w0.F++env.map (λp=>(get env p.1,a.tmps.getD p.1 undef)),none,(ri.l,bt ri fni a.tmps D .ready none)::(D,.deferred (some []))::w0.obs,[],
   aj,w0.ok⟩:Ctx ⟨n,some ri⟩)
    ⟨fq 0 avs,h,n,fn.ntmps⟩ { tmps:=vs++Array.replicate (fn.ntmps-vs.size) undef,defers:=[] } W2 m:=by
   refine⟨bk.base,bk.below,rfl,by simp;omega,λt=>?_,bk.heap,bk.dom,bk.ids,bk.fr⟩;show al _ _ _ _ (get (fq 0 avs) t) _;rw[AB];split
   .rename_i ht
    have ax:t<avs.length:=by omega
    have:(vs++Array.replicate (fn.ntmps-vs.size) undef).getD t undef=vs[t]'(by omega):=by
     rw[bQ,rZ (by omega),bS (by omega)];rfl
    rw[this];exact d3 t _ _ (by simp_all) (bS (by omega))
   .exact .w (.undef _) nofun
  have main:∀{bh:Fk}(w1:Ctx bh)(fn2:FuncId)(T2:Array Value)(D2:Nat)(s:LoopState)(j:Option Code)(st':St)(a':Act)(w':World)(m':Mm)(Kv:ae->Nat->Prop),bh.k=n->w1.w=w0.w->(∀p∈w0.F++env.map (λp=>(get env p.1,a.tmps.getD p.1 undef)),p∈w1.F)->w1.ds=[] ->
   (ri.l,bt ri fn2 T2 D2 s j)∈w1.obs->s≠.busy->(∀q∈(D,Obj.deferred (some []))::w0.obs,q∈w1.obs)->Sim B w1 st' a' w' m'->fI P fn.results.toList st' (λ_ h' n'=>Kv h' n') ->
   a'.defers=[]/\∃v w4,(results fn a'.tmps).run P w'=.ok v w'/\(Instr.endLoop (w.heap.size+1)).run P w'=.ok j w4/\∃(w2:Ctx fk)(h':ae)(n':Nat)(m2:Mm),w2.w=w0.w/\w2.r=none/\qd w2/\Kv h' n'/\Sim B w2 ⟨env,h',n',nt⟩ { a with defers:=[{ target:=.collected w.heap.size,args:=#[] }]++a.defers } w4 m2:=by
   intro bh w1 fn2 T2 D2 s j st' a' w' m' Kv d7 e7 hF1 c4 et gg dq h8 bz;refine⟨by have:=h8.defers;rw[c4] at this;exact this,?_⟩;unfold fI at bz;split at bz
   .rename_i b' d bd;obtain⟨g8,aw⟩:=bz;obtain⟨us,h1,h2,h3⟩:=qD h8 _ _ _ bd g8
    have ao:(results fn a'.tmps).run P w'=.ok (if h:us.toArray.size=1 then us.toArray[0] else .tuple us.toArray) w':=by
     have he:results fn a'.tmps=(do
      let vs <-fn.results.mapM (oP a'.tmps)
      pure (if h:vs.size=1 then vs[0] else .tuple vs)):=rfl
     rw[he,rR];simp only[Sem.run_bind,Sem.run_map,h1,Result.andThen_ok,Sem.run_pure]
    obtain⟨hBl,eg,hLl,hl⟩:=h8.fr.2.2 (ri.l,bt ri fn2 T2 D2 s j) et
    replace hl:w'.heap[w.heap.size+1]?=some (bt ri fn2 T2 D2 s j):=by rw[<-d9];exact hl
    replace eg:w.heap.size+1<w'.heap.size:=by rw[<-d9];exact eg
    have dm:(bt ri fn2 T2 D2 s j).isCells=false:=rfl;refine⟨_,w'.putObj (w.heap.size+1) (bt ri fn2 T2 D2 .exhausted j),ao,run_endLoop hl gg,?_⟩
    have d5:∀ad v,w'.cell? ad=some v->(w'.putObj (w.heap.size+1) (bt ri fn2 T2 D2 .exhausted j)).cell? ad=some v:=λad v h=>wj hl dm ad v h
    have df:=h8.fr.2.1
    have hold:∀t,al B (LB m' st'.heap) m' (w'.putObj (w.heap.size+1) (bt ri fn2 T2 D2 .exhausted j)) (get env t) (a.tmps.getD t undef):=by
     intro t
     rcases sU env t with ⟨v,hv⟩|hu
     .exact ((df (get env t,a.tmps.getD t undef) (hF1 _ (iF.2 (.inr (lK.2 ⟨(t,v),hv,rfl⟩))))).2).mB d5
     .rw[hu];exact .w (.undef _) nofun
    have a4:Sim B (⟨w0.w,[],none,[],[],λri h=>(by cases h),w0.ok⟩:Ctx ⟨0,none⟩) st' a' (w'.putObj (w.heap.size+1) (bt ri fn2 T2 D2 .exhausted j)) m':=
     Sim.put (w1:=(⟨w0.w,[],none,[],[],λri h=>(by cases h),w0.ok⟩:Ctx ⟨0,none⟩)) (o':=bt ri fn2 T2 D2 .exhausted j) h8 hl dm (λ_ _ h=>by cases h) (by rw[<-d9];exact hBl) e7.symm rfl (by have:=h8.defers;rw[c4] at this;exact this) ⟨aR _,(λp hp=>by cases hp),λq hq=>by cases hq⟩
    have bv:∀q,q∈(D,Obj.deferred (some []))::w0.obs->B.n<=q.1/\q.1<(w'.putObj (w.heap.size+1) (bt ri fn2 T2 D2 .exhausted j)).heap.size/\¬LB m' st'.heap q.1/\(w'.putObj (w.heap.size+1) (bt ri fn2 T2 D2 .exhausted j)).heap[q.1]?=some q.2:=by
     intro q hq
     have b6:q.1≠w.heap.size+1:=by
      rcases db.1 hq with e|hq
      .subst e;simp only[hD];omega
      .have:=(hs.fr.2.2 q hq).2.1;omega
     obtain⟨o1,o2,o3,o4⟩:=h8.fr.2.2 q (dq q hq);exact⟨o1,by simpa using o2,o3,(World.putObj_heap_other b6).trans o4⟩
    refine⟨⟨w0.w,w0.F,none,(D,.deferred (some []))::w0.obs,D::w0.ds,λfu e=>?_,w0.ok⟩,st'.heap,st'.nxt,m',rfl,rfl,⟨?_,?_⟩,aw,⟨a4.base,a4.below,?_,hs.size,hold,a4.heap,a4.dom,a4.ids,b7 hs.fr.1 (by have:=h8.fr.1;rw[d7] at this;exact this),λp hp=>?_,bv⟩⟩
    .obtain⟨f1,T1,D1,g1,g2,g3⟩:=w0.bt fu e;exact⟨f1,T1,D1,dQ _ g1,g2,g3⟩
    .refine List.nodup_cons.2 ⟨λhin=>?_,hd.1⟩;have:=(hs.fr.2.2 _ (hd.2 D hin)).2.1;simp only[hD] at this;omega
    .intro D' dh
     rcases db.1 dh with e|dh
     .subst e;simp
     .exact dQ _ (hd.2 D' dh)
    .show [_]++a.defers=marks (D::w0.ds);rw[hs.defers,hD];rfl
    .exact⟨(hs.fr.2.1 p hp).1,((df p (hF1 p (iF.2 (.inl hp)))).2).mB d5⟩
   trivial
  refine dK (ez _ _ _ _ _ a5) (λe a' w' hq=>?_)
  have fin1:∀(st':St)(m':Mm),fI P fn.results.toList st' (λ_ h' n'=>K .normal ⟨env,h',n',nt⟩)->Sim B (⟨w0.w,w0.F++env.map (λp=>(get env p.1,a.tmps.getD p.1 undef)),none,(ri.l,bt ri fni a.tmps D .ready none)::(D,.deferred (some []))::w0.obs,[],aj,w0.ok⟩:Ctx ⟨n,some ri⟩) st' a' w' m' ->
   a'.defers=[]/\∀w1x,EnvD.E w' w1x->∃v,(results fn a'.tmps).run P w1x=.ok v w1x/\A7 P (w.heap.size+1) none (λe a' w'=>∃(w1:Ctx fk)(st':St)(m':Mm),w1.w=w0.w/\w1.r=none/\qd w1/\K e st'/\Sim B w1 st' a' w' m') { a with defers:=[{ target:=.collected w.heap.size,args:=#[] }]++a.defers } (.returned v) w1x:=by
   intro st' m' bz h8;refine⟨(main (⟨w0.w,w0.F++env.map (λp=>(get env p.1,a.tmps.getD p.1 undef)),none,(ri.l,bt ri fni a.tmps D .ready none)::(D,.deferred (some []))::w0.obs,[],aj,w0.ok⟩:Ctx ⟨n,some ri⟩) fni a.tmps D .ready none st' a' w' m' (λh' n'=>K .normal ⟨env,h',n',nt⟩) rfl rfl (λp hp=>hp) rfl (by simp) (by simp) (λq hq=>dQ _ hq) h8 bz).1,λw1x e1=>?_⟩;obtain⟨_,v,_,h2,_⟩:=main (⟨w0.w,w0.F++env.map (λp=>(get env p.1,a.tmps.getD p.1 undef)),none,(ri.l,bt ri fni a.tmps D .ready none)::(D,.deferred (some []))::w0.obs,[],aj,w0.ok⟩:Ctx ⟨n,some ri⟩) fni a.tmps D .ready none st' a' w1x m' (λh' n'=>K .normal ⟨env,h',n',nt⟩) rfl rfl (λp hp=>hp) rfl (by simp) (by simp) (λq hq=>dQ _ hq) (h8.move e1) bz;refine⟨v,h2,λw2x e2=>?_⟩;obtain⟨_,_,w4,_,h3,w2,h',n',m2,g1,g2,g3,g4,g5⟩:=main (⟨w0.w,w0.F++env.map (λp=>(get env p.1,a.tmps.getD p.1 undef)),none,(ri.l,bt ri fni a.tmps D .ready none)::(D,.deferred (some []))::w0.obs,[],aj,w0.ok⟩:Ctx ⟨n,some ri⟩) fni a.tmps D .ready none st' a' w2x m' (λh' n'=>K .normal ⟨env,h',n',nt⟩) rfl rfl (λp hp=>hp) rfl (by simp) (by simp) (λq hq=>dQ _ hq) ((h8.move e1).move e2) bz
   grind
  have fin2:∀(w1:Ctx ⟨n,none⟩)(st':St)(m':Mm),qb (⟨w0.w,w0.F++env.map (λp=>(get env p.1,a.tmps.getD p.1 undef)),none,(ri.l,bt ri fni a.tmps D .ready none)::(D,.deferred (some []))::w0.obs,[],aj,w0.ok⟩:Ctx ⟨n,some ri⟩) w1 ->
   fI P fn.results.toList st' (λ_ h' n'=>K .ret ⟨env,h',n',nt⟩)->Sim B w1 st' a' w' m' ->
   a'.defers=[]/\∀w1x,EnvD.E w' w1x->∃v,(results fn a'.tmps).run P w1x=.ok v w1x/\A7 P (w.heap.size+1) none (λe a' w'=>∃(w1:Ctx fk)(st':St)(m':Mm),w1.w=w0.w/\w1.r=none/\qd w1/\K e st'/\Sim B w1 st' a' w' m') { a with defers:=[{ target:=.collected w.heap.size,args:=#[] }]++a.defers } (.returned v) w1x:=by
   rintro w1 st' m' ⟨l1,l2,l3,l4,⟨fn2,T2,D2,l5⟩,l6⟩ bz h8
   have ep:∀q∈(D,Obj.deferred (some []))::w0.obs,q∈w1.obs:=λq hq=>l6 q (dQ _ hq) (by
    rcases db.1 hq with e|hq
    .simp_all
    .have:=(hs.fr.2.2 q hq).2.1;omega)
   refine⟨(main w1 fn2 T2 D2 .done (some .ret) st' a' w' m' (λh' n'=>K .ret ⟨env,h',n',nt⟩) rfl l1 (λp hp=>by rw[l2];exact hp) l4 l5 (by simp) ep h8 bz).1,λw1x e1=>?_⟩;obtain⟨_,v,_,h2,_⟩:=main w1 fn2 T2 D2 .done (some .ret) st' a' w1x m' (λh' n'=>K .ret ⟨env,h',n',nt⟩) rfl l1 (λp hp=>by rw[l2];exact hp) l4 l5 (by simp) ep (h8.move e1) bz;refine⟨v,h2,λw2x e2=>?_⟩;obtain⟨_,_,w4,_,h3,w2,h',n',m2,g1,g2,g3,g4,g5⟩:=main w1 fn2 T2 D2 .done (some .ret) st' a' w2x m' (λh' n'=>K .ret ⟨env,h',n',nt⟩) rfl l1 (λp hp=>by rw[l2];exact hp) l4 l5 (by simp) ep ((h8.move e1).move e2) bz;exact⟨some .ret,w4,h3,Cz ⟨w2,_,m2,g1,g2,g3,g4,g5⟩⟩
  rcases hq with ⟨st',m',hk,h8⟩|⟨w1,hl,st',m',hk,h8⟩
  .cases e with
   |normal=>exact fin1 st' m' hk h8
   |ret=>exact fin1 st' m' hk h8
   |_=>exact hk.elim
  .cases e with
   |normal=>exact fin2 w1 st' m' hl hk h8
   |ret=>exact fin2 w1 st' m' hl hk h8
   |_=>exact hk.elim
theorem AD{g:Operand}{ps:Array Tmp}{assign body:Code}{env:Env}{h:ae}{n nt:Nat}{gf:FuncId}{aF:List AV}(hf:fp (ev env g)=some (gf,aF)){fn:Func}{c:Code}(av:P.funcs[gf]?=some fn) (h9:(fn.name == "runtime.NumGoroutine")=false) (hb:fn.body=some c) (b4:aF.length+1<=fn.ntmps) (hw:∀l,aS ⟨n,some ⟨l,env,nt,ps,assign,body⟩⟩ P c ⟨fq 0 (.w false false (.yl l)::aF),h,n,fn.ntmps⟩ (gF P fn.results.toList λ_ h' n'=>K .normal ⟨env,h',n',nt⟩)):eX fk P (.rangeFunc g ps assign body) ⟨env,h,n,nt⟩ K:=
 F6 hf av h9 hb b4 (λl=>F5 (hw l))
theorem wo{f:FuncId}{fn:Func}{c:Code}{args:List PV}{res:PV}{fr:Bool}(hf:P.funcs[f]?=some fn) (h9:(fn.name == "runtime.NumGoroutine")=false) (hb:fn.body=some c) (b4:args.length<=fn.ntmps) (h:eX fk0 P c ⟨iB 0 args,[],0,fn.ntmps⟩ (ry P fn.results.toList res fr)):aB P f args res fr:=by
 refine⟨⟨fn,hf,h9,by rw[hb];rfl⟩,λG w vs el hlen cy=>?_⟩;refine CB hf hb ?_
 have a5:Sim ⟨w.heap.size,G⟩ (⟨w,[],none,[],[],λri h=>(by cases h),el⟩:Ctx fk0) ⟨iB 0 args,[],0,fn.ntmps⟩ { tmps:=vs++Array.replicate (fn.ntmps-vs.size) undef,defers:=[] } w ⟨λ_ _=>none,λ_=>0,λ_=>False⟩:=by
  refine⟨rfl,Bel.refl _ _,rfl,by simp;omega,λt=>?_,⟨λid cells hin=>(by cases hin),List.Pairwise.nil⟩,λi=>⟨λh=>h.elim,λh=>absurd h (Iv i)⟩,λid c hin=>(by cases hin),aR _,(λp hp=>by cases hp),λq hq=>by cases hq⟩;show al _ _ _ _ (get (iB 0 args) t) _;rw[vS];split
  .rename_i ht
   have ax:t<args.length:=by omega
   refine .w ?_ nofun
   have:(vs++Array.replicate (fn.ntmps-vs.size) undef).getD t undef=vs[t]'(by omega):=by
    rw[bQ,rZ (by omega),bS (by omega)];rfl
   rw[this]
   refine (cy t _ _ (by simp_all) (bS (by omega))).imp λb hg=>⟨?_,nofun,λ_=>hg⟩
   rintro⟨id,cells,C,hin,_⟩
   cases hin
  .exact .w (.undef _) nofun
 refine dK (h _ _ _ _ _ rfl ⟨List.nodup_nil,λD h=>by cases h⟩ a5) (λe a' w' ⟨w1,st',m',g1,g2,g3,hk,hs⟩=>?_)
 have main:nE P fn.results.toList st' res fr->∀(ds:List Nat)(w1:Ctx fk0)(a1:Act)(W:World),w1.w=w->w1.ds=ds->qd w1->Sim ⟨w.heap.size,G⟩ w1 st' a1 W m' ->
  ou P fn a1.tmps (λe w'=>∃v,e=.returned v/\Bel w.heap.size w w'/\Rep (λb=>(b<w.heap.size->G b)/\(fr=true->w.heap.size<=b)) w' res v) (marks ds) W:=by
  intro hr ds
  induction ds with
  |nil=>
   intro w1 a1 W f7 dy af hs;intro W e1;replace hs:=hs.move e1;unfold nE at hr;split at hr
   .rename_i b' d bd;obtain⟨hd,gh,cg⟩:=hr;obtain⟨us,h1,h2,h3⟩:=qD hs _ _ _ bd hd
    have ao:(results fn a1.tmps).run P W=.ok (if h:us.toArray.size=1 then us.toArray[0] else .tuple us.toArray) W:=by
     have he:results fn a1.tmps=(do
      let vs <-fn.results.mapM (oP a1.tmps)
      pure (if h:vs.size=1 then vs[0] else .tuple vs)):=rfl
     rw[he,rR];simp only[Sem.run_bind,Sem.run_map,h1,Result.andThen_ok,Sem.run_pure]
    have b9:al ⟨w.heap.size,G⟩ (LB m' st'.heap) m' W (oneOf b') (if h:us.toArray.size=1 then us.toArray[0] else .tuple us.toArray):=by
     have tupc:b'.length≠1->al ⟨w.heap.size,G⟩ (LB m' st'.heap) m' W (.tup b') (if h:us.toArray.size=1 then us.toArray[0] else .tuple us.toArray):=by
      intro b6;rw[dif_neg (by simp;omega)];exact .tup (by simpa using h2) (λj p u hp hu=>h3 j p u hp (by simpa using hu))
     match b',h2,h3,tupc with
     |[],h2,h3,tupc=>exact tupc (by simp)
     |[v],h2,h3,tupc=>
      obtain⟨u,rfl⟩:∃u,us=[u]:=Cq.1 (by simpa using h2.symm);exact h3 0 v u rfl rfl
     |v::v2::r,h2,h3,tupc=>exact tupc (by simp)
    refine⟨_,ao,_,rfl,?_,?_⟩
    .have c3:=hs.below;rw[f7] at c3;exact c3
    exact mM (B:=⟨w.heap.size,G⟩) hs.heap (λid cs e=>fA e) fr (λb hb=>⟨λhl=>by simp only at hb;omega,λ_=>hb⟩) (λhf b hg=>⟨hg.2.2,λh=>by rw[hf] at h;cases h⟩) 6 _ _ _ gh cg b9
   trivial
  |cons D ds ih=>
   intro w1 a1 W f7 dy af hs;intro W e1;replace hs:=hs.move e1;obtain⟨hBD,hDl,hLD,hDh⟩:=hs.fr.2.2 _ (af.2 D (by rw[dy];simp));refine⟨D,_,rfl,run_takeDeferred hDh,?_⟩;have fm:=af.1;rw[dy] at fm;obtain⟨gv,gc⟩:=List.nodup_cons.1 fm;refine ih (⟨w1.w,[],none,w1.obs.filter (λq=>decide (q.1≠D)),ds,λri h=>(by cases h),w1.ok⟩:Ctx fk0) { a1 with defers:=marks ds } _ f7 rfl ⟨gc,λD' dh=>qo.2 ⟨af.2 D' (by rw[dy];simp[dh]),by grind⟩⟩ ?_;refine Sim.put (w1:=(⟨w1.w,[],none,w1.obs.filter (λq=>decide (q.1≠D)),ds,λri h=>(by cases h),w1.ok⟩:Ctx fk0)) (o':=.deferred none) hs hDh rfl (λ_ _ h=>by cases h) hBD rfl rfl rfl ⟨aR _,(λp hp=>by cases hp),λq hq=>?_⟩;obtain⟨hq,b6⟩:=qo.1 hq;obtain⟨o1,o2,o3,o4⟩:=hs.fr.2.2 q hq;exact⟨o1,by simpa using o2,o3,(World.putObj_heap_other (by grind)).trans o4⟩
 cases e with
 |normal=>
  show ou _ _ _ _ a'.defers _;rw[hs.defers];exact main hk _ _ _ _ g1 rfl g3 hs
 |ret=>
  show ou _ _ _ _ a'.defers _;rw[hs.defers];exact main hk _ _ _ _ g1 rfl g3 hs
 |_=>exact hk.elim
end
section
variable{P:Program}{K:Exit->St->Prop}{st st':St}
end
section
variable{P:Program}{K:Exit->St->Prop}
theorem qH{ops:Array Oper}{nt:Nat}{B:Base}{w0:Ctx fk}{Kr:Env->ae->Nat->Prop}{Q:Exit->Act->World->Prop}(rest:List Oper)(hQ:∀e h n a w m,Kr e h n->Sim B w0 ⟨e,h,n,nt⟩ a w m->gN w0.r P ops Q rest a w):∀(os:List Oper)(e:Env)(h:ae)(n:Nat)(a:Act)(w:World)(m:Mm),bD P ops nt os e h n Kr->Sim B w0 ⟨e,h,n,nt⟩ a w m->gN w0.r P ops Q (os++rest) a w
 |[],e,h,n,a,w,m,hk,hs=>hQ e h n a w m hk hs
 |o::os,e,h,n,a,w,m,hk,hs=>by
  simp only[bD] at hk;split at hk
  .rename_i g hg;have hw:=o8 hg hs;simp only[oW,gN,hw];intro w e1;replace hs:=hs.move e1
   cases g with
   |true=>
    simp only[aJ];exact jk (uR (hk.2.1 rfl)) (uS w0 o (K:=λv h' n'=>bD P ops nt os (put e o.dst v) h' n' Kr) (hk.2.1 rfl) hs hk.1 Q _ (λv h' n' a' w' m' au h8=>qH rest hQ os _ _ _ _ _ m' au h8))
   |false=>
    simp only[bw,aQ];refine qH rest hQ os _ _ _ _ _ m (hk.2.2 rfl) ⟨hs.base,hs.below,by rw[jM];exact hs.defers,by rw[jL];exact hs.size,?_,hs.heap,hs.dom,hs.ids,hs.fr⟩;exact mN e a o.dst _ _ (by rw[hs.size];exact hk.1) (.tup rfl (λj p v hp=>by simp at hp)) hs.env
  trivial
def YW(P:Program)(ri:RI)(nt:Nat)(e:Env)(h:ae)(n:Nat)(o:Oper)(K:Env->ae->Nat->Prop):Prop:=
 match o.op with
 |.call { callee:=.value f,args:=args,argTypes:=_ }=>dOk nt o.dst/\(∃ow fl,ev e f=.w ow fl (.yl ri.l)) /\
   Round P ri (args.toList.map (ev e)) h n (λh' n'=>K (put e o.dst (.w false false (.bool true))) h' n')
 |_=>False
def gYW(P:Program)(ri:RI)(ops:Array Oper)(nt:Nat)(e:Env)(h:ae)(n:Nat)(o:Oper)(K:Env->ae->Nat->Prop):Prop:=
 match fE ops e o with
 |some g=>dOk nt o.dst/\(g=true->YW P ri nt e h n o K)/\(g=false->K (put e o.dst (.tup [])) h n)
 |none=>False
theorem NB{k:Nat}{ri:RI}{id:Nat}{ops:Array Oper}{env:Env}{h:ae}{n nt:Nat}(pre:List Oper)(o:Oper)(post:List Oper)(bc:ops.toList=pre++o::post)(hk:bD P ops nt pre env h n λe' h' n'=>gYW P ri ops nt e' h' n' o λa6 aa ag=>bD P ops nt post a6 aa ag λe3 h3 n3=>K .normal ⟨e3,h3,n3,nt⟩):aS ⟨k,some ri⟩ P (.region id ops false) ⟨env,h,n,nt⟩ K:=by
 intro B w0 a w m hs;refine qu ?_;rw[bc];refine qH (o::post) ?_ pre env h n a w m hk hs;intro e h n a w m hy hs;unfold gYW at hy;split at hy
 .rename_i g hg;have hw:=o8 hg hs;simp only[gN,hw];intro w e1;replace hs:=hs.move e1
  have bg:∀a6 aa ag cm d4 c2,(bD P ops nt post a6 aa ag λe3 h3 n3=>K .normal ⟨e3,h3,n3,nt⟩)->Sim B w0 ⟨a6,aa,ag,nt⟩ cm d4 c2->gN w0.r P ops (λe a' w'=>∃st' m',K e st'/\Sim B w0 st' a' w' m') post cm d4:=
   λa6 aa ag cm d4 c2 au h8=>mP (λ_ _ _ _ _ m au h8=>⟨_,m,au,h8⟩) post _ _ _ _ _ c2 au h8
  cases g with
  |true=>
   simp only[aJ];have e8:=hy.2.1 rfl;unfold YW at e8;split at e8
   .rename_i f args tys ho;obtain⟨af,⟨ow,fl,hf⟩,hr⟩:=e8;exact Nz o f args tys ho hf (Kv:=λv h' n'=>v=.w false false (.bool true)/\bD P ops nt post (put e o.dst (.w false false (.bool true))) h' n' λe3 h3 n3=>K .normal ⟨e3,h3,n3,nt⟩)
     ⟨hr.1,hr.2.1,sd hr.2.2 (λe s hk=>by
       cases e with
       |normal=>exact sd hk (λe s hk=>by
         cases e with
         |normal=>
          obtain⟨h',n',aq,h1,h2⟩:=hk;exact⟨h',n',aq,h1,rfl,h2⟩
         |_=>exact hk.elim)
       |_=>exact hk.elim)⟩ hs af _ _ (λv h' n' a' w' m' aw h8=>by
        obtain⟨rfl,aw⟩:=aw
        exact bg _ _ _ _ _ m' aw h8)
   .exact e8.elim
  |false=>
   simp only[bw,aQ];refine bg _ _ _ _ _ m (hy.2.2 rfl) ⟨hs.base,hs.below,by rw[jM];exact hs.defers,by rw[jL];exact hs.size,?_,hs.heap,hs.dom,hs.ids,hs.fr⟩;exact mN e a o.dst _ _ (by rw[hs.size];exact hy.1) (.tup rfl (λj p v hp=>by simp at hp)) hs.env
 trivial
def IW(P:Program)(nt:Nat)(e:Env)(h:ae)(n:Nat)(o:Oper)(g:FuncId)(aF:List AV)(fn:Func)(c:Code)(args:List AV)(K:Env->ae->Nat->Prop):Prop:=
 dOk nt o.dst/\o.guard=none/\aS ⟨n,none⟩ P c ⟨fq 0 (args++aF),h,n,fn.ntmps⟩ (gF P fn.results.toList λv h' n'=>K (put e o.dst v) h' n')
theorem NC{id:Nat}{ops:Array Oper}{env:Env}{h:ae}{n nt:Nat}(pre:List Oper)(o:Oper)(post:List Oper)(bc:ops.toList=pre++o::post){f:Operand}{args:Array Operand}{tys:Array TypeId}(ho:o.op=.call { callee:=.value f,args:=args,argTypes:=tys }){g:FuncId}{fn:Func}{c:Code}(av:P.funcs[g]?=some fn) (h9:(fn.name == "runtime.NumGoroutine")=false) (hb:fn.body=some c) (hk:bD P ops nt pre env h n λe' h' n'=>∃aF,fp (ev e' f)=some (g,aF)/\(args.toList.map (ev e')++aF).length<=fn.ntmps/\IW P nt e' h' n' o g aF fn c (args.toList.map (ev e')) λa6 aa ag=>bD P ops nt post a6 aa ag λe3 h3 n3=>K .normal ⟨e3,h3,n3,nt⟩):aS fk P (.region id ops false) ⟨env,h,n,nt⟩ K:=by
 intro B w0 a w m hs;refine qu ?_;rw[bc];refine qH (o::post) ?_ pre env h n a w m hk hs
 rintro e h n a w m ⟨aF,hf,b4,af,c6,hw⟩ hs
 have bg:∀a6 aa ag cm d4 c2,(bD P ops nt post a6 aa ag λe3 h3 n3=>K .normal ⟨e3,h3,n3,nt⟩)->Sim B w0 ⟨a6,aa,ag,nt⟩ cm d4 c2->gN w0.r P ops (λe a' w'=>∃st' m',K e st'/\Sim B w0 st' a' w' m') post cm d4:=
  λa6 aa ag cm d4 c2 au h8=>mP (λ_ _ _ _ _ m au h8=>⟨_,m,au,h8⟩) post _ _ _ _ _ c2 au h8
 simp only[gN,Region.wanted,c6,aJ];intro w e1;replace hs:=hs.move e1;exact jk (λc e=>by rw[ho] at e;cases e) (F2 o f args tys ho hf av h9 hb b4 none (λ_ h=>by cases h) hw hs af _ _ (λv h' n' a' w' m' aw h8=>bg _ _ _ _ _ m' aw h8))
end
def EqV(x:AV)(E:List (List AV))(v:AV):Prop:=x=v/\E=[]
def EqE(x:AV)(h':ae)(n':Nat)(v:AV)(h:ae)(n:Nat):Prop:=x=v/\h'=h/\n'=n
section
omit [ak]
@[congr] theorem Yg{x x' v:AV}{E E':List (List AV)}(h:x=x')(h2:E=E'):EqV x E v=EqV x' E' v:=by rw[h,h2]
@[congr] theorem Yh{x x' v:AV}{h h' h0:ae}{n n' n0:Nat}(e1:x=x')(e2:h=h')(e3:n=n'):EqE x h n v h0 n0=EqE x' h' n' v h0 n0:=by rw[e1,e2,e3]
theorem dI{o f:Bool}{p:PV}:EqV (.w o f p) [] (.w o f p):=⟨rfl,rfl⟩
theorem dt{a b c:Nat}:EqV (.ptr a b c) [] (.ptr a b c):=⟨rfl,rfl⟩
theorem du{a b c d e:Nat}:EqV (.msl a b c d e) [] (.msl a b c d e):=⟨rfl,rfl⟩
theorem dw{c:List AV}:EqV (.agg c) [] (.agg c):=⟨rfl,rfl⟩
theorem dz{g:FuncId}{c:List AV}:EqV (.fn g c) [] (.fn g c):=⟨rfl,rfl⟩
theorem dA{b:Bool}{c:AV}:EqV (gdV b c) [] (gdV b c):=⟨rfl,rfl⟩
theorem dJ{o f:Bool}{p:PV}{h:ae}{n:Nat}:EqE (.w o f p) h n (.w o f p) h n:=⟨rfl,rfl,rfl⟩
theorem dB{a b c:Nat}{h:ae}{n:Nat}:EqE (.ptr a b c) h n (.ptr a b c) h n:=⟨rfl,rfl,rfl⟩
theorem dC{a b c d e:Nat}{h:ae}{n:Nat}:EqE (.msl a b c d e) h n (.msl a b c d e) h n:=⟨rfl,rfl,rfl⟩
theorem dD{c:List AV}{h:ae}{n:Nat}:EqE (.agg c) h n (.agg c) h n:=⟨rfl,rfl,rfl⟩
theorem dE{g:FuncId}{c:List AV}{h:ae}{n:Nat}:EqE (.fn g c) h n (.fn g c) h n:=⟨rfl,rfl,rfl⟩
theorem dF{b:Bool}{c:AV}{h:ae}{n:Nat}:EqE (gdV b c) h n (gdV b c) h n:=⟨rfl,rfl,rfl⟩
end
section
variable{P:Program}{ops:Array Oper}{nt:Nat}{env:Env}{h:ae}{n:Nat}
theorem AO{op:Op}{K K':AV->List (List AV)->Prop}(hq:bj P env h n op K)(hk:∀v E,K v E->K' v E):bj P env h n op K':=by
 unfold bj at *;split
 .rename_i f args tys;simp only at hq;split at hq
  .rename_i g aF e;unfold qO at *;split at hq
   .rename_i pvs e2
    rcases hq with ⟨res,fr,h1,h2,h3⟩|⟨E,v,h1,h3⟩
    .exact .inl ⟨res,fr,h1,h2,hk _ _ h3⟩
    .exact .inr ⟨E,v,h1,hk _ _ h3⟩
   .exact hq.elim
  .exact hq.elim
 grind
omit [ak] in
theorem N7{t:TypeId}{ad x:Operand}{K K':AV->ae->Nat->Prop}(hq:na P env h n t ad x K)(hk:∀v h' n',K v h' n'->K' v h' n'):na P env h n t ad x K':=by
 unfold na at *
 grind
omit [ak] in
theorem N8{args:List Operand}{tys:List TypeId}{K K':AV->ae->Nat->Prop}(hq:m9 P env h n args tys K)(hk:∀v h' n',K v h' n'->K' v h' n'):m9 P env h n args tys K':=by
 unfold m9 at *;split at hq
 .split at hq
  .split at hq
   .split at hq
    .split at hq
     .exact⟨hq.1,hk _ _ _ hq.2⟩
     .exact hq.elim
    .rename_i own k cells e;generalize hb:(own&&decide (k=0)&&cells.isEmpty)=bb at hq ⊢;cases bb
     .simp only[cond_false] at hq ⊢;split at hq
      .exact⟨hq.1,hk _ _ _ hq.2⟩
      .exact hq.elim
     .exact⟨hq.1,hk _ _ _ hq.2⟩
    .exact hq.elim
   .exact hq.elim
  .exact hq.elim
 trivial
theorem N9{src dst:TypeId}{x:Operand}{K K':AV->ae->Nat->Prop}(hq:pK P env h n src dst x K)(hk:∀v h' n',K v h' n'->K' v h' n'):pK P env h n src dst x K':=by
 unfold pK at *;split at hq
 .simp_all
 .exact AO hq λv E hK=>hk _ _ _ hK
omit [ak] in
theorem Oa{t:TypeId}{x k v:Operand}{K K':AV->ae->Nat->Prop}(hq:nh P env h n t x k v K)(hk:∀v h' n',K v h' n'->K' v h' n'):nh P env h n t x k v K':=by
 unfold nh at *
 grind
omit [ak] in
theorem Ob{args:List Operand}{tys:List TypeId}{K K':AV->ae->Nat->Prop}(hq:ng P env h n args tys K)(hk:∀v h' n',K v h' n'->K' v h' n'):ng P env h n args tys K':=by
 unfold ng at *
 grind
theorem Oc{op:Op}{K K':AV->ae->Nat->Prop}(hq:bn P env h n op K)(hk:∀v h' n',K v h' n'->K' v h' n'):bn P env h n op K':=by
 unfold bn at *;split
 .exact N7 hq hk
 .exact N8 hq hk
 .exact Ob hq hk
 .exact N9 hq hk
 .exact⟨hq.1,hk _ _ _ hq.2⟩
 .exact Oa hq hk
 .rename_i h1 h2 h3 h4 h5 h6;split at hq
  .simp_all
  .simp_all
  .simp_all
  .simp_all
  .simp_all
  .grind
  .exact AO hq λv E hK=>hk _ _ _ hK
section
variable{op:Op}{b:Bool}{v:AV}
theorem dG{K:AV->List (List AV)->Prop}{mk:Mark K}(hx:b=true->bj P env h n op λv' E=>EqV v' E v)(hk:K (gdV b v) []):gQ (some b) P env h n op K mk:=by
 refine⟨λhb=>?_,λhb=>?_⟩
 .refine AO (hx hb) ?_
  rintro v' E ⟨rfl,rfl⟩
  rw[hb,FE] at hk;exact hk
 .rw[hb,Nd] at hk;exact hk
theorem dH{K:AV->ae->Nat->Prop}{mk:Mark K}(hx:b=true->bn P env h n op λv' h' n'=>EqE v' h' n' v h n)(hk:K (gdV b v) h n):gE (some b) P env h n op K mk:=by
 refine⟨λhb=>?_,λhb=>?_⟩
 .refine Oc (hx hb) ?_
  rintro v' h' n' ⟨rfl,rfl,rfl⟩
  rw[hb,FE] at hk;exact hk
 simp_all
end
end
theorem ar{P:Program}{g:FuncId}{args c8:List PV}{K:PV->Bool->Prop}{K2:List (List AV)->AV->Prop}{res:PV}{fr:Bool}{mk:Mark (K,K2)}(h:aB P g args res fr)(e:c8=args)(hk:K res fr):CW P g c8 K K2 mk:=.inl ⟨res,fr,e▸h,hk⟩
section
variable{P:Program}{K:Exit->St->Prop}
@[simp ↓]theorem Yi(b:Code)(s:St):wY fk P b K .normal s=eX fk P b s K:=rfl
@[simp ↓]theorem Yj(b:Code)(s:St):wY fk P b K .ret s=K .ret s:=rfl
@[simp ↓]theorem Yk(b:Code)(id:Nat)(s:St):wY fk P b K (.exit id) s=K (.exit id) s:=rfl
@[congr] theorem Yl{c:Code}{st st':St}(h:st=st'):eX fk P c st K=eX fk P c st' K:=by rw[h]
def wZ(P:Program)(ri:RI)(avs:List AV)(h:ae)(n:Nat)(K:ae->Nat->Prop)(_:Mark (ri,K)):Prop:=Round P ri avs h n K
@[congr] theorem Ym{ri:RI}{avs d':List AV}{h h':ae}{n n':Nat}{K:ae->Nat->Prop}{mk:Mark (ri,K)}(e1:avs=d')(e2:h=h')(e3:n=n'):wZ P ri avs h n K mk=wZ P ri d' h' n' K mk:=by rw[e1,e2,e3]
theorem AP{ri:RI}{avs:List AV}{h:ae}{n:Nat}{K:ae->Nat->Prop}{mk:Mark (ri,K)}(h1:avs.length=ri.ps.size)(h2:∀t∈ri.ps,t<ri.nt)(hk:aS ⟨n,none⟩ P ri.assign ⟨mD ri.env ri.ps.toList avs,h,n,ri.nt⟩ (tR P n ri.body K)):wZ P ri avs h n K mk:=⟨h1,h2,hk⟩
@[simp ↓]theorem Yn(k:Nat)(body:Code)(K:ae->Nat->Prop)(s:St):tR P k body K .normal s=aS ⟨k,none⟩ P body s (rD k K):=rfl
theorem Gg{k:Nat}{K:ae->Nat->Prop}{s:St}(h':ae)(n':Nat)(aq:Nat)(hle:Lek ⟨k,none⟩ s ⟨[],h',n',aq⟩)(hk:K h' n'):rD k K .normal s:=⟨h',n',aq,hle,hk⟩
@[congr] theorem Yo{k:Nat}{K:ae->Nat->Prop}{e e':Exit}{s s':St}(h1:e=e')(h2:s=s'):rD k K e s=rD k K e' s':=by rw[h1,h2]
@[congr] theorem Yp{k:Nat}{body:Code}{K:ae->Nat->Prop}{e e':Exit}{s s':St}(h1:e=e')(h2:s=s'):tR P k body K e s=tR P k body K e' s':=by rw[h1,h2]
section
variable{ri:RI}{ops:Array Oper}{nt:Nat}{e:Env}{h:ae}{n:Nat}{dst:Option Tmp}{op:Op}{ty:TypeId}{pos:String}{after:Array Edge}{j:Nat}{want:Bool}{Kr:Env->ae->Nat->Prop}
def yM(P:Program)(ri:RI)(nt:Nat)(e:Env)(h:ae)(n:Nat)(o:Oper)(K:Env->ae->Nat->Prop)(_:Mark K):Prop:=YW P ri nt e h n o K
@[congr] theorem Yq{e e':Env}{h h':ae}{n n':Nat}{o:Oper}{K:Env->ae->Nat->Prop}{mk:Mark K}(e1:e=e')(e2:h=h')(e3:n=n'):yM P ri nt e h n o K mk=yM P ri nt e' h' n' o K mk:=by rw[e1,e2,e3]
def gY(P:Program)(ri:RI)(ops:Array Oper)(nt:Nat)(e:Env)(h:ae)(n:Nat)(o:Oper)(K:Env->ae->Nat->Prop)(_:Mark K):Prop:=gYW P ri ops nt e h n o K
@[congr] theorem Yr{e e':Env}{h h':ae}{n n':Nat}{o:Oper}{K:Env->ae->Nat->Prop}{mk:Mark K}(e1:e=e')(e2:h=h')(e3:n=n'):gY P ri ops nt e h n o K mk=gY P ri ops nt e' h' n' o K mk:=by rw[e1,e2,e3]
def gYm(g:Option Bool)(P:Program)(ri:RI)(nt:Nat)(e:Env)(h:ae)(n:Nat)(o:Oper)(K:Env->ae->Nat->Prop)(_:Mark K):Prop:=gW g (YW P ri nt e h n o K) (K (put e o.dst (.tup [])) h n)
@[congr] theorem Ys{g g':Option Bool}{e:Env}{h:ae}{n:Nat}{o:Oper}{K:Env->ae->Nat->Prop}{mk:Mark K}(e0:g=g'):gYm g P ri nt e h n o K mk=gYm g' P ri nt e h n o K mk:=by rw[e0]
@[simp]theorem Yt{o:Oper}{mk:Mark Kr}:gYm (some true) P ri nt e h n o Kr mk=YW P ri nt e h n o Kr:=by unfold gYm;exact As _ _
@[simp]theorem Yu{o:Oper}{mk:Mark Kr}:gYm (some false) P ri nt e h n o Kr mk=Kr (put e o.dst (.tup [])) h n:=by unfold gYm;exact At _ _
@[simp ↓]theorem Yv{mk:Mark Kr}:gY P ri ops nt e h n ⟨dst,op,ty,pos,after,some (j,want)⟩ Kr mk=(dOk nt dst/\gYm (gOf ops e j want) P ri nt e h n ⟨dst,op,ty,pos,after,some (j,want)⟩ Kr .it):=by
 unfold gY gYW;rw[Ax]
 cases gOf ops e j want<;>simp[gYm,gW]
@[simp ↓]theorem Yw{f:Operand}{args:Array Operand}{tys:Array TypeId}{g:Option (Nat×Bool)}:YW P ri nt e h n ⟨dst,.call ⟨.value f,args,tys⟩,ty,pos,after,g⟩ Kr=(dOk nt dst/\(∃ow fl,ev e f=.w ow fl (.yl ri.l))/\wZ P ri (args.toList.map (ev e)) h n (λh' n'=>Kr (put e dst (.w false false (.bool true))) h' n') .it):=rfl
end
theorem wq{k:Nat}{ri:RI}{id:Nat}{ops:Array Oper}{env:Env}{h:ae}{n nt:Nat}(i:Nat)(hi:i<ops.toList.length)(hk:bD P ops nt (ops.toList.take i) env h n λe' h' n'=>gY P ri ops nt e' h' n' (ops.toList.getD i default) (λa6 aa ag=>bD P ops nt (ops.toList.drop (i+1)) a6 aa ag λe3 h3 n3=>K .normal ⟨e3,h3,n3,nt⟩) .it):aS ⟨k,some ri⟩ P (.region id ops false) ⟨env,h,n,nt⟩ K:=by
 refine NB (ops.toList.take i) (ops.toList.getD i default) (ops.toList.drop (i+1)) ?_ hk
 have e:ops.toList.getD i default=ops.toList[i]:=by grind
 rw[e,Cs,xD]
end
section
variable{P:Program}{K:Exit->St->Prop}
def HZ(fk:Fk)(P:Program)(ops:Array Oper)(nt:Nat)(os:List Oper)(e:Env)(h:ae)(n:Nat)(K:Env->ae->Nat->Prop)(_:Mark (os,K)):Prop:=
 ∃e2 h2 n2,Lek fk ⟨e,h,n,nt⟩ ⟨e2,h2,n2,nt⟩/\bD P ops nt os e2 h2 n2 K
@[congr] theorem Yx{ops:Array Oper}{nt:Nat}{os:List Oper}{e e':Env}{h h':ae}{n n':Nat}{K:Env->ae->Nat->Prop}{mk:Mark (os,K)}(h1:e=e')(h2:h=h')(h3:n=n'):HZ fk P ops nt os e h n K mk=HZ fk P ops nt os e' h' n' K mk:=by rw[h1,h2,h3]
end
section
variable{P:Program}{K:Exit->St->Prop}
def w9(P:Program)(ops:Array Oper)(nt:Nat)(o:Oper)(post:List Oper)(g:FuncId)(fn:Func)(c:Code)(args:Array Operand)(e:Env)(h:ae)(n:Nat)(K:Env->ae->Nat->Prop)(_:Mark (o,post,c,K)):Prop:=
 ∃aF,fp (ev e (.func g))=some (g,aF)/\(args.toList.map (ev e)++aF).length<=fn.ntmps/\IW P nt e h n o g aF fn c (args.toList.map (ev e)) λa6 aa ag=>bD P ops nt post a6 aa ag K
@[congr] theorem Yy{ops:Array Oper}{nt:Nat}{o:Oper}{post:List Oper}{g:FuncId}{fn:Func}{c:Code}{args:Array Operand}{e e':Env}{h h':ae}{n n':Nat}{K:Env->ae->Nat->Prop}{mk:Mark (o,post,c,K)}(h1:e=e')(h2:h=h')(h3:n=n'):w9 P ops nt o post g fn c args e h n K mk=w9 P ops nt o post g fn c args e' h' n' K mk:=by rw[h1,h2,h3]
theorem AQ{ops:Array Oper}{nt:Nat}{o:Oper}{post:List Oper}{g:FuncId}{fn:Func}{c:Code}{args:Array Operand}{e:Env}{h:ae}{n:Nat}{K:Env->ae->Nat->Prop}{mk:Mark (o,post,c,K)}(hl:args.toList.length<=fn.ntmps)(hd:dOk nt o.dst)(hg:o.guard=none)(hk:aS ⟨n,none⟩ P c ⟨fq 0 (args.toList.map (ev e)),h,n,fn.ntmps⟩ (gF P fn.results.toList λv h' n'=>bD P ops nt post (put e o.dst v) h' n' K)):w9 P ops nt o post g fn c args e h n K mk:=
 ⟨[],rfl,by rw[xp,hZ];exact hl,hd,hg,by rw[xp];exact hk⟩
theorem qK{id:Nat}{ops:Array Oper}{env:Env}{h:ae}{n nt:Nat}(i:Nat){g:FuncId}{fn:Func}{c:Code}(av:P.funcs[g]?=some fn) (h9:(fn.name == "runtime.NumGoroutine")=false) (hb:fn.body=some c) (hi:i<ops.toList.length) {args:Array Operand} {tys:Array TypeId} (ho:(ops.toList.getD i default).op=.call { callee:=.value (.func g),args:=args,argTypes:=tys }) (hk:bD P ops nt (ops.toList.take i) env h n λe' h' n'=>w9 P ops nt (ops.toList.getD i default) (ops.toList.drop (i+1)) g fn c args e' h' n' (λe3 h3 n3=>K .normal ⟨e3,h3,n3,nt⟩) .it):aS fk P (.region id ops false) ⟨env,h,n,nt⟩ K:=by
 refine NC (ops.toList.take i) (ops.toList.getD i default) (ops.toList.drop (i+1)) ?_ ho av h9 hb hk
 have e:ops.toList.getD i default=ops.toList[i]:=by grind
 rw[e,Cs,xD]
end
def R3(P:Program)(f:FuncId)(args:List AV)(h:ae)(n:Nat)(id:Nat)(c:List AV)(v:AV):Prop:=
 Bf P f/\∀(B:Base)(m:Mm)(w:World)(vs:Array Value),B.n<=w.heap.size->aY B h m w->(∀i c,(i,c)∈h->m.dom i)->args.length=vs.size->(∀(j:Nat)(p:AV)(u:Value),args[j]?=some p->vs[j]?=some u->al B (LB m h) m w p u) ->
  jw P f vs w λe w'=>∃u m',e=.returned u/\EPost B h m w n (bu h id c) n v u w' m'
section
variable{P:Program}{B:Base}{env:Env}{h:ae}{n nt:Nat}{a:Act}{w:World}{m:Mm}
def H0(P:Program)(ops:Array Oper)(nt:Nat)(o:Oper)(post:List Oper)(g:FuncId)(args:Array Operand)(e:Env)(h:ae)(n:Nat)(K:Env->ae->Nat->Prop)(_:Mark (o,post,K)):Prop:=
 dOk nt o.dst/\o.guard=none/\∃id c v,R3 P g (args.toList.map (ev e)) h n id c v/\bD P ops nt post (put e o.dst v) (bu h id c) n K
omit [ak] in
@[congr] theorem YS[ak]{ops:Array Oper}{nt:Nat}{o:Oper}{post:List Oper}{g:FuncId}{args:Array Operand}{e e':Env}{h h':ae}{n n':Nat}{K:Env->ae->Nat->Prop}{mk:Mark (o,post,K)}(h1:e=e')(h2:h=h')(h3:n=n'):H0 P ops nt o post g args e h n K mk=H0 P ops nt o post g args e' h' n' K mk:=by rw[h1,h2,h3]
end
section
variable{P:Program}{K:Exit->St->Prop}
def IWY(r:Option RI)(P:Program)(nt:Nat)(e:Env)(h:ae)(n:Nat)(o:Oper)(g:FuncId)(aF:List AV)(fn:Func)(c:Code)(args:List AV)(K:Env->ae->Nat->Prop):Prop:=
 dOk nt o.dst/\o.guard=none/\aS ⟨n,r⟩ P c ⟨fq 0 (args++aF),h,n,fn.ntmps⟩ (gF P fn.results.toList λv h' n'=>K (put e o.dst v) h' n')
def H2(r:Option RI)(P:Program)(ops:Array Oper)(nt:Nat)(o:Oper)(post:List Oper)(f:Operand)(g:FuncId)(fn:Func)(c:Code)(args:Array Operand)(e:Env)(h:ae)(n:Nat)(K:Env->ae->Nat->Prop)(_:Mark (o,post,c,K)):Prop:=
 ∃aF,fp (ev e f)=some (g,aF)/\(args.toList.map (ev e)++aF).length<=fn.ntmps/\IWY r P nt e h n o g aF fn c (args.toList.map (ev e)) λa6 aa ag=>bD P ops nt post a6 aa ag K
@[congr] theorem YT{r:Option RI}{ops:Array Oper}{nt:Nat}{o:Oper}{post:List Oper}{f:Operand}{g:FuncId}{fn:Func}{c:Code}{args:Array Operand}{e e':Env}{h h':ae}{n n':Nat}{K:Env->ae->Nat->Prop}{mk:Mark (o,post,c,K)}(h1:e=e')(h2:h=h')(h3:n=n'):H2 r P ops nt o post f g fn c args e h n K mk=H2 r P ops nt o post f g fn c args e' h' n' K mk:=by rw[h1,h2,h3]
end
section
variable{P:Program}{env:Env}{h:ae}{n nt:Nat}
end
section
variable{P:Program}{env:Env}{h:ae}{n nt:Nat}
def xd(r:Option RI)(P:Program)(ops:Array Oper)(nt:Nat)(o:Oper)(post:List Oper)(f:Operand)(g:FuncId)(fn:Func)(c:Code)(args:Array Operand)(e:Env)(h:ae)(n:Nat)(K:Env->ae->Nat->Prop)(_:Mark (o,post,c,K)):Prop:=
 ∃aF,fp (ev e f)=some (g,aF)/\(args.toList.map (ev e)++aF).length<=fn.ntmps/\dOk nt o.dst/\fE ops e o=some true/\aS ⟨n,r⟩ P c ⟨fq 0 (args.toList.map (ev e)++aF),h,n,fn.ntmps⟩ (gF P fn.results.toList λv h' n'=>bD P ops nt post (put e o.dst v) h' n' K)
@[congr] theorem YU{r:Option RI}{ops:Array Oper}{nt:Nat}{o:Oper}{post:List Oper}{f:Operand}{g:FuncId}{fn:Func}{c:Code}{args:Array Operand}{e e':Env}{h h':ae}{n n':Nat}{K:Env->ae->Nat->Prop}{mk:Mark (o,post,c,K)}(h1:e=e')(h2:h=h')(h3:n=n'):xd r P ops nt o post f g fn c args e h n K mk=xd r P ops nt o post f g fn c args e' h' n' K mk:=by rw[h1,h2,h3]
theorem Gk{r:Option RI}{ops:Array Oper}{nt:Nat}{o:Oper}{post:List Oper}{f:Operand}{g:FuncId}{fn:Func}{c:Code}{args:Array Operand}{e:Env}{h:ae}{n:Nat}{K:Env->ae->Nat->Prop}{mk:Mark (o,post,c,K)}(aF:List AV)(hf:fp (ev e f)=some (g,aF))(hl:args.toList.length+aF.length<=fn.ntmps)(hd:dOk nt o.dst)(hg:fE ops e o=some true)(hk:aS ⟨n,r⟩ P c ⟨fq 0 (args.toList.map (ev e)++aF),h,n,fn.ntmps⟩ (gF P fn.results.toList λv h' n'=>bD P ops nt post (put e o.dst v) h' n' K)):xd r P ops nt o post f g fn c args e h n K mk:=
 ⟨aF,hf,by rw[r5,hZ];exact hl,hd,hg,hk⟩
theorem Gl{K:Exit->St->Prop}{id:Nat}{ops:Array Oper}(k:Nat)(g:FuncId)(hm:P.follows .mixedOrders=true)(cp:tA ops k=true)(ct:k<ops.size){fn:Func}{c:Code}(av:P.funcs[g]?=some fn) (h9:(fn.name == "runtime.NumGoroutine")=false) (hb:fn.body=some c) {f:Operand} {args:Array Operand} {tys:Array TypeId} (ho:(ops.toList.getD k default).op=.call { callee:=.value f,args:=args,argTypes:=tys }) (hk:fF P ops nt (ops.toList.take k) env h n λe' h' n'=>xd fk.ri P ops nt (ops.toList.getD k default) (ops.toList.drop (k+1)) f g fn c args e' h' n' (λe3 h3 n3=>K .normal ⟨e3,h3,n3,nt⟩) .it):aS fk P (.region id ops true) ⟨env,h,n,nt⟩ K:=by
 obtain⟨hc,bl⟩:=yJ cp;refine DG k hm hc hk (λB w0 e' h' n' hK f' listed a w m dr ay hl en hs=>?_);obtain⟨aF,hf,b4,af,c6,hw⟩:=hK
 cases f' with
 |zero=>
  exfalso;have:=pb (xu.1 en) (i:=k) (by omega);have:=(hl k ct).1 this;omega
 |succ f'=>
  have b6:=qv dr hc.down k ct (by
   grind)
  refine⟨λcx=>absurd cx b6,λx f8=>?_⟩;obtain⟨o,bo,d6,he⟩:=mQ dr f8;have dx:=(a8.1 bo).1
  have fh:x=k:=by
   have h1:¬x<k:=λfd=>by
    have:=(hl x dx).2 fd;rw[bQ,d6] at this;cases this
   rcases dN k x with h2|h2
   .have:=lP ay 8 x k o bo he (bl x (by omega) dx k h2);have:=(hl k ct).1 this;omega
   .omega
  subst fh
  have em:ops.toList.getD x default=o:=by
   rw[da,iQ,bo];rfl
  rw[em] at ho c6 af hw;unfold jR;rw[bo];simp only[];intro w e1;replace hs:=hs.move e1;rw[o8 c6 hs];simp only[aJ];refine jk (λc e=>by rw[ho] at e;cases e) (F2 o f args tys ho hf av h9 hb b4 fk.ri (λ_ h=>h) hw hs af _ _ (λv h' n' a' w' m' dg h8=>?_));refine uU (Kr:=λa6 aa ag=>K .normal ⟨a6,aa,ag,nt⟩) (λe' h' n' a' w' m' au a5=>⟨_,m',au,a5⟩) hc.down bl f' (x+1) (listed.setIfInBounds x true) _ _ _ a' w' m' (by omega) (by omega) (by grind) (ay.set bo he) (λj hj=>?_) (by have:=o9 d6;omega) dg h8;by_cases fb:x=j
  .simp_all
  .rw[getD_set_ne false fb,hl j hj];omega
end
end Go.Fi
namespace Go.Fi
open Go Go.RowKit
variable[ak]
section
variable{k:Nat}{ri:RI}{P:Program}{K Kd K' gm:Exit->St->Prop}{st st':St}
def rJ(k:Nat)(ri:RI)(P:Program)(b:Code)(K Kd:Exit->St->Prop):Exit->St->Prop
 |.normal,s=>eu k ri P b s K Kd
 |e,s=>K e s
def rK(k:Nat)(P:Program)(b:Code)(Kd:Exit->St->Prop):Exit->St->Prop
 |.normal,s=>aS ⟨k,none⟩ P b s Kd
 |e,s=>Kd e s
@[simp ↓]theorem Y3(b:Code)(s:St):rJ k ri P b K Kd .normal s=eu k ri P b s K Kd:=rfl
@[simp ↓]theorem Y4(b:Code)(s:St):rJ k ri P b K Kd .ret s=K .ret s:=rfl
@[simp ↓]theorem Y5(b:Code)(i:Nat)(s:St):rJ k ri P b K Kd (.exit i) s=K (.exit i) s:=rfl
@[simp ↓]theorem Y6(b:Code)(s:St):rK k P b Kd .normal s=aS ⟨k,none⟩ P b s Kd:=rfl
@[simp ↓]theorem Y7(b:Code)(s:St):rK k P b Kd .ret s=Kd .ret s:=rfl
@[simp ↓]theorem Y8(b:Code)(i:Nat)(s:St):rK k P b Kd (.exit i) s=Kd (.exit i) s:=rfl
@[congr] theorem Y9{c:Code}(h:st=st'):eu k ri P c st K Kd=eu k ri P c st' K Kd:=by rw[h]
@[congr] theorem Za{b:Code}{e e':Exit}(h1:e=e')(h2:st=st'):rJ k ri P b K Kd e st=rJ k ri P b K Kd e' st':=by rw[h1,h2]
@[congr] theorem Zb{b:Code}{e e':Exit}(h1:e=e')(h2:st=st'):rK k P b Kd e st=rK k P b Kd e' st':=by rw[h1,h2]
theorem Oz{x y:Code}(h:eu k ri P x st (rJ k ri P y K Kd) (rK k P y Kd)):eu k ri P (.seq x y) st K Kd:=
 λB w0 a w m hs=>xT (dK (h B w0 a w m hs) (λe a' w' hx=>by
  rcases hx with ⟨st',m',h1,h2⟩|⟨w1,hl,st',m',h1,h2⟩
  .cases e with
   |normal=>exact h1 B w0 a' w' m' h2
   |_=>exact .inl ⟨st',m',h1,h2⟩
  .cases e with
   |normal=>
    have:=h1 B w1 a' w' m' h2;rw[hl.2.2.1] at this;exact dK this (λe a2 w2 ⟨s2,m2,g1,g2⟩=>.inr ⟨w1,hl,s2,m2,g1,g2⟩)
   |_=>exact .inr ⟨w1,hl,st',m',h1,h2⟩))
theorem OA{id:Nat}{c:Code}(h:eu k ri P c st (gS id K) (gS id Kd)):eu k ri P (.block id c) st K Kd:=
 λB w0 a w m hs=>xU (dK (h B w0 a w m hs) (λe a' w' hx=>by
  rcases hx with ⟨st',m',h1,h2⟩|⟨w1,hl,st',m',h1,h2⟩
  .cases e with
   |exit ft=>
    simp only[Exit.inBlock];simp only[gS] at h1
    grind
   |_=>exact .inl ⟨st',m',h1,h2⟩
  .cases e with
   |exit ft=>
    simp only[Exit.inBlock];simp only[gS] at h1
    grind
   |_=>exact .inr ⟨w1,hl,st',m',h1,h2⟩))
def qg(Kd:Exit->St->Prop):Exit->St->Prop
 |.normal,_=>False
 |e,s=>Kd e s
section
omit [ak]
@[simp ↓]theorem Zc(s:St):qg Kd .ret s=Kd .ret s:=rfl
@[simp ↓]theorem Zd(i:Nat)(s:St):qg Kd (.exit i) s=Kd (.exit i) s:=rfl
@[congr] theorem Ze{e e':Exit}(h1:e=e')(h2:st=st'):qg Kd e st=qg Kd e' st':=by rw[h1,h2]
end
theorem OB{c:Code}{α:Type}(J:α->Prop)(I:α->St)(μ:α->Nat)(x0:α)(hJ:J x0)(h0:Lek ⟨k,some ri⟩ st (I x0))(round:∀x,J x->eu k ri P c (I x) (jX ⟨k,some ri⟩ J I μ x K) (qg Kd)):eu k ri P (.loop c) st K Kd:=by
 intro B w0 a w m hs;refine xV (λk a w=>∃x m,J x/\μ x=k/\Sim B w0 (I x) a w m) (μ x0) (by obtain⟨m',h⟩:=h0 B w0 a w m hs;grind) ?_
 rintro j a w ⟨x,m,hx,rfl,ex⟩
 refine dK (round x hx B w0 a w m ex) (λe a' w' hq=>?_)
 rcases hq with ⟨st',m',h2,h3⟩|⟨w1,hl,st',m',h2,h3⟩
 .cases e with
  |normal=>
   obtain⟨y,hy,ax,hle⟩:=h2;obtain⟨c2,h4⟩:=hle B w0 a' w' m' h3;exact⟨μ y,ax,y,c2,hy,rfl,h4⟩
  |_=>exact .inl ⟨st',m',h2,h3⟩
 .cases e with
  |normal=>exact h2.elim
  |_=>exact .inr ⟨w1,hl,st',m',h2,h3⟩
def YW2(P:Program)(ri:RI)(nt:Nat)(o:Oper)(f:Operand)(args:Array Operand)(e:Env)(h:ae)(n:Nat)(K Kl:Env->ae->Nat->Prop)(_:Mark (K,Kl)):Prop:=
 (∃ow fl,ev e f=.w ow fl (.yl ri.l))/\HW P ri (args.toList.map (ev e)) h n (λh' n'=>K (put e o.dst (.w false false (.bool true))) h' n') (λh' n'=>Kl (put e o.dst (.w false false (.bool false))) h' n')
@[congr] theorem Zf{nt:Nat}{o:Oper}{f:Operand}{args:Array Operand}{e e':Env}{h h':ae}{n n':Nat}{K Kl:Env->ae->Nat->Prop}{mk:Mark (K,Kl)}(h1:e=e')(h2:h=h')(h3:n=n'):YW2 P ri nt o f args e h n K Kl mk=YW2 P ri nt o f args e' h' n' K Kl mk:=by rw[h1,h2,h3]
theorem OC{nt:Nat}{o:Oper}{f:Operand}{args:Array Operand}{e:Env}{h:ae}{n:Nat}{K Kl:Env->ae->Nat->Prop}{mk:Mark (K,Kl)}(ow fl:Bool)(h1:ev e f=.w ow fl (.yl ri.l))(hl:args.toList.length=ri.ps.size)(ax:∀t∈ri.ps,t<ri.nt)(hk:aS ⟨n,none⟩ P ri.assign ⟨mD ri.env ri.ps.toList (args.toList.map (ev e)),h,n,ri.nt⟩ (tT P n ri.body (λh' n'=>K (put e o.dst (.w false false (.bool true))) h' n') (λh' n'=>Kl (put e o.dst (.w false false (.bool false))) h' n'))):YW2 P ri nt o f args e h n K Kl mk:=
 ⟨⟨ow,fl,h1⟩,by rw[hZ];exact hl,ax,hk⟩
theorem OE{id:Nat}{ops:Array Oper}{env:Env}{h:ae}{n nt:Nat}(i:Nat)(hi:i<ops.toList.length){f:Operand}{args:Array Operand}{tys:Array TypeId}(ho:(ops.toList.getD i default).op=.call { callee:=.value f,args:=args,argTypes:=tys })(hg:(ops.toList.getD i default).guard=none)(hd:dOk nt (ops.toList.getD i default).dst)(hk:bD P ops nt (ops.toList.take i) env h n λe' h' n'=>YW2 P ri nt (ops.toList.getD i default) f args e' h' n' (λa6 aa ag=>bD P ops nt (ops.toList.drop (i+1)) a6 aa ag λe3 h3 n3=>K .normal ⟨e3,h3,n3,nt⟩) (λa6 aa ag=>bD P ops nt (ops.toList.drop (i+1)) a6 aa ag λe3 h3 n3=>Kd .normal ⟨e3,h3,n3,nt⟩) .it):eu k ri P (.region id ops false) ⟨env,h,n,nt⟩ K Kd:=by
 have e:ops.toList.getD i default=ops.toList[i]:=by grind
 have bc:ops.toList=ops.toList.take i++ops.toList.getD i default::ops.toList.drop (i+1):=by rw[e,Cs,xD]
 generalize ops.toList.getD i default=o at *;generalize ops.toList.take i=pre at *;generalize ops.toList.drop (i+1)=post at *;intro B w0 a w m hs;refine qu ?_;rw[bc];refine qH (o::post) ?_ pre env h n a w m hk hs
 rintro e h n a w m ⟨⟨ow,fl,hf⟩,hr⟩ hs
 simp only[gN,Region.wanted,hg,aJ];intro w e1;replace hs:=hs.move e1;refine F4 o f args tys ho hf hr hs hd _ _ (λh' n' a' w' m' aw h8=>?_) (λw1 h' n' a' w' m' hl aw h8=>?_)
 .exact mP (λ_ _ _ _ _ m au h8=>.inl ⟨_,m,au,h8⟩) post _ _ _ _ _ m' aw h8
 .have:=mP (Q:=λe a' w'=>(∃st' m',K e st'/\Sim B w0 st' a' w' m')\/∃w1:Ctx ⟨k,none⟩,qb w0 w1/\∃st' m',Kd e st'/\Sim B w1 st' a' w' m') (w0:=w1) (P:=P) (ops:=ops) (λ_ _ _ _ _ m au h8=>.inr ⟨w1,hl,_,m,au,h8⟩) post _ _ _ _ _ m' aw h8;rw[hl.2.2.1] at this;exact this
end
section
variable{k:Nat}{ri:RI}{B:Base}{m:Mm}{w:World}{h:ae}{n:Nat}{env:Env}{a:Act}{P:Program}
theorem GB{w0:Ctx ⟨k,some ri⟩}{nt:Nat}(o:Oper)(f:Operand)(args:Array Operand)(tys:Array TypeId)(ho:o.op=.call { callee:=.value f,args:=args,argTypes:=tys }){g:FuncId}{aF:List AV}(hf:fp (ev env f)=some (g,aF)){fn:Func}{c:Code}(av:P.funcs[g]?=some fn) (h9:(fn.name == "runtime.NumGoroutine")=false) (hb:fn.body=some c) (b4:(args.toList.map (ev env)++aF).length<=fn.ntmps) {Kv Kl:AV->ae->Nat->Prop} (hw:eu n ri P c ⟨fq 0 (args.toList.map (ev env)++aF),h,n,fn.ntmps⟩ (gF P fn.results.toList Kv) (gF P fn.results.toList Kl)) (hs:Sim B w0 ⟨env,h,n,nt⟩ a w m) (af:dOk nt o.dst) (Q:Exit->Act->World->Prop) (K':Act->World->Prop) (hK:∀v h' n' a' w' m',Kv v h' n'->Sim B w0 ⟨put env o.dst v,h',n',nt⟩ a' w' m'->K' a' w') (hKl:∀(w1:Ctx ⟨k,none⟩) v h' n' a' w' m',qb w0 w1->Kl v h' n'->Sim B w1 ⟨put env o.dst v,h',n',nt⟩ a' w' m'->K' a' w'):o.wpt P a w K' Q:=by
 refine F0 o f args tys ho hf av h9 hb b4 (some ri) (λ_ h=>h) Q K' (λw1 a1 e1 e2 e3 e4 e5 bf=>dK (e3▸hw B w1 a1 w m bf) (λe a' w' hq=>?_)) hs af
 rcases hq with ⟨st',m',hk,h8⟩|⟨wl,hl,st',m',hk,h8⟩
 .have fin:∀e:Exit,(e=.normal\/e=.ret)->fI P fn.results.toList st' Kv->wX P B w0 env a n nt o fn K' e a' w':=λe he hk=>
   ⟨he,_,_,w1,w0,st',m',Kv,rfl,rfl,e1,e2,e5,rfl,rfl,rfl,λq hq=>e4▸hq,h8,hk,hK⟩
  cases e with
  |normal=>simp_all
  |ret=>simp_all
  |_=>exact hk.elim
 .obtain⟨l1,l2,l3,l4,⟨fn2,T2,D2,l5⟩,l6⟩:=hl
  have fin:∀e:Exit,(e=.normal\/e=.ret)->fI P fn.results.toList st' Kl->wX P B w0 env a n nt o fn K' e a' w':=λe he hk=>
   ⟨he,_,_,wl,(⟨w0.w,w0.F,w0.r,(ri.l,bt ri fn2 T2 D2 .done (some .ret))::w0.obs.filter (λq=>decide (q.1≠ri.l)),w0.ds,λri h=>(by cases h),w0.ok⟩:Ctx ⟨k,none⟩),st',m',Kl,rfl,rfl,l1.trans e1,l2.trans e2,l4.trans e5,rfl,rfl,rfl,
     λq hq=>by
      grind,h8,hk,
     (hKl _ · · · · · · ⟨rfl,rfl,rfl,rfl,⟨fn2,T2,D2,by simp⟩,λq hq b6=>dQ _ (qo.2 ⟨hq,by grind⟩)⟩)⟩
  cases e with
  |normal=>simp_all
  |ret=>simp_all
  |_=>exact hk.elim
end
section
variable{k:Nat}{ri:RI}{P:Program}{K Kd:Exit->St->Prop}{st:St}
theorem GC{c:Operand}{x y:Code}{o f b:Bool}(hv:ev st.env c=.w o f (.bool b))(h:eu k ri P (bif b then x else y) st K Kd):eu k ri P (.cond c x y) st K Kd:=by
 intro B w0 a w m hs;have hc:al B (LB m st.heap) m w (ev st.env c) (a.eval c):=lM c (λt _=>hs.env t);rw[hv] at hc;refine uk hc.jy ?_;cases b
 .exact h B w0 a w m hs
 .exact h B w0 a w m hs
variable{env:Env}{h:ae}{n nt:Nat}
def tV(ri:RI)(P:Program)(ops:Array Oper)(nt:Nat)(o:Oper)(post:List Oper)(f:Operand)(g:FuncId)(fn:Func)(c:Code)(args:Array Operand)(e:Env)(h:ae)(n:Nat)(K Kd:Env->ae->Nat->Prop)(_:Mark (o,post,c,K,Kd)):Prop:=
 ∃aF,fp (ev e f)=some (g,aF)/\(args.toList.map (ev e)++aF).length<=fn.ntmps/\dOk nt o.dst/\fE ops e o=some true /\
  eu n ri P c ⟨fq 0 (args.toList.map (ev e)++aF),h,n,fn.ntmps⟩ (gF P fn.results.toList λv h' n'=>bD P ops nt post (put e o.dst v) h' n' K) (gF P fn.results.toList λv h' n'=>bD P ops nt post (put e o.dst v) h' n' Kd)
@[congr] theorem Zg{ops:Array Oper}{nt:Nat}{o:Oper}{post:List Oper}{f:Operand}{g:FuncId}{fn:Func}{c:Code}{args:Array Operand}{e e':Env}{h h':ae}{n n':Nat}{K Kd:Env->ae->Nat->Prop}{mk:Mark (o,post,c,K,Kd)}(h1:e=e')(h2:h=h')(h3:n=n'):tV ri P ops nt o post f g fn c args e h n K Kd mk=tV ri P ops nt o post f g fn c args e' h' n' K Kd mk:=by rw[h1,h2,h3]
theorem OF{ops:Array Oper}{nt:Nat}{o:Oper}{post:List Oper}{f:Operand}{g:FuncId}{fn:Func}{c:Code}{args:Array Operand}{e:Env}{h:ae}{n:Nat}{K Kd:Env->ae->Nat->Prop}{mk:Mark (o,post,c,K,Kd)}(aF:List AV)(hf:fp (ev e f)=some (g,aF))(hl:args.toList.length+aF.length<=fn.ntmps)(hd:dOk nt o.dst)(hg:fE ops e o=some true)(hk:eu n ri P c ⟨fq 0 (args.toList.map (ev e)++aF),h,n,fn.ntmps⟩ (gF P fn.results.toList λv h' n'=>bD P ops nt post (put e o.dst v) h' n' K) (gF P fn.results.toList λv h' n'=>bD P ops nt post (put e o.dst v) h' n' Kd)):tV ri P ops nt o post f g fn c args e h n K Kd mk:=
 ⟨aF,hf,by rw[r5,hZ];exact hl,hd,hg,hk⟩
theorem OG{id:Nat}{ops:Array Oper}(i:Nat)(g:FuncId){fn:Func}{c:Code}(av:P.funcs[g]?=some fn) (h9:(fn.name == "runtime.NumGoroutine")=false) (hb:fn.body=some c) (hi:i<ops.toList.length) {f:Operand} {args:Array Operand} {tys:Array TypeId} (ho:(ops.toList.getD i default).op=.call { callee:=.value f,args:=args,argTypes:=tys }) (hk:bD P ops nt (ops.toList.take i) env h n λe' h' n'=>tV ri P ops nt (ops.toList.getD i default) (ops.toList.drop (i+1)) f g fn c args e' h' n' (λe3 h3 n3=>K .normal ⟨e3,h3,n3,nt⟩) (λe3 h3 n3=>Kd .normal ⟨e3,h3,n3,nt⟩) .it):eu k ri P (.region id ops false) ⟨env,h,n,nt⟩ K Kd:=by
 have e:ops.toList.getD i default=ops.toList[i]:=by grind
 have bc:ops.toList=ops.toList.take i++ops.toList.getD i default::ops.toList.drop (i+1):=by rw[e,Cs,xD]
 generalize ops.toList.getD i default=o at *;generalize ops.toList.take i=pre at *;generalize ops.toList.drop (i+1)=post at *;intro B w0 a w m hs;refine qu ?_;rw[bc];refine qH (o::post) ?_ pre env h n a w m hk hs
 rintro e h n a w m ⟨aF,hf,b4,af,c6,hw⟩ hs
 simp only[gN];intro w e1;replace hs:=hs.move e1;rw[o8 c6 hs];simp only[aJ];refine jk (λc e=>by rw[ho] at e;cases e) (GB o f args tys ho hf av h9 hb b4 hw hs af _ _ (λv h' n' a' w' m' aw h8=>?_) (λw1 v h' n' a' w' m' hl aw h8=>?_))
 .exact mP (λ_ _ _ _ _ m au h8=>.inl ⟨_,m,au,h8⟩) post _ _ _ _ _ m' aw h8
 .have:=mP (Q:=λe a' w'=>(∃st' m',K e st'/\Sim B w0 st' a' w' m')\/∃w1:Ctx ⟨k,none⟩,qb w0 w1/\∃st' m',Kd e st'/\Sim B w1 st' a' w' m') (w0:=w1) (P:=P) (ops:=ops) (λ_ _ _ _ _ m au h8=>.inr ⟨w1,hl,_,m,au,h8⟩) post _ _ _ _ _ m' aw h8;rw[hl.2.2.1] at this;exact this
theorem OH{fk:Fk}{B:Base}{w0:Ctx fk}{a:Act}{w:World}{m:Mm}{Q:Exit->Act->World->Prop}{ops:Array Oper}{e:Env}(k:Nat){id:Nat}{Kp:Env->ae->Nat->Prop}(hm:P.follows .mixedOrders=true)(hc:Chk ops k)(hk:fF P ops nt (ops.toList.take k) e h n Kp)(hs:Sim B w0 ⟨e,h,n,nt⟩ a w m)(dk:∀(e':Env)(h':ae)(n':Nat),Kp e' h' n'->∀(f:Nat)(listed:Array Bool)(a:Act)(w:World)(m:Mm),listed.size=ops.size->Closed ops listed->(∀j,j<ops.size->(listed.getD j false=true↔j<k))->open_ listed<=f->Sim B w0 ⟨e',h',n',nt⟩ a w m->iY w0.r P .any ops Q f listed a w):(Code.region id ops true).wpT w0.r P Q a w:=by
 obtain⟨T,hK⟩:=yE _ _ _ _ hk
 have hlen:(ops.toList.take k).length=k:=by simp[hc.le]
 rw[hlen] at hK
 refine xW hm λw e1=>?_
 replace hs:=hs.move e1
 have h8:Sim B w0 ⟨e,h,n,nt⟩ a { w with drawn:=w.drawn+1 } m:=by
  have hb:Bel w.heap.size w { w with drawn:=w.drawn+1 }:=(Bel.refl _ _).drew;have hB:=hs.room;exact⟨hs.base,hs.below.trans (hb.mono hB),hs.defers,hs.size,λt=>(hs.env t).mono (Mm.le.refl m) (λ_ _ h=>h) (λb co _=>hb.block b co),hs.heap.below hb,hs.dom,hs.ids,hs.fr.mono (Mm.le.refl m) (λ_ _ h=>h) (λb co _=>hb.block b co) (aD _)⟩
 obtain⟨h1,h2,h3⟩:=DD (T:=T) hc.le h8.heap h8.dom h8.ids k (aD _)
 have hf:∀i,(Array.replicate ops.size false).getD i false=false:=by
  intro i;rw[bQ,xw]
  split<;>rfl
 refine DF (T:=T) hc h3 (λf listed a w m=>dk _ _ _ hK f listed a w m) ops.size _ a _ m (by simp) (λi o ho hl=>by rw[hf] at hl;cases hl) ?_ (λi _ _=>hf i) ⟨h8.base,h8.below,h8.defers,h8.size,h1,λid=>?_,(λi t hi hl=>by rw[hf] at hl;cases hl),λt _=>?_,by rw[h2];exact h8.fr⟩
 .unfold open_
  grind
 .rw[h8.dom];simp_all
 .rw[h2];exact h8.env t
theorem OI{id:Nat}{ops:Array Oper}(i:Nat)(g:FuncId)(hm:P.follows .mixedOrders=true)(cp:tA ops i=true)(ct:i<ops.size){fn:Func}{c:Code}(av:P.funcs[g]?=some fn) (h9:(fn.name == "runtime.NumGoroutine")=false) (hb:fn.body=some c) {f:Operand} {args:Array Operand} {tys:Array TypeId} (ho:(ops.toList.getD i default).op=.call { callee:=.value f,args:=args,argTypes:=tys }) (hk:fF P ops nt (ops.toList.take i) env h n λe' h' n'=>tV ri P ops nt (ops.toList.getD i default) (ops.toList.drop (i+1)) f g fn c args e' h' n' (λe3 h3 n3=>K .normal ⟨e3,h3,n3,nt⟩) (λe3 h3 n3=>Kd .normal ⟨e3,h3,n3,nt⟩) .it):eu k ri P (.region id ops true) ⟨env,h,n,nt⟩ K Kd:=by
 obtain⟨hc,bl⟩:=yJ cp;intro B w0 a w m hs;refine OH i hm hc hk hs (λe' h' n' hK f' listed a w m dr ay hl en hs=>?_);obtain⟨aF,hf,b4,af,c6,hw⟩:=hK
 cases f' with
 |zero=>
  exfalso;have:=pb (xu.1 en) (i:=i) (by omega);have:=(hl i ct).1 this;omega
 |succ f'=>
  have b6:=qv dr hc.down i ct (by
   grind)
  refine⟨λcx=>absurd cx b6,λx f8=>?_⟩;obtain⟨o,bo,d6,he⟩:=mQ dr f8;have dx:=(a8.1 bo).1
  have fh:x=i:=by
   have h1:¬x<i:=λfd=>by
    have:=(hl x dx).2 fd;rw[bQ,d6] at this;cases this
   rcases dN i x with h2|h2
   .have:=lP ay 8 x i o bo he (bl x (by omega) dx i h2);have:=(hl i ct).1 this;omega
   .omega
  subst fh
  have em:ops.toList.getD x default=o:=by
   rw[da,iQ,bo];rfl
  rw[em] at ho c6 af hw;unfold jR;rw[bo];simp only[];intro w e1;replace hs:=hs.move e1;rw[o8 c6 hs];simp only[aJ]
  have bu:∀j,j<ops.size->((listed.setIfInBounds x true).getD j false=true↔j<x+1):=λj hj=>by
   by_cases fb:x=j
   .simp_all
   .rw[getD_set_ne false fb,hl j hj];omega
  refine jk (λc e=>by rw[ho] at e;cases e) (GB o f args tys ho hf av h9 hb b4 hw hs af _ _ (λv h' n' a' w' m' dg h8=>?_) (λw1 v h' n' a' w' m' fi dg h8=>?_))
  .exact uU (Kr:=λa6 aa ag=>K .normal ⟨a6,aa,ag,nt⟩) (λe' h' n' a' w' m' au a5=>.inl ⟨_,m',au,a5⟩) hc.down bl f' (x+1) (listed.setIfInBounds x true) _ _ _ a' w' m' (by omega) (by omega) (by grind) (ay.set bo he) bu (by have:=o9 d6;omega) dg h8
  .have:=uU (w0:=w1) (Kr:=λa6 aa ag=>Kd .normal ⟨a6,aa,ag,nt⟩) (Q:=λe a' w'=>(∃st' m',K e st'/\Sim B w0 st' a' w' m')\/∃w1:Ctx ⟨k,none⟩,qb w0 w1/\∃st' m',Kd e st'/\Sim B w1 st' a' w' m') (λe' h' n' a' w' m' au a5=>.inr ⟨w1,fi,_,m',au,a5⟩) hc.down bl f' (x+1) (listed.setIfInBounds x true) _ _ _ a' w' m' (by omega) (by omega) (by grind) (ay.set bo he) bu (by have:=o9 d6;omega) dg h8;rw[fi.2.2.1] at this;exact this
end
section
variable{fk:Fk}{P:Program}{K:Exit->St->Prop}{st:St}
theorem OJ{c:Code}{α:Type}(J:α->Prop)(I:α->St)(μ:α->Nat)(x0:α)(hJ:J x0)(h0:Lek fk st (I x0))(round:∀x,J x->eX fk P c (I x) (jX fk J I μ x K)):eX fk P (.loop c) st K:=by
 intro B w0 a w m hr hd hs;refine xV (λk a w=>∃(w1:Ctx fk)(x:α)(m:Mm),w1.w=w0.w/\w1.r=none/\qd w1/\J x/\μ x=k/\Sim B w1 (I x) a w m) (μ x0) (by obtain⟨m',h⟩:=h0 B w0 a w m hs;grind) ?_
 rintro k a w ⟨w1,x,m,g1,g2,g3,hx,rfl,ex⟩
 refine dK (round x hx B w1 a w m g2 g3 ex) (λe a' w' ⟨w2,st',m',k1,k2,k3,h2,h3⟩=>?_)
 cases e<;>first
  |exact⟨w2,st',m',k1.trans g1,k2,k3,h2,h3⟩
  |(obtain⟨y,hy,ax,hle⟩:=h2
    obtain⟨c2,h4⟩:=hle B w2 a' w' m' h3
    exact⟨μ y,ax,w2,y,c2,k1.trans g1,k2,k3,hy,rfl,h4⟩)
theorem GD{c:Operand}{x y:Code}{o f b:Bool}(hv:ev st.env c=.w o f (.bool b))(h:eX fk P (bif b then x else y) st K):eX fk P (.cond c x y) st K:=by
 intro B w0 a w m hr hd hs;have hc:al B (LB m st.heap) m w (ev st.env c) (a.eval c):=lM c (λt _=>hs.env t);rw[hv] at hc;refine uk hc.jy ?_;cases b
 .exact h B w0 a w m hr hd hs
 .exact h B w0 a w m hr hd hs
end
end Go.Fi
namespace Go.Fi
open Go Go.RowKit
variable[ak]
variable{fk:Fk}
def aggLe(D:List Nat)(h:ae)(n n':Nat)(x y:AV):Prop:=
 match x,y with
 |.agg a,.agg b=>gD D h n n' a b
 |_,_=>False
def qe(P:Program)(rs:List ResultVar)(c0:Nat)(E:List (List AV))(v:AV)(D:List Nat)(st:St):Prop:=
 match iM P st.env st.heap rs with
 |some (vs,c)=>c/\(nI D st.heap st.nxt (c0+E.length) (oneOf vs) (v.sh c0)\/aggLe D st.heap st.nxt (c0+E.length) (oneOf vs) (v.sh c0))/\mA D st.heap st.nxt (c0+E.length) (aX [] c0 (E.map (AV.sh.shL c0)))
 |none=>False
def mkK(P:Program)(rs:List ResultVar)(c0:Nat)(E:List (List AV))(v:AV)(D:List Nat):Exit->St->Prop
 |.normal,s=>qe P rs c0 E v D s
 |.ret,s=>qe P rs c0 E v D s
 |_,_=>False
omit [ak] in
@[simp ↓]theorem Yz(P:Program)(rs:List ResultVar)(c0:Nat)(E:List (List AV))(v:AV)(D:List Nat)(s:St):mkK P rs c0 E v D .normal s=qe P rs c0 E v D s:=rfl
omit [ak] in
@[simp ↓]theorem YA(P:Program)(rs:List ResultVar)(c0:Nat)(E:List (List AV))(v:AV)(D:List Nat)(s:St):mkK P rs c0 E v D .ret s=qe P rs c0 E v D s:=rfl
section
variable{B:Base}{L:Nat->Prop}{m mm:Mm}{w:World}
omit [ak] in
theorem al.down{c:Nat}(hd:∀i,m.dom (i+c)->mm.dom i)(ht:∀i,mm.top i=m.top (i+c))(ha:∀i ver,mm.addr i ver=m.addr (i+c) ver){y:AV}{u:Value}(h:al B L m w y u):∀x:AV,x.sh c=y->al B L mm w x u:=by
 induction h with
 |@w own full p v hr hf=>
  intro x e
  cases x with
  |w o f q=>simp only[RB,AV.w.injEq] at e;obtain⟨rfl,rfl,rfl⟩:=e;exact .w hr hf
  |_=>simp[AV.sh] at e
 |@ptr id ver off b C cf dv e9 fv=>
  intro x e
  cases x with
  |ptr i v o=>simp only[Ng,AV.ptr.injEq] at e;obtain⟨rfl,rfl,rfl⟩:=e;exact .ptr (hd _ cf) (by rw[ht];exact dv) (by rw[ha];exact e9) fv
  |_=>simp[AV.sh] at e
 |@mp id b cf dv e9=>
  intro x e
  cases x with
  |mp i=>simp only[AV.sh,AV.mp.injEq] at e;subst e;exact .mp (hd _ cf) (by rw[ht];exact dv) (by rw[ha];exact e9)
  |_=>simp[AV.sh] at e
 |@msl id ver sz off n cap a cf dv hn h0 h1=>
  intro x e
  cases x with
  |msl i v s o k=>simp only[Nh,AV.msl.injEq] at e;obtain⟨rfl,rfl,rfl,rfl,rfl⟩:=e;exact .msl (hd _ cf) (by rw[ht];exact dv) hn (λe=>h0 (by rw[<-ha];exact e)) (λb C e=>h1 b C (by rw[<-ha];exact e))
  |_=>simp[AV.sh] at e
 |@agg cs vs hl _ ih=>
  intro x e
  cases x with
  |agg ds=>
   simp only[Ni,AV.agg.injEq,gd] at e;subst e;exact .agg (by grind) (λj p v hp hv=>ih j (p.sh c) v (by rw[gH,hp];rfl) hv p rfl)
  |_=>simp[AV.sh] at e
 |@tup cs vs hl _ ih=>
  intro x e
  cases x with
  |tup ds=>
   simp only[Nj,AV.tup.injEq,gd] at e;subst e;exact .tup (by grind) (λj p v hp hv=>ih j (p.sh c) v (by rw[gH,hp];rfl) hv p rfl)
  |_=>simp[AV.sh] at e
 |@fn f cs vs hl _ ih=>
  intro x e
  cases x with
  |fn g ds=>
   simp only[AV.sh,AV.fn.injEq,gd] at e;obtain⟨rfl,rfl⟩:=e;exact .fn (by grind) (λj p v hp hv=>ih j (p.sh c) v (by rw[gH,hp];rfl) hv p rfl)
  |_=>simp[AV.sh] at e
omit [ak] in
theorem Gh(c:Nat):∀(E:List (List AV))(n:Nat),aX [] (n+c) (E.map (AV.sh.shL c))=(aX [] n E).map λp=>(p.1+c,AV.sh.shL c p.2)
 |[],n=>rfl
 |x::E,n=>by
  simp only[nN,aX];rw[show n+c+1=(n+1)+c by omega,Gh c E (n+1)]
end
theorem sY{P:Program}{f:FuncId}{fn:Func}{c:Code}{args:List PV}{E:List (List AV)}{v:AV}(c0:Nat)(D:List Nat)(hf:P.funcs[f]?=some fn) (h9:(fn.name == "runtime.NumGoroutine")=false) (hb:fn.body=some c) (b4:args.length<=fn.ntmps) (hv:v.frs=true) (hE:∀c∈E,AV.frs.jb c=true) (h:aS fk0 P c ⟨iB 0 args,[],0,fn.ntmps⟩ (mkK P fn.results.toList c0 E v D)):jz P f args E v:=by
 refine⟨⟨fn,hf,h9,by rw[hb];rfl⟩,hv,hE,λG w vs el hlen cy=>?_⟩;refine um hf hb ?_
 have a5:Sim ⟨w.heap.size,G⟩ (⟨w,[],none,[],[],λri h=>(by cases h),el⟩:Ctx fk0) ⟨iB 0 args,[],0,fn.ntmps⟩ { tmps:=vs++Array.replicate (fn.ntmps-vs.size) undef,defers:=[] } w ⟨λ_ _=>none,λ_=>0,λ_=>False⟩:=by
  refine⟨rfl,Bel.refl _ _,rfl,by simp;omega,λt=>?_,⟨λid cells hin=>(by cases hin),List.Pairwise.nil⟩,λi=>⟨λh=>h.elim,λh=>absurd h (Iv i)⟩,λid c hin=>(by cases hin),aR _,(λp hp=>by cases hp),λq hq=>by cases hq⟩;show al _ _ _ _ (get (iB 0 args) t) _;rw[vS];split
  .rename_i ht
   have ax:t<args.length:=by omega
   refine .w ?_ nofun
   have:(vs++Array.replicate (fn.ntmps-vs.size) undef).getD t undef=vs[t]'(by omega):=by
    rw[bQ,rZ (by omega),bS (by omega)];rfl
   rw[this]
   refine (cy t _ _ (by simp_all) (bS (by omega))).imp λb hg=>⟨?_,nofun,λ_=>hg⟩
   rintro⟨id,cells,C,hin,_⟩
   cases hin
  .exact .w (.undef _) nofun
 refine dK (h _ _ _ _ _ a5) (λe a' w' ⟨st',m',hk,hs⟩=>?_)
 have main:qe P fn.results.toList c0 E v D st'->a'.defers=[]/\∀w1,EnvD.E w' w1->∃r,(results fn a'.tmps).run P w1=.ok r w1/\∃u mm,Ending.returned r=.returned u/\Bel w.heap.size w w1/\(∀i,mm.dom i↔i<E.length)/\aY ⟨w.heap.size,G⟩ (aX [] 0 E) mm w1/\al ⟨w.heap.size,G⟩ (LB mm (aX [] 0 E)) mm w1 v u:=by
  intro hr;refine⟨hs.defers,λw' e1=>?_⟩;replace hs:=hs.move e1;unfold qe at hr;split at hr
  .rename_i b' d bd;obtain⟨hd,ay,gb⟩:=hr;obtain⟨us,h1,h2,h3⟩:=qD hs _ _ _ bd hd
   have ao:(results fn a'.tmps).run P w'=.ok (if h:us.toArray.size=1 then us.toArray[0] else .tuple us.toArray) w':=by
    have he:results fn a'.tmps=(do
     let vs <-fn.results.mapM (oP a'.tmps)
     pure (if h:vs.size=1 then vs[0] else .tuple vs)):=rfl
    rw[he,rR];simp only[Sem.run_bind,Sem.run_map,h1,Result.andThen_ok,Sem.run_pure]
   have b9:al ⟨w.heap.size,G⟩ (LB m' st'.heap) m' w' (oneOf b') (if h:us.toArray.size=1 then us.toArray[0] else .tuple us.toArray):=by
    have tupc:b'.length≠1->al ⟨w.heap.size,G⟩ (LB m' st'.heap) m' w' (.tup b') (if h:us.toArray.size=1 then us.toArray[0] else .tuple us.toArray):=by
     intro b6;rw[dif_neg (by simp;omega)];exact .tup (by simpa using h2) (λj p u hp hu=>h3 j p u hp (by simpa using hu))
    match b',h2,h3,tupc with
    |[],h2,h3,tupc=>exact tupc (by simp)
    |[v],h2,h3,tupc=>
     obtain⟨u,rfl⟩:∃u,us=[u]:=Cq.1 (by simpa using h2.symm);exact h3 0 v u rfl rfl
    |v::v2::r,h2,h3,tupc=>exact tupc (by simp)
   obtain⟨m2,bk,c9⟩:=FZ (env':=[]) (h':=aX [] c0 (E.map (AV.sh.shL c0))) (n':=c0+E.length) D trivial gb (aR _) hs
   have hu:al ⟨w.heap.size,G⟩ (LB m2 (aX [] c0 (E.map (AV.sh.shL c0)))) m2 w' (v.sh c0) (if h:us.toArray.size=1 then us.toArray[0] else .tuple us.toArray):=by
    clear ao;generalize (if h:us.toArray.size=1 then us.toArray[0] else .tuple us.toArray)=uv at b9 ⊢
    rcases ay with ay|ay
    .exact c9 _ _ _ ay b9
    .unfold aggLe at ay;split at ay
     .rename_i a b ea eb;rw[ea] at b9;rw[eb];obtain⟨hl,hc⟩:=sQ ay
      cases b9 with
      |agg h1 h2=>
       refine .agg (by omega) (λj p u hp hu=>?_);obtain⟨x,hx,gj⟩:=hc j p hp;exact c9 _ _ _ gj (h2 j x u hx hu)
     .exact ay.elim
   have b5:∀i,m2.dom i↔i<c0+E.length:=bk.dom
   have hEq:aX [] c0 (E.map (AV.sh.shL c0))=(aX [] 0 E).map λp=>(p.1+c0,AV.sh.shL c0 p.2):=by
    have:=Gh c0 E 0
    rwa [cY] at this
   refine⟨_,ao,_,⟨λid ver=>m2.addr (id+c0) ver,λid=>m2.top (id+c0),λid=>id<E.length⟩,rfl,hs.below,λi=>Iff.rfl,?_⟩
   have dl:∀k cl,(k,cl)∈aX [] 0 E->(k+c0,AV.sh.shL c0 cl)∈aX [] c0 (E.map (AV.sh.shL c0)):=λk cl hin=>by
    rw[hEq];exact lK.2 ⟨(k,cl),hin,rfl⟩
   have ax:∀k cl,(k,cl)∈aX [] 0 E->k<E.length:=λk cl hin=>by
    rcases (yx E [] 0 k cl).1 hin with h|⟨j,h,rfl⟩
    .cases h
    .have:=(dP.1 h).1;omega
   have hLB:LB (⟨λid ver=>m2.addr (id+c0) ver,λid=>m2.top (id+c0),λid=>id<E.length⟩:Mm) (aX [] 0 E)=LB m2 (aX [] c0 (E.map (AV.sh.shL c0))):=by
    funext b
    refine propext ⟨?_,?_⟩
    .rintro⟨id,cl,C,hin,hd,ha⟩
     have hl:=ax _ _ hin;exact⟨id+c0,AV.sh.shL c0 cl,C,dl _ _ hin,(b5 _).2 (by omega),by rw[gd,hZ];exact ha⟩
    .rintro⟨id,cl,C,hin,hd,ha⟩
     rw[hEq] at hin;obtain⟨⟨k,c1⟩,h4,h5⟩:=lK.1 hin
     injection h5 with h5 h6
     subst h5;subst h6;rw[gd,hZ] at ha;exact⟨k,c1,C,h4,ax _ _ h4,ha⟩
   rw[hLB]
   have fe:∀{x:AV}{u:Value},al ⟨w.heap.size,G⟩ (LB m2 (aX [] c0 (E.map (AV.sh.shL c0)))) m2 w' (x.sh c0) u->al ⟨w.heap.size,G⟩ (LB m2 (aX [] c0 (E.map (AV.sh.shL c0)))) ⟨λid ver=>m2.addr (id+c0) ver,λid=>m2.top (id+c0),λid=>id<E.length⟩ w' x u:=
    λ{x u} hr=>al.down (c:=c0) (λi hd=>by have:=(b5 _).1 hd;show i<E.length;omega) (λi=>rfl) (λi ver=>rfl) hr x rfl
   refine⟨⟨λid cl hin hd=>?_,?_⟩,fe hu⟩
   .rw[hLB];have hl:=ax _ _ hin;obtain⟨e1,e2⟩:=bk.heap.entry (id+c0) (AV.sh.shL c0 cl) (dl _ _ hin) ((b5 _).2 (by omega))
    have hlen:(AV.sh.shL c0 cl).length=cl.length:=by rw[gd,hZ]
    rw[hlen] at e1 e2;refine⟨e1,?_⟩
    rcases e2 with ⟨e3,e4⟩|⟨b,C,cs,e,f1,f2,f3,f4,f5,f6⟩|⟨b,es,clk,f1,f2,f3,f4,f5⟩
    .exact .inl ⟨e3,by rw[gd] at e4;simpa using e4⟩
    .exact .inr (.inl ⟨b,C,cs,e,f1,f2,f3,f4,f5,λj p u hp hu=>fe (f6 j (p.sh c0) u (by rw[gd,gH,hp];rfl) hu)⟩)
    .exact .inr (.inr ⟨b,es,clk,f1,by rw[<-Dn];exact f2,f3,f4,λl hl=>f5 l (Jw hl)⟩)
   .have hi:=bk.heap.inj;rw[show (St.heap ⟨[],aX [] c0 (E.map (AV.sh.shL c0)),c0+E.length,fn.ntmps⟩)=_ from hEq,List.pairwise_map] at hi;refine rQ ?_ hi;intro x y hx hy ⟨b6,gk⟩;refine⟨λe=>b6 (by rw[e]),λb C C' gr gt fy g0=>?_⟩;have h1:=ax x.1 x.2 hx;have h2:=ax y.1 y.2 hy
    have l1:(AV.sh.shL c0 x.2).length=x.2.length:=by rw[gd,hZ]
    have l2:(AV.sh.shL c0 y.2).length=y.2.length:=by rw[gd,hZ]
    exact gk b C C' ((b5 _).2 (by omega)) ((b5 _).2 (by omega)) (by rw[l1];exact fy) (by rw[l2];exact g0)
  trivial
 cases e<;>first|exact main hk|exact hk.elim
omit [ak] in
@[simp ↓]theorem YB(h:ae)(n:Nat)(K:AV->ae->Nat->Prop)(v:AV)(c:List AV)(E:List (List AV)):eK h n K v (c::E)=K v ((n,c)::aX h (n+1) E) (n+(E.length+1)):=by rfl
attribute [simp] qe aggLe AV.frs AV.frs.jb
section
variable{D:List Nat}{h r s:ae}{n n' b k t len:Nat}{c x:List AV}{L:List (List AV)}
section
omit [ak]
@[simp]theorem YC(h:ae)(n:Nat)(c:List AV)(E:List (List AV)):aX h n (c::E)=(n,c)::aX h (n+1) E:=rfl
theorem Gi:∀(L:List (List AV))(r:ae)(b t:Nat),aU (aX r b L) t=if b<=t/\t<b+L.length then some (nth L (t-b)) else aU r t
 |[],r,b,t=>by simp[aX];intros;omega
 |c::L,r,b,t=>by
  simp only[aX,aU,gu];by_cases h:b=t
  .subst h;rw[az rfl,az ⟨aD _,by omega⟩,Iz];rfl
  .rw[ai h,Gi L r (b+1) t];by_cases h2:b+1<=t/\t<b+1+L.length
   .rw[az h2,az ⟨by omega,by omega⟩,show t-b=(t-(b+1))+1 by omega];rfl
   .rw[ai h2,ai (by omega)]
@[simp]theorem Od(h:t<b):aU (aX r b L) t=aU r t:=by rw[Gi,ai (by omega)]
end
def RX(h:ae)(b len:Nat):Prop:=∀i,i<len->aU h (i+b)=none
def RY(D:List Nat)(h:ae)(n n' b:Nat)(L:List (List AV)):Prop:=∀i,i<L.length->iO D h n n' (i+b) (nth L i)
omit [ak] in
theorem Gj:∀(L:List (List AV))(r:ae)(b:Nat),mA D h n n' (aX r b L)=(RY D h n n' b L/\RX r b L.length/\mA D h n n' r)
 |[],r,b=>by
  refine propext ⟨λhh=>⟨λi hi=>by simp at hi,λi hi=>by simp at hi,hh⟩,λhh=>hh.2.2⟩
 |c::L,r,b=>by
  show (iO D h n n' b c/\aU (aX r (b+1) L) b=none/\mA D h n n' (aX r (b+1) L))=_;rw[Gj L r (b+1),Od (xF b)];refine propext ⟨λ⟨h1,h2,h3,h4,h5⟩=>⟨λi hi=>?_,λi hi=>?_,h5⟩,λ⟨h1,h2,h3⟩=>⟨?_,?_,λi hi=>?_,λi hi=>?_,h3⟩⟩
  .cases i with
   |zero=>rw[cY];exact h1
   |succ i=>
    have:=h3 i (by simpa using hi);rw[show i+1+b=i+(b+1) by omega];exact this
  .cases i with
   |zero=>rw[cY];exact h2
   |succ i=>rw[show i+1+b=i+(b+1) by omega];exact h4 i (by simpa using hi)
  .have:=h1 0 (by simp);rwa [cY] at this
  .have:=h2 0 (by simp);rwa [cY] at this
  .have:=h1 (i+1) (by simpa using hi);rw[show i+1+b=i+(b+1) by omega] at this;exact this
  .have:=h2 (i+1) (by simpa using hi)
   rwa [show i+1+b=i+(b+1) by omega] at this
attribute [simp] Gj
end
def ms1(b:Nat):List Nat->List AV
 |[]=>[]
 |k::r=>.msl b k 1 0 k::ms1 (b+1) r
omit [ak] in
@[simp]theorem YD(b:Nat):ms1 b []=[]:=rfl
end Go.Fi
namespace Go.Fi
open Go Go.RowKit
variable[ak]
section
variable{fk:Fk}{P:Program}{K:Exit->St->Prop}{st:St}{c:Code}
def lG(R:St->Prop)(K:Exit->St->Prop):Exit->St->Prop
 |.normal,s=>R s
 |e,s=>K e s
def unr(fk:Fk)(P:Program)(c:Code)(K:Exit->St->Prop):Nat->St->Prop
 |0,_=>False
 |n+1,s=>aS fk P c s (lG (unr fk P c K n) K)
theorem iX(n:Nat)(h:unr fk P c K n st):aS fk P (.loop c) st K:=by
 refine yD (λx:Nat×St=>unr fk P c K x.1 x.2) (·.2) (·.1) (n,st) h (λB w0 a w m hs=>⟨m,hs⟩) ?_
 rintro⟨k,s⟩ hk
 cases k with
 |zero=>exact hk.elim
 |succ k=>
  refine sd hk (λe s' h'=>?_)
  cases e<;>first|exact h'|exact⟨(k,s'),h',xF k,λB w0 a w m hs=>⟨m,hs⟩⟩
theorem jh{n:Nat}(h:aS fk P c st (lG (unr fk P c K n) K)):unr fk P c K (n+1) st:=h
section
omit [ak]
@[simp ↓]theorem YY(R:St->Prop)(s:St):lG R K .normal s=R s:=rfl
@[simp ↓]theorem YZ(R:St->Prop)(s:St):lG R K .ret s=K .ret s:=rfl
@[simp ↓]theorem Y0(R:St->Prop)(i:Nat)(s:St):lG R K (.exit i) s=K (.exit i) s:=rfl
@[congr] theorem Y1{R:St->Prop}{K:Exit->St->Prop}{e e':Exit}{s s':St}(h:e=e')(h2:s=s'):lG R K e s=lG R K e' s':=by rw[h,h2]
end
@[congr] theorem Y2{n:Nat}{s s':St}(h:s=s'):unr fk P c K n s=unr fk P c K n s':=by rw[h]
omit [ak] in
theorem fw{k:IntKind}{n:Int}(h:(decide (k.min<=n)&&decide (n<=k.max))=true):inI k n:=by simpa[inI] using h
theorem AU{env:Env}{h:ae}{n nt:Nat}:Lek fk ⟨env,h,n,nt⟩ ⟨[],h,n,nt⟩:=
 λB w0 a w m hs=>⟨m,hs.base,hs.below,hs.defers,hs.size,λt=>.w (.undef _) nofun,hs.heap,hs.dom,hs.ids,hs.fr⟩
theorem Gv{k:Nat}{K:ae->Nat->Prop}{env:Env}{h:ae}{n nt:Nat}(hk:K h n):rD k K .normal ⟨env,h,n,nt⟩:=Gg h n nt AU hk
theorem Om{k:Nat}{K Kl:ae->Nat->Prop}{env:Env}{h:ae}{n nt:Nat}(hk:K h n):oS k K Kl .normal ⟨env,h,n,nt⟩:=Nv h n nt AU hk
theorem On{k:Nat}{K Kl:ae->Nat->Prop}{env:Env}{h:ae}{n nt:Nat}(hk:Kl h n):oS k K Kl .ret ⟨env,h,n,nt⟩:=Nx h n nt AU hk
end
section
variable{fk:Fk}{P:Program}{K Kd:Exit->St->Prop}{st:St}{c x y:Code}{k:Nat}{ri:RI}{v:Operand}{o f:Bool}
def qh(fk:Fk)(P:Program)(c:Code)(K:Exit->St->Prop):Nat->St->Prop
 |0,_=>False
 |n+1,s=>eX fk P c s (lG (qh fk P c K n) K)
theorem GF(n:Nat)(h:qh fk P c K n st):eX fk P (.loop c) st K:=by
 refine OJ (λx:Nat×St=>qh fk P c K x.1 x.2) (·.2) (·.1) (n,st) h (λB w0 a w m hs=>⟨m,hs⟩) ?_
 rintro⟨k,s⟩ hk
 cases k with
 |zero=>exact hk.elim
 |succ k=>
  refine NA hk (λe s' h'=>?_)
  cases e<;>first|exact h'|exact⟨(k,s'),h',xF k,λB w0 a w m hs=>⟨m,hs⟩⟩
theorem GG{n:Nat}(h:eX fk P c st (lG (qh fk P c K n) K)):qh fk P c K (n+1) st:=h
@[congr] theorem Zh{n:Nat}{s s':St}(h:s=s'):qh fk P c K n s=qh fk P c K n s':=by rw[h]
theorem GH(hv:ev st.env v=.w o f (.bool true))(h:eX fk P x st K):eX fk P (.cond v x y) st K:=GD hv h
theorem GJ(hv:ev st.env v=.w o f (.bool false))(h:eX fk P y st K):eX fk P (.cond v x y) st K:=GD hv h
def qj(k:Nat)(ri:RI)(P:Program)(c:Code)(K Kd:Exit->St->Prop):Nat->St->Prop
 |0,_=>False
 |n+1,s=>eu k ri P c s (lG (qj k ri P c K Kd n) K) (qg Kd)
theorem OL(n:Nat)(h:qj k ri P c K Kd n st):eu k ri P (.loop c) st K Kd:=by
 refine OB (λx:Nat×St=>qj k ri P c K Kd x.1 x.2) (·.2) (·.1) (n,st) h (λB w0 a w m hs=>⟨m,hs⟩) ?_
 rintro⟨j,s⟩ hk B w0 a w m hs
 cases j with
 |zero=>exact hk.elim
 |succ j=>
  refine dK (hk B w0 a w m hs) (λe a' w' hq=>?_)
  rcases hq with ⟨st',m',h1,h2⟩|h
  .refine .inl ⟨st',m',?_,h2⟩
   cases e<;>first|exact h1|exact⟨(j,st'),h1,xF j,λB w0 a w m hs=>⟨m,hs⟩⟩
  grind
theorem OM{n:Nat}(h:eu k ri P c st (lG (qj k ri P c K Kd n) K) (qg Kd)):qj k ri P c K Kd (n+1) st:=h
@[congr] theorem Zi{n:Nat}{s s':St}(h:s=s'):qj k ri P c K Kd n s=qj k ri P c K Kd n s':=by rw[h]
theorem ON(hv:ev st.env v=.w o f (.bool true))(h:eu k ri P x st K Kd):eu k ri P (.cond v x y) st K Kd:=GC hv h
theorem OO(hv:ev st.env v=.w o f (.bool false))(h:eu k ri P y st K Kd):eu k ri P (.cond v x y) st K Kd:=GC hv h
end
end Go.Fi
