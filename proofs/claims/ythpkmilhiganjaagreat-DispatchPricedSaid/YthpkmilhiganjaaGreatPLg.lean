/- Lemmas. -/
import Derived.Test.YthpkmilhiganjaaGreatPLf
import Derived.Test.YthpkmilhiganjaaGreatPLd
set_option linter.unusedSimpArgs false
set_option linter.unusedVariables false
set_option linter.unusedSectionVars false
set_option maxHeartbeats 32000000
set_option maxRecDepth 100000
namespace Go.Fi
open Go Go.RowKit
variable[ar]
variable{fk:Fk}
def cT:Nat→List AV→Env
 |_,[]=>[]
 |i,v::r=>(i,v)::cT (i+1) r
section
omit [ar]
@[simp] theorem Vx(i:Nat):cT i []=[]:=rfl
@[simp] theorem Vy(i:Nat)(v:AV)(r:List AV):cT i (v::r)=(i,v)::cT (i+1) r:=rfl
theorem ya:∀(l:List AV)(i t:Nat),get (cT i l) t=if i≤t∧t<i+l.length then l.getD (t-i) (.w false false .undef) else .w false false .undef
 |[],i,t=>by simp[cT,get]
 |p::r,i,t=>by
  simp only[cT,get];by_cases h:i=t
  ·subst h;simp
  ·simp only[h,if_false];rw[ya r (i+1) t];simp only[List.length_cons];by_cases h2:i+1≤t∧t<i+1+r.length
   ·rw[if_pos h2,if_pos (by omega)]
    have:t-i=(t-(i+1))+1:=by omega
    rw[this];simp
   ·rw[if_neg h2,if_neg (by omega)]
end
def cG(P:Program)(rs:List ResultVar)(st:St)(K:AV→aj→Nat→Prop):Prop:=
 match dp P st.env st.heap rs with
 |some (vs,c)=>c∧K (oneOf vs) st.heap st.nxt
 |none=>False
def dA(P:Program)(rs:List ResultVar)(K:AV→aj→Nat→Prop):Exit→St→Prop
 |.normal,s=>cG P rs s K
 |.ret,s=>cG P rs s K
 |_,_=>False
omit [ar] in
@[simp ↓] theorem Vz(P:Program)(rs:List ResultVar)(K:AV→aj→Nat→Prop)(s:St):dA P rs K .normal s=cG P rs s K:=rfl
omit [ar] in
@[simp ↓] theorem VA(P:Program)(rs:List ResultVar)(K:AV→aj→Nat→Prop)(s:St):dA P rs K .ret s=cG P rs s K:=rfl
section
variable{P:Program}{B:Base}{m:Mm}{w:World}{h:aj}{n:Nat}{env:Env}{a:Act}{L:Nat→Prop}
section
omit [ar]
theorem tK{n:Nat}:∀{cs:List AV},(∀(j:Nat)(x:AV),cs[j]?=some x→x.lt n=true)→AV.lt.ltL n cs=true
 |[],_=>rfl
 |x::r,h=>by
  simp only[AV.lt.ltL,Bool.and_eq_true];exact⟨h 0 x rfl,tK fun j y hy=>h (j+1) y (by simpa using hy)⟩
theorem au.zD{x:AV}{v:Value}(h:au B L m w x v)(hd:∀i,m.dom i→i<n):x.lt n=true:=by
 induction h with
 |w _ _=>rfl
 |ptr hd' _ _ _=>simpa[AV.lt] using hd _ hd'
 |mp hd' _ _=>simpa[AV.lt] using hd _ hd'
 |msl hd' _ _ _ _=>simpa[AV.lt] using hd _ hd'
 |@agg cs vs hl _ ih=>
  simp only[AV.lt]
  refine tK fun j y hy=>?_
  have hj:j<vs.size:=by have:=(List.getElem?_eq_some_iff.1 hy).1;omega
  exact ih j y _ hy (Array.getElem?_eq_getElem hj)
 |@tup cs vs hl _ ih=>
  simp only[AV.lt]
  refine tK fun j y hy=>?_
  have hj:j<vs.size:=by have:=(List.getElem?_eq_some_iff.1 hy).1;omega
  exact ih j y _ hy (Array.getElem?_eq_getElem hj)
 |@fn f cs vs hl _ ih=>
  simp only[AV.lt]
  refine tK fun j y hy=>?_
  have hj:j<vs.size:=by have:=(List.getElem?_eq_some_iff.1 hy).1;omega
  exact ih j y _ hy (Array.getElem?_eq_getElem hj)
theorem qh:∀(env:Env)(t:Nat),(∃v,(t,v)∈env)∨get env t=.w false false .undef
 |[],_=>.inr rfl
 |(k,v)::r,t=>by
  simp only[get];by_cases h:k=t
  ·subst h;exact .inl ⟨v,by simp⟩
  ·rcases qh r t with ⟨u,hu⟩|hu
   ·exact .inl ⟨u,List.mem_cons_of_mem _ hu⟩
   ·rw[if_neg h];exact .inr hu
end
def uI(P:Program)(B:Base){fk:Fk}(w0:Ctx fk)(env:Env)(a:Act)(n nt:Nat)(o:Oper)(fn:Func)(K':Act→World→Prop)(e:Exit)(a':Act)(w':World):Prop:=
 (e=.normal∨e=.ret)∧∃(fk' fk2:Fk)(w1:Ctx fk')(w2:Ctx fk2)(st':St)(m':Mm)(KV:AV→aj→Nat→Prop),fk'.k=n∧fk2.k=fk.k∧w1.w=w0.w∧w1.F=w0.F++(env.map fun p=>(get env p.1,a.tmps.getD p.1 undef))∧w1.ds=[] ∧
  w2.w=w0.w∧w2.F=w0.F∧w2.ds=w0.ds∧(∀q∈w2.obs,q∈w1.obs)∧Sim B w1 st' a' w' m'∧cG P fn.results.toList st' KV∧∀v h' n' a' w' m',KV v h' n'→Sim B w2 ⟨put env o.dst v,h',n',nt⟩ a' w' m'→K' a' w'
theorem Dd{w0:Ctx fk}{nt:Nat}(o:Oper)(f:Operand)(args:Array Operand)(tys:Array TypeId)(ho:o.op=.call { callee:=.value f,args:=args,argTypes:=tys }){g:FuncId}{aE:List AV}(hf:du (ev env f)=some (g,aE)){fn:Func}{c:Code}(hfn:P.funcs[g]?=some fn) (hname:(fn.name == "runtime.NumGoroutine")=false) (hb:fn.body=some c) (hnt:(args.toList.map (ev env)++aE).length≤fn.ntmps) (r:Option RI) (hrr:∀ri,r=some ri→fk.ri=some ri) (Q:Exit→Act→World→Prop) (K':Act→World→Prop) (hw:∀(w1:Ctx ⟨n,r⟩)(a1:Act),w1.w=w0.w→w1.F=w0.F++(env.map fun p=>(get env p.1,a.tmps.getD p.1 undef))→w1.r=none→w1.obs=w0.obs→w1.ds=[]→Sim B w1 ⟨cT 0 (args.toList.map (ev env)++aE),h,n,fn.ntmps⟩ a1 w m→c.wpT none P (uI P B w0 env a n nt o fn K') a1 w) (hs:Sim B w0 ⟨env,h,n,nt⟩ a w m) (hdk:dOk nt o.dst):o.wpt P a w K' Q:=by
 have hxa:∀x:Operand,au B (LB m h) m w (ev env x) (a.eval x):=fun x=>jb x (fun t _=>hs.env t)
 have hxf:=hxa f
 have hfv:∃cv:Array Value,a.eval f=.func (.func g) #[] cv∧aE.length=cv.size∧∀(j:Nat)(p:AV)(v:Value),aE[j]?=some p→cv[j]?=some v→au B (LB m h) m w p v:=by
  unfold du at hf;split at hf
  ·rename_i g' caps' e
   injection hf with hf;injection hf with h1 h2;subst h1;subst h2
   rw[e] at hxf;generalize hv:a.eval f=vf at hxf
   cases hxf with|fn h1 h2=>exact⟨_,rfl,h1,h2⟩
  ·rename_i own f' g' caps' e
   injection hf with hf;injection hf with h1 h2;subst h1;subst h2
   rw[e] at hxf;generalize hv:a.eval f=vf at hxf
   cases hxf with
   |w h1 _=>
    cases h1 with
    |fn h1 h2=>
     refine⟨_,rfl,by simpa using h1,fun j p v hp hv=>?_⟩;obtain⟨q,hq,rfl⟩:=cX hp;exact .w (h2 j q v hq hv) (fun h=>by cases h)
  ·cases hf
 obtain⟨cv,hfe,hcl,hcr⟩:=hfv
 have hvs:∀(j:Nat)(x:AV)(v:Value),(args.toList.map (ev env)++aE)[j]?=some x→(args.map a.eval++cv)[j]?=some v→au B (LB m h) m w x v:=by
  intro j x v hj hv;by_cases hlt:j<args.size
  ·rw[List.getElem?_append_left (by simpa using hlt)] at hj;rw[Array.getElem?_append_left (by simpa using hlt)] at hv;obtain⟨y,hy,rfl⟩:=cX hj;rw[Array.getElem?_map] at hv
   have:args[j]?=some y:=by rw[←Array.getElem?_toList];exact hy
   rw[this] at hv;injection hv with hv;subst hv
   exact hxa y
  ·rw[List.getElem?_append_right (by simp;omega)] at hj;rw[Array.getElem?_append_right (by simp;omega)] at hv;simp only[List.length_map,Array.length_toList,Array.size_map] at hj hv;exact hcr _ x v hj hv
 have hlen:(args.toList.map (ev env)++aE).length=(args.map a.eval++cv).size:=by simp[hcl]
 generalize hvsd:args.map a.eval++cv=vs at hvs hlen;generalize hasd:args.toList.map (ev env)++aE=avs at hvs hlen hnt hw
 have hrun:(execOp a.eval o).run P w=.ok (.enter g vs) w:=by
  have hn':¬fn.name = "runtime.NumGoroutine" := by simpa using hname
  simp[execOp,ho,resolve,hfe,Deferred.ofValue,invoke,callFunc,hfn,hn',hb,←hvsd]
 unfold Oper.wpt;rw[hrun,Oper.yA]
 have hdom:∀i,m.dom i→i<n:=fun i hd=>(hs.dom i).1 hd
 refine rh hfn hb ?_
 have hsim:Sim B (⟨w0.w,w0.F++env.map fun p=>(get env p.1,a.tmps.getD p.1 undef),none,w0.obs,[],fun ri h=>(let ⟨fn,T,D,h1,h2,h3⟩:=w0.bt ri (hrr ri h);⟨fn,T,D,h1,h2,fun t v ht=>List.mem_append.2 (.inl (h3 t v ht))⟩),w0.ok⟩:Ctx ⟨n,r⟩) ⟨cT 0 avs,h,n,fn.ntmps⟩ { tmps:=vs++Array.replicate (fn.ntmps-vs.size) undef,defers:=[] } w m:=by
  refine⟨hs.base,hs.below,rfl,by simp;omega,fun t=>?_,hs.heap,hs.dom,hs.ids,Nat.le_refl _,fun p hp=>?_,hs.fr.2.2⟩
  ·show au _ _ _ _ (get (cT 0 avs) t) _;rw[ya];split
   ·rename_i ht
    have hlt:t<avs.length:=by omega
    have:(vs++Array.replicate (fn.ntmps-vs.size) undef).getD t undef=vs[t]'(by omega):=by
     rw[Array.getD_eq_getD_getElem?,Array.getElem?_append_left (by omega),Array.getElem?_eq_getElem (by omega)];rfl
    rw[this];exact hvs t _ _ (by simpa using getD_some hlt) (Array.getElem?_eq_getElem (by omega))
   ·exact .w (.undef _) (fun h=>by cases h)
  ·rcases List.mem_append.1 hp with hp|hp
   ·exact⟨AV.oI hs.fr.1 (hs.fr.2.1 p hp).1,(hs.fr.2.1 p hp).2⟩
   ·obtain⟨q,_,rfl⟩:=List.mem_map.1 hp;exact⟨(hs.env q.1).zD hdom,hs.env q.1⟩
 have main:∀{fk' fk2:Fk}(w1:Ctx fk')(w2:Ctx fk2)(st':St)(a':Act)(w':World)(m':Mm)(KV:AV→aj→Nat→Prop),fk'.k=n→fk2.k=fk.k→w1.w=w0.w→w1.F=w0.F++(env.map fun p=>(get env p.1,a.tmps.getD p.1 undef))→w1.ds=[] →
  w2.w=w0.w→w2.F=w0.F→w2.ds=w0.ds→(∀q∈w2.obs,q∈w1.obs)→Sim B w1 st' a' w' m'→cG P fn.results.toList st' KV →
  (∀v h' n' a' w' m',KV v h' n'→Sim B w2 ⟨put env o.dst v,h',n',nt⟩ a' w' m'→K' a' w') →
  a'.defers=[]∧∀w1,EnvD.E w' w1→∃v,(results fn a'.tmps).run P w1=.ok v w1∧K' (a.put o.dst v) w1:=by
  intro fk' fk2 w1 w2 st' a' w' m' KV hk1 q1 hww hF1 hds1 q2 q3 q4 q5 hs' hr hKK;refine⟨by have:=hs'.defers;rw[hds1] at this;exact this,fun w' e1=>?_⟩;replace hs':=hs'.move e1;unfold cG at hr;split at hr
  ·rename_i vs' d hres;obtain⟨hd,hkv⟩:=hr;obtain⟨us,h1,h2,h3⟩:=om hs' _ _ _ hres hd
   have hrun:(results fn a'.tmps).run P w'=.ok (if h:us.toArray.size=1 then us.toArray[0] else .tuple us.toArray) w':=by
    have he:results fn a'.tmps=(do
     let vs ←fn.results.mapM (mq a'.tmps)
     pure (if h:vs.size=1 then vs[0] else .tuple vs)):=rfl
    rw[he,Array.mapM_eq_mapM_toList];simp only[Sem.run_bind,Sem.run_map,h1,Result.andThen_ok,Sem.run_pure]
   have hone:au B (LB m' st'.heap) m' w' (oneOf vs') (if h:us.toArray.size=1 then us.toArray[0] else .tuple us.toArray):=by
    have tupc:vs'.length≠1→au B (LB m' st'.heap) m' w' (.tup vs') (if h:us.toArray.size=1 then us.toArray[0] else .tuple us.toArray):=by
     intro hne;rw[dif_neg (by simp;omega)];exact .tup (by simpa using h2) (fun j p u hp hu=>h3 j p u hp (by simpa using hu))
    match vs',h2,h3,tupc with
    |[],h2,h3,tupc=>exact tupc (by simp)
    |[v],h2,h3,tupc=>
     obtain⟨u,rfl⟩:∃u,us=[u]:=List.length_eq_one_iff.1 (by simpa using h2.symm);exact h3 0 v u rfl rfl
    |v::v2::r,h2,h3,tupc=>exact tupc (by simp)
   refine⟨_,hrun,?_⟩;have hfr:=hs'.fr.2.1
   have hold:∀t,au B (LB m' st'.heap) m' w' (get env t) (a.tmps.getD t undef):=by
    intro t
    rcases qh env t with ⟨v,hv⟩|hu
    ·exact (hfr (get env t,a.tmps.getD t undef) (by rw[hF1];exact List.mem_append.2 (.inr (List.mem_map.2 ⟨(t,v),hv,rfl⟩)))).2
    ·rw[hu];exact .w (.undef _) (fun h=>by cases h)
   refine hKK (oneOf vs') st'.heap st'.nxt _ _ m' hkv ⟨(by rw[q2,←hww];exact hs'.base),(by rw[q2,←hww];exact hs'.below),(by rw[gT,q4];exact hs.defers),(by rw[gS];exact hs.size),?_,hs'.heap,hs'.dom,hs'.ids,?_,fun p hp=>?_,fun q hq=>hs'.fr.2.2 q (q5 q hq)⟩
   ·exact jO env a o.dst _ _ (by rw[hs.size];exact hdk) hone hold
   ·have h1:=hs.fr.1;have h2:=hs'.fr.1;rw[hk1] at h2;rw[q1];exact Nat.le_trans h1 h2
   ·rw[q3] at hp;exact⟨by rw[q1];exact (hs.fr.2.1 p hp).1,(hfr p (by rw[hF1];exact List.mem_append.2 (.inl hp))).2⟩
  ·exact hr.elim
 refine cJ (hw _ _ rfl rfl rfl rfl rfl hsim) (fun e a' w' hq=>?_);obtain⟨he,fk',fk2,w1,w2,st',m',KV,q1,q2,q3,q4,q5,q6,q7,q8,q9,hs',hr,hK⟩:=hq;have fin:=main w1 w2 st' a' w' m' KV q1 q2 q3 q4 q5 q6 q7 q8 q9 hs' hr hK
 rcases he with rfl|rfl
 ·exact fin
 ·exact fin
theorem De{w0:Ctx fk}{nt:Nat}(o:Oper)(f:Operand)(args:Array Operand)(tys:Array TypeId)(ho:o.op=.call { callee:=.value f,args:=args,argTypes:=tys }){g:FuncId}{aE:List AV}(hf:du (ev env f)=some (g,aE)){fn:Func}{c:Code}(hfn:P.funcs[g]?=some fn) (hname:(fn.name == "runtime.NumGoroutine")=false) (hb:fn.body=some c) (hnt:(args.toList.map (ev env)++aE).length≤fn.ntmps) (r:Option RI) (hrr:∀ri,r=some ri→fk.ri=some ri) {Kv:AV→aj→Nat→Prop} (hw:aY ⟨n,r⟩ P c ⟨cT 0 (args.toList.map (ev env)++aE),h,n,fn.ntmps⟩ (dA P fn.results.toList Kv)) (hs:Sim B w0 ⟨env,h,n,nt⟩ a w m) (hdk:dOk nt o.dst) (Q:Exit→Act→World→Prop) (K':Act→World→Prop) (hK:∀v h' n' a' w' m',Kv v h' n'→Sim B w0 ⟨put env o.dst v,h',n',nt⟩ a' w' m'→K' a' w'):o.wpt P a w K' Q:=
 Dd o f args tys ho hf hfn hname hb hnt r hrr Q K' (fun w1 a1 e1 e2 e3 e4 e5 hs1=>cJ (e3▸hw B w1 a1 w m hs1) (fun e a' w' ⟨st',m',hk,hs'⟩=>by
  have fin:∀e:Exit,(e=.normal∨e=.ret)→cG P fn.results.toList st' Kv→uI P B w0 env a n nt o fn K' e a' w':=fun e he hk=>
   ⟨he,_,_,w1,w0,st',m',Kv,rfl,rfl,e1,e2,e5,rfl,rfl,rfl,fun q hq=>e4▸hq,hs',hk,hK⟩
  cases e with
  |normal=>exact fin _ (.inl rfl) hk
  |ret=>exact fin _ (.inr rfl) hk
  |_=>exact hk.elim)) hs hdk
end
section
variable{P:Program}{B:Base}{m:Mm}{w w':World}{h:aj}{n:Nat}{env:Env}{a:Act}{L:Nat→Prop}
section
omit [ar]
theorem Rep.jH{G:Nat→Prop}{p:PV}{v:Value}(hc:∀a v,w.cell? a=some v→w'.cell? a=some v)(h:Rep G w p v):Rep G w' p v:=by
 induction h with
 |undef v=>exact .undef v
 |gj b=>exact .gj b
 |bool b=>exact .bool b
 |int k n=>exact .int k n
 |str s=>exact .str s
 |agg hl _ ih=>exact .agg hl ih
 |tup hl _ ih=>exact .tup hl ih
 |slnil=>exact .slnil
 |sl vals hn hcc hg hr ih=>exact .sl vals hn (fun j hj=>hc _ _ (hcc j hj)) hg ih
 |slz hn=>exact .slz hn
 |ip vals hcc hg hr ih=>exact .ip vals (fun j hj=>hc _ _ (hcc j hj)) hg ih
 |dP=>exact .dP
 |ig=>exact .ig
 |ifc _ ih=>exact .ifc ih
 |fn hl _ ih=>exact .fn hl ih
 |yl l=>exact .yl l
theorem au.jH{x:AV}{v:Value}(hc:∀a v,w.cell? a=some v→w'.cell? a=some v)(h:au B L m w x v):au B L m w' x v:=by
 induction h with
 |w hr hf=>exact .w (hr.jH hc) hf
 |ptr hd ht ha hC=>exact .ptr hd ht ha hC
 |mp hd ht ha=>exact .mp hd ht ha
 |msl hd ht hn h0 h1=>exact .msl hd ht hn h0 h1
 |agg hl _ ih=>exact .agg hl ih
 |tup hl _ ih=>exact .tup hl ih
 |fn hl _ ih=>exact .fn hl ih
theorem tL{l:Nat}{o o':Obj}(hl:w.heap[l]?=some o)(ho:o.isCells=false)(ad:Addr)(v:Value)(hc:w.cell? ad=some v):(w.putObj l o').cell? ad=some v:=by
 by_cases e:ad.block=l
 ·unfold World.cell? at hc;rw[e,hl] at hc
  cases o<;>simp_all[Obj.isCells]
 ·rw[←hc];exact World.cell?_of_block (World.putObj_heap_other e)
theorem Kj{k l:Nat}{o o':Obj}(hl:w.heap[l]?=some o)(hk:k≤l):Bel k w (w.putObj l o'):=
 ⟨rfl,rfl,by simp,fun i hi=>World.putObj_heap_other (by omega)⟩
end
theorem Sim.put{fk':Fk}{w0:Ctx fk}{w1:Ctx fk'}{st:St}{l:Nat}{o o':Obj}(hs:Sim B w0 st a w m)(hl:w.heap[l]?=some o)(ho:o.isCells=false)(hom:∀es clk,o≠.map es clk)(hB:B.n≤l)(hw:w1.w=w0.w){a':Act}(ht:a'.tmps=a.tmps)(hd:a'.defers=marks w1.ds)(hfr:lY B w1 (LB m st.heap) m (w.putObj l o') st.nxt):Sim B w1 st a' (w.putObj l o') m:=by
 have hc:∀ad v,w.cell? ad=some v→(w.putObj l o').cell? ad=some v:=fun ad v h=>tL hl ho ad v h
 refine⟨by rw[hw];exact hs.base,by rw[hw];exact hs.below.trans (Kj hl hB),hd,by rw[ht];exact hs.size,fun t=>by rw[ht];exact (hs.env t).jH hc,⟨fun id c hin hdm=>?_,hs.heap.inj⟩,hs.dom,hs.ids,hfr⟩;obtain⟨h1,h2⟩:=hs.heap.entry id c hin hdm;refine⟨h1,?_⟩
 rcases h2 with h2|⟨b,C,cs,e,e1,e2,e3,e4,e5,e6⟩|⟨b,es,clk,e1,e2,e3,e4,e5⟩
 ·exact .inl h2
 ·refine .inr (.inl ⟨b,C,cs,e,e1,?_,e3,e4,e5,fun j p v hp hv=>(e6 j p v hp hv).jH hc⟩);rw[←e2];refine World.putObj_heap_other (fun hbl=>?_);subst hbl;rw[hl] at e2
  injection e2 with e2
  subst e2;cases ho
 ·refine .inr (.inr ⟨b,es,clk,e1,e2,?_,e4,e5⟩);rw[←e3];refine World.putObj_heap_other (fun hbl=>?_);subst hbl;rw[hl] at e3
  injection e3 with e3
  exact hom _ _ e3
theorem Sim.lay{fk':Fk}{w0:Ctx fk}{w1:Ctx fk'}{st:St}(o:Obj)(hs:Sim B w0 st a w m)(hw:w1.w=w0.w){a':Act}(ht:a'.tmps=a.tmps)(hd:a'.defers=marks w1.ds)(hfr:lY B w1 (LB m st.heap) m (w.alloc o) st.nxt):Sim B w1 st a' (w.alloc o) m:=by
 have hb:Bel w.heap.size w (w.alloc o):=(Bel.refl _ w).alloc (Nat.le_refl _) o;exact⟨by rw[hw];exact hs.base,by rw[hw];exact hs.below.trans (hb.mono hs.room),hd,by rw[ht];exact hs.size,fun t=>by rw[ht];exact (hs.env t).mono (Mm.le.refl m) (fun _ _ h=>h) (fun b hb' _=>hb.block b hb'),hs.heap.below hb,hs.dom,hs.ids,hfr⟩
end
def jI(env:Env):List Nat→List AV→Env
 |t::ts,v::vs=>jI ((t,v)::env) ts vs
 |_,_=>env
omit [ar] in
@[simp] theorem VB(env:Env)(vs:List AV):jI env [] vs=env:=by cases vs<;>rfl
omit [ar] in
@[simp] theorem Kk(env:Env)(t:Nat)(ts:List Nat)(v:AV)(vs:List AV):jI env (t::ts) (v::vs)=jI ((t,v)::env) ts vs:=rfl
def pb(k:Nat)(K:aj→Nat→Prop):Exit→St→Prop
 |.normal,s=>∃h' n' nt',Lek ⟨k,none⟩ s ⟨[],h',n',nt'⟩∧K h' n'
 |_,_=>False
def qR(P:Program)(k:Nat)(body:Code)(K:aj→Nat→Prop):Exit→St→Prop
 |.normal,s=>aY ⟨k,none⟩ P body s (pb k K)
 |_,_=>False
def Round(P:Program)(ri:RI)(avs:List AV)(h:aj)(n:Nat)(K:aj→Nat→Prop):Prop:=
 avs.length=ri.ps.size∧(∀t∈ri.ps,t<ri.nt)∧aY ⟨n,none⟩ P ri.assign ⟨jI ri.env ri.ps.toList avs,h,n,ri.nt⟩ (qR P n ri.body K)
def nN{k:Nat}{ri:RI}(w0:Ctx ⟨k,some ri⟩)(w1:Ctx ⟨k,none⟩):Prop:=
 w1.w=w0.w∧w1.F=w0.F∧w1.r=w0.r∧w1.ds=w0.ds∧(∃fn T D,(ri.l,bt ri fn T D .done (some .ret))∈w1.obs)∧∀q∈w0.obs,q.1≠ri.l→q∈w1.obs
def mD(k:Nat)(K Kl:aj→Nat→Prop):Exit→St→Prop
 |.normal,s=>∃h' n' nt',Lek ⟨k,none⟩ s ⟨[],h',n',nt'⟩∧K h' n'
 |.ret,s=>∃h' n' nt',Lek ⟨k,none⟩ s ⟨[],h',n',nt'⟩∧Kl h' n'
 |_,_=>False
def qS(P:Program)(k:Nat)(body:Code)(K Kl:aj→Nat→Prop):Exit→St→Prop
 |.normal,s=>aY ⟨k,none⟩ P body s (mD k K Kl)
 |_,_=>False
def zE(P:Program)(ri:RI)(avs:List AV)(h:aj)(n:Nat)(K Kl:aj→Nat→Prop):Prop:=
 avs.length=ri.ps.size∧(∀t∈ri.ps,t<ri.nt)∧aY ⟨n,none⟩ P ri.assign ⟨jI ri.env ri.ps.toList avs,h,n,ri.nt⟩ (qS P n ri.body K Kl)
@[simp ↓] theorem VC(P:Program)(k:Nat)(body:Code)(K Kl:aj→Nat→Prop)(s:St):qS P k body K Kl .normal s=aY ⟨k,none⟩ P body s (mD k K Kl):=rfl
@[congr] theorem VD{k:Nat}{K Kl:aj→Nat→Prop}{e e':Exit}{s s':St}(h1:e=e')(h2:s=s'):mD k K Kl e s=mD k K Kl e' s':=by rw[h1,h2]
@[congr] theorem VE{P:Program}{k:Nat}{body:Code}{K Kl:aj→Nat→Prop}{e e':Exit}{s s':St}(h1:e=e')(h2:s=s'):qS P k body K Kl e s=qS P k body K Kl e' s':=by rw[h1,h2]
theorem Df{k:Nat}{K Kl:aj→Nat→Prop}{s:St}(h':aj)(n':Nat)(nt':Nat)(hle:Lek ⟨k,none⟩ s ⟨[],h',n',nt'⟩)(hk:K h' n'):mD k K Kl .normal s:=⟨h',n',nt',hle,hk⟩
theorem Dg{k:Nat}{K Kl:aj→Nat→Prop}{s:St}(h':aj)(n':Nat)(nt':Nat)(hle:Lek ⟨k,none⟩ s ⟨[],h',n',nt'⟩)(hk:Kl h' n'):mD k K Kl .ret s:=⟨h',n',nt',hle,hk⟩
section
variable{P:Program}{B:Base}{m:Mm}{w:World}{h:aj}{n:Nat}{env:Env}{a:Act}{L:Nat→Prop}
section
omit [ar]
theorem Dh:∀(ps:List Nat)(avs:List AV)(vals:List Value)(e:Env)(T:Array Value),ps.length=avs.length→avs.length=vals.length→(∀t∈ps,t<T.size)→(∀(j:Nat)(x:AV)(v:Value),avs[j]?=some x→vals[j]?=some v→au B L m w x v)→(∀t,au B L m w (get e t) (T.getD t undef))→((ps.zip vals).foldl (fun tmps (p:Nat×Value)=>tmps.setIfInBounds p.1 p.2) T).size=T.size∧∀t,au B L m w (get (jI e ps avs) t) (((ps.zip vals).foldl (fun tmps (p:Nat×Value)=>tmps.setIfInBounds p.1 p.2) T).getD t undef)
 |[],[],[],e,T,_,_,_,_,he=>⟨rfl,by simpa using he⟩
 |p::ps,x::avs,v::vals,e,T,h1,h2,hlt,hr,he=>by
  simp only[List.zip_cons_cons,List.foldl_cons,Kk];have hp:=hlt p (by simp);have:=Dh ps avs vals ((p,x)::e) (T.setIfInBounds p v) (by simpa using h1) (by simpa using h2) (fun t ht=>by simpa using hlt t (by simp[ht])) (fun j y u hy hu=>hr (j+1) y u (by simpa using hy) (by simpa using hu)) (fun t=>?_)
  ·refine⟨by rw[this.1];simp,this.2⟩
  ·simp only[get];rw[Array.getD_eq_getD_getElem?,Array.getElem?_setIfInBounds];by_cases hpt:p=t
   ·subst hpt;simp only[if_true];rw[if_pos hp];exact hr 0 x v rfl rfl
   ·simp only[hpt,if_false];rw[←Array.getD_eq_getD_getElem?];exact he t
 |[],_::_,_,_,_,h1,_,_,_,_=>by cases h1
 |_::_,[],_,_,_,h1,_,_,_,_=>by cases h1
 |[],[],_::_,_,_,_,h2,_,_,_=>by cases h2
 |_::_,_::_,[],_,_,_,h2,_,_,_=>by cases h2
theorem au.Pt{o f:Bool}{l:Nat}{v:Value}(h:au B L m w (.w o f (.yl l)) v):v=.func (.yield l) #[] #[]:=by
 cases h with|w h _=>cases h;rfl
theorem Km(ps:Array Tmp)(vals:Array Value)(T:Array Value):(ps.zip vals).foldl (fun tmps (t,a)=>tmps.setIfInBounds t a) T=(ps.toList.zip vals.toList).foldl (fun tmps (p:Nat×Value)=>tmps.setIfInBounds p.1 p.2) T:=by
 rw[←Array.foldl_toList,Array.toList_zip]
end
theorem Di{k:Nat}{ri:RI}{w0:Ctx ⟨k,some ri⟩}{nt:Nat}(o:Oper)(f:Operand)(args:Array Operand)(tys:Array TypeId)(ho:o.op=.call { callee:=.value f,args:=args,argTypes:=tys }){ow fl:Bool}(hf:ev env f=.w ow fl (.yl ri.l)){Kv Kl:aj→Nat→Prop}(hw:zE P ri (args.toList.map (ev env)) h n Kv Kl)(hs:Sim B w0 ⟨env,h,n,nt⟩ a w m)(hdk:dOk nt o.dst)(Q:Exit→Act→World→Prop)(K':Act→World→Prop)(hK:∀h' n' a' w' m',Kv h' n'→Sim B w0 ⟨put env o.dst (.w false false (.bool true)),h',n',nt⟩ a' w' m'→K' a' w')(hKl:∀(w1:Ctx ⟨k,none⟩) h' n' a' w' m',nN w0 w1→Kl h' n'→Sim B w1 ⟨put env o.dst (.w false false (.bool false)),h',n',nt⟩ a' w' m'→K' a' w'):o.wpT w0.r P a w K' Q:=by
 obtain⟨hlen,hlt,hw⟩:=hw
 have hxa:∀x:Operand,au B (LB m h) m w (ev env x) (a.eval x):=fun x=>jb x (fun t _=>hs.env t)
 have hfe:a.eval f=.func (.yield ri.l) #[] #[]:=by have:=hxa f;rw[hf] at this;exact this.Pt
 obtain⟨fn,T,D,hin,hT,henv⟩:=w0.bt ri rfl;obtain⟨hBl,hll,hLl,hl⟩:=hs.fr.2.2 _ hin;have hno:(bt ri fn T D .ready none).isCells=false:=rfl
 have hdom:∀i,m.dom i→i<n:=fun i hd=>(hs.dom i).1 hd
 generalize hvals:args.map a.eval=vals
 have hvl:vals.size=ri.ps.size:=by rw[←hvals,←hlen];simp
 have hrun:(execOp a.eval o).run P w=.ok (.round ri.l fn ((ri.ps.zip vals).foldl (fun tmps (t,a)=>tmps.setIfInBounds t a) T) ri.assign ri.body) w:=by
  have hy:=run_yield (P:=P) (args:=vals) (r:={ state:=.ready,pending:=none,fn:=fn,tmps:=T,params:=ri.ps,assign:=ri.assign,body:=ri.body,defers:=D }) hl hvl;simp[execOp,ho,resolve,hfe,Deferred.ofValue,invoke,callFunc,hvals,hy]
 refine gu (fun c e=>(by rw[ho] at e;cases e)) ?_;unfold Oper.wpt;rw[hrun,Oper.Md];refine FV ?_;obtain⟨F1,hF1⟩:∃F1,w0.F++env.map (fun p=>(get env p.1,a.tmps.getD p.1 undef))=F1:=⟨_,rfl⟩
 have hF:∀p∈F1,p.1.lt n=true∧au B (LB m h) m w p.1 p.2:=by
  intro p hp;rw[←hF1] at hp
  rcases List.mem_append.1 hp with hp|hp
  ·exact⟨AV.oI hs.fr.1 (hs.fr.2.1 p hp).1,(hs.fr.2.1 p hp).2⟩
  ·obtain⟨q,_,rfl⟩:=List.mem_map.1 hp;exact⟨(hs.env q.1).zD hdom,hs.env q.1⟩
 have hTe:∀t,au B (LB m h) m w (get ri.env t) (T.getD t undef):=by
  intro t
  rcases qh ri.env t with ⟨v,hv⟩|hu
  ·exact (hs.fr.2.1 _ (henv t v hv)).2
  ·rw[hu];exact .w (.undef _) (fun h=>by cases h)
 have br:=Dh (B:=B) (L:=LB m h) (m:=m) (w:=w) ri.ps.toList (args.toList.map (ev env)) vals.toList ri.env T (by rw[hlen];simp) (by rw[←hvals];simp) (fun t ht=>by rw[hT];exact hlt t (by simpa using ht))
  (fun j x v hx hv=>by
    rw[←hvals] at hv;rw[List.getElem?_map] at hx;simp only[Array.getElem?_toList,Array.getElem?_map] at hv hx
    cases hj:args[j]? with
    |none=>rw[hj] at hx;cases hx
    |some y=>
     rw[hj] at hx hv
     injection hx with hx;injection hv with hv
     subst hx;subst hv
     exact hxa y) hTe
 rw[Km];generalize hT':(ri.ps.toList.zip vals.toList).foldl (fun tmps (p:Nat×Value)=>tmps.setIfInBounds p.1 p.2) T=T' at br ⊢
 have hsim:Sim B (⟨w0.w,F1,some ri.l,w0.obs,[],fun ri h=>(by cases h),w0.ok⟩:Ctx ⟨n,none⟩) ⟨jI ri.env ri.ps.toList (args.toList.map (ev env)),h,n,ri.nt⟩ { tmps:=T',defers:=[] } w m:=
  ⟨hs.base,hs.below,rfl,br.1.trans hT,br.2,hs.heap,hs.dom,hs.ids,Nat.le_refl _,hF,hs.fr.2.2⟩
 refine cJ (hw _ _ _ _ _ hsim) (fun e a1 w1 ⟨st1,m1,hk1,hs1⟩=>?_)
 cases e with
 |normal=>
  intro w1 e1;replace hs1:=hs1.move e1;obtain⟨_,hll1,hLl1,hl1⟩:=hs1.fr.2.2 _ hin;replace hl1:w1.heap[ri.l]?=some (bt ri fn T D .ready none):=hl1;replace hll1:ri.l<w1.heap.size:=hll1;refine⟨_,run_beginRound hl1 rfl,?_⟩
  have hs2:Sim B (⟨w0.w,F1,some ri.l,(ri.l,bt ri fn T D .busy none)::w0.obs.filter (fun q=>decide (q.1≠ri.l)),[],fun ri h=>(by cases h),w0.ok⟩:Ctx ⟨n,none⟩) st1 a1 (w1.putObj ri.l (bt ri fn T D .busy none)) m1:=by
   refine Sim.put (w1:=(⟨w0.w,F1,some ri.l,(ri.l,bt ri fn T D .busy none)::w0.obs.filter (fun q=>decide (q.1≠ri.l)),[],fun ri h=>(by cases h),w0.ok⟩:Ctx ⟨n,none⟩)) (o':=bt ri fn T D .busy none) hs1 hl1 hno (fun _ _ h=>by cases h) hBl rfl rfl (by exact hs1.defers) ⟨hs1.fr.1,fun p hp=>⟨(hs1.fr.2.1 p hp).1,(hs1.fr.2.1 p hp).2.jH (fun ad v h=>tL hl1 hno ad v h)⟩,fun q hq=>?_⟩
   rcases List.mem_cons.1 hq with e|hq
   ·subst e;exact⟨hBl,by simpa using hll1,hLl1,World.putObj_heap_same hll1⟩
   ·obtain⟨hq,hne⟩:=List.mem_filter.1 hq;obtain⟨o1,o2,o3,o4⟩:=hs1.fr.2.2 q hq;exact⟨o1,by simpa using o2,o3,(World.putObj_heap_other (by simpa using hne)).trans o4⟩
  have fin:∀(s:LoopState)(j:Option Code)(st3:St)(a3:Act)(w3:World)(m3:Mm),Sim B (⟨w0.w,F1,some ri.l,(ri.l,bt ri fn T D .busy none)::w0.obs.filter (fun q=>decide (q.1≠ri.l)),[],fun ri h=>(by cases h),w0.ok⟩:Ctx ⟨n,none⟩) st3 a3 w3 m3 →
   ∀h' n' nt',Lek ⟨n,none⟩ st3 ⟨[],h',n',nt'⟩→∃m4,(Bel B.n w0.w (w3.putObj ri.l (bt ri fn T D s j)))∧(∀t,au B (LB m4 h') m4 (w3.putObj ri.l (bt ri fn T D s j)) (get env t) (a.tmps.getD t undef)) ∧
    Sim B (⟨w0.w,F1,some ri.l,[],[],fun ri h=>(by cases h),w0.ok⟩:Ctx ⟨n,none⟩) ⟨[],h',n',nt'⟩ a3 (w3.putObj ri.l (bt ri fn T D s j)) m4∧n≤n' ∧
    (∀p∈w0.F,au B (LB m4 h') m4 (w3.putObj ri.l (bt ri fn T D s j)) p.1 p.2)∧w3.heap[ri.l]?=some (bt ri fn T D .busy none)∧ri.l<w3.heap.size∧¬LB m4 h' ri.l ∧
    (∀q∈w0.obs,q.1≠ri.l→B.n≤q.1∧q.1<(w3.putObj ri.l (bt ri fn T D s j)).heap.size∧¬LB m4 h' q.1∧(w3.putObj ri.l (bt ri fn T D s j)).heap[q.1]?=some q.2):=by
   intro s j st3 a3 w3 m3 hs3 h' n' nt' hle;obtain⟨m4,hs4⟩:=hle _ _ _ _ _ hs3;obtain⟨_,hll4,hLl4,hl4⟩:=hs4.fr.2.2 (ri.l,bt ri fn T D .busy none) (by simp);replace hl4:w3.heap[ri.l]?=some (bt ri fn T D .busy none):=hl4;replace hll4:ri.l<w3.heap.size:=hll4;have hno4:(bt ri fn T D .busy none).isCells=false:=rfl
   have hcm:∀ad v,w3.cell? ad=some v→(w3.putObj ri.l (bt ri fn T D s j)).cell? ad=some v:=fun ad v h=>tL hl4 hno4 ad v h
   have hfr4:=hs4.fr.2.1
   have hold:∀t,au B (LB m4 h') m4 (w3.putObj ri.l (bt ri fn T D s j)) (get env t) (a.tmps.getD t undef):=by
    intro t
    rcases qh env t with ⟨v,hv⟩|hu
    ·refine ((hfr4 (get env t,a.tmps.getD t undef) ?_).2).jH hcm;rw[←hF1];exact List.mem_append.2 (.inr (List.mem_map.2 ⟨(t,v),hv,rfl⟩))
    ·rw[hu];exact .w (.undef _) (fun h=>by cases h)
   have hbase:Sim B (⟨w0.w,F1,some ri.l,[],[],fun ri h=>(by cases h),w0.ok⟩:Ctx ⟨n,none⟩) ⟨[],h',n',nt'⟩ a3 (w3.putObj ri.l (bt ri fn T D s j)) m4:=
    Sim.put (w1:=(⟨w0.w,F1,some ri.l,[],[],fun ri h=>(by cases h),w0.ok⟩:Ctx ⟨n,none⟩)) (o':=bt ri fn T D s j) hs4 hl4 hno4 (fun _ _ h=>by cases h) hBl rfl rfl (by exact hs4.defers) ⟨hs4.fr.1,fun p hp=>⟨(hfr4 p hp).1,(hfr4 p hp).2.jH hcm⟩,fun q hq=>by cases hq⟩
   refine⟨m4,hbase.below,hold,hbase,hs4.fr.1,fun p hp=>?_,hl4,hll4,hLl4,fun q hq hne=>?_⟩
   ·refine ((hfr4 p ?_).2).jH hcm;rw[←hF1];exact List.mem_append.2 (.inl hp)
   ·obtain⟨o1,o2,o3,o4⟩:=hs4.fr.2.2 q (List.mem_cons_of_mem _ (List.mem_filter.2 ⟨hq,by simpa using hne⟩));exact⟨o1,by simpa using o2,o3,(World.putObj_heap_other hne).trans o4⟩
  refine cJ (hk1 _ _ _ _ _ hs2) (fun e a3 w3 ⟨st3,m3,hk3,hs3⟩=>?_)
  cases e with
  |normal=>
   intro w3 e3;replace hs3:=hs3.move e3;obtain⟨h',n',nt',hle,hkv⟩:=hk3;obtain⟨m4,hbl,hold,hbase,hnn,hF0,hl4,hll4,hLl4,hobs⟩:=fin .ready none st3 a3 w3 m3 hs3 h' n' nt' hle;refine⟨_,_,run_endRound none hl4,?_⟩;show K' (a.put o.dst (.bool true)) _;refine hK h' n' _ _ m4 hkv ⟨hbase.base,hbl,by rw[gT];exact hs.defers,by rw[gS];exact hs.size,?_,hbase.heap,hbase.dom,hbase.ids,Nat.le_trans hs.fr.1 hnn,fun p hp=>⟨(hs.fr.2.1 p hp).1,hF0 p hp⟩,fun q hq=>?_⟩
   ·exact jO env a o.dst _ _ (by rw[hs.size];exact hdk) (eY true) hold
   ·by_cases hql:q.1=ri.l
    ·obtain⟨o1,o2,o3,o4⟩:=hs.fr.2.2 q hq;rw[hql] at o4 o1 ⊢;rw[hl] at o4;refine⟨o1,by simpa using hll4,hLl4,?_⟩;rw[←o4];exact World.putObj_heap_same hll4
    ·exact hobs q hq hql
  |ret=>
   intro w3 e3;replace hs3:=hs3.move e3;obtain⟨h',n',nt',hle,hkv⟩:=hk3;obtain⟨m4,hbl,hold,hbase,hnn,hF0,hl4,hll4,hLl4,hobs⟩:=fin .done (some .ret) st3 a3 w3 m3 hs3 h' n' nt' hle;refine⟨_,_,run_endRound (some .ret) hl4,?_⟩;show K' (a.put o.dst (.bool false)) _;refine hKl (⟨w0.w,w0.F,w0.r,(ri.l,bt ri fn T D .done (some .ret))::w0.obs.filter (fun q=>decide (q.1≠ri.l)),w0.ds,fun ri h=>(by cases h),w0.ok⟩:Ctx ⟨k,none⟩) h' n' _ _ m4 ⟨rfl,rfl,rfl,rfl,⟨fn,T,D,by simp⟩,fun q hq hne=>List.mem_cons_of_mem _ (List.mem_filter.2 ⟨hq,by simpa using hne⟩)⟩ hkv
    ⟨hbase.base,hbl,by rw[gT];exact hs.defers,by rw[gS];exact hs.size,?_,hbase.heap,hbase.dom,hbase.ids,Nat.le_trans hs.fr.1 hnn,fun p hp=>⟨(hs.fr.2.1 p hp).1,hF0 p hp⟩,fun q hq=>?_⟩
   ·exact jO env a o.dst _ _ (by rw[hs.size];exact hdk) (eY false) hold
   ·rcases List.mem_cons.1 hq with e|hq
    ·subst e;exact⟨hBl,by simpa using hll4,hLl4,World.putObj_heap_same hll4⟩
    ·obtain⟨hq,hne⟩:=List.mem_filter.1 hq;exact hobs q hq (by simpa using hne)
  |_=>exact hk3.elim
 |_=>exact hk1.elim
theorem Kn{k:Nat}{ri:RI}{w0:Ctx ⟨k,some ri⟩}{nt:Nat}(o:Oper)(f:Operand)(args:Array Operand)(tys:Array TypeId)(ho:o.op=.call { callee:=.value f,args:=args,argTypes:=tys }){ow fl:Bool}(hf:ev env f=.w ow fl (.yl ri.l)){Kv:AV→aj→Nat→Prop}(hw:Round P ri (args.toList.map (ev env)) h n (fun h' n'=>Kv (.w false false (.bool true)) h' n'))(hs:Sim B w0 ⟨env,h,n,nt⟩ a w m)(hdk:dOk nt o.dst)(Q:Exit→Act→World→Prop)(K':Act→World→Prop)(hK:∀v h' n' a' w' m',Kv v h' n'→Sim B w0 ⟨put env o.dst v,h',n',nt⟩ a' w' m'→K' a' w'):o.wpT w0.r P a w K' Q:=by
 obtain⟨hlen,hlt,hw⟩:=hw;refine Di (Kl:=fun _ _=>False) o f args tys ho hf ⟨hlen,hlt,pD hw (fun e s hq=>?_)⟩ hs hdk Q K' (fun h' n' a' w' m' hk hs'=>hK _ _ _ _ _ m' hk hs') (fun _ _ _ _ _ _ _ hk=>hk.elim)
 cases e with
 |normal=>
  refine pD hq (fun e s hq=>?_)
  cases e with
  |normal=>exact hq
  |_=>exact hq.elim
 |_=>exact hq.elim
end
def nO{fk:Fk}(w0:Ctx fk):Prop:=w0.ds.Nodup∧∀D∈w0.ds,(D,Obj.deferred (some []))∈w0.obs
def de(fk:Fk)(P:Program)(c:Code)(st:St)(K:Exit→St→Prop):Prop:=
 ∀(B:Base)(w0:Ctx fk)(a:Act)(w:World)(m:Mm),w0.r=none→nO w0→Sim B w0 st a w m →
  c.wpT none P (fun e a' w'=>∃(w1:Ctx fk)(st':St)(m':Mm),w1.w=w0.w∧w1.r=none∧nO w1∧K e st'∧Sim B w1 st' a' w' m') a w
def cK(k:Nat)(ri:RI)(P:Program)(c:Code)(st:St)(K Kd:Exit→St→Prop):Prop:=
 ∀(B:Base)(w0:Ctx ⟨k,some ri⟩)(a:Act)(w:World)(m:Mm),Sim B w0 st a w m →
  c.wpT w0.r P (fun e a' w'=>(∃st' m',K e st'∧Sim B w0 st' a' w' m')∨∃w1:Ctx ⟨k,none⟩,nN w0 w1∧∃st' m',Kd e st'∧Sim B w1 st' a' w' m') a w
theorem eD{k:Nat}{ri:RI}{P:Program}{K Kd:Exit→St→Prop}{st:St}{c:Code}(h:aY ⟨k,some ri⟩ P c st K):cK k ri P c st K Kd:=
 fun B w0 a w m hs=>cJ (h B w0 a w m hs) (fun _ _ _ hx=>.inl hx)
section
variable{P:Program}{K:Exit→St→Prop}{st st':St}
theorem bY{c:Code}(h:aY fk P c st K):de fk P c st K:=fun B w0 a w m hr hd hs=>by
 have:=h B w0 a w m hs;rw[hr] at this;exact cJ this (fun e a' w' ⟨st',m',h1,h2⟩=>⟨w0,st',m',rfl,hr,hd,h1,h2⟩)
def uJ(fk:Fk)(P:Program)(b:Code)(K:Exit→St→Prop):Exit→St→Prop
 |.normal,s=>de fk P b s K
 |e,s=>K e s
theorem b7{x y:Code}(h:de fk P x st (uJ fk P y K)):de fk P (.seq x y) st K:=
 fun B w0 a w m hr hd hs=>vg (cJ (h B w0 a w m hr hd hs) (fun e a' w' ⟨w1,st',m',g1,g2,g3,h1,h2⟩=>by
  cases e with
  |normal=>exact cJ (h1 B w1 a' w' m' g2 g3 h2) (fun e a2 w2 ⟨w3,s3,m3,k1,k2,k3,k4,k5⟩=>⟨w3,s3,m3,k1.trans g1,k2,k3,k4,k5⟩)
  |_=>exact⟨w1,st',m',g1,g2,g3,h1,h2⟩))
theorem jW{id:Nat}{c:Code}(h:de fk P c st (fw id K)):de fk P (.block id c) st K:=
 fun B w0 a w m hr hd hs=>vh (cJ (h B w0 a w m hr hd hs) (fun e a' w' ⟨w1,st',m',g1,g2,g3,h1,h2⟩=>by
  cases e with
  |exit id'=>
   simp only[Exit.inBlock];simp only[fw] at h1;split
   ·rename_i hid;simp only[hid,if_true] at h1;exact⟨w1,st',m',g1,g2,g3,h1,h2⟩
   ·rename_i hid;simp only[hid,if_false] at h1;exact⟨w1,st',m',g1,g2,g3,h1,h2⟩
  |_=>exact⟨w1,st',m',g1,g2,g3,h1,h2⟩))
theorem Ko{c:Code}{K':Exit→St→Prop}(h:de fk P c st K)(hk:∀e s,K e s→K' e s):de fk P c st K':=
 fun B w0 a w m hr hd hs=>cJ (h B w0 a w m hr hd hs) (fun e a' w' ⟨w1,st',m',g1,g2,g3,h1,h2⟩=>⟨w1,st',m',g1,g2,g3,hk _ _ h1,h2⟩)
theorem Ks{c:Code}(hle:Lek fk st st')(h:de fk P c st' K):de fk P c st K:=
 fun B w0 a w m hr hd hs=>let ⟨m',hs'⟩:=hle B w0 a w m hs;h B w0 a w m' hr hd hs'
theorem yb{g:Operand}{ps:Array Tmp}{assign body:Code}{env:Env}{h:aj}{n nt:Nat}{gf:FuncId}{aE:List AV}(hf:du (ev env g)=some (gf,aE)){fn:Func}{c:Code}(hfn:P.funcs[gf]?=some fn) (hname:(fn.name == "runtime.NumGoroutine")=false) (hb:fn.body=some c) (hnt:aE.length+1≤fn.ntmps) (hw:∀l,cK n ⟨l,env,nt,ps,assign,body⟩ P c ⟨cT 0 (.w false false (.yl l)::aE),h,n,fn.ntmps⟩ (dA P fn.results.toList fun _ h' n'=>K .normal ⟨env,h',n',nt⟩) (dA P fn.results.toList fun _ h' n'=>K .ret ⟨env,h',n',nt⟩)):de fk P (.rangeFunc g ps assign body) ⟨env,h,n,nt⟩ K:=by
 intro B w0 a w m hr hd hs;refine FW ?_;intro w e0 fni;replace hs:=hs.move e0;have hxf:au B (LB m h) m w (ev env g) (a.eval g):=jb g (fun t _=>hs.env t)
 have hfv:∃cv:Array Value,a.eval g=.func (.func gf) #[] cv∧aE.length=cv.size∧∀(j:Nat)(p:AV)(v:Value),aE[j]?=some p→cv[j]?=some v→au B (LB m h) m w p v:=by
  unfold du at hf;split at hf
  ·rename_i g' caps' e
   injection hf with hf;injection hf with h1 h2;subst h1;subst h2
   rw[e] at hxf;generalize hv:a.eval g=vf at hxf
   cases hxf with|fn h1 h2=>exact⟨_,rfl,h1,h2⟩
  ·rename_i own f' g' caps' e
   injection hf with hf;injection hf with h1 h2;subst h1;subst h2
   rw[e] at hxf;generalize hv:a.eval g=vf at hxf
   cases hxf with
   |w h1 _=>
    cases h1 with
    |fn h1 h2=>
     refine⟨_,rfl,by simpa using h1,fun j p v hp hv=>?_⟩;obtain⟨q,hq,rfl⟩:=cX hp;exact .w (h2 j q v hq hv) (fun h=>by cases h)
  ·cases hf
 obtain⟨cv,hfe,hcl,hcr⟩:=hfv
 have hdom:∀i,m.dom i→i<n:=fun i hd=>(hs.dom i).1 hd
 obtain⟨ri,hri⟩:∃ri:RI,ri=⟨w.heap.size+1,env,nt,ps,assign,body⟩:=⟨_,rfl⟩;obtain⟨D,hD⟩:∃D,D=w.heap.size:=⟨_,rfl⟩
 have hrl:ri.l=w.heap.size+1:=by rw[hri]
 have hs1:Sim B (⟨w0.w,[],none,[(D,.deferred (some []))],w0.ds,fun ri h=>(by cases h),w0.ok⟩:Ctx ⟨0,none⟩) ⟨env,h,n,nt⟩ a (w.alloc (.deferred (some []))) m:=by
  refine Sim.lay (w1:=(⟨w0.w,[],none,[(D,.deferred (some []))],w0.ds,fun ri h=>(by cases h),w0.ok⟩:Ctx ⟨0,none⟩)) (.deferred (some [])) hs rfl rfl (by exact hs.defers) ⟨Nat.zero_le _,(fun p hp=>by cases hp),fun q hq=>?_⟩;simp only[List.mem_singleton] at hq;subst hq;rw[hD];exact⟨hs.room,by simp,fun hl=>by have:=cO hs.heap hl;omega,World.alloc_heap_new w _⟩
 have hb1:Bel w.heap.size w (w.alloc (.deferred (some []))):=(Bel.refl _ w).alloc (Nat.le_refl _) _;have hb2:Bel (w.alloc (.deferred (some []))).heap.size (w.alloc (.deferred (some []))) ((w.alloc (.deferred (some []))).alloc (bt ri fni a.tmps D .ready none)):=(Bel.refl _ _).alloc (Nat.le_refl _) _
 have hkeep:∀b,b<w.heap.size→((w.alloc (.deferred (some []))).alloc (bt ri fni a.tmps D .ready none)).heap[b]?=w.heap[b]?:=fun b hb=>(hb2.block b (by simp;omega)).trans (hb1.block b hb)
 have hmono:∀x v,au B (LB m h) m w x v→au B (LB m h) m ((w.alloc (.deferred (some []))).alloc (bt ri fni a.tmps D .ready none)) x v:=fun x v hr=>hr.mono (Mm.le.refl m) (fun _ _ h=>h) (fun b hb' _=>hkeep b hb')
 have hrec0:Eu ⟨n,some ri⟩ (w0.F++env.map (fun p=>(get env p.1,a.tmps.getD p.1 undef))) ((ri.l,bt ri fni a.tmps D .ready none)::(D,.deferred (some []))::w0.obs):=fun ri' e=>by
  injection e with e;subst e
  exact⟨fni,a.tmps,D,by simp,by rw[hri];exact hs.size,fun t v hv=>List.mem_append.2 (.inr (List.mem_map.2 ⟨(t,v),by rw[hri] at hv;exact hv,by rw[hri]⟩))⟩
 have hs2:Sim B (⟨w0.w,w0.F++env.map (fun p=>(get env p.1,a.tmps.getD p.1 undef)),none,(ri.l,bt ri fni a.tmps D .ready none)::(D,.deferred (some []))::w0.obs,w0.ds,
  hrec0,w0.ok⟩:Ctx ⟨n,some ri⟩)
  ⟨env,h,n,nt⟩ a ((w.alloc (.deferred (some []))).alloc (bt ri fni a.tmps D .ready none)) m:=by
  refine Sim.lay (w1:=(⟨w0.w,w0.F++env.map (fun p=>(get env p.1,a.tmps.getD p.1 undef)),none,(ri.l,bt ri fni a.tmps D .ready none)::(D,.deferred (some []))::w0.obs,w0.ds,hrec0,w0.ok⟩:Ctx ⟨n,some ri⟩)) _ hs1 rfl rfl (by exact hs.defers) ⟨Nat.le_refl _,fun p hp=>?_,fun q hq=>?_⟩
  ·rcases List.mem_append.1 hp with hp|hp
   ·exact⟨AV.oI hs.fr.1 (hs.fr.2.1 p hp).1,hmono _ _ (hs.fr.2.1 p hp).2⟩
   ·obtain⟨q,_,rfl⟩:=List.mem_map.1 hp;exact⟨(hs.env q.1).zD hdom,hmono _ _ (hs.env q.1)⟩
  ·rcases List.mem_cons.1 hq with e|hq
   ·subst e;refine⟨by simp only[hrl];have:=hs.room;omega,by simp only[hrl];simp,fun hl=>by have:=cO hs.heap hl;simp only[hrl] at this;omega,?_⟩;simp only[hrl];have:=World.alloc_heap_new (w.alloc (.deferred (some []))) (bt ri fni a.tmps D .ready none)
    rwa [World.size_alloc] at this
   ·rcases List.mem_cons.1 hq with e|hq
    ·subst e
     have e:∀k,k=w.heap.size→((w.alloc (.deferred (some []))).alloc (bt ri fni a.tmps D .ready none)).heap[k]?=some (.deferred (some [])):=fun k hk=>by
      rw[hk];exact (hb2.block _ (by simp)).trans (World.alloc_heap_new w _)
     exact⟨by simp only[hD];exact hs.room,by simp;omega,fun hl=>by have:=cO hs.heap hl;omega,e D hD⟩
    ·obtain⟨o1,o2,o3,o4⟩:=hs.fr.2.2 q hq;exact⟨o1,by simp;omega,o3,(hkeep _ o2).trans o4⟩
 have hrec:((w.alloc (.deferred (some []))).alloc (.loop { state:=.ready,pending:=none,fn:=fni,tmps:=a.tmps,params:=ps,assign,body,defers:=w.heap.size }))=(w.alloc (.deferred (some []))).alloc (bt ri fni a.tmps D .ready none):=by
  rw[hri,hD];rfl
 have hent:=run_enterLoop_outer (P:=P) (w:=w) fni a.tmps ps assign body;rw[hrec] at hent;clear hb2;generalize (w.alloc (.deferred (some []))).alloc (bt ri fni a.tmps D .ready none)=W2 at hs2 hkeep hmono hent;refine⟨w.heap.size+1,[{ target:=.collected w.heap.size,args:=#[] }],W2,{ target:=.fn (.func gf) cv,args:=#[.func (.yield (w.heap.size+1)) #[] #[]] },W2,gf,#[.func (.yield (w.heap.size+1)) #[] #[]]++cv,W2,hent,?_,?_,?_⟩
 ·have he:a.eval (.const (.func (.yield (w.heap.size+1)) #[] #[]))=.func (.yield (w.heap.size+1)) #[] #[]:=rfl;simp[resolve,rangeCall,hfe,he,Deferred.ofValue]
 ·have hn':¬fn.name = "runtime.NumGoroutine" := by simpa using hname
  simp[invoke,callFunc,hfn,hn',hb]
 ·refine rh hfn hb ?_
  have hlen:(AV.w false false (.yl ri.l)::aE).length=(#[Value.func (.yield (w.heap.size+1)) #[] #[]]++cv).size:=by simp[hcl];omega
  have hvs:∀(j:Nat)(x:AV)(v:Value),(AV.w false false (.yl ri.l)::aE)[j]?=some x→(#[Value.func (.yield (w.heap.size+1)) #[] #[]]++cv)[j]?=some v→au B (LB m h) m W2 x v:=by
   intro j x v hx hv
   cases j with
   |zero=>
    rw[Array.getElem?_append_left (by simp)] at hv;simp at hx hv;subst hx;subst hv;rw[hrl];exact .w (.yl _) (fun h=>by cases h)
   |succ j=>
    rw[Array.getElem?_append_right (by simp)] at hv;simp only[List.getElem?_cons_succ] at hx;have hsz:(#[Value.func (.yield (w.heap.size+1)) #[] #[]]:Array Value).size=1:=rfl;rw[hsz,Nat.add_sub_cancel] at hv;exact hmono _ _ (hcr j x v hx hv)
  generalize (#[Value.func (.yield (w.heap.size+1)) #[] #[]]++cv)=vs at hlen hvs;have hw':=hw ri.l;rw[show (⟨ri.l,env,nt,ps,assign,body⟩:RI)=ri from by rw[hri]] at hw'
  have hnt':(AV.w false false (.yl ri.l)::aE).length≤fn.ntmps:=by simpa using hnt
  generalize hav:AV.w false false (.yl ri.l)::aE=avs at hlen hvs hw' hnt'
  have hsim:Sim B (⟨w0.w,w0.F++env.map (fun p=>(get env p.1,a.tmps.getD p.1 undef)),none,(ri.l,bt ri fni a.tmps D .ready none)::(D,.deferred (some []))::w0.obs,[],
   hrec0,w0.ok⟩:Ctx ⟨n,some ri⟩)
    ⟨cT 0 avs,h,n,fn.ntmps⟩ { tmps:=vs++Array.replicate (fn.ntmps-vs.size) undef,defers:=[] } W2 m:=by
   refine⟨hs2.base,hs2.below,rfl,by simp;omega,fun t=>?_,hs2.heap,hs2.dom,hs2.ids,hs2.fr⟩;show au _ _ _ _ (get (cT 0 avs) t) _;rw[ya];split
   ·rename_i ht
    have hlt:t<avs.length:=by omega
    have:(vs++Array.replicate (fn.ntmps-vs.size) undef).getD t undef=vs[t]'(by omega):=by
     rw[Array.getD_eq_getD_getElem?,Array.getElem?_append_left (by omega),Array.getElem?_eq_getElem (by omega)];rfl
    rw[this];exact hvs t _ _ (by simpa using getD_some hlt) (Array.getElem?_eq_getElem (by omega))
   ·exact .w (.undef _) (fun h=>by cases h)
  have main:∀{fk':Fk}(w1:Ctx fk')(fn2:FuncId)(T2:Array Value)(D2:Nat)(s:LoopState)(j:Option Code)(st':St)(a':Act)(w':World)(m':Mm)(Kv:aj→Nat→Prop),fk'.k=n→w1.w=w0.w→(∀p∈w0.F++env.map (fun p=>(get env p.1,a.tmps.getD p.1 undef)),p∈w1.F)→w1.ds=[] →
   (ri.l,bt ri fn2 T2 D2 s j)∈w1.obs→s≠.busy→(∀q∈(D,Obj.deferred (some []))::w0.obs,q∈w1.obs)→Sim B w1 st' a' w' m'→cG P fn.results.toList st' (fun _ h' n'=>Kv h' n') →
   a'.defers=[]∧∃v w4,(results fn a'.tmps).run P w'=.ok v w'∧(Instr.endLoop (w.heap.size+1)).run P w'=.ok j w4∧∃(w2:Ctx fk)(h':aj)(n':Nat)(m2:Mm),w2.w=w0.w∧w2.r=none∧nO w2∧Kv h' n'∧Sim B w2 ⟨env,h',n',nt⟩ { a with defers:=[{ target:=.collected w.heap.size,args:=#[] }]++a.defers } w4 m2:=by
   intro fk' w1 fn2 T2 D2 s j st' a' w' m' Kv hk1 hww hF1 hds1 hrin hsb hobs1 hs' hr';refine⟨by have:=hs'.defers;rw[hds1] at this;exact this,?_⟩;unfold cG at hr';split at hr'
   ·rename_i vs' d hres;obtain⟨hdd,hkv⟩:=hr';obtain⟨us,h1,h2,h3⟩:=om hs' _ _ _ hres hdd
    have hrun:(results fn a'.tmps).run P w'=.ok (if h:us.toArray.size=1 then us.toArray[0] else .tuple us.toArray) w':=by
     have he:results fn a'.tmps=(do
      let vs ←fn.results.mapM (mq a'.tmps)
      pure (if h:vs.size=1 then vs[0] else .tuple vs)):=rfl
     rw[he,Array.mapM_eq_mapM_toList];simp only[Sem.run_bind,Sem.run_map,h1,Result.andThen_ok,Sem.run_pure]
    obtain⟨hBl,hll,hLl,hl⟩:=hs'.fr.2.2 (ri.l,bt ri fn2 T2 D2 s j) hrin
    replace hl:w'.heap[w.heap.size+1]?=some (bt ri fn2 T2 D2 s j):=by rw[←hrl];exact hl
    replace hll:w.heap.size+1<w'.heap.size:=by rw[←hrl];exact hll
    have hno:(bt ri fn2 T2 D2 s j).isCells=false:=rfl;refine⟨_,w'.putObj (w.heap.size+1) (bt ri fn2 T2 D2 .exhausted j),hrun,run_endLoop hl hsb,?_⟩
    have hcm:∀ad v,w'.cell? ad=some v→(w'.putObj (w.heap.size+1) (bt ri fn2 T2 D2 .exhausted j)).cell? ad=some v:=fun ad v h=>tL hl hno ad v h
    have hfr':=hs'.fr.2.1
    have hold:∀t,au B (LB m' st'.heap) m' (w'.putObj (w.heap.size+1) (bt ri fn2 T2 D2 .exhausted j)) (get env t) (a.tmps.getD t undef):=by
     intro t
     rcases qh env t with ⟨v,hv⟩|hu
     ·exact ((hfr' (get env t,a.tmps.getD t undef) (hF1 _ (List.mem_append.2 (.inr (List.mem_map.2 ⟨(t,v),hv,rfl⟩))))).2).jH hcm
     ·rw[hu];exact .w (.undef _) (fun h=>by cases h)
    have hbase:Sim B (⟨w0.w,[],none,[],[],fun ri h=>(by cases h),w0.ok⟩:Ctx ⟨0,none⟩) st' a' (w'.putObj (w.heap.size+1) (bt ri fn2 T2 D2 .exhausted j)) m':=
     Sim.put (w1:=(⟨w0.w,[],none,[],[],fun ri h=>(by cases h),w0.ok⟩:Ctx ⟨0,none⟩)) (o':=bt ri fn2 T2 D2 .exhausted j) hs' hl hno (fun _ _ h=>by cases h) (by rw[←hrl];exact hBl) hww.symm rfl (by have:=hs'.defers;rw[hds1] at this;exact this) ⟨Nat.zero_le _,(fun p hp=>by cases hp),fun q hq=>by cases hq⟩
    have hobs:∀q,q∈(D,Obj.deferred (some []))::w0.obs→B.n≤q.1∧q.1<(w'.putObj (w.heap.size+1) (bt ri fn2 T2 D2 .exhausted j)).heap.size∧¬LB m' st'.heap q.1∧(w'.putObj (w.heap.size+1) (bt ri fn2 T2 D2 .exhausted j)).heap[q.1]?=some q.2:=by
     intro q hq
     have hne:q.1≠w.heap.size+1:=by
      rcases List.mem_cons.1 hq with e|hq
      ·subst e;simp only[hD];omega
      ·have:=(hs.fr.2.2 q hq).2.1;omega
     obtain⟨o1,o2,o3,o4⟩:=hs'.fr.2.2 q (hobs1 q hq);exact⟨o1,by simpa using o2,o3,(World.putObj_heap_other hne).trans o4⟩
    refine⟨⟨w0.w,w0.F,none,(D,.deferred (some []))::w0.obs,D::w0.ds,fun ri' e=>?_,w0.ok⟩,st'.heap,st'.nxt,m',rfl,rfl,⟨?_,?_⟩,hkv,⟨hbase.base,hbase.below,?_,hs.size,hold,hbase.heap,hbase.dom,hbase.ids,Nat.le_trans hs.fr.1 (by have:=hs'.fr.1;rw[hk1] at this;exact this),fun p hp=>?_,hobs⟩⟩
    ·obtain⟨f1,T1,D1,g1,g2,g3⟩:=w0.bt ri' e;exact⟨f1,T1,D1,List.mem_cons_of_mem _ g1,g2,g3⟩
    ·refine List.nodup_cons.2 ⟨fun hin=>?_,hd.1⟩;have:=(hs.fr.2.2 _ (hd.2 D hin)).2.1;simp only[hD] at this;omega
    ·intro D' hD'
     rcases List.mem_cons.1 hD' with e|hD'
     ·subst e;simp
     ·exact List.mem_cons_of_mem _ (hd.2 D' hD')
    ·show [_]++a.defers=marks (D::w0.ds);rw[hs.defers,hD];rfl
    ·exact⟨(hs.fr.2.1 p hp).1,((hfr' p (hF1 p (List.mem_append.2 (.inl hp)))).2).jH hcm⟩
   ·exact hr'.elim
  refine cJ (hw' _ _ _ _ _ hsim) (fun e a' w' hq=>?_)
  have fin1:∀(st':St)(m':Mm),cG P fn.results.toList st' (fun _ h' n'=>K .normal ⟨env,h',n',nt⟩)→Sim B (⟨w0.w,w0.F++env.map (fun p=>(get env p.1,a.tmps.getD p.1 undef)),none,(ri.l,bt ri fni a.tmps D .ready none)::(D,.deferred (some []))::w0.obs,[],hrec0,w0.ok⟩:Ctx ⟨n,some ri⟩) st' a' w' m' →
   a'.defers=[]∧∀w1x,EnvD.E w' w1x→∃v,(results fn a'.tmps).run P w1x=.ok v w1x∧yB P (w.heap.size+1) none (fun e a' w'=>∃(w1:Ctx fk)(st':St)(m':Mm),w1.w=w0.w∧w1.r=none∧nO w1∧K e st'∧Sim B w1 st' a' w' m') { a with defers:=[{ target:=.collected w.heap.size,args:=#[] }]++a.defers } (.returned v) w1x:=by
   intro st' m' hr' hs';refine⟨(main (⟨w0.w,w0.F++env.map (fun p=>(get env p.1,a.tmps.getD p.1 undef)),none,(ri.l,bt ri fni a.tmps D .ready none)::(D,.deferred (some []))::w0.obs,[],hrec0,w0.ok⟩:Ctx ⟨n,some ri⟩) fni a.tmps D .ready none st' a' w' m' (fun h' n'=>K .normal ⟨env,h',n',nt⟩) rfl rfl (fun p hp=>hp) rfl (by simp) (by simp) (fun q hq=>List.mem_cons_of_mem _ hq) hs' hr').1,fun w1x e1=>?_⟩;obtain⟨_,v,_,h2,_⟩:=main (⟨w0.w,w0.F++env.map (fun p=>(get env p.1,a.tmps.getD p.1 undef)),none,(ri.l,bt ri fni a.tmps D .ready none)::(D,.deferred (some []))::w0.obs,[],hrec0,w0.ok⟩:Ctx ⟨n,some ri⟩) fni a.tmps D .ready none st' a' w1x m' (fun h' n'=>K .normal ⟨env,h',n',nt⟩) rfl rfl (fun p hp=>hp) rfl (by simp) (by simp) (fun q hq=>List.mem_cons_of_mem _ hq) (hs'.move e1) hr';refine⟨v,h2,fun w2x e2=>?_⟩;obtain⟨_,_,w4,_,h3,w2,h',n',m2,g1,g2,g3,g4,g5⟩:=main (⟨w0.w,w0.F++env.map (fun p=>(get env p.1,a.tmps.getD p.1 undef)),none,(ri.l,bt ri fni a.tmps D .ready none)::(D,.deferred (some []))::w0.obs,[],hrec0,w0.ok⟩:Ctx ⟨n,some ri⟩) fni a.tmps D .ready none st' a' w2x m' (fun h' n'=>K .normal ⟨env,h',n',nt⟩) rfl rfl (fun p hp=>hp) rfl (by simp) (by simp) (fun q hq=>List.mem_cons_of_mem _ hq) ((hs'.move e1).move e2) hr';exact⟨none,w4,h3,w2,_,m2,g1,g2,g3,g4,g5⟩
  have fin2:∀(w1:Ctx ⟨n,none⟩)(st':St)(m':Mm),nN (⟨w0.w,w0.F++env.map (fun p=>(get env p.1,a.tmps.getD p.1 undef)),none,(ri.l,bt ri fni a.tmps D .ready none)::(D,.deferred (some []))::w0.obs,[],hrec0,w0.ok⟩:Ctx ⟨n,some ri⟩) w1 →
   cG P fn.results.toList st' (fun _ h' n'=>K .ret ⟨env,h',n',nt⟩)→Sim B w1 st' a' w' m' →
   a'.defers=[]∧∀w1x,EnvD.E w' w1x→∃v,(results fn a'.tmps).run P w1x=.ok v w1x∧yB P (w.heap.size+1) none (fun e a' w'=>∃(w1:Ctx fk)(st':St)(m':Mm),w1.w=w0.w∧w1.r=none∧nO w1∧K e st'∧Sim B w1 st' a' w' m') { a with defers:=[{ target:=.collected w.heap.size,args:=#[] }]++a.defers } (.returned v) w1x:=by
   rintro w1 st' m' ⟨l1,l2,l3,l4,⟨fn2,T2,D2,l5⟩,l6⟩ hr' hs'
   have hq0:∀q∈(D,Obj.deferred (some []))::w0.obs,q∈w1.obs:=fun q hq=>l6 q (List.mem_cons_of_mem _ hq) (by
    rcases List.mem_cons.1 hq with e|hq
    ·subst e;simp only[hrl,hD];omega
    ·have:=(hs.fr.2.2 q hq).2.1;omega)
   refine⟨(main w1 fn2 T2 D2 .done (some .ret) st' a' w' m' (fun h' n'=>K .ret ⟨env,h',n',nt⟩) rfl l1 (fun p hp=>by rw[l2];exact hp) l4 l5 (by simp) hq0 hs' hr').1,fun w1x e1=>?_⟩;obtain⟨_,v,_,h2,_⟩:=main w1 fn2 T2 D2 .done (some .ret) st' a' w1x m' (fun h' n'=>K .ret ⟨env,h',n',nt⟩) rfl l1 (fun p hp=>by rw[l2];exact hp) l4 l5 (by simp) hq0 (hs'.move e1) hr';refine⟨v,h2,fun w2x e2=>?_⟩;obtain⟨_,_,w4,_,h3,w2,h',n',m2,g1,g2,g3,g4,g5⟩:=main w1 fn2 T2 D2 .done (some .ret) st' a' w2x m' (fun h' n'=>K .ret ⟨env,h',n',nt⟩) rfl l1 (fun p hp=>by rw[l2];exact hp) l4 l5 (by simp) hq0 ((hs'.move e1).move e2) hr';exact⟨some .ret,w4,h3,zK ⟨w2,_,m2,g1,g2,g3,g4,g5⟩⟩
  rcases hq with ⟨st',m',hk,hs'⟩|⟨w1,hl,st',m',hk,hs'⟩
  ·cases e with
   |normal=>exact fin1 st' m' hk hs'
   |ret=>exact fin1 st' m' hk hs'
   |_=>exact hk.elim
  ·cases e with
   |normal=>exact fin2 w1 st' m' hl hk hs'
   |ret=>exact fin2 w1 st' m' hl hk hs'
   |_=>exact hk.elim
theorem qj{g:Operand}{ps:Array Tmp}{assign body:Code}{env:Env}{h:aj}{n nt:Nat}{gf:FuncId}{aE:List AV}(hf:du (ev env g)=some (gf,aE)){fn:Func}{c:Code}(hfn:P.funcs[gf]?=some fn) (hname:(fn.name == "runtime.NumGoroutine")=false) (hb:fn.body=some c) (hnt:aE.length+1≤fn.ntmps) (hw:∀l,aY ⟨n,some ⟨l,env,nt,ps,assign,body⟩⟩ P c ⟨cT 0 (.w false false (.yl l)::aE),h,n,fn.ntmps⟩ (dA P fn.results.toList fun _ h' n'=>K .normal ⟨env,h',n',nt⟩)):de fk P (.rangeFunc g ps assign body) ⟨env,h,n,nt⟩ K:=
 yb hf hfn hname hb hnt (fun l=>eD (hw l))
theorem m7{f:FuncId}{fn:Func}{c:Code}{args:List PV}{res:PV}{fr:Bool}(hf:P.funcs[f]?=some fn) (hname:(fn.name == "runtime.NumGoroutine")=false) (hb:fn.body=some c) (hnt:args.length≤fn.ntmps) (h:de fk0 P c ⟨fS 0 args,[],0,fn.ntmps⟩ (oZ P fn.results.toList res fr)):aA P f args res fr:=by
 refine⟨⟨fn,hf,hname,by rw[hb];rfl⟩,fun G w vs hok hlen hrep=>?_⟩;refine zL hf hb ?_
 have hsim:Sim ⟨w.heap.size,G⟩ (⟨w,[],none,[],[],fun ri h=>(by cases h),hok⟩:Ctx fk0) ⟨fS 0 args,[],0,fn.ntmps⟩ { tmps:=vs++Array.replicate (fn.ntmps-vs.size) undef,defers:=[] } w ⟨fun _ _=>none,fun _=>0,fun _=>False⟩:=by
  refine⟨rfl,Bel.refl _ _,rfl,by simp;omega,fun t=>?_,⟨fun id cells hin=>(by cases hin),List.Pairwise.nil⟩,fun i=>⟨fun h=>h.elim,fun h=>absurd h (Nat.not_lt_zero i)⟩,fun id c hin=>(by cases hin),Nat.zero_le _,(fun p hp=>by cases hp),fun q hq=>by cases hq⟩;show au _ _ _ _ (get (fS 0 args) t) _;rw[tq];split
  ·rename_i ht
   have hlt:t<args.length:=by omega
   refine .w ?_ (fun h=>by cases h)
   have:(vs++Array.replicate (fn.ntmps-vs.size) undef).getD t undef=vs[t]'(by omega):=by
    rw[Array.getD_eq_getD_getElem?,Array.getElem?_append_left (by omega),Array.getElem?_eq_getElem (by omega)];rfl
   rw[this]
   refine (hrep t _ _ (by simpa using getD_some hlt) (Array.getElem?_eq_getElem (by omega))).imp fun b hg=>⟨?_,(fun h=>by cases h),fun _=>hg⟩
   rintro⟨id,cells,C,hin,_⟩
   cases hin
  ·exact .w (.undef _) (fun h=>by cases h)
 refine cJ (h _ _ _ _ _ rfl ⟨List.nodup_nil,fun D h=>by cases h⟩ hsim) (fun e a' w' ⟨w1,st',m',g1,g2,g3,hk,hs⟩=>?_)
 have main:k8 P fn.results.toList st' res fr→∀(ds:List Nat)(w1:Ctx fk0)(a1:Act)(W:World),w1.w=w→w1.ds=ds→nO w1→Sim ⟨w.heap.size,G⟩ w1 st' a1 W m' →
  lP P fn a1.tmps (fun e w'=>∃v,e=.returned v∧Bel w.heap.size w w'∧Rep (fun b=>(b<w.heap.size→G b)∧(fr=true→w.heap.size≤b)) w' res v) (marks ds) W:=by
  intro hr ds
  induction ds with
  |nil=>
   intro w1 a1 W hw1 hds hdk hs;intro W e1;replace hs:=hs.move e1;unfold k8 at hr;split at hr
   ·rename_i vs' d hres;obtain⟨hd,hfz,hfr⟩:=hr;obtain⟨us,h1,h2,h3⟩:=om hs _ _ _ hres hd
    have hrun:(results fn a1.tmps).run P W=.ok (if h:us.toArray.size=1 then us.toArray[0] else .tuple us.toArray) W:=by
     have he:results fn a1.tmps=(do
      let vs ←fn.results.mapM (mq a1.tmps)
      pure (if h:vs.size=1 then vs[0] else .tuple vs)):=rfl
     rw[he,Array.mapM_eq_mapM_toList];simp only[Sem.run_bind,Sem.run_map,h1,Result.andThen_ok,Sem.run_pure]
    have hone:au ⟨w.heap.size,G⟩ (LB m' st'.heap) m' W (oneOf vs') (if h:us.toArray.size=1 then us.toArray[0] else .tuple us.toArray):=by
     have tupc:vs'.length≠1→au ⟨w.heap.size,G⟩ (LB m' st'.heap) m' W (.tup vs') (if h:us.toArray.size=1 then us.toArray[0] else .tuple us.toArray):=by
      intro hne;rw[dif_neg (by simp;omega)];exact .tup (by simpa using h2) (fun j p u hp hu=>h3 j p u hp (by simpa using hu))
     match vs',h2,h3,tupc with
     |[],h2,h3,tupc=>exact tupc (by simp)
     |[v],h2,h3,tupc=>
      obtain⟨u,rfl⟩:∃u,us=[u]:=List.length_eq_one_iff.1 (by simpa using h2.symm);exact h3 0 v u rfl rfl
     |v::v2::r,h2,h3,tupc=>exact tupc (by simp)
    refine⟨_,hrun,_,rfl,?_,?_⟩
    ·have hbl:=hs.below;rw[hw1] at hbl;exact hbl
    exact jN (B:=⟨w.heap.size,G⟩) hs.heap (fun id cs e=>dC e) fr (fun b hb=>⟨fun hl=>by simp only at hb;omega,fun _=>hb⟩) (fun hf b hg=>⟨hg.2.2,fun h=>by rw[hf] at h;cases h⟩) 6 _ _ _ hfz hfr hone
   ·exact hr.elim
  |cons D ds ih=>
   intro w1 a1 W hw1 hds hdk hs;intro W e1;replace hs:=hs.move e1;obtain⟨hBD,hDl,hLD,hDh⟩:=hs.fr.2.2 _ (hdk.2 D (by rw[hds];simp));refine⟨D,_,rfl,run_takeDeferred hDh,?_⟩;have hnd:=hdk.1;rw[hds] at hnd;obtain⟨hn1,hn2⟩:=List.nodup_cons.1 hnd;refine ih (⟨w1.w,[],none,w1.obs.filter (fun q=>decide (q.1≠D)),ds,fun ri h=>(by cases h),w1.ok⟩:Ctx fk0) { a1 with defers:=marks ds } _ hw1 rfl ⟨hn2,fun D' hD'=>List.mem_filter.2 ⟨hdk.2 D' (by rw[hds];simp[hD']),by simp;rintro rfl;exact hn1 hD'⟩⟩ ?_;refine Sim.put (w1:=(⟨w1.w,[],none,w1.obs.filter (fun q=>decide (q.1≠D)),ds,fun ri h=>(by cases h),w1.ok⟩:Ctx fk0)) (o':=.deferred none) hs hDh rfl (fun _ _ h=>by cases h) hBD rfl rfl rfl ⟨Nat.zero_le _,(fun p hp=>by cases hp),fun q hq=>?_⟩;obtain⟨hq,hne⟩:=List.mem_filter.1 hq;obtain⟨o1,o2,o3,o4⟩:=hs.fr.2.2 q hq;exact⟨o1,by simpa using o2,o3,(World.putObj_heap_other (by simpa using hne)).trans o4⟩
 cases e with
 |normal=>
  show lP _ _ _ _ a'.defers _;rw[hs.defers];exact main hk _ _ _ _ g1 rfl g3 hs
 |ret=>
  show lP _ _ _ _ a'.defers _;rw[hs.defers];exact main hk _ _ _ _ g1 rfl g3 hs
 |_=>exact hk.elim
end
section
variable{P:Program}{K:Exit→St→Prop}{st st':St}
end
section
variable{P:Program}{K:Exit→St→Prop}
theorem oA{ops:Array Oper}{nt:Nat}{B:Base}{w0:Ctx fk}{Kr:Env→aj→Nat→Prop}{Q:Exit→Act→World→Prop}(rest:List Oper)(hQ:∀e h n a w m,Kr e h n→Sim B w0 ⟨e,h,n,nt⟩ a w m→fo w0.r P ops Q rest a w):∀(os:List Oper)(e:Env)(h:aj)(n:Nat)(a:Act)(w:World)(m:Mm),bu P ops nt os e h n Kr→Sim B w0 ⟨e,h,n,nt⟩ a w m→fo w0.r P ops Q (os++rest) a w
 |[],e,h,n,a,w,m,hk,hs=>hQ e h n a w m hk hs
 |o::os,e,h,n,a,w,m,hk,hs=>by
  simp only[bu] at hk;split at hk
  ·rename_i g hg;have hw:=mL hg hs;simp only[List.cons_append,fo,hw];intro w e1;replace hs:=hs.move e1
   cases g with
   |true=>
    simp only[if_true];exact gu (rR (hk.2.1 rfl)) (rT w0 o (K:=fun v h' n'=>bu P ops nt os (put e o.dst v) h' n' Kr) (hk.2.1 rfl) hs hk.1 Q _ (fun v h' n' a' w' m' hk' hs'=>oA rest hQ os _ _ _ _ _ m' hk' hs'))
   |false=>
    simp only[Bool.false_eq_true,if_false];refine oA rest hQ os _ _ _ _ _ m (hk.2.2 rfl) ⟨hs.base,hs.below,by rw[gT];exact hs.defers,by rw[gS];exact hs.size,?_,hs.heap,hs.dom,hs.ids,hs.fr⟩;exact jO e a o.dst _ _ (by rw[hs.size];exact hk.1) (.tup rfl (fun j p v hp=>by simp at hp)) hs.env
  ·exact hk.elim
def YW(P:Program)(ri:RI)(nt:Nat)(e:Env)(h:aj)(n:Nat)(o:Oper)(K:Env→aj→Nat→Prop):Prop:=
 match o.op with
 |.call { callee:=.value f,args:=args,argTypes:=_ }=>dOk nt o.dst∧(∃ow fl,ev e f=.w ow fl (.yl ri.l)) ∧
   Round P ri (args.toList.map (ev e)) h n (fun h' n'=>K (put e o.dst (.w false false (.bool true))) h' n')
 |_=>False
def gYW(P:Program)(ri:RI)(ops:Array Oper)(nt:Nat)(e:Env)(h:aj)(n:Nat)(o:Oper)(K:Env→aj→Nat→Prop):Prop:=
 match dw ops e o with
 |some g=>dOk nt o.dst∧(g=true→YW P ri nt e h n o K)∧(g=false→K (put e o.dst (.tup [])) h n)
 |none=>False
theorem Kt{k:Nat}{ri:RI}{id:Nat}{ops:Array Oper}{env:Env}{h:aj}{n nt:Nat}(pre:List Oper)(o:Oper)(post:List Oper)(hops:ops.toList=pre++o::post)(hk:bu P ops nt pre env h n fun e' h' n'=>gYW P ri ops nt e' h' n' o fun e'' h'' n''=>bu P ops nt post e'' h'' n'' fun e3 h3 n3=>K .normal ⟨e3,h3,n3,nt⟩):aY ⟨k,some ri⟩ P (.region id ops false) ⟨env,h,n,nt⟩ K:=by
 intro B w0 a w m hs;refine nT ?_;rw[hops];refine oA (o::post) ?_ pre env h n a w m hk hs;intro e h n a w m hy hs;unfold gYW at hy;split at hy
 ·rename_i g hg;have hw:=mL hg hs;simp only[fo,hw];intro w e1;replace hs:=hs.move e1
  have hrest:∀e'' h'' n'' a'' w'' m'',(bu P ops nt post e'' h'' n'' fun e3 h3 n3=>K .normal ⟨e3,h3,n3,nt⟩)→Sim B w0 ⟨e'',h'',n'',nt⟩ a'' w'' m''→fo w0.r P ops (fun e a' w'=>∃st' m',K e st'∧Sim B w0 st' a' w' m') post a'' w'':=
   fun e'' h'' n'' a'' w'' m'' hk' hs'=>jP (fun _ _ _ _ _ m hk' hs'=>⟨_,m,hk',hs'⟩) post _ _ _ _ _ m'' hk' hs'
  cases g with
  |true=>
   simp only[if_true];have hy1:=hy.2.1 rfl;unfold YW at hy1;split at hy1
   ·rename_i f args tys ho;obtain⟨hdk,⟨ow,fl,hf⟩,hr⟩:=hy1;exact Kn o f args tys ho hf (Kv:=fun v h' n'=>v=.w false false (.bool true)∧bu P ops nt post (put e o.dst (.w false false (.bool true))) h' n' fun e3 h3 n3=>K .normal ⟨e3,h3,n3,nt⟩)
     ⟨hr.1,hr.2.1,pD hr.2.2 (fun e s hk=>by
       cases e with
       |normal=>exact pD hk (fun e s hk=>by
         cases e with
         |normal=>
          obtain⟨h',n',nt',h1,h2⟩:=hk;exact⟨h',n',nt',h1,rfl,h2⟩
         |_=>exact hk.elim)
       |_=>exact hk.elim)⟩ hs hdk _ _ (fun v h' n' a' w' m' hkv hs'=>by
        obtain⟨rfl,hkv⟩:=hkv
        exact hrest _ _ _ _ _ m' hkv hs')
   ·exact hy1.elim
  |false=>
   simp only[Bool.false_eq_true,if_false];refine hrest _ _ _ _ _ m (hy.2.2 rfl) ⟨hs.base,hs.below,by rw[gT];exact hs.defers,by rw[gS];exact hs.size,?_,hs.heap,hs.dom,hs.ids,hs.fr⟩;exact jO e a o.dst _ _ (by rw[hs.size];exact hy.1) (.tup rfl (fun j p v hp=>by simp at hp)) hs.env
 ·exact hy.elim
def IW(P:Program)(nt:Nat)(e:Env)(h:aj)(n:Nat)(o:Oper)(g:FuncId)(aE:List AV)(fn:Func)(c:Code)(args:List AV)(K:Env→aj→Nat→Prop):Prop:=
 dOk nt o.dst∧o.guard=none∧aY ⟨n,none⟩ P c ⟨cT 0 (args++aE),h,n,fn.ntmps⟩ (dA P fn.results.toList fun v h' n'=>K (put e o.dst v) h' n')
theorem Ku{id:Nat}{ops:Array Oper}{env:Env}{h:aj}{n nt:Nat}(pre:List Oper)(o:Oper)(post:List Oper)(hops:ops.toList=pre++o::post){f:Operand}{args:Array Operand}{tys:Array TypeId}(ho:o.op=.call { callee:=.value f,args:=args,argTypes:=tys }){g:FuncId}{fn:Func}{c:Code}(hfn:P.funcs[g]?=some fn) (hname:(fn.name == "runtime.NumGoroutine")=false) (hb:fn.body=some c) (hk:bu P ops nt pre env h n fun e' h' n'=>∃aE,du (ev e' f)=some (g,aE)∧(args.toList.map (ev e')++aE).length≤fn.ntmps∧IW P nt e' h' n' o g aE fn c (args.toList.map (ev e')) fun e'' h'' n''=>bu P ops nt post e'' h'' n'' fun e3 h3 n3=>K .normal ⟨e3,h3,n3,nt⟩):aY fk P (.region id ops false) ⟨env,h,n,nt⟩ K:=by
 intro B w0 a w m hs;refine nT ?_;rw[hops];refine oA (o::post) ?_ pre env h n a w m hk hs
 rintro e h n a w m ⟨aE,hf,hnt,hdk,hgu,hw⟩ hs
 have hrest:∀e'' h'' n'' a'' w'' m'',(bu P ops nt post e'' h'' n'' fun e3 h3 n3=>K .normal ⟨e3,h3,n3,nt⟩)→Sim B w0 ⟨e'',h'',n'',nt⟩ a'' w'' m''→fo w0.r P ops (fun e a' w'=>∃st' m',K e st'∧Sim B w0 st' a' w' m') post a'' w'':=
  fun e'' h'' n'' a'' w'' m'' hk' hs'=>jP (fun _ _ _ _ _ m hk' hs'=>⟨_,m,hk',hs'⟩) post _ _ _ _ _ m'' hk' hs'
 simp only[fo,Region.wanted,hgu,if_true];intro w e1;replace hs:=hs.move e1;exact gu (fun c e=>by rw[ho] at e;cases e) (De o f args tys ho hf hfn hname hb hnt none (fun _ h=>by cases h) hw hs hdk _ _ (fun v h' n' a' w' m' hkv hs'=>hrest _ _ _ _ _ m' hkv hs'))
end
def EqV(x:AV)(E:List (List AV))(v:AV):Prop:=x=v∧E=[]
def EqE(x:AV)(h':aj)(n':Nat)(v:AV)(h:aj)(n:Nat):Prop:=x=v∧h'=h∧n'=n
section
omit [ar]
@[congr] theorem V8{x x' v:AV}{E E':List (List AV)}(h:x=x')(h2:E=E'):EqV x E v=EqV x' E' v:=by rw[h,h2]
@[congr] theorem V9{x x' v:AV}{h h' h0:aj}{n n' n0:Nat}(e1:x=x')(e2:h=h')(e3:n=n'):EqE x h n v h0 n0=EqE x' h' n' v h0 n0:=by rw[e1,e2,e3]
theorem FD{o f:Bool}{p:PV}{h:aj}{n:Nat}:EqE (.w o f p) h n (.w o f p) h n:=⟨rfl,rfl,rfl⟩
theorem DC{a b c:Nat}{h:aj}{n:Nat}:EqE (.ptr a b c) h n (.ptr a b c) h n:=⟨rfl,rfl,rfl⟩
end
section
variable{P:Program}{ops:Array Oper}{nt:Nat}{env:Env}{h:aj}{n:Nat}
theorem DD{op:Op}{K K':AV→List (List AV)→Prop}(hq:bm P env h n op K)(hk:∀v E,K v E→K' v E):bm P env h n op K':=by
 unfold bm at *;split
 ·rename_i f args tys;simp only at hq;split at hq
  ·rename_i g aE e;unfold oG at *;split at hq
   ·rename_i pvs e2
    rcases hq with ⟨res,fr,h1,h2,h3⟩|⟨E,v,h1,h3⟩
    ·exact .inl ⟨res,fr,h1,h2,hk _ _ h3⟩
    ·exact .inr ⟨E,v,h1,hk _ _ h3⟩
   ·exact hq.elim
  ·exact hq.elim
 ·rename_i hne;split at hq
  ·rename_i f args tys;exact (hne f args tys rfl).elim
  ·split at hq
   ·exact⟨hq.1,hk _ _ hq.2⟩
   ·exact hq.elim
omit [ar] in
theorem KX{t:TypeId}{ad x:Operand}{K K':AV→aj→Nat→Prop}(hq:j6 P env h n t ad x K)(hk:∀v h' n',K v h' n'→K' v h' n'):j6 P env h n t ad x K':=by
 unfold j6 at *;split at hq
 ·split at hq
  ·exact⟨hq.1,hk _ _ _ hq.2⟩
  ·exact hq.elim
 ·exact hq.elim
omit [ar] in
theorem KY{args:List Operand}{tys:List TypeId}{K K':AV→aj→Nat→Prop}(hq:j5 P env h n args tys K)(hk:∀v h' n',K v h' n'→K' v h' n'):j5 P env h n args tys K':=by
 unfold j5 at *;split at hq
 ·split at hq
  ·split at hq
   ·split at hq
    ·split at hq
     ·exact⟨hq.1,hk _ _ _ hq.2⟩
     ·exact hq.elim
    ·rename_i own k cells e;generalize hb:(own&&decide (k=0)&&cells.isEmpty)=bb at hq ⊢;cases bb
     ·simp only[cond_false] at hq ⊢;split at hq
      ·exact⟨hq.1,hk _ _ _ hq.2⟩
      ·exact hq.elim
     ·exact⟨hq.1,hk _ _ _ hq.2⟩
    ·exact hq.elim
   ·exact hq.elim
  ·exact hq.elim
 ·exact hq.elim
theorem KZ{src dst:TypeId}{x:Operand}{K K':AV→aj→Nat→Prop}(hq:nq P env h n src dst x K)(hk:∀v h' n',K v h' n'→K' v h' n'):nq P env h n src dst x K':=by
 unfold nq at *;split at hq
 ·exact⟨hq.1,hk _ _ _ hq.2⟩
 ·exact DD hq fun v E hK=>hk _ _ _ hK
omit [ar] in
theorem K0{t:TypeId}{x k v:Operand}{K K':AV→aj→Nat→Prop}(hq:j8 P env h n t x k v K)(hk:∀v h' n',K v h' n'→K' v h' n'):j8 P env h n t x k v K':=by
 unfold j8 at *;split at hq
 ·split at hq
  ·exact⟨hq.1,hk _ _ _ hq.2⟩
  ·exact hq.elim
 ·exact hq.elim
omit [ar] in
theorem K1{args:List Operand}{tys:List TypeId}{K K':AV→aj→Nat→Prop}(hq:j7 P env h n args tys K)(hk:∀v h' n',K v h' n'→K' v h' n'):j7 P env h n args tys K':=by
 unfold j7 at *;split at hq
 ·exact⟨hq.1,hk _ _ _ hq.2⟩
 ·exact hq.elim
theorem K3{op:Op}{K K':AV→aj→Nat→Prop}(hq:bn P env h n op K)(hk:∀v h' n',K v h' n'→K' v h' n'):bn P env h n op K':=by
 unfold bn at *;split
 ·exact KX hq hk
 ·exact KY hq hk
 ·exact K1 hq hk
 ·exact KZ hq hk
 ·exact⟨hq.1,hk _ _ _ hq.2⟩
 ·exact K0 hq hk
 ·rename_i h1 h2 h3 h4 h5 h6;split at hq
  ·exact (h1 _ _ _ rfl).elim
  ·exact (h2 _ _ rfl).elim
  ·exact (h3 _ _ rfl).elim
  ·exact (h4 _ _ _ rfl).elim
  ·exact (h5 _ rfl).elim
  ·exact (h6 _ _ _ _ rfl).elim
  ·exact DD hq fun v E hK=>hk _ _ _ hK
section
variable{op:Op}{b:Bool}{v:AV}
theorem DF{K:AV→aj→Nat→Prop}{mk:Mark K}(hx:b=true→bn P env h n op fun v' h' n'=>EqE v' h' n' v h n)(hk:K (gdV b v) h n):gE (some b) P env h n op K mk:=by
 refine⟨fun hb=>?_,fun hb=>?_⟩
 ·refine K3 (hx hb) ?_
  rintro v' h' n' ⟨rfl,rfl,rfl⟩
  rw[hb,J3] at hk;exact hk
 ·rw[hb,J4] at hk;exact hk
end
end
theorem ai{P:Program}{g:FuncId}{args args':List PV}{K:PV→Bool→Prop}{K2:List (List AV)→AV→Prop}{res:PV}{fr:Bool}{mk:Mark (K,K2)}(h:aA P g args res fr)(e:args'=args)(hk:K res fr):CW P g args' K K2 mk:=.inl ⟨res,fr,e▸h,hk⟩
section
variable{P:Program}{K:Exit→St→Prop}
@[simp ↓] theorem Wa(b:Code)(s:St):uJ fk P b K .normal s=de fk P b s K:=rfl
@[simp ↓] theorem Wb(b:Code)(s:St):uJ fk P b K .ret s=K .ret s:=rfl
@[simp ↓] theorem Wc(b:Code)(id:Nat)(s:St):uJ fk P b K (.exit id) s=K (.exit id) s:=rfl
@[congr] theorem Wd{c:Code}{st st':St}(h:st=st'):de fk P c st K=de fk P c st' K:=by rw[h]
def uK(P:Program)(ri:RI)(avs:List AV)(h:aj)(n:Nat)(K:aj→Nat→Prop)(_:Mark (ri,K)):Prop:=Round P ri avs h n K
@[congr] theorem We{ri:RI}{avs avs':List AV}{h h':aj}{n n':Nat}{K:aj→Nat→Prop}{mk:Mark (ri,K)}(e1:avs=avs')(e2:h=h')(e3:n=n'):uK P ri avs h n K mk=uK P ri avs' h' n' K mk:=by rw[e1,e2,e3]
theorem qo{ri:RI}{avs:List AV}{h:aj}{n:Nat}{K:aj→Nat→Prop}{mk:Mark (ri,K)}(h1:avs.length=ri.ps.size)(h2:∀t∈ri.ps,t<ri.nt)(hk:aY ⟨n,none⟩ P ri.assign ⟨jI ri.env ri.ps.toList avs,h,n,ri.nt⟩ (qR P n ri.body K)):uK P ri avs h n K mk:=⟨h1,h2,hk⟩
@[simp ↓] theorem Wf(k:Nat)(body:Code)(K:aj→Nat→Prop)(s:St):qR P k body K .normal s=aY ⟨k,none⟩ P body s (pb k K):=rfl
theorem tN{k:Nat}{K:aj→Nat→Prop}{s:St}(h':aj)(n':Nat)(nt':Nat)(hle:Lek ⟨k,none⟩ s ⟨[],h',n',nt'⟩)(hk:K h' n'):pb k K .normal s:=⟨h',n',nt',hle,hk⟩
@[congr] theorem Wh{k:Nat}{K:aj→Nat→Prop}{e e':Exit}{s s':St}(h1:e=e')(h2:s=s'):pb k K e s=pb k K e' s':=by rw[h1,h2]
@[congr] theorem Wi{k:Nat}{body:Code}{K:aj→Nat→Prop}{e e':Exit}{s s':St}(h1:e=e')(h2:s=s'):qR P k body K e s=qR P k body K e' s':=by rw[h1,h2]
section
variable{ri:RI}{ops:Array Oper}{nt:Nat}{e:Env}{h:aj}{n:Nat}{dst:Option Tmp}{op:Op}{ty:TypeId}{pos:String}{after:Array Edge}{j:Nat}{want:Bool}{Kr:Env→aj→Nat→Prop}
def yM(P:Program)(ri:RI)(nt:Nat)(e:Env)(h:aj)(n:Nat)(o:Oper)(K:Env→aj→Nat→Prop)(_:Mark K):Prop:=YW P ri nt e h n o K
@[congr] theorem Wj{e e':Env}{h h':aj}{n n':Nat}{o:Oper}{K:Env→aj→Nat→Prop}{mk:Mark K}(e1:e=e')(e2:h=h')(e3:n=n'):yM P ri nt e h n o K mk=yM P ri nt e' h' n' o K mk:=by rw[e1,e2,e3]
def gY(P:Program)(ri:RI)(ops:Array Oper)(nt:Nat)(e:Env)(h:aj)(n:Nat)(o:Oper)(K:Env→aj→Nat→Prop)(_:Mark K):Prop:=gYW P ri ops nt e h n o K
@[congr] theorem Wl{e e':Env}{h h':aj}{n n':Nat}{o:Oper}{K:Env→aj→Nat→Prop}{mk:Mark K}(e1:e=e')(e2:h=h')(e3:n=n'):gY P ri ops nt e h n o K mk=gY P ri ops nt e' h' n' o K mk:=by rw[e1,e2,e3]
def gYm(g:Option Bool)(P:Program)(ri:RI)(nt:Nat)(e:Env)(h:aj)(n:Nat)(o:Oper)(K:Env→aj→Nat→Prop)(_:Mark K):Prop:=gW g (YW P ri nt e h n o K) (K (put e o.dst (.tup [])) h n)
@[congr] theorem Wm{g g':Option Bool}{e:Env}{h:aj}{n:Nat}{o:Oper}{K:Env→aj→Nat→Prop}{mk:Mark K}(e0:g=g'):gYm g P ri nt e h n o K mk=gYm g' P ri nt e h n o K mk:=by rw[e0]
@[simp] theorem Wn{o:Oper}{mk:Mark Kr}:gYm (some true) P ri nt e h n o Kr mk=YW P ri nt e h n o Kr:=by unfold gYm;exact xU _ _
@[simp] theorem Wo{o:Oper}{mk:Mark Kr}:gYm (some false) P ri nt e h n o Kr mk=Kr (put e o.dst (.tup [])) h n:=by unfold gYm;exact xV _ _
@[simp ↓] theorem Wp{mk:Mark Kr}:gY P ri ops nt e h n ⟨dst,op,ty,pos,after,some (j,want)⟩ Kr mk=(dOk nt dst∧gYm (gOf ops e j want) P ri nt e h n ⟨dst,op,ty,pos,after,some (j,want)⟩ Kr .it):=by
 unfold gY gYW;rw[xW]
 cases gOf ops e j want<;>simp[gYm,gW]
@[simp ↓] theorem Wq{f:Operand}{args:Array Operand}{tys:Array TypeId}{g:Option (Nat×Bool)}:YW P ri nt e h n ⟨dst,.call ⟨.value f,args,tys⟩,ty,pos,after,g⟩ Kr=(dOk nt dst∧(∃ow fl,ev e f=.w ow fl (.yl ri.l))∧uK P ri (args.toList.map (ev e)) h n (fun h' n'=>Kr (put e dst (.w false false (.bool true))) h' n') .it):=rfl
end
theorem lN{k:Nat}{ri:RI}{id:Nat}{ops:Array Oper}{env:Env}{h:aj}{n nt:Nat}(i:Nat)(hi:i<ops.toList.length)(hk:bu P ops nt (ops.toList.take i) env h n fun e' h' n'=>gY P ri ops nt e' h' n' (ops.toList.getD i default) (fun e'' h'' n''=>bu P ops nt (ops.toList.drop (i+1)) e'' h'' n'' fun e3 h3 n3=>K .normal ⟨e3,h3,n3,nt⟩) .it):aY ⟨k,some ri⟩ P (.region id ops false) ⟨env,h,n,nt⟩ K:=by
 refine Kt (ops.toList.take i) (ops.toList.getD i default) (ops.toList.drop (i+1)) ?_ hk
 have e:ops.toList.getD i default=ops.toList[i]:=by simp[List.getD_eq_getElem?_getD,List.getElem?_eq_getElem hi]
 rw[e,List.getElem_cons_drop,List.take_append_drop]
end
section
variable{P:Program}{K:Exit→St→Prop}
def FE(fk:Fk)(P:Program)(ops:Array Oper)(nt:Nat)(os:List Oper)(e:Env)(h:aj)(n:Nat)(K:Env→aj→Nat→Prop)(_:Mark (os,K)):Prop:=
 ∃e2 h2 n2,Lek fk ⟨e,h,n,nt⟩ ⟨e2,h2,n2,nt⟩∧bu P ops nt os e2 h2 n2 K
@[congr] theorem Wr{ops:Array Oper}{nt:Nat}{os:List Oper}{e e':Env}{h h':aj}{n n':Nat}{K:Env→aj→Nat→Prop}{mk:Mark (os,K)}(h1:e=e')(h2:h=h')(h3:n=n'):FE fk P ops nt os e h n K mk=FE fk P ops nt os e' h' n' K mk:=by rw[h1,h2,h3]
end
section
variable{P:Program}{K:Exit→St→Prop}
def uL(P:Program)(ops:Array Oper)(nt:Nat)(o:Oper)(post:List Oper)(g:FuncId)(fn:Func)(c:Code)(args:Array Operand)(e:Env)(h:aj)(n:Nat)(K:Env→aj→Nat→Prop)(_:Mark (o,post,c,K)):Prop:=
 ∃aE,du (ev e (.func g))=some (g,aE)∧(args.toList.map (ev e)++aE).length≤fn.ntmps∧IW P nt e h n o g aE fn c (args.toList.map (ev e)) fun e'' h'' n''=>bu P ops nt post e'' h'' n'' K
@[congr] theorem Wt{ops:Array Oper}{nt:Nat}{o:Oper}{post:List Oper}{g:FuncId}{fn:Func}{c:Code}{args:Array Operand}{e e':Env}{h h':aj}{n n':Nat}{K:Env→aj→Nat→Prop}{mk:Mark (o,post,c,K)}(h1:e=e')(h2:h=h')(h3:n=n'):uL P ops nt o post g fn c args e h n K mk=uL P ops nt o post g fn c args e' h' n' K mk:=by rw[h1,h2,h3]
theorem yn{ops:Array Oper}{nt:Nat}{o:Oper}{post:List Oper}{g:FuncId}{fn:Func}{c:Code}{args:Array Operand}{e:Env}{h:aj}{n:Nat}{K:Env→aj→Nat→Prop}{mk:Mark (o,post,c,K)}(hl:args.toList.length≤fn.ntmps)(hd:dOk nt o.dst)(hg:o.guard=none)(hk:aY ⟨n,none⟩ P c ⟨cT 0 (args.toList.map (ev e)),h,n,fn.ntmps⟩ (dA P fn.results.toList fun v h' n'=>bu P ops nt post (put e o.dst v) h' n' K)):uL P ops nt o post g fn c args e h n K mk:=
 ⟨[],rfl,by rw[List.append_nil,List.length_map];exact hl,hd,hg,by rw[List.append_nil];exact hk⟩
theorem oC{id:Nat}{ops:Array Oper}{env:Env}{h:aj}{n nt:Nat}(i:Nat){g:FuncId}{fn:Func}{c:Code}(hfn:P.funcs[g]?=some fn) (hname:(fn.name == "runtime.NumGoroutine")=false) (hb:fn.body=some c) (hi:i<ops.toList.length) {args:Array Operand} {tys:Array TypeId} (ho:(ops.toList.getD i default).op=.call { callee:=.value (.func g),args:=args,argTypes:=tys }) (hk:bu P ops nt (ops.toList.take i) env h n fun e' h' n'=>uL P ops nt (ops.toList.getD i default) (ops.toList.drop (i+1)) g fn c args e' h' n' (fun e3 h3 n3=>K .normal ⟨e3,h3,n3,nt⟩) .it):aY fk P (.region id ops false) ⟨env,h,n,nt⟩ K:=by
 refine Ku (ops.toList.take i) (ops.toList.getD i default) (ops.toList.drop (i+1)) ?_ ho hfn hname hb hk
 have e:ops.toList.getD i default=ops.toList[i]:=by simp[List.getD_eq_getElem?_getD,List.getElem?_eq_getElem hi]
 rw[e,List.getElem_cons_drop,List.take_append_drop]
end
def PG(P:Program)(f:FuncId)(args:List AV)(h:aj)(n:Nat)(id:Nat)(c:List AV)(v:AV):Prop:=
 yJ P f∧∀(B:Base)(m:Mm)(w:World)(vs:Array Value),B.n≤w.heap.size→a9 B h m w→(∀i c,(i,c)∈h→m.dom i)→args.length=vs.size→(∀(j:Nat)(p:AV)(u:Value),args[j]?=some p→vs[j]?=some u→au B (LB m h) m w p u) →
  gF P f vs w fun e w'=>∃u m',e=.returned u∧EPost B h m w n (br h id c) n v u w' m'
section
variable{P:Program}{B:Base}{env:Env}{h:aj}{n nt:Nat}{a:Act}{w:World}{m:Mm}
def FI(P:Program)(ops:Array Oper)(nt:Nat)(o:Oper)(post:List Oper)(g:FuncId)(args:Array Operand)(e:Env)(h:aj)(n:Nat)(K:Env→aj→Nat→Prop)(_:Mark (o,post,K)):Prop:=
 dOk nt o.dst∧o.guard=none∧∃id c v,PG P g (args.toList.map (ev e)) h n id c v∧bu P ops nt post (put e o.dst v) (br h id c) n K
omit [ar] in
@[congr] theorem WH[ar]{ops:Array Oper}{nt:Nat}{o:Oper}{post:List Oper}{g:FuncId}{args:Array Operand}{e e':Env}{h h':aj}{n n':Nat}{K:Env→aj→Nat→Prop}{mk:Mark (o,post,K)}(h1:e=e')(h2:h=h')(h3:n=n'):FI P ops nt o post g args e h n K mk=FI P ops nt o post g args e' h' n' K mk:=by rw[h1,h2,h3]
end
section
variable{P:Program}{K:Exit→St→Prop}
def IWY(r:Option RI)(P:Program)(nt:Nat)(e:Env)(h:aj)(n:Nat)(o:Oper)(g:FuncId)(aE:List AV)(fn:Func)(c:Code)(args:List AV)(K:Env→aj→Nat→Prop):Prop:=
 dOk nt o.dst∧o.guard=none∧aY ⟨n,r⟩ P c ⟨cT 0 (args++aE),h,n,fn.ntmps⟩ (dA P fn.results.toList fun v h' n'=>K (put e o.dst v) h' n')
def FJ(r:Option RI)(P:Program)(ops:Array Oper)(nt:Nat)(o:Oper)(post:List Oper)(f:Operand)(g:FuncId)(fn:Func)(c:Code)(args:Array Operand)(e:Env)(h:aj)(n:Nat)(K:Env→aj→Nat→Prop)(_:Mark (o,post,c,K)):Prop:=
 ∃aE,du (ev e f)=some (g,aE)∧(args.toList.map (ev e)++aE).length≤fn.ntmps∧IWY r P nt e h n o g aE fn c (args.toList.map (ev e)) fun e'' h'' n''=>bu P ops nt post e'' h'' n'' K
@[congr] theorem WI{r:Option RI}{ops:Array Oper}{nt:Nat}{o:Oper}{post:List Oper}{f:Operand}{g:FuncId}{fn:Func}{c:Code}{args:Array Operand}{e e':Env}{h h':aj}{n n':Nat}{K:Env→aj→Nat→Prop}{mk:Mark (o,post,c,K)}(h1:e=e')(h2:h=h')(h3:n=n'):FJ r P ops nt o post f g fn c args e h n K mk=FJ r P ops nt o post f g fn c args e' h' n' K mk:=by rw[h1,h2,h3]
end
section
variable{P:Program}{env:Env}{h:aj}{n nt:Nat}
end
section
variable{P:Program}{env:Env}{h:aj}{n nt:Nat}
def uM(r:Option RI)(P:Program)(ops:Array Oper)(nt:Nat)(o:Oper)(post:List Oper)(f:Operand)(g:FuncId)(fn:Func)(c:Code)(args:Array Operand)(e:Env)(h:aj)(n:Nat)(K:Env→aj→Nat→Prop)(_:Mark (o,post,c,K)):Prop:=
 ∃aE,du (ev e f)=some (g,aE)∧(args.toList.map (ev e)++aE).length≤fn.ntmps∧dOk nt o.dst∧dw ops e o=some true∧aY ⟨n,r⟩ P c ⟨cT 0 (args.toList.map (ev e)++aE),h,n,fn.ntmps⟩ (dA P fn.results.toList fun v h' n'=>bu P ops nt post (put e o.dst v) h' n' K)
@[congr] theorem WJ{r:Option RI}{ops:Array Oper}{nt:Nat}{o:Oper}{post:List Oper}{f:Operand}{g:FuncId}{fn:Func}{c:Code}{args:Array Operand}{e e':Env}{h h':aj}{n n':Nat}{K:Env→aj→Nat→Prop}{mk:Mark (o,post,c,K)}(h1:e=e')(h2:h=h')(h3:n=n'):uM r P ops nt o post f g fn c args e h n K mk=uM r P ops nt o post f g fn c args e' h' n' K mk:=by rw[h1,h2,h3]
theorem tR{r:Option RI}{ops:Array Oper}{nt:Nat}{o:Oper}{post:List Oper}{f:Operand}{g:FuncId}{fn:Func}{c:Code}{args:Array Operand}{e:Env}{h:aj}{n:Nat}{K:Env→aj→Nat→Prop}{mk:Mark (o,post,c,K)}(aE:List AV)(hf:du (ev e f)=some (g,aE))(hl:args.toList.length+aE.length≤fn.ntmps)(hd:dOk nt o.dst)(hg:dw ops e o=some true)(hk:aY ⟨n,r⟩ P c ⟨cT 0 (args.toList.map (ev e)++aE),h,n,fn.ntmps⟩ (dA P fn.results.toList fun v h' n'=>bu P ops nt post (put e o.dst v) h' n' K)):uM r P ops nt o post f g fn c args e h n K mk:=
 ⟨aE,hf,by rw[List.length_append,List.length_map];exact hl,hd,hg,hk⟩
theorem tT{K:Exit→St→Prop}{id:Nat}{ops:Array Oper}(k:Nat)(g:FuncId)(hm:P.follows .mixedOrders=true)(hchk:qD ops k=true)(hkl:k<ops.size){fn:Func}{c:Code}(hfn:P.funcs[g]?=some fn) (hname:(fn.name == "runtime.NumGoroutine")=false) (hb:fn.body=some c) {f:Operand} {args:Array Operand} {tys:Array TypeId} (ho:(ops.toList.getD k default).op=.call { callee:=.value f,args:=args,argTypes:=tys }) (hk:dF P ops nt (ops.toList.take k) env h n fun e' h' n'=>uM fk.ri P ops nt (ops.toList.getD k default) (ops.toList.drop (k+1)) f g fn c args e' h' n' (fun e3 h3 n3=>K .normal ⟨e3,h3,n3,nt⟩) .it):aY fk P (.region id ops true) ⟨env,h,n,nt⟩ K:=by
 obtain⟨hc,hseq⟩:=vY hchk;refine AM k hm hc hk (fun B w0 e' h' n' hK f' listed a w m hsz hcl hl hop hs=>?_);obtain⟨aE,hf,hnt,hdk,hgu,hw⟩:=hK
 cases f' with
 |zero=>
  exfalso;have:=mN (Nat.le_zero.1 hop) (i:=k) (by omega);have:=(hl k hkl).1 this;omega
 |succ f'=>
  have hne:=nW hsz hc.down k hkl (by
   cases hq:listed.getD k false with
   |true=>have:=(hl k hkl).1 hq;omega
   |false=>rfl)
  refine⟨fun hnil=>absurd hnil hne,fun x hx2=>?_⟩;obtain⟨o,ho2,hff,he⟩:=jQ hsz hx2;have hxs:=(Array.getElem?_eq_some_iff.1 ho2).1
  have hxi:x=k:=by
   have h1:¬x<k:=fun hxl=>by
    have:=(hl x hxs).2 hxl;rw[Array.getD_eq_getD_getElem?,hff] at this;cases this
   rcases Nat.lt_or_ge k x with h2|h2
   ·have:=jf hcl 8 x k o ho2 he (hseq x (by omega) hxs k h2);have:=(hl k hkl).1 this;omega
   ·omega
  subst hxi
  have hoo:ops.toList.getD x default=o:=by
   rw[List.getD_eq_getElem?_getD,Array.getElem?_toList,ho2];rfl
  rw[hoo] at ho hgu hdk hw;unfold ia;rw[ho2];simp only[];intro w e1;replace hs:=hs.move e1;rw[mL hgu hs];simp only[if_true];refine gu (fun c e=>by rw[ho] at e;cases e) (De o f args tys ho hf hfn hname hb hnt fk.ri (fun _ h=>h) hw hs hdk _ _ (fun v h' n' a' w' m' hk2 hs'=>?_));refine rU (Kr:=fun e'' h'' n''=>K .normal ⟨e'',h'',n'',nt⟩) (fun e' h' n' a' w' m' hk' hsim=>⟨_,m',hk',hsim⟩) hc.down hseq f' (x+1) (listed.setIfInBounds x true) _ _ _ a' w' m' (by omega) (by omega) (by simpa using hsz) (hcl.set ho2 he) (fun j hj=>?_) (by have:=mM hff;omega) hk2 hs';by_cases hxj:x=j
  ·subst hxj;rw[Array.getD_eq_getD_getElem?,Array.getElem?_setIfInBounds];simp[hsz,hj]
  ·rw[getD_set_ne false hxj,hl j hj];omega
end
end Go.Fi
namespace Go.Fi
open Go Go.RowKit
variable[ar]
section
variable{k:Nat}{ri:RI}{P:Program}{K Kd K' Kd':Exit→St→Prop}{st st':St}
theorem DU{c:Code}(hle:Lek ⟨k,some ri⟩ st st')(h:cK k ri P c st' K Kd):cK k ri P c st K Kd:=
 fun B w0 a w m hs=>let ⟨m',hs'⟩:=hle B w0 a w m hs;h B w0 a w m' hs'
def pf(k:Nat)(ri:RI)(P:Program)(b:Code)(K Kd:Exit→St→Prop):Exit→St→Prop
 |.normal,s=>cK k ri P b s K Kd
 |e,s=>K e s
def pg(k:Nat)(P:Program)(b:Code)(Kd:Exit→St→Prop):Exit→St→Prop
 |.normal,s=>aY ⟨k,none⟩ P b s Kd
 |e,s=>Kd e s
@[simp ↓] theorem WL(b:Code)(s:St):pf k ri P b K Kd .normal s=cK k ri P b s K Kd:=rfl
@[simp ↓] theorem WM(b:Code)(s:St):pf k ri P b K Kd .ret s=K .ret s:=rfl
@[simp ↓] theorem WN(b:Code)(i:Nat)(s:St):pf k ri P b K Kd (.exit i) s=K (.exit i) s:=rfl
@[simp ↓] theorem WO(b:Code)(s:St):pg k P b Kd .normal s=aY ⟨k,none⟩ P b s Kd:=rfl
@[simp ↓] theorem WQ(b:Code)(s:St):pg k P b Kd .ret s=Kd .ret s:=rfl
@[simp ↓] theorem WR(b:Code)(i:Nat)(s:St):pg k P b Kd (.exit i) s=Kd (.exit i) s:=rfl
@[congr] theorem WS{c:Code}(h:st=st'):cK k ri P c st K Kd=cK k ri P c st' K Kd:=by rw[h]
@[congr] theorem WT{b:Code}{e e':Exit}(h1:e=e')(h2:st=st'):pf k ri P b K Kd e st=pf k ri P b K Kd e' st':=by rw[h1,h2]
@[congr] theorem WU{b:Code}{e e':Exit}(h1:e=e')(h2:st=st'):pg k P b Kd e st=pg k P b Kd e' st':=by rw[h1,h2]
theorem fg{x y:Code}(h:cK k ri P x st (pf k ri P y K Kd) (pg k P y Kd)):cK k ri P (.seq x y) st K Kd:=
 fun B w0 a w m hs=>vg (cJ (h B w0 a w m hs) (fun e a' w' hx=>by
  rcases hx with ⟨st',m',h1,h2⟩|⟨w1,hl,st',m',h1,h2⟩
  ·cases e with
   |normal=>exact h1 B w0 a' w' m' h2
   |_=>exact .inl ⟨st',m',h1,h2⟩
  ·cases e with
   |normal=>
    have:=h1 B w1 a' w' m' h2;rw[hl.2.2.1] at this;exact cJ this (fun e a2 w2 ⟨s2,m2,g1,g2⟩=>.inr ⟨w1,hl,s2,m2,g1,g2⟩)
   |_=>exact .inr ⟨w1,hl,st',m',h1,h2⟩))
theorem yu{id:Nat}{c:Code}(h:cK k ri P c st (fw id K) (fw id Kd)):cK k ri P (.block id c) st K Kd:=
 fun B w0 a w m hs=>vh (cJ (h B w0 a w m hs) (fun e a' w' hx=>by
  rcases hx with ⟨st',m',h1,h2⟩|⟨w1,hl,st',m',h1,h2⟩
  ·cases e with
   |exit id'=>
    simp only[Exit.inBlock];simp only[fw] at h1;split
    ·rename_i hid;simp only[hid,if_true] at h1;exact .inl ⟨st',m',h1,h2⟩
    ·rename_i hid;simp only[hid,if_false] at h1;exact .inl ⟨st',m',h1,h2⟩
   |_=>exact .inl ⟨st',m',h1,h2⟩
  ·cases e with
   |exit id'=>
    simp only[Exit.inBlock];simp only[fw] at h1;split
    ·rename_i hid;simp only[hid,if_true] at h1;exact .inr ⟨w1,hl,st',m',h1,h2⟩
    ·rename_i hid;simp only[hid,if_false] at h1;exact .inr ⟨w1,hl,st',m',h1,h2⟩
   |_=>exact .inr ⟨w1,hl,st',m',h1,h2⟩))
def nQ(Kd:Exit→St→Prop):Exit→St→Prop
 |.normal,_=>False
 |e,s=>Kd e s
section
omit [ar]
@[simp ↓] theorem WV(s:St):nQ Kd .ret s=Kd .ret s:=rfl
@[simp ↓] theorem WW(i:Nat)(s:St):nQ Kd (.exit i) s=Kd (.exit i) s:=rfl
@[congr] theorem WX{e e':Exit}(h1:e=e')(h2:st=st'):nQ Kd e st=nQ Kd e' st':=by rw[h1,h2]
end
theorem DV{c:Code}{α:Type}(J:α→Prop)(I:α→St)(μ:α→Nat)(x0:α)(hJ:J x0)(h0:Lek ⟨k,some ri⟩ st (I x0))(round:∀x,J x→cK k ri P c (I x) (iq ⟨k,some ri⟩ J I μ x K) (nQ Kd)):cK k ri P (.loop c) st K Kd:=by
 intro B w0 a w m hs;refine vi (fun k a w=>∃x m,J x∧μ x=k∧Sim B w0 (I x) a w m) (μ x0) (by obtain⟨m',h⟩:=h0 B w0 a w m hs;exact⟨x0,m',hJ,rfl,h⟩) ?_
 rintro j a w ⟨x,m,hx,rfl,hsx⟩
 refine cJ (round x hx B w0 a w m hsx) (fun e a' w' hq=>?_)
 rcases hq with ⟨st',m',h2,h3⟩|⟨w1,hl,st',m',h2,h3⟩
 ·cases e with
  |normal=>
   obtain⟨y,hy,hlt,hle⟩:=h2;obtain⟨m'',h4⟩:=hle B w0 a' w' m' h3;exact⟨μ y,hlt,y,m'',hy,rfl,h4⟩
  |_=>exact .inl ⟨st',m',h2,h3⟩
 ·cases e with
  |normal=>exact h2.elim
  |_=>exact .inr ⟨w1,hl,st',m',h2,h3⟩
def YW2(P:Program)(ri:RI)(nt:Nat)(o:Oper)(f:Operand)(args:Array Operand)(e:Env)(h:aj)(n:Nat)(K Kl:Env→aj→Nat→Prop)(_:Mark (K,Kl)):Prop:=
 (∃ow fl,ev e f=.w ow fl (.yl ri.l))∧zE P ri (args.toList.map (ev e)) h n (fun h' n'=>K (put e o.dst (.w false false (.bool true))) h' n') (fun h' n'=>Kl (put e o.dst (.w false false (.bool false))) h' n')
@[congr] theorem WY{nt:Nat}{o:Oper}{f:Operand}{args:Array Operand}{e e':Env}{h h':aj}{n n':Nat}{K Kl:Env→aj→Nat→Prop}{mk:Mark (K,Kl)}(h1:e=e')(h2:h=h')(h3:n=n'):YW2 P ri nt o f args e h n K Kl mk=YW2 P ri nt o f args e' h' n' K Kl mk:=by rw[h1,h2,h3]
theorem Ll{nt:Nat}{o:Oper}{f:Operand}{args:Array Operand}{e:Env}{h:aj}{n:Nat}{K Kl:Env→aj→Nat→Prop}{mk:Mark (K,Kl)}(ow fl:Bool)(h1:ev e f=.w ow fl (.yl ri.l))(hl:args.toList.length=ri.ps.size)(hlt:∀t∈ri.ps,t<ri.nt)(hk:aY ⟨n,none⟩ P ri.assign ⟨jI ri.env ri.ps.toList (args.toList.map (ev e)),h,n,ri.nt⟩ (qS P n ri.body (fun h' n'=>K (put e o.dst (.w false false (.bool true))) h' n') (fun h' n'=>Kl (put e o.dst (.w false false (.bool false))) h' n'))):YW2 P ri nt o f args e h n K Kl mk:=
 ⟨⟨ow,fl,h1⟩,by rw[List.length_map];exact hl,hlt,hk⟩
theorem DW{id:Nat}{ops:Array Oper}{env:Env}{h:aj}{n nt:Nat}(i:Nat)(hi:i<ops.toList.length){f:Operand}{args:Array Operand}{tys:Array TypeId}(ho:(ops.toList.getD i default).op=.call { callee:=.value f,args:=args,argTypes:=tys })(hg:(ops.toList.getD i default).guard=none)(hd:dOk nt (ops.toList.getD i default).dst)(hk:bu P ops nt (ops.toList.take i) env h n fun e' h' n'=>YW2 P ri nt (ops.toList.getD i default) f args e' h' n' (fun e'' h'' n''=>bu P ops nt (ops.toList.drop (i+1)) e'' h'' n'' fun e3 h3 n3=>K .normal ⟨e3,h3,n3,nt⟩) (fun e'' h'' n''=>bu P ops nt (ops.toList.drop (i+1)) e'' h'' n'' fun e3 h3 n3=>Kd .normal ⟨e3,h3,n3,nt⟩) .it):cK k ri P (.region id ops false) ⟨env,h,n,nt⟩ K Kd:=by
 have e:ops.toList.getD i default=ops.toList[i]:=by simp[List.getD_eq_getElem?_getD,List.getElem?_eq_getElem hi]
 have hops:ops.toList=ops.toList.take i++ops.toList.getD i default::ops.toList.drop (i+1):=by rw[e,List.getElem_cons_drop,List.take_append_drop]
 generalize ops.toList.getD i default=o at *;generalize ops.toList.take i=pre at *;generalize ops.toList.drop (i+1)=post at *;intro B w0 a w m hs;refine nT ?_;rw[hops];refine oA (o::post) ?_ pre env h n a w m hk hs
 rintro e h n a w m ⟨⟨ow,fl,hf⟩,hr⟩ hs
 simp only[fo,Region.wanted,hg,if_true];intro w e1;replace hs:=hs.move e1;refine Di o f args tys ho hf hr hs hd _ _ (fun h' n' a' w' m' hkv hs'=>?_) (fun w1 h' n' a' w' m' hl hkv hs'=>?_)
 ·exact jP (fun _ _ _ _ _ m hk' hs'=>.inl ⟨_,m,hk',hs'⟩) post _ _ _ _ _ m' hkv hs'
 ·have:=jP (Q:=fun e a' w'=>(∃st' m',K e st'∧Sim B w0 st' a' w' m')∨∃w1:Ctx ⟨k,none⟩,nN w0 w1∧∃st' m',Kd e st'∧Sim B w1 st' a' w' m') (w0:=w1) (P:=P) (ops:=ops) (fun _ _ _ _ _ m hk' hs'=>.inr ⟨w1,hl,_,m,hk',hs'⟩) post _ _ _ _ _ m' hkv hs';rw[hl.2.2.1] at this;exact this
end
section
variable{k:Nat}{ri:RI}{B:Base}{m:Mm}{w:World}{h:aj}{n:Nat}{env:Env}{a:Act}{P:Program}
theorem DX{w0:Ctx ⟨k,some ri⟩}{nt:Nat}(o:Oper)(f:Operand)(args:Array Operand)(tys:Array TypeId)(ho:o.op=.call { callee:=.value f,args:=args,argTypes:=tys }){g:FuncId}{aE:List AV}(hf:du (ev env f)=some (g,aE)){fn:Func}{c:Code}(hfn:P.funcs[g]?=some fn) (hname:(fn.name == "runtime.NumGoroutine")=false) (hb:fn.body=some c) (hnt:(args.toList.map (ev env)++aE).length≤fn.ntmps) {Kv Kl:AV→aj→Nat→Prop} (hw:cK n ri P c ⟨cT 0 (args.toList.map (ev env)++aE),h,n,fn.ntmps⟩ (dA P fn.results.toList Kv) (dA P fn.results.toList Kl)) (hs:Sim B w0 ⟨env,h,n,nt⟩ a w m) (hdk:dOk nt o.dst) (Q:Exit→Act→World→Prop) (K':Act→World→Prop) (hK:∀v h' n' a' w' m',Kv v h' n'→Sim B w0 ⟨put env o.dst v,h',n',nt⟩ a' w' m'→K' a' w') (hKl:∀(w1:Ctx ⟨k,none⟩) v h' n' a' w' m',nN w0 w1→Kl v h' n'→Sim B w1 ⟨put env o.dst v,h',n',nt⟩ a' w' m'→K' a' w'):o.wpt P a w K' Q:=by
 refine Dd o f args tys ho hf hfn hname hb hnt (some ri) (fun _ h=>h) Q K' (fun w1 a1 e1 e2 e3 e4 e5 hs1=>cJ (e3▸hw B w1 a1 w m hs1) (fun e a' w' hq=>?_)) hs hdk
 rcases hq with ⟨st',m',hk,hs'⟩|⟨wl,hl,st',m',hk,hs'⟩
 ·have fin:∀e:Exit,(e=.normal∨e=.ret)→cG P fn.results.toList st' Kv→uI P B w0 env a n nt o fn K' e a' w':=fun e he hk=>
   ⟨he,_,_,w1,w0,st',m',Kv,rfl,rfl,e1,e2,e5,rfl,rfl,rfl,fun q hq=>e4▸hq,hs',hk,hK⟩
  cases e with
  |normal=>exact fin _ (.inl rfl) hk
  |ret=>exact fin _ (.inr rfl) hk
  |_=>exact hk.elim
 ·obtain⟨l1,l2,l3,l4,⟨fn2,T2,D2,l5⟩,l6⟩:=hl
  have fin:∀e:Exit,(e=.normal∨e=.ret)→cG P fn.results.toList st' Kl→uI P B w0 env a n nt o fn K' e a' w':=fun e he hk=>
   ⟨he,_,_,wl,(⟨w0.w,w0.F,w0.r,(ri.l,bt ri fn2 T2 D2 .done (some .ret))::w0.obs.filter (fun q=>decide (q.1≠ri.l)),w0.ds,fun ri h=>(by cases h),w0.ok⟩:Ctx ⟨k,none⟩),st',m',Kl,rfl,rfl,l1.trans e1,l2.trans e2,l4.trans e5,rfl,rfl,rfl,
     fun q hq=>by
      rcases List.mem_cons.1 hq with e|hq
      ·rw[e];exact l5
      ·obtain⟨hq,hne⟩:=List.mem_filter.1 hq
       exact l6 q (e4▸hq) (by simpa using hne),hs',hk,
     (hKl _ · · · · · · ⟨rfl,rfl,rfl,rfl,⟨fn2,T2,D2,by simp⟩,fun q hq hne=>List.mem_cons_of_mem _ (List.mem_filter.2 ⟨hq,by simpa using hne⟩)⟩)⟩
  cases e with
  |normal=>exact fin _ (.inl rfl) hk
  |ret=>exact fin _ (.inr rfl) hk
  |_=>exact hk.elim
end
section
variable{k:Nat}{ri:RI}{P:Program}{K Kd:Exit→St→Prop}{st:St}
theorem na{c:Operand}{x y:Code}{o f b:Bool}(hv:ev st.env c=.w o f (.bool b))(h:cK k ri P (bif b then x else y) st K Kd):cK k ri P (.cond c x y) st K Kd:=by
 intro B w0 a w m hs;have hc:au B (LB m st.heap) m w (ev st.env c) (a.eval c):=jb c (fun t _=>hs.env t);rw[hv] at hc;refine re hc.gH ?_;cases b
 ·exact h B w0 a w m hs
 ·exact h B w0 a w m hs
variable{env:Env}{h:aj}{n nt:Nat}
def qV(ri:RI)(P:Program)(ops:Array Oper)(nt:Nat)(o:Oper)(post:List Oper)(f:Operand)(g:FuncId)(fn:Func)(c:Code)(args:Array Operand)(e:Env)(h:aj)(n:Nat)(K Kd:Env→aj→Nat→Prop)(_:Mark (o,post,c,K,Kd)):Prop:=
 ∃aE,du (ev e f)=some (g,aE)∧(args.toList.map (ev e)++aE).length≤fn.ntmps∧dOk nt o.dst∧dw ops e o=some true ∧
  cK n ri P c ⟨cT 0 (args.toList.map (ev e)++aE),h,n,fn.ntmps⟩ (dA P fn.results.toList fun v h' n'=>bu P ops nt post (put e o.dst v) h' n' K) (dA P fn.results.toList fun v h' n'=>bu P ops nt post (put e o.dst v) h' n' Kd)
@[congr] theorem WZ{ops:Array Oper}{nt:Nat}{o:Oper}{post:List Oper}{f:Operand}{g:FuncId}{fn:Func}{c:Code}{args:Array Operand}{e e':Env}{h h':aj}{n n':Nat}{K Kd:Env→aj→Nat→Prop}{mk:Mark (o,post,c,K,Kd)}(h1:e=e')(h2:h=h')(h3:n=n'):qV ri P ops nt o post f g fn c args e h n K Kd mk=qV ri P ops nt o post f g fn c args e' h' n' K Kd mk:=by rw[h1,h2,h3]
theorem yw{ops:Array Oper}{nt:Nat}{o:Oper}{post:List Oper}{f:Operand}{g:FuncId}{fn:Func}{c:Code}{args:Array Operand}{e:Env}{h:aj}{n:Nat}{K Kd:Env→aj→Nat→Prop}{mk:Mark (o,post,c,K,Kd)}(aE:List AV)(hf:du (ev e f)=some (g,aE))(hl:args.toList.length+aE.length≤fn.ntmps)(hd:dOk nt o.dst)(hg:dw ops e o=some true)(hk:cK n ri P c ⟨cT 0 (args.toList.map (ev e)++aE),h,n,fn.ntmps⟩ (dA P fn.results.toList fun v h' n'=>bu P ops nt post (put e o.dst v) h' n' K) (dA P fn.results.toList fun v h' n'=>bu P ops nt post (put e o.dst v) h' n' Kd)):qV ri P ops nt o post f g fn c args e h n K Kd mk:=
 ⟨aE,hf,by rw[List.length_append,List.length_map];exact hl,hd,hg,hk⟩
theorem DY{id:Nat}{ops:Array Oper}(i:Nat)(g:FuncId){fn:Func}{c:Code}(hfn:P.funcs[g]?=some fn) (hname:(fn.name == "runtime.NumGoroutine")=false) (hb:fn.body=some c) (hi:i<ops.toList.length) {f:Operand} {args:Array Operand} {tys:Array TypeId} (ho:(ops.toList.getD i default).op=.call { callee:=.value f,args:=args,argTypes:=tys }) (hk:bu P ops nt (ops.toList.take i) env h n fun e' h' n'=>qV ri P ops nt (ops.toList.getD i default) (ops.toList.drop (i+1)) f g fn c args e' h' n' (fun e3 h3 n3=>K .normal ⟨e3,h3,n3,nt⟩) (fun e3 h3 n3=>Kd .normal ⟨e3,h3,n3,nt⟩) .it):cK k ri P (.region id ops false) ⟨env,h,n,nt⟩ K Kd:=by
 have e:ops.toList.getD i default=ops.toList[i]:=by simp[List.getD_eq_getElem?_getD,List.getElem?_eq_getElem hi]
 have hops:ops.toList=ops.toList.take i++ops.toList.getD i default::ops.toList.drop (i+1):=by rw[e,List.getElem_cons_drop,List.take_append_drop]
 generalize ops.toList.getD i default=o at *;generalize ops.toList.take i=pre at *;generalize ops.toList.drop (i+1)=post at *;intro B w0 a w m hs;refine nT ?_;rw[hops];refine oA (o::post) ?_ pre env h n a w m hk hs
 rintro e h n a w m ⟨aE,hf,hnt,hdk,hgu,hw⟩ hs
 simp only[fo];intro w e1;replace hs:=hs.move e1;rw[mL hgu hs];simp only[if_true];refine gu (fun c e=>by rw[ho] at e;cases e) (DX o f args tys ho hf hfn hname hb hnt hw hs hdk _ _ (fun v h' n' a' w' m' hkv hs'=>?_) (fun w1 v h' n' a' w' m' hl hkv hs'=>?_))
 ·exact jP (fun _ _ _ _ _ m hk' hs'=>.inl ⟨_,m,hk',hs'⟩) post _ _ _ _ _ m' hkv hs'
 ·have:=jP (Q:=fun e a' w'=>(∃st' m',K e st'∧Sim B w0 st' a' w' m')∨∃w1:Ctx ⟨k,none⟩,nN w0 w1∧∃st' m',Kd e st'∧Sim B w1 st' a' w' m') (w0:=w1) (P:=P) (ops:=ops) (fun _ _ _ _ _ m hk' hs'=>.inr ⟨w1,hl,_,m,hk',hs'⟩) post _ _ _ _ _ m' hkv hs';rw[hl.2.2.1] at this;exact this
theorem Lm{fk:Fk}{B:Base}{w0:Ctx fk}{a:Act}{w:World}{m:Mm}{Q:Exit→Act→World→Prop}{ops:Array Oper}{e:Env}(k:Nat){id:Nat}{Kp:Env→aj→Nat→Prop}(hm:P.follows .mixedOrders=true)(hc:Chk ops k)(hk:dF P ops nt (ops.toList.take k) e h n Kp)(hs:Sim B w0 ⟨e,h,n,nt⟩ a w m)(hlast:∀(e':Env)(h':aj)(n':Nat),Kp e' h' n'→∀(f:Nat)(listed:Array Bool)(a:Act)(w:World)(m:Mm),listed.size=ops.size→Closed ops listed→(∀j,j<ops.size→(listed.getD j false=true↔j<k))→open_ listed≤f→Sim B w0 ⟨e',h',n',nt⟩ a w m→gi w0.r P .any ops Q f listed a w):(Code.region id ops true).wpT w0.r P Q a w:=by
 obtain⟨T,hK⟩:=vW _ _ _ _ hk
 have hlen:(ops.toList.take k).length=k:=by simp[hc.le]
 rw[hlen] at hK
 refine vj hm fun w e1=>?_
 replace hs:=hs.move e1
 have hs':Sim B w0 ⟨e,h,n,nt⟩ a { w with drawn:=w.drawn+1 } m:=by
  have hb:Bel w.heap.size w { w with drawn:=w.drawn+1 }:=(Bel.refl _ _).drew;have hB:=hs.room;exact⟨hs.base,hs.below.trans (hb.mono hB),hs.defers,hs.size,fun t=>(hs.env t).mono (Mm.le.refl m) (fun _ _ h=>h) (fun b hb' _=>hb.block b hb'),hs.heap.below hb,hs.dom,hs.ids,hs.fr.mono (Mm.le.refl m) (fun _ _ h=>h) (fun b hb' _=>hb.block b hb') (Nat.le_refl _)⟩
 obtain⟨h1,h2,h3⟩:=AK (T:=T) hc.le hs'.heap hs'.dom hs'.ids k (Nat.le_refl _)
 have hf:∀i,(Array.replicate ops.size false).getD i false=false:=by
  intro i;rw[Array.getD_eq_getD_getElem?,Array.getElem?_replicate]
  split<;>rfl
 refine AL (T:=T) hc h3 (fun f listed a w m=>hlast _ _ _ hK f listed a w m) ops.size _ a _ m (by simp) (fun i o ho hl=>by rw[hf] at hl;cases hl) ?_ (fun i _ _=>hf i) ⟨hs'.base,hs'.below,hs'.defers,hs'.size,h1,fun id=>?_,(fun i t hi hl=>by rw[hf] at hl;cases hl),fun t _=>?_,by rw[h2];exact hs'.fr⟩
 ·unfold open_;refine Nat.le_trans List.countP_le_length ?_;simp
 ·rw[hs'.dom];constructor
  ·exact .inl
  ·rintro (h|⟨i,_,hl,_⟩)
   ·exact h
   ·rw[hf] at hl;cases hl
 ·rw[h2];exact hs'.env t
theorem DZ{id:Nat}{ops:Array Oper}(i:Nat)(g:FuncId)(hm:P.follows .mixedOrders=true)(hchk:qD ops i=true)(hkl:i<ops.size){fn:Func}{c:Code}(hfn:P.funcs[g]?=some fn) (hname:(fn.name == "runtime.NumGoroutine")=false) (hb:fn.body=some c) {f:Operand} {args:Array Operand} {tys:Array TypeId} (ho:(ops.toList.getD i default).op=.call { callee:=.value f,args:=args,argTypes:=tys }) (hk:dF P ops nt (ops.toList.take i) env h n fun e' h' n'=>qV ri P ops nt (ops.toList.getD i default) (ops.toList.drop (i+1)) f g fn c args e' h' n' (fun e3 h3 n3=>K .normal ⟨e3,h3,n3,nt⟩) (fun e3 h3 n3=>Kd .normal ⟨e3,h3,n3,nt⟩) .it):cK k ri P (.region id ops true) ⟨env,h,n,nt⟩ K Kd:=by
 obtain⟨hc,hseq⟩:=vY hchk;intro B w0 a w m hs;refine Lm i hm hc hk hs (fun e' h' n' hK f' listed a w m hsz hcl hl hop hs=>?_);obtain⟨aE,hf,hnt,hdk,hgu,hw⟩:=hK
 cases f' with
 |zero=>
  exfalso;have:=mN (Nat.le_zero.1 hop) (i:=i) (by omega);have:=(hl i hkl).1 this;omega
 |succ f'=>
  have hne:=nW hsz hc.down i hkl (by
   cases hq:listed.getD i false with
   |true=>have:=(hl i hkl).1 hq;omega
   |false=>rfl)
  refine⟨fun hnil=>absurd hnil hne,fun x hx2=>?_⟩;obtain⟨o,ho2,hff,he⟩:=jQ hsz hx2;have hxs:=(Array.getElem?_eq_some_iff.1 ho2).1
  have hxi:x=i:=by
   have h1:¬x<i:=fun hxl=>by
    have:=(hl x hxs).2 hxl;rw[Array.getD_eq_getD_getElem?,hff] at this;cases this
   rcases Nat.lt_or_ge i x with h2|h2
   ·have:=jf hcl 8 x i o ho2 he (hseq x (by omega) hxs i h2);have:=(hl i hkl).1 this;omega
   ·omega
  subst hxi
  have hoo:ops.toList.getD x default=o:=by
   rw[List.getD_eq_getElem?_getD,Array.getElem?_toList,ho2];rfl
  rw[hoo] at ho hgu hdk hw;unfold ia;rw[ho2];simp only[];intro w e1;replace hs:=hs.move e1;rw[mL hgu hs];simp only[if_true]
  have br:∀j,j<ops.size→((listed.setIfInBounds x true).getD j false=true↔j<x+1):=fun j hj=>by
   by_cases hxj:x=j
   ·subst hxj;rw[Array.getD_eq_getD_getElem?,Array.getElem?_setIfInBounds];simp[hsz,hj]
   ·rw[getD_set_ne false hxj,hl j hj];omega
  refine gu (fun c e=>by rw[ho] at e;cases e) (DX o f args tys ho hf hfn hname hb hnt hw hs hdk _ _ (fun v h' n' a' w' m' hk2 hs'=>?_) (fun w1 v h' n' a' w' m' hlf hk2 hs'=>?_))
  ·exact rU (Kr:=fun e'' h'' n''=>K .normal ⟨e'',h'',n'',nt⟩) (fun e' h' n' a' w' m' hk' hsim=>.inl ⟨_,m',hk',hsim⟩) hc.down hseq f' (x+1) (listed.setIfInBounds x true) _ _ _ a' w' m' (by omega) (by omega) (by simpa using hsz) (hcl.set ho2 he) br (by have:=mM hff;omega) hk2 hs'
  ·have:=rU (w0:=w1) (Kr:=fun e'' h'' n''=>Kd .normal ⟨e'',h'',n'',nt⟩) (Q:=fun e a' w'=>(∃st' m',K e st'∧Sim B w0 st' a' w' m')∨∃w1:Ctx ⟨k,none⟩,nN w0 w1∧∃st' m',Kd e st'∧Sim B w1 st' a' w' m') (fun e' h' n' a' w' m' hk' hsim=>.inr ⟨w1,hlf,_,m',hk',hsim⟩) hc.down hseq f' (x+1) (listed.setIfInBounds x true) _ _ _ a' w' m' (by omega) (by omega) (by simpa using hsz) (hcl.set ho2 he) br (by have:=mM hff;omega) hk2 hs';rw[hlf.2.2.1] at this;exact this
end
section
variable{fk:Fk}{P:Program}{K:Exit→St→Prop}{st:St}
theorem Ea{c:Code}{α:Type}(J:α→Prop)(I:α→St)(μ:α→Nat)(x0:α)(hJ:J x0)(h0:Lek fk st (I x0))(round:∀x,J x→de fk P c (I x) (iq fk J I μ x K)):de fk P (.loop c) st K:=by
 intro B w0 a w m hr hd hs;refine vi (fun k a w=>∃(w1:Ctx fk)(x:α)(m:Mm),w1.w=w0.w∧w1.r=none∧nO w1∧J x∧μ x=k∧Sim B w1 (I x) a w m) (μ x0) (by obtain⟨m',h⟩:=h0 B w0 a w m hs;exact⟨w0,x0,m',rfl,hr,hd,hJ,rfl,h⟩) ?_
 rintro k a w ⟨w1,x,m,g1,g2,g3,hx,rfl,hsx⟩
 refine cJ (round x hx B w1 a w m g2 g3 hsx) (fun e a' w' ⟨w2,st',m',k1,k2,k3,h2,h3⟩=>?_)
 cases e<;>first
  |exact⟨w2,st',m',k1.trans g1,k2,k3,h2,h3⟩
  |(obtain⟨y,hy,hlt,hle⟩:=h2
    obtain⟨m'',h4⟩:=hle B w2 a' w' m' h3
    exact⟨μ y,hlt,w2,y,m'',k1.trans g1,k2,k3,hy,rfl,h4⟩)
theorem ng{c:Operand}{x y:Code}{o f b:Bool}(hv:ev st.env c=.w o f (.bool b))(h:de fk P (bif b then x else y) st K):de fk P (.cond c x y) st K:=by
 intro B w0 a w m hr hd hs;have hc:au B (LB m st.heap) m w (ev st.env c) (a.eval c):=jb c (fun t _=>hs.env t);rw[hv] at hc;refine re hc.gH ?_;cases b
 ·exact h B w0 a w m hr hd hs
 ·exact h B w0 a w m hr hd hs
end
end Go.Fi
namespace Go.Fi
open Go Go.RowKit
variable[ar]
variable{fk:Fk}
def nP(P:Program)(rs:List ResultVar)(c0:Nat)(E:List (List AV))(v:AV)(D:List Nat)(st:St):Prop:=
 match dp P st.env st.heap rs with
 |some (vs,c)=>c∧lg D st.heap st.nxt (c0+E.length) (oneOf vs) (v.sh c0)∧jG D st.heap st.nxt (c0+E.length) (ba [] c0 (E.map (AV.sh.shL c0)))
 |none=>False
def mkK(P:Program)(rs:List ResultVar)(c0:Nat)(E:List (List AV))(v:AV)(D:List Nat):Exit→St→Prop
 |.normal,s=>nP P rs c0 E v D s
 |.ret,s=>nP P rs c0 E v D s
 |_,_=>False
omit [ar] in
@[simp ↓] theorem Wu(P:Program)(rs:List ResultVar)(c0:Nat)(E:List (List AV))(v:AV)(D:List Nat)(s:St):mkK P rs c0 E v D .normal s=nP P rs c0 E v D s:=rfl
omit [ar] in
@[simp ↓] theorem Wv(P:Program)(rs:List ResultVar)(c0:Nat)(E:List (List AV))(v:AV)(D:List Nat)(s:St):mkK P rs c0 E v D .ret s=nP P rs c0 E v D s:=rfl
section
variable{B:Base}{L:Nat→Prop}{m mm:Mm}{w:World}
omit [ar] in
theorem au.down{c:Nat}(hd:∀i,m.dom (i+c)→mm.dom i)(ht:∀i,mm.top i=m.top (i+c))(ha:∀i ver,mm.addr i ver=m.addr (i+c) ver){y:AV}{u:Value}(h:au B L m w y u):∀x:AV,x.sh c=y→au B L mm w x u:=by
 induction h with
 |@w own full p v hr hf=>
  intro x e
  cases x with
  |w o f q=>simp only[Pm,AV.w.injEq] at e;obtain⟨rfl,rfl,rfl⟩:=e;exact .w hr hf
  |_=>simp[AV.sh] at e
 |@ptr id ver off b C hd' ht' ha' hC'=>
  intro x e
  cases x with
  |ptr i v o=>simp only[J6,AV.ptr.injEq] at e;obtain⟨rfl,rfl,rfl⟩:=e;exact .ptr (hd _ hd') (by rw[ht];exact ht') (by rw[ha];exact ha') hC'
  |_=>simp[AV.sh] at e
 |@mp id b hd' ht' ha'=>
  intro x e
  cases x with
  |mp i=>simp only[AV.sh,AV.mp.injEq] at e;subst e;exact .mp (hd _ hd') (by rw[ht];exact ht') (by rw[ha];exact ha')
  |_=>simp[AV.sh] at e
 |@msl id ver sz off n cap a hd' ht' hn h0 h1=>
  intro x e
  cases x with
  |msl i v s o k=>simp only[J7,AV.msl.injEq] at e;obtain⟨rfl,rfl,rfl,rfl,rfl⟩:=e;exact .msl (hd _ hd') (by rw[ht];exact ht') hn (fun e=>h0 (by rw[←ha];exact e)) (fun b C e=>h1 b C (by rw[←ha];exact e))
  |_=>simp[AV.sh] at e
 |@agg cs vs hl _ ih=>
  intro x e
  cases x with
  |agg ds=>
   simp only[J8,AV.agg.injEq,eu] at e;subst e;exact .agg (by simpa using hl) (fun j p v hp hv=>ih j (p.sh c) v (by rw[List.getElem?_map,hp];rfl) hv p rfl)
  |_=>simp[AV.sh] at e
 |@tup cs vs hl _ ih=>
  intro x e
  cases x with
  |tup ds=>
   simp only[J9,AV.tup.injEq,eu] at e;subst e;exact .tup (by simpa using hl) (fun j p v hp hv=>ih j (p.sh c) v (by rw[List.getElem?_map,hp];rfl) hv p rfl)
  |_=>simp[AV.sh] at e
 |@fn f cs vs hl _ ih=>
  intro x e
  cases x with
  |fn g ds=>
   simp only[AV.sh,AV.fn.injEq,eu] at e;obtain⟨rfl,rfl⟩:=e;exact .fn (by simpa using hl) (fun j p v hp hv=>ih j (p.sh c) v (by rw[List.getElem?_map,hp];rfl) hv p rfl)
  |_=>simp[AV.sh] at e
omit [ar] in
theorem DG(c:Nat):∀(E:List (List AV))(n:Nat),ba [] (n+c) (E.map (AV.sh.shL c))=(ba [] n E).map fun p=>(p.1+c,AV.sh.shL c p.2)
 |[],n=>rfl
 |x::E,n=>by
  simp only[List.map_cons,ba];rw[show n+c+1=(n+1)+c by omega,DG c E (n+1)]
end
theorem tO{P:Program}{f:FuncId}{fn:Func}{c:Code}{args:List PV}{E:List (List AV)}{v:AV}(c0:Nat)(D:List Nat)(hf:P.funcs[f]?=some fn) (hname:(fn.name == "runtime.NumGoroutine")=false) (hb:fn.body=some c) (hnt:args.length≤fn.ntmps) (hv:v.frs=true) (hE:∀c∈E,AV.frs.im c=true) (h:aY fk0 P c ⟨fS 0 args,[],0,fn.ntmps⟩ (mkK P fn.results.toList c0 E v D)):j4 P f args E v:=by
 refine⟨⟨fn,hf,hname,by rw[hb];rfl⟩,hv,hE,fun G w vs hok hlen hrep=>?_⟩;refine rh hf hb ?_
 have hsim:Sim ⟨w.heap.size,G⟩ (⟨w,[],none,[],[],fun ri h=>(by cases h),hok⟩:Ctx fk0) ⟨fS 0 args,[],0,fn.ntmps⟩ { tmps:=vs++Array.replicate (fn.ntmps-vs.size) undef,defers:=[] } w ⟨fun _ _=>none,fun _=>0,fun _=>False⟩:=by
  refine⟨rfl,Bel.refl _ _,rfl,by simp;omega,fun t=>?_,⟨fun id cells hin=>(by cases hin),List.Pairwise.nil⟩,fun i=>⟨fun h=>h.elim,fun h=>absurd h (Nat.not_lt_zero i)⟩,fun id c hin=>(by cases hin),Nat.zero_le _,(fun p hp=>by cases hp),fun q hq=>by cases hq⟩;show au _ _ _ _ (get (fS 0 args) t) _;rw[tq];split
  ·rename_i ht
   have hlt:t<args.length:=by omega
   refine .w ?_ (fun h=>by cases h)
   have:(vs++Array.replicate (fn.ntmps-vs.size) undef).getD t undef=vs[t]'(by omega):=by
    rw[Array.getD_eq_getD_getElem?,Array.getElem?_append_left (by omega),Array.getElem?_eq_getElem (by omega)];rfl
   rw[this]
   refine (hrep t _ _ (by simpa using getD_some hlt) (Array.getElem?_eq_getElem (by omega))).imp fun b hg=>⟨?_,(fun h=>by cases h),fun _=>hg⟩
   rintro⟨id,cells,C,hin,_⟩
   cases hin
  ·exact .w (.undef _) (fun h=>by cases h)
 refine cJ (h _ _ _ _ _ hsim) (fun e a' w' ⟨st',m',hk,hs⟩=>?_)
 have main:nP P fn.results.toList c0 E v D st'→a'.defers=[]∧∀w1,EnvD.E w' w1→∃r,(results fn a'.tmps).run P w1=.ok r w1∧∃u mm,Ending.returned r=.returned u∧Bel w.heap.size w w1∧(∀i,mm.dom i↔i<E.length)∧a9 ⟨w.heap.size,G⟩ (ba [] 0 E) mm w1∧au ⟨w.heap.size,G⟩ (LB mm (ba [] 0 E)) mm w1 v u:=by
  intro hr;refine⟨hs.defers,fun w' e1=>?_⟩;replace hs:=hs.move e1;unfold nP at hr;split at hr
  ·rename_i vs' d hres;obtain⟨hd,hcl,hhl⟩:=hr;obtain⟨us,h1,h2,h3⟩:=om hs _ _ _ hres hd
   have hrun:(results fn a'.tmps).run P w'=.ok (if h:us.toArray.size=1 then us.toArray[0] else .tuple us.toArray) w':=by
    have he:results fn a'.tmps=(do
     let vs ←fn.results.mapM (mq a'.tmps)
     pure (if h:vs.size=1 then vs[0] else .tuple vs)):=rfl
    rw[he,Array.mapM_eq_mapM_toList];simp only[Sem.run_bind,Sem.run_map,h1,Result.andThen_ok,Sem.run_pure]
   have hone:au ⟨w.heap.size,G⟩ (LB m' st'.heap) m' w' (oneOf vs') (if h:us.toArray.size=1 then us.toArray[0] else .tuple us.toArray):=by
    have tupc:vs'.length≠1→au ⟨w.heap.size,G⟩ (LB m' st'.heap) m' w' (.tup vs') (if h:us.toArray.size=1 then us.toArray[0] else .tuple us.toArray):=by
     intro hne;rw[dif_neg (by simp;omega)];exact .tup (by simpa using h2) (fun j p u hp hu=>h3 j p u hp (by simpa using hu))
    match vs',h2,h3,tupc with
    |[],h2,h3,tupc=>exact tupc (by simp)
    |[v],h2,h3,tupc=>
     obtain⟨u,rfl⟩:∃u,us=[u]:=List.length_eq_one_iff.1 (by simpa using h2.symm);exact h3 0 v u rfl rfl
    |v::v2::r,h2,h3,tupc=>exact tupc (by simp)
   obtain⟨m2,hs2,hconv⟩:=Dc (env':=[]) (h':=ba [] c0 (E.map (AV.sh.shL c0))) (n':=c0+E.length) D trivial hhl (Nat.zero_le _) hs;have hu:=hconv _ _ _ hcl hone;have hdom2:∀i,m2.dom i↔i<c0+E.length:=hs2.dom
   have hEq:ba [] c0 (E.map (AV.sh.shL c0))=(ba [] 0 E).map fun p=>(p.1+c0,AV.sh.shL c0 p.2):=by
    have:=DG c0 E 0
    rwa [Nat.zero_add] at this
   refine⟨_,hrun,_,⟨fun id ver=>m2.addr (id+c0) ver,fun id=>m2.top (id+c0),fun id=>id<E.length⟩,rfl,hs.below,fun i=>Iff.rfl,?_⟩
   have hmem:∀k cl,(k,cl)∈ba [] 0 E→(k+c0,AV.sh.shL c0 cl)∈ba [] c0 (E.map (AV.sh.shL c0)):=fun k cl hin=>by
    rw[hEq];exact List.mem_map.2 ⟨(k,cl),hin,rfl⟩
   have hlt:∀k cl,(k,cl)∈ba [] 0 E→k<E.length:=fun k cl hin=>by
    rcases (vP E [] 0 k cl).1 hin with h|⟨j,h,rfl⟩
    ·cases h
    ·have:=(List.getElem?_eq_some_iff.1 h).1;omega
   have hLB:LB (⟨fun id ver=>m2.addr (id+c0) ver,fun id=>m2.top (id+c0),fun id=>id<E.length⟩:Mm) (ba [] 0 E)=LB m2 (ba [] c0 (E.map (AV.sh.shL c0))):=by
    funext b
    refine propext ⟨?_,?_⟩
    ·rintro⟨id,cl,C,hin,hd,ha⟩
     have hl:=hlt _ _ hin;exact⟨id+c0,AV.sh.shL c0 cl,C,hmem _ _ hin,(hdom2 _).2 (by omega),by rw[eu,List.length_map];exact ha⟩
    ·rintro⟨id,cl,C,hin,hd,ha⟩
     rw[hEq] at hin;obtain⟨⟨k,c1⟩,h4,h5⟩:=List.mem_map.1 hin
     injection h5 with h5 h6
     subst h5;subst h6;rw[eu,List.length_map] at ha;exact⟨k,c1,C,h4,hlt _ _ h4,ha⟩
   rw[hLB]
   have hdn:∀{x:AV}{u:Value},au ⟨w.heap.size,G⟩ (LB m2 (ba [] c0 (E.map (AV.sh.shL c0)))) m2 w' (x.sh c0) u→au ⟨w.heap.size,G⟩ (LB m2 (ba [] c0 (E.map (AV.sh.shL c0)))) ⟨fun id ver=>m2.addr (id+c0) ver,fun id=>m2.top (id+c0),fun id=>id<E.length⟩ w' x u:=
    fun {x u} hr=>au.down (c:=c0) (fun i hd=>by have:=(hdom2 _).1 hd;show i<E.length;omega) (fun i=>rfl) (fun i ver=>rfl) hr x rfl
   refine⟨⟨fun id cl hin hd=>?_,?_⟩,hdn hu⟩
   ·rw[hLB];have hl:=hlt _ _ hin;obtain⟨e1,e2⟩:=hs2.heap.entry (id+c0) (AV.sh.shL c0 cl) (hmem _ _ hin) ((hdom2 _).2 (by omega))
    have hlen:(AV.sh.shL c0 cl).length=cl.length:=by rw[eu,List.length_map]
    rw[hlen] at e1 e2;refine⟨e1,?_⟩
    rcases e2 with ⟨e3,e4⟩|⟨b,C,cs,e,f1,f2,f3,f4,f5,f6⟩|⟨b,es,clk,f1,f2,f3,f4,f5⟩
    ·exact .inl ⟨e3,by rw[eu] at e4;simpa using e4⟩
    ·exact .inr (.inl ⟨b,C,cs,e,f1,f2,f3,f4,f5,fun j p u hp hu=>hdn (f6 j (p.sh c0) u (by rw[eu,List.getElem?_map,hp];rfl) hu)⟩)
    ·exact .inr (.inr ⟨b,es,clk,f1,by rw[←As];exact f2,f3,f4,fun l hl=>f5 l (GF hl)⟩)
   ·have hi:=hs2.heap.inj;rw[show (St.heap ⟨[],ba [] c0 (E.map (AV.sh.shL c0)),c0+E.length,fn.ntmps⟩)=_ from hEq,List.pairwise_map] at hi;refine List.Pairwise.imp_of_mem ?_ hi;intro x y hx hy ⟨hne,hxy⟩;refine⟨fun e=>hne (by rw[e]),fun b C C' hdx hdy hax hay=>?_⟩;have h1:=hlt x.1 x.2 hx;have h2:=hlt y.1 y.2 hy
    have l1:(AV.sh.shL c0 x.2).length=x.2.length:=by rw[eu,List.length_map]
    have l2:(AV.sh.shL c0 y.2).length=y.2.length:=by rw[eu,List.length_map]
    exact hxy b C C' ((hdom2 _).2 (by omega)) ((hdom2 _).2 (by omega)) (by rw[l1];exact hax) (by rw[l2];exact hay)
  ·exact hr.elim
 cases e<;>first|exact main hk|exact hk.elim
omit [ar] in
@[simp ↓] theorem Ww(h:aj)(n:Nat)(K:AV→aj→Nat→Prop)(v:AV)(c:List AV)(E:List (List AV)):eK h n K v (c::E)=K v ((n,c)::ba h (n+1) E) (n+(E.length+1)):=by unfold eK;rfl
attribute [simp] nP AV.frs AV.frs.im
section
variable{D:List Nat}{h r s:aj}{n n' b k t len:Nat}{c x:List AV}{L:List (List AV)}
section
omit [ar]
@[simp] theorem Wx(h:aj)(n:Nat)(c:List AV)(E:List (List AV)):ba h n (c::E)=(n,c)::ba h (n+1) E:=rfl
theorem DH:∀(L:List (List AV))(r:aj)(b t:Nat),aV (ba r b L) t=if b≤t∧t<b+L.length then some (nth L (t-b)) else aV r t
 |[],r,b,t=>by simp[ba];intros;omega
 |c::L,r,b,t=>by
  simp only[ba,aV,List.length_cons];by_cases h:b=t
  ·subst h;rw[if_pos rfl,if_pos ⟨Nat.le_refl _,by omega⟩,Nat.sub_self];rfl
  ·rw[if_neg h,DH L r (b+1) t];by_cases h2:b+1≤t∧t<b+1+L.length
   ·rw[if_pos h2,if_pos ⟨by omega,by omega⟩,show t-b=(t-(b+1))+1 by omega];rfl
   ·rw[if_neg h2,if_neg (by omega)]
@[simp] theorem K4(h:t<b):aV (ba r b L) t=aV r t:=by rw[DH,if_neg (by omega)]
end
def PD(h:aj)(b len:Nat):Prop:=∀i,i<len→aV h (i+b)=none
def PF(D:List Nat)(h:aj)(n n' b:Nat)(L:List (List AV)):Prop:=∀i,i<L.length→fY D h n n' (i+b) (nth L i)
omit [ar] in
theorem DI:∀(L:List (List AV))(r:aj)(b:Nat),jG D h n n' (ba r b L)=(PF D h n n' b L∧PD r b L.length∧jG D h n n' r)
 |[],r,b=>by
  refine propext ⟨fun hh=>⟨fun i hi=>by simp at hi,fun i hi=>by simp at hi,hh⟩,fun hh=>hh.2.2⟩
 |c::L,r,b=>by
  show (fY D h n n' b c∧aV (ba r (b+1) L) b=none∧jG D h n n' (ba r (b+1) L))=_;rw[DI L r (b+1),K4 (Nat.lt_succ_self b)];refine propext ⟨fun ⟨h1,h2,h3,h4,h5⟩=>⟨fun i hi=>?_,fun i hi=>?_,h5⟩,fun ⟨h1,h2,h3⟩=>⟨?_,?_,fun i hi=>?_,fun i hi=>?_,h3⟩⟩
  ·cases i with
   |zero=>rw[Nat.zero_add];exact h1
   |succ i=>
    have:=h3 i (by simpa using hi);rw[show i+1+b=i+(b+1) by omega];exact this
  ·cases i with
   |zero=>rw[Nat.zero_add];exact h2
   |succ i=>rw[show i+1+b=i+(b+1) by omega];exact h4 i (by simpa using hi)
  ·have:=h1 0 (by simp);rwa [Nat.zero_add] at this
  ·have:=h2 0 (by simp);rwa [Nat.zero_add] at this
  ·have:=h1 (i+1) (by simpa using hi);rw[show i+1+b=i+(b+1) by omega] at this;exact this
  ·have:=h2 (i+1) (by simpa using hi)
   rwa [show i+1+b=i+(b+1) by omega] at this
attribute [simp] DI
end
def ms1(b:Nat):List Nat→List AV
 |[]=>[]
 |k::r=>.msl b k 1 0 k::ms1 (b+1) r
omit [ar] in
@[simp] theorem Wy(b:Nat):ms1 b []=[]:=rfl
end Go.Fi
namespace Go.Fi
open Go Go.RowKit
variable[ar]
section
variable{fk:Fk}{P:Program}{K:Exit→St→Prop}{st:St}{c:Code}
def ja(R:St→Prop)(K:Exit→St→Prop):Exit→St→Prop
 |.normal,s=>R s
 |e,s=>K e s
def unr(fk:Fk)(P:Program)(c:Code)(K:Exit→St→Prop):Nat→St→Prop
 |0,_=>False
 |n+1,s=>aY fk P c s (ja (unr fk P c K n) K)
theorem gh(n:Nat)(h:unr fk P c K n st):aY fk P (.loop c) st K:=by
 refine vV (fun x:Nat×St=>unr fk P c K x.1 x.2) (·.2) (·.1) (n,st) h (fun B w0 a w m hs=>⟨m,hs⟩) ?_
 rintro⟨k,s⟩ hk
 cases k with
 |zero=>exact hk.elim
 |succ k=>
  refine pD hk (fun e s' h'=>?_)
  cases e<;>first|exact h'|exact⟨(k,s'),h',Nat.lt_succ_self k,fun B w0 a w m hs=>⟨m,hs⟩⟩
theorem gr{n:Nat}(h:aY fk P c st (ja (unr fk P c K n) K)):unr fk P c K (n+1) st:=h
section
omit [ar]
@[simp ↓] theorem Wz(R:St→Prop)(s:St):ja R K .normal s=R s:=rfl
@[simp ↓] theorem WA(R:St→Prop)(s:St):ja R K .ret s=K .ret s:=rfl
@[simp ↓] theorem WB(R:St→Prop)(i:Nat)(s:St):ja R K (.exit i) s=K (.exit i) s:=rfl
@[congr] theorem WC{R:St→Prop}{K:Exit→St→Prop}{e e':Exit}{s s':St}(h:e=e')(h2:s=s'):ja R K e s=ja R K e' s':=by rw[h,h2]
end
@[congr] theorem WG{n:Nat}{s s':St}(h:s=s'):unr fk P c K n s=unr fk P c K n s':=by rw[h]
omit [ar] in
theorem cV{k:IntKind}{n:Int}(h:(decide (k.min≤n)&&decide (n≤k.max))=true):inI k n:=by simpa[inI] using h
theorem yr{env:Env}{h:aj}{n nt:Nat}:Lek fk ⟨env,h,n,nt⟩ ⟨[],h,n,nt⟩:=
 fun B w0 a w m hs=>⟨m,hs.base,hs.below,hs.defers,hs.size,fun t=>.w (.undef _) (fun h=>by cases h),hs.heap,hs.dom,hs.ids,hs.fr⟩
theorem DN{k:Nat}{K:aj→Nat→Prop}{env:Env}{h:aj}{n nt:Nat}(hk:K h n):pb k K .normal ⟨env,h,n,nt⟩:=tN h n nt yr hk
theorem K9{k:Nat}{K Kl:aj→Nat→Prop}{env:Env}{h:aj}{n nt:Nat}(hk:K h n):mD k K Kl .normal ⟨env,h,n,nt⟩:=Df h n nt yr hk
theorem La{k:Nat}{K Kl:aj→Nat→Prop}{env:Env}{h:aj}{n nt:Nat}(hk:Kl h n):mD k K Kl .ret ⟨env,h,n,nt⟩:=Dg h n nt yr hk
end
section
variable{fk:Fk}{P:Program}{K Kd:Exit→St→Prop}{st:St}{c x y:Code}{k:Nat}{ri:RI}{v:Operand}{o f:Bool}
def nR(fk:Fk)(P:Program)(c:Code)(K:Exit→St→Prop):Nat→St→Prop
 |0,_=>False
 |n+1,s=>de fk P c s (ja (nR fk P c K n) K)
theorem Eb(n:Nat)(h:nR fk P c K n st):de fk P (.loop c) st K:=by
 refine Ea (fun x:Nat×St=>nR fk P c K x.1 x.2) (·.2) (·.1) (n,st) h (fun B w0 a w m hs=>⟨m,hs⟩) ?_
 rintro⟨k,s⟩ hk
 cases k with
 |zero=>exact hk.elim
 |succ k=>
  refine Ko hk (fun e s' h'=>?_)
  cases e<;>first|exact h'|exact⟨(k,s'),h',Nat.lt_succ_self k,fun B w0 a w m hs=>⟨m,hs⟩⟩
theorem Ec{n:Nat}(h:de fk P c st (ja (nR fk P c K n) K)):nR fk P c K (n+1) st:=h
@[congr] theorem W0{n:Nat}{s s':St}(h:s=s'):nR fk P c K n s=nR fk P c K n s':=by rw[h]
theorem Ed(hv:ev st.env v=.w o f (.bool true))(h:de fk P x st K):de fk P (.cond v x y) st K:=ng hv h
theorem Ee(hv:ev st.env v=.w o f (.bool false))(h:de fk P y st K):de fk P (.cond v x y) st K:=ng hv h
def nS(k:Nat)(ri:RI)(P:Program)(c:Code)(K Kd:Exit→St→Prop):Nat→St→Prop
 |0,_=>False
 |n+1,s=>cK k ri P c s (ja (nS k ri P c K Kd n) K) (nQ Kd)
theorem Ln(n:Nat)(h:nS k ri P c K Kd n st):cK k ri P (.loop c) st K Kd:=by
 refine DV (fun x:Nat×St=>nS k ri P c K Kd x.1 x.2) (·.2) (·.1) (n,st) h (fun B w0 a w m hs=>⟨m,hs⟩) ?_
 rintro⟨j,s⟩ hk B w0 a w m hs
 cases j with
 |zero=>exact hk.elim
 |succ j=>
  refine cJ (hk B w0 a w m hs) (fun e a' w' hq=>?_)
  rcases hq with ⟨st',m',h1,h2⟩|h
  ·refine .inl ⟨st',m',?_,h2⟩
   cases e<;>first|exact h1|exact⟨(j,st'),h1,Nat.lt_succ_self j,fun B w0 a w m hs=>⟨m,hs⟩⟩
  ·exact .inr h
theorem Lo{n:Nat}(h:cK k ri P c st (ja (nS k ri P c K Kd n) K) (nQ Kd)):nS k ri P c K Kd (n+1) st:=h
@[congr] theorem W1{n:Nat}{s s':St}(h:s=s'):nS k ri P c K Kd n s=nS k ri P c K Kd n s':=by rw[h]
theorem Lp(hv:ev st.env v=.w o f (.bool true))(h:cK k ri P x st K Kd):cK k ri P (.cond v x y) st K Kd:=na hv h
theorem Lq(hv:ev st.env v=.w o f (.bool false))(h:cK k ri P y st K Kd):cK k ri P (.cond v x y) st K Kd:=na hv h
end
end Go.Fi
